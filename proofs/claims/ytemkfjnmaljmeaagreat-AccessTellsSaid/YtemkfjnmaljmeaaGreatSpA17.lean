/-
  Reading and writing, and the law AccessTells (printed by wip/pr/pr.py): what the functions come to, told without the program.
-/
import Derived.Test.YtemkfjnmaljmeaaGreatSpBus
set_option linter.unusedSimpArgs false
set_option linter.unusedVariables false
namespace Go.Sh
open Go
set_option linter.unusedVariables false
structure GInsn_Fields where
  Rd : Bool
  CSR : Bool
  Rs1 : Bool
  Rs2 : Bool
  Low : Int
  High : Int
  Step : Int
abbrev GInsn_Fields.sv (t : GInsn_Fields) : SV := .agg [.bool t.Rd, .bool t.CSR, .bool t.Rs1, .bool t.Rs2, .int .i64 t.Low, .int .i64 t.High, .int .i64 t.Step]
def GInsn_Fields.dec {α : Type} (v : SV) (k : GInsn_Fields → R α) : R α := match v with
  | .agg [a0, a1, a2, a3, a4, a5, a6] => decB a0 fun x0 => decB a1 fun x1 => decB a2 fun x2 => decB a3 fun x3 => decI .i64 a4 fun x4 => decI .i64 a5 fun x5 => decI .i64 a6 fun x6 => k ⟨x0, x1, x2, x3, x4, x5, x6⟩
  | _ => none
theorem GInsn_Fields.dec_spec {α : Type} {v : SV} {k : GInsn_Fields → R α} {r : α} (h : GInsn_Fields.dec v k = some r) : ∃ t : GInsn_Fields, v = t.sv ∧ k t = some r := by
  unfold GInsn_Fields.dec at h
  split at h <;> try (cases h; done)
  obtain ⟨x0, rfl, h0⟩ := decB_spec h
  obtain ⟨x1, rfl, h1⟩ := decB_spec h0
  obtain ⟨x2, rfl, h2⟩ := decB_spec h1
  obtain ⟨x3, rfl, h3⟩ := decB_spec h2
  obtain ⟨x4, rfl, h4⟩ := decI_spec h3
  obtain ⟨x5, rfl, h5⟩ := decI_spec h4
  obtain ⟨x6, rfl, h6⟩ := decI_spec h5
  exact ⟨⟨x0, x1, x2, x3, x4, x5, x6⟩, rfl, h6⟩
theorem GInsn_Fields.ids (t : GInsn_Fields) {p : Nat → Prop} : Ids p t.sv := by simp [Ids, Idss]
structure GRBus where
  m : (Nat → Int)
  time : Int
  alarm : Int
  inp : (Nat → ByteArray)
  typed : (Nat → Int)
  outp : (Nat → ByteArray)
  bare : Bool
@[reducible] def sh_RBus : OSh GRBus := (.own (.st (.cons sh_Mem (.cons (.leaf (Lf_int .u64)) (.cons (.leaf (Lf_int .u64)) (.cons (.arr 4 1 (.leaf Lf_str)) (.cons (.leaf (Lf_ints .i64 4)) (.cons (.arr 4 1 (.leaf Lf_str)) (.cons (.leaf Lf_bool) .nil))))))) (fun x => (⟨x.1, x.2.1, x.2.2.1, x.2.2.2.1, x.2.2.2.2.1, x.2.2.2.2.2.1, x.2.2.2.2.2.2.1⟩ : GRBus)) (fun x => (x.m, x.time, x.alarm, x.inp, x.typed, x.outp, x.bare, ())) (fun _ => rfl)))
theorem plsh_RBus : sh_RBus.Plain := ⟨plsh_Mem, ⟨(pl_int .u64), ⟨(pl_int .u64), ⟨pl_str, ⟨(pl_ints .i64 4), ⟨pl_str, ⟨pl_bool, trivial⟩⟩⟩⟩⟩⟩⟩
structure GDone where
  v : Int
  f : GFault
  ok : Bool
  at_ : Int
  tables : Row
@[reducible] def sh_Done : OSh GDone := (.st (.cons (.leaf (Lf_int .u64)) (.cons (.leaf Lf_GFault) (.cons (.leaf Lf_bool) (.cons (.leaf (Lf_int .u64)) (.cons (.orow .i64) .nil))))) (fun x => (⟨x.1, x.2.1, x.2.2.1, x.2.2.2.1, x.2.2.2.2.1⟩ : GDone)) (fun x => (x.v, x.f, x.ok, x.at_, x.tables, ())) (fun _ => rfl))
theorem plsh_Done : sh_Done.Plain := ⟨(pl_int .u64), ⟨pl_GFault, ⟨pl_bool, ⟨(pl_int .u64), ⟨trivial, trivial⟩⟩⟩⟩⟩
abbrev NR (b : GRBus) : GRBus := GRBus.mk b.m b.time b.alarm (upd (upd (upd (fun _ => b.inp 0) 1 (b.inp 1)) 2 (b.inp 2)) 3 (b.inp 3)) b.typed (upd (upd (upd (fun _ => b.outp 0) 1 (b.outp 1)) 2 (b.outp 2)) 3 (b.outp 3)) b.bare
abbrev Sg_zt (α : Type) := Int → (Nat → Int) → (Int → R α) → R α
def ad_zt {α : Type} (F : Sg_zt α) : FP α := fun args k => match args with
  | [a0, a1] => decI .i64 a0 fun x0 => decA .u64 3 a1 fun x1 => F x0 x1 (fun r0 => k (.int .u64 r0))
  | _ => none
def dR_access_cause {α : Type} (a0 : SV) (k : Int → R α) : R α := decI .u64 a0 fun x0 => k x0
theorem dR_access_cause_spec {α : Type} {v : SV} {k : Int → R α} {r : α} (h : dR_access_cause v k = some r) : ∃ x0, v = (.int .u64 x0) ∧ k x0 = some r := by
  unfold dR_access_cause at h
  obtain ⟨x0, rfl, h0⟩ := decI_spec h
  exact ⟨x0, rfl, h0⟩
def p_zt {α : Type}  (x0 : Int) (x1 : (Nat → Int)) (k : Int → R α) : R α :=
  let t1 : Int := (pickmx true x0 0)
  let t2 : Int := (pickmx false t1 2)
  cond (decide (0 ≤ t2) && decide (t2 < 3)) (
  cond (decide ((Int.toNat t2) < 3)) (
  k (x1 (Int.toNat t2))) none) none
theorem le_zt {α : Type} {F F' : Sg_zt α} (h : ∀ x0 x1 k r, F' x0 x1 k = some r → F x0 x1 k = some r) {args : List SV} {k : SV → R α} {r : α} (hk : ad_zt F' args k = some r) : ad_zt F args k = some r := by
  unfold ad_zt at hk
  split at hk <;> try (cases hk; done)
  obtain ⟨x0, rfl, hk0⟩ := decI_spec hk
  obtain ⟨x1, rfl, hk1⟩ := decA_spec hk0
  have hkz := hk1
  exact h x0 x1 _ _ hkz
abbrev Sg_zn (α : Type) := Int → Int → Bool → (GFault → R α) → R α
def ad_zn {α : Type} (F : Sg_zn α) : FP α := fun args k => match args with
  | [a0, a1, a2] => decI .u64 a0 fun x0 => decI .i64 a1 fun x1 => decB a2 fun x2 => F x0 x1 x2 (fun r0 => k (GFault.sv r0))
  | _ => none
def dR_access_Bad {α : Type} (a0 : SV) (k : GFault → R α) : R α := GFault.dec a0 fun x0 => k x0
theorem dR_access_Bad_spec {α : Type} {v : SV} {k : GFault → R α} {r : α} (h : dR_access_Bad v k = some r) : ∃ x0, v = (GFault.sv x0) ∧ k x0 = some r := by
  unfold dR_access_Bad at h
  obtain ⟨x0, rfl, h0⟩ := GFault.dec_spec h
  exact ⟨x0, rfl, h0⟩
def p_zn {α : Type} (F_zt : Sg_zt α) (x0 : Int) (x1 : Int) (x2 : Bool) (k : GFault → R α) : R α :=
  F_zt x1 (upd (upd (upd (fun _ => 0) 0 1) 1 5) 2 7) (fun r1 =>
  k (GFault.mk r1 x0 0 x2))
theorem le_zn {α : Type} {F F' : Sg_zn α} (h : ∀ x0 x1 x2 k r, F' x0 x1 x2 k = some r → F x0 x1 x2 k = some r) {args : List SV} {k : SV → R α} {r : α} (hk : ad_zn F' args k = some r) : ad_zn F args k = some r := by
  unfold ad_zn at hk
  split at hk <;> try (cases hk; done)
  obtain ⟨x0, rfl, hk0⟩ := decI_spec hk
  obtain ⟨x1, rfl, hk1⟩ := decI_spec hk0
  obtain ⟨x2, rfl, hk2⟩ := decB_spec hk1
  have hkz := hk2
  exact h x0 x1 x2 _ _ hkz
abbrev Sg_zf (α : Type) := GBus → Int → Int → Int → Int → Int → Bool → (GBus → Int → GFault → Bool → R α) → R α
@[reducible] def E_zf : OShs (GBus × Int × Int × Int × Int × Int × Bool × Unit) := (.cons sh_Bus (.cons (.leaf (Lf_int .u64)) (.cons (.leaf (Lf_int .u64)) (.cons (.leaf (Lf_int .i64)) (.cons (.leaf (Lf_int .i64)) (.cons (.leaf (Lf_int .u64)) (.cons (.leaf Lf_bool) .nil)))))))
@[reducible] def M_zf : OShs (GBus × Unit) := (.cons sh_Bus .nil)
@[reducible] def Q_zf : OShs (Int × GFault × Bool × Unit) := (.cons (.leaf (Lf_int .u64)) (.cons (.leaf Lf_GFault) (.cons (.leaf Lf_bool) .nil)))
theorem E_z2g : E_zf.PlainP := ⟨plsh_Bus, trivial, trivial, trivial, trivial, trivial, trivial, trivial⟩
theorem M_z2g : M_zf.Plain := ⟨plsh_Bus, trivial⟩
theorem Q_z2g : Q_zf.Plain := ⟨(pl_int .u64), pl_GFault, pl_bool, trivial⟩
def ad_zf {α : Type} (F : Sg_zf α) : FF α := adO E_zf M_zf Q_zf false fun a k => F a.1 a.2.1 a.2.2.1 a.2.2.2.1 a.2.2.2.2.1 a.2.2.2.2.2.1 a.2.2.2.2.2.2.1 (fun y0 z0 z1 z2 => k (y0, ()) (z0, z1, z2, ()))
def p_zf {α : Type} (F_zn : Sg_zn α) (F_zv : Sg_zv α) (F_zu : Sg_zu α) (x0 : GBus) (x1 : Int) (x2 : Int) (x3 : Int) (x4 : Int) (x5 : Int) (x6 : Bool) (k : GBus → Int → GFault → Bool → R α) : R α :=
  let b1 : Bool := (x4 == 0)
  cond b1 (
  let b2 : Bool := (leB 61440 x1)
  cond b2 (
  let b3 : Bool := (ltB x1 62720)
  cond b3 (
  F_zn x2 x4 x6 (fun r4 =>
  GN x0 ((((((((k (NB x0) 0 r4 false)))))))))) (
  let b5 : Bool := (x4 == 2)
  cond b5 (
  GN x0 ((((((((F_zv (NB x0) x1 x3 x5 (fun y6 r7 =>
  let b8 : Bool := (!r7)
  cond b8 (
  F_zn x2 x4 x6 (fun r9 =>
  GN y6 ((((((((k (NB y6) 0 r9 false)))))))))) (
  GN y6 ((((((((k (NB y6) 0 (GFault.mk 0 0 0 false) true))))))))))))))))))) (
  GN x0 ((((((((F_zu (NB x0) x1 x3 (fun y10 r11 r12 =>
  let b13 : Bool := (!r12)
  cond b13 (
  F_zn x2 x4 x6 (fun r14 =>
  GN y10 ((((((((k (NB y10) 0 r14 false)))))))))) (
  GN y10 ((((((((k (NB y10) r11 (GFault.mk 0 0 0 false) true))))))))))))))))))))) (
  let b15 : Bool := (x4 == 2)
  cond b15 (
  GN x0 ((((((((F_zv (NB x0) x1 x3 x5 (fun y16 r17 =>
  let b18 : Bool := (!r17)
  cond b18 (
  F_zn x2 x4 x6 (fun r19 =>
  GN y16 ((((((((k (NB y16) 0 r19 false)))))))))) (
  GN y16 ((((((((k (NB y16) 0 (GFault.mk 0 0 0 false) true))))))))))))))))))) (
  GN x0 ((((((((F_zu (NB x0) x1 x3 (fun y20 r21 r22 =>
  let b23 : Bool := (!r22)
  cond b23 (
  F_zn x2 x4 x6 (fun r24 =>
  GN y20 ((((((((k (NB y20) 0 r24 false)))))))))) (
  GN y20 ((((((((k (NB y20) r21 (GFault.mk 0 0 0 false) true))))))))))))))))))))) (
  let b25 : Bool := (x4 == 2)
  cond b25 (
  GN x0 ((((((((F_zv (NB x0) x1 x3 x5 (fun y26 r27 =>
  let b28 : Bool := (!r27)
  cond b28 (
  F_zn x2 x4 x6 (fun r29 =>
  GN y26 ((((((((k (NB y26) 0 r29 false)))))))))) (
  GN y26 ((((((((k (NB y26) 0 (GFault.mk 0 0 0 false) true))))))))))))))))))) (
  GN x0 ((((((((F_zu (NB x0) x1 x3 (fun y30 r31 r32 =>
  let b33 : Bool := (!r32)
  cond b33 (
  F_zn x2 x4 x6 (fun r34 =>
  GN y30 ((((((((k (NB y30) 0 r34 false)))))))))) (
  GN y30 ((((((((k (NB y30) r31 (GFault.mk 0 0 0 false) true))))))))))))))))))))
abbrev Sg_zl (α : Type) := Int → Int → Int → Bool → (GFault → Bool → R α) → R α
def ad_zl {α : Type} (F : Sg_zl α) : FP α := fun args k => match args with
  | [a0, a1, a2, a3] => decI .u64 a0 fun x0 => decI .i64 a1 fun x1 => decI .i64 a2 fun x2 => decB a3 fun x3 => F x0 x1 x2 x3 (fun r0 r1 => k (.tuple [(GFault.sv r0), (.bool r1)]))
  | _ => none
def dR_access_Aligned {α : Type} (v : SV) (k : GFault → Bool → R α) : R α := match v with
  | .tuple [a0, a1] => GFault.dec a0 fun x0 => decB a1 fun x1 => k x0 x1
  | _ => none
theorem dR_access_Aligned_spec {α : Type} {v : SV} {k : GFault → Bool → R α} {r : α} (h : dR_access_Aligned v k = some r) : ∃ x0 x1, v = (.tuple [(GFault.sv x0), (.bool x1)]) ∧ k x0 x1 = some r := by
  unfold dR_access_Aligned at h
  split at h <;> try (cases h; done)
  obtain ⟨x0, rfl, h0⟩ := GFault.dec_spec h
  obtain ⟨x1, rfl, h1⟩ := decB_spec h0
  exact ⟨x0, x1, rfl, h1⟩
def p_zl {α : Type} (F_zn : Sg_zn α) (F_zt : Sg_zt α) (x0 : Int) (x1 : Int) (x2 : Int) (x3 : Bool) (k : GFault → Bool → R α) : R α :=
  let b1 : Bool := (x1 != 1)
  cond b1 (
  let b2 : Bool := (x1 != 2)
  cond b2 (
  let b3 : Bool := (x1 != 4)
  cond b3 (
  let b4 : Bool := (x1 != 8)
  cond b4 (
  F_zn x0 x2 x3 (fun r5 =>
  k r5 false)) (
  let t6 : Int := (IntKind.u64.wrap x1)
  cond (decide (t6 = 0)) none (
  let t7 : Int := (Int.tmod x0 t6)
  let b8 : Bool := (t7 != 0)
  cond b8 (
  F_zt x2 (upd (upd (upd (fun _ => 0) 0 0) 1 4) 2 6) (fun r9 =>
  k (GFault.mk r9 x0 0 x3) false)) (
  k (GFault.mk 0 0 0 false) true)))) (
  let t10 : Int := (IntKind.u64.wrap x1)
  cond (decide (t10 = 0)) none (
  let t11 : Int := (Int.tmod x0 t10)
  let b12 : Bool := (t11 != 0)
  cond b12 (
  F_zt x2 (upd (upd (upd (fun _ => 0) 0 0) 1 4) 2 6) (fun r13 =>
  k (GFault.mk r13 x0 0 x3) false)) (
  k (GFault.mk 0 0 0 false) true)))) (
  let t14 : Int := (IntKind.u64.wrap x1)
  cond (decide (t14 = 0)) none (
  let t15 : Int := (Int.tmod x0 t14)
  let b16 : Bool := (t15 != 0)
  cond b16 (
  F_zt x2 (upd (upd (upd (fun _ => 0) 0 0) 1 4) 2 6) (fun r17 =>
  k (GFault.mk r17 x0 0 x3) false)) (
  k (GFault.mk 0 0 0 false) true)))) (
  let t18 : Int := (IntKind.u64.wrap x1)
  cond (decide (t18 = 0)) none (
  let t19 : Int := (Int.tmod x0 t18)
  let b20 : Bool := (t19 != 0)
  cond b20 (
  F_zt x2 (upd (upd (upd (fun _ => 0) 0 0) 1 4) 2 6) (fun r21 =>
  k (GFault.mk r21 x0 0 x3) false)) (
  k (GFault.mk 0 0 0 false) true)))
theorem le_zl {α : Type} {F F' : Sg_zl α} (h : ∀ x0 x1 x2 x3 k r, F' x0 x1 x2 x3 k = some r → F x0 x1 x2 x3 k = some r) {args : List SV} {k : SV → R α} {r : α} (hk : ad_zl F' args k = some r) : ad_zl F args k = some r := by
  unfold ad_zl at hk
  split at hk <;> try (cases hk; done)
  obtain ⟨x0, rfl, hk0⟩ := decI_spec hk
  obtain ⟨x1, rfl, hk1⟩ := decI_spec hk0
  obtain ⟨x2, rfl, hk2⟩ := decI_spec hk1
  obtain ⟨x3, rfl, hk3⟩ := decB_spec hk2
  have hkz := hk3
  exact h x0 x1 x2 x3 _ _ hkz
abbrev Sg_zq (α : Type) := (Nat → Int) → GState → Int → Int → Int → Bool → (Int → GEntry → GFault → Bool → R α) → R α
def ad_zq {α : Type} (F : Sg_zq α) : FF α := fun args σ k => match args with
  | [a0, a1, a2, a3, a4, a5] => withMem σ a0 fun _ b1 _ g1 x0 => GState.dec a1 fun x1 => decI .u64 a2 fun x2 => decI .i64 a3 fun x3 => decI .i64 a4 fun x4 => decB a5 fun x5 => F x0 x1 x2 x3 x4 x5 (fun r0 r1 r2 r3 => k (.tuple [(.int .u64 r0), (GEntry.sv r1), (GFault.sv r2), (.bool r3)]) σ)
  | _ => none
abbrev Sg_z5 (α : Type) := GBus → GState → Int → Int → Int → Int → Int → Bool → (GBus → Int → GFault → Bool → R α) → R α
@[reducible] def E_z5 : OShs (GBus × GState × Int × Int × Int × Int × Int × Bool × Unit) := (.cons sh_Bus (.cons (.leaf Lf_GState) (.cons (.leaf (Lf_int .u64)) (.cons (.leaf (Lf_int .i64)) (.cons (.leaf (Lf_int .i64)) (.cons (.leaf (Lf_int .u64)) (.cons (.leaf (Lf_int .i64)) (.cons (.leaf Lf_bool) .nil))))))))
@[reducible] def M_z5 : OShs (GBus × Unit) := (.cons sh_Bus .nil)
@[reducible] def Q_z5 : OShs (Int × GFault × Bool × Unit) := (.cons (.leaf (Lf_int .u64)) (.cons (.leaf Lf_GFault) (.cons (.leaf Lf_bool) .nil)))
theorem E_z2h : E_z5.PlainP := ⟨plsh_Bus, trivial, trivial, trivial, trivial, trivial, trivial, trivial, trivial⟩
theorem M_z2h : M_z5.Plain := ⟨plsh_Bus, trivial⟩
theorem Q_z2h : Q_z5.Plain := ⟨(pl_int .u64), pl_GFault, pl_bool, trivial⟩
def ad_z5 {α : Type} (F : Sg_z5 α) : FF α := adO E_z5 M_z5 Q_z5 false fun a k => F a.1 a.2.1 a.2.2.1 a.2.2.2.1 a.2.2.2.2.1 a.2.2.2.2.2.1 a.2.2.2.2.2.2.1 a.2.2.2.2.2.2.2.1 (fun y0 z0 z1 z2 => k (y0, ()) (z0, z1, z2, ()))
def p_z5 {α : Type} (F_zl : Sg_zl α) (F_zq : Sg_zq α) (F_zf : Sg_zf α) (x0 : GBus) (x1 : GState) (x2 : Int) (x3 : Int) (x4 : Int) (x5 : Int) (x6 : Int) (x7 : Bool) (k : GBus → Int → GFault → Bool → R α) : R α :=
  F_zl x2 x3 x4 x7 (fun r1 r2 =>
  let b3 : Bool := (!r2)
  cond b3 (
  GN x0 ((((((((k (NB x0) 0 r1 false))))))))) (
  F_zq x0.m x1 x2 x4 x6 x7 (fun r4 r5 r6 r7 =>
  let b8 : Bool := (!r7)
  cond b8 (
  GN x0 ((((((((k (NB x0) 0 r6 false))))))))) (
  GN x0 ((((((((F_zf (NB x0) r4 x2 x3 x4 x5 x7 (fun y9 r10 r11 r12 =>
  GN y9 ((((((((k (NB y9) r10 r11 r12)))))))))))))))))))))
abbrev Sg_z1t (α : Type) := Int → (Int → R α) → R α
def ad_z1t {α : Type} (F : Sg_z1t α) : FP α := fun args k => match args with
  | [a0] => decI .u64 a0 fun x0 => F x0 (fun r0 => k (.int .i64 r0))
  | _ => none
def dR_ref18_port_i {α : Type} (a0 : SV) (k : Int → R α) : R α := decI .i64 a0 fun x0 => k x0
theorem dR_ref18_port_i_spec {α : Type} {v : SV} {k : Int → R α} {r : α} (h : dR_ref18_port_i v k = some r) : ∃ x0, v = (.int .i64 x0) ∧ k x0 = some r := by
  unfold dR_ref18_port_i at h
  obtain ⟨x0, rfl, h0⟩ := decI_spec h
  exact ⟨x0, rfl, h0⟩
def p_z1t {α : Type}  (x0 : Int) (k : Int → R α) : R α :=
  let b1 : Bool := (ltB x0 61696)
  cond b1 (
  k (-1)) (
  let t2 : Int := (IntKind.u64.wrap (x0 - 61696))
  let t3 : Int := (Int.tmod t2 256)
  let b4 : Bool := (t3 != 0)
  cond b4 (
  k (-1)) (
  let t5 : Int := (IntKind.u64.wrap (x0 - 61696))
  let t6 : Int := (IntKind.u64.wrap (Int.tdiv t5 256))
  let b7 : Bool := (leB 4 t6)
  cond b7 (
  k (-1)) (
  let t8 : Int := (IntKind.u64.wrap (x0 - 61696))
  let t9 : Int := (IntKind.u64.wrap (Int.tdiv t8 256))
  let t10 : Int := (IntKind.i64.wrap t9)
  k t10)))
theorem mono_z1t {α : Type} {x0 : Int} {k k' : Int → R α} {r : α} (h : ∀ i, k' i = some r → k i = some r) (hk : p_z1t x0 k' = some r) : p_z1t x0 k = some r := by
  unfold p_z1t at hk ⊢
  dsimp only at hk ⊢
  repeat' (first | exact hk | exact h _ hk | (refine cond_mono hk ?_ ?_ <;> intro hk))
abbrev Sg_z1c (α : Type) := SgPort α
abbrev Sg_zh (α : Type) := GRBus → Int → Int → (GRBus → Int → Bool → R α) → R α
@[reducible] def E_zh : OShs (GRBus × Int × Int × Unit) := (.cons sh_RBus (.cons (.leaf (Lf_int .u64)) (.cons (.leaf (Lf_int .i64)) .nil)))
@[reducible] def M_zh : OShs (GRBus × Unit) := (.cons sh_RBus .nil)
@[reducible] def Q_zh : OShs (Int × Bool × Unit) := (.cons (.leaf (Lf_int .u64)) (.cons (.leaf Lf_bool) .nil))
theorem E_z2i : E_zh.PlainP := ⟨plsh_RBus, trivial, trivial, trivial⟩
theorem M_z2i : M_zh.Plain := ⟨plsh_RBus, trivial⟩
theorem Q_z2i : Q_zh.Plain := ⟨(pl_int .u64), pl_bool, trivial⟩
def ad_zh {α : Type} (F : Sg_zh α) : FF α := adO E_zh M_zh Q_zh false fun a k => F a.1 a.2.1 a.2.2.1 (fun y0 z0 z1 => k (y0, ()) (z0, z1, ()))
def p_zh {α : Type} (F_z7 : Sg_z7 α) (F_z8 : Sg_z8 α) (F_z1c : Sg_z1c α) (x0 : GRBus) (x1 : Int) (x2 : Int) (k : GRBus → Int → Bool → R α) : R α :=
  F_z7 x0.m x1 x2 (fun r1 =>
  let b2 : Bool := (r1 == 0)
  cond b2 (
  F_z8 x0.m x1 x2 (fun r3 =>
  k (NR x0) r3 true)) (
  F_z1c x1 (
  cond x0.bare (
  k (NR x0) 0 false) (
  let b4 : Bool := (x1 == 61440)
  cond b4 (
  let b5 : Bool := (x2 == 8)
  cond b5 (
  k (NR x0) x0.time true) (
  let b6 : Bool := (x1 == 61448)
  cond b6 (
  let b7 : Bool := (x2 == 8)
  cond b7 (
  k (NR x0) x0.alarm true) (
  k (NR x0) 0 false)) (
  k (NR x0) 0 false))) (
  let b8 : Bool := (x1 == 61448)
  cond b8 (
  let b9 : Bool := (x2 == 8)
  cond b9 (
  k (NR x0) x0.alarm true) (
  k (NR x0) 0 false)) (
  k (NR x0) 0 false)))) (
  cond x0.bare (
  k (NR x0) 0 false) (
  let b10 : Bool := (x1 == 61440)
  cond b10 (
  let b11 : Bool := (x2 == 8)
  cond b11 (
  k (NR x0) x0.time true) (
  let b12 : Bool := (x1 == 61448)
  cond b12 (
  let b13 : Bool := (x2 == 8)
  cond b13 (
  k (NR x0) x0.alarm true) (
  let b14 : Bool := (x2 == 1)
  cond b14 (
  let b15 : Bool := (ByteArray.toList (x0.inp 0) == ByteArray.toList (ByteArray.mk #[]))
  cond b15 (
  k (NR x0) 0 true) (
  cond (decide (0 ≤ 0) && decide (0 < ((ByteArray.size (x0.inp 0) : Nat) : Int))) (
  let t16 : Int := (bytesAt (x0.inp 0) 0)
  cond (decide (0 ≤ ((ByteArray.size (x0.inp 0) : Nat) : Int)) && decide (((ByteArray.size (x0.inp 0) : Nat) : Int) ≤ ((ByteArray.size (x0.inp 0) : Nat) : Int))) (
  cond (decide (0 ≤ 1) && decide (1 ≤ ((ByteArray.size (x0.inp 0) : Nat) : Int))) (
  let t17 : ByteArray := (ByteArray.extract (x0.inp 0) 1 (Int.toNat ((ByteArray.size (x0.inp 0) : Nat) : Int)))
  let t18 : Int := (IntKind.u64.wrap t16)
  k (GRBus.mk x0.m x0.time x0.alarm (upd (upd (upd (fun _ => t17) 1 (x0.inp 1)) 2 (x0.inp 2)) 3 (x0.inp 3)) x0.typed (upd (upd (upd (fun _ => (x0.outp 0)) 1 (x0.outp 1)) 2 (x0.outp 2)) 3 (x0.outp 3)) x0.bare) t18 true) none) none) none)) (
  k (NR x0) 0 false))) (
  let b19 : Bool := (x2 == 1)
  cond b19 (
  let b20 : Bool := (ByteArray.toList (x0.inp 0) == ByteArray.toList (ByteArray.mk #[]))
  cond b20 (
  k (NR x0) 0 true) (
  cond (decide (0 ≤ 0) && decide (0 < ((ByteArray.size (x0.inp 0) : Nat) : Int))) (
  let t21 : Int := (bytesAt (x0.inp 0) 0)
  cond (decide (0 ≤ ((ByteArray.size (x0.inp 0) : Nat) : Int)) && decide (((ByteArray.size (x0.inp 0) : Nat) : Int) ≤ ((ByteArray.size (x0.inp 0) : Nat) : Int))) (
  cond (decide (0 ≤ 1) && decide (1 ≤ ((ByteArray.size (x0.inp 0) : Nat) : Int))) (
  let t22 : ByteArray := (ByteArray.extract (x0.inp 0) 1 (Int.toNat ((ByteArray.size (x0.inp 0) : Nat) : Int)))
  let t23 : Int := (IntKind.u64.wrap t21)
  k (GRBus.mk x0.m x0.time x0.alarm (upd (upd (upd (fun _ => t22) 1 (x0.inp 1)) 2 (x0.inp 2)) 3 (x0.inp 3)) x0.typed (upd (upd (upd (fun _ => (x0.outp 0)) 1 (x0.outp 1)) 2 (x0.outp 2)) 3 (x0.outp 3)) x0.bare) t23 true) none) none) none)) (
  k (NR x0) 0 false)))) (
  let b24 : Bool := (x1 == 61448)
  cond b24 (
  let b25 : Bool := (x2 == 8)
  cond b25 (
  k (NR x0) x0.alarm true) (
  let b26 : Bool := (x2 == 1)
  cond b26 (
  let b27 : Bool := (ByteArray.toList (x0.inp 0) == ByteArray.toList (ByteArray.mk #[]))
  cond b27 (
  k (NR x0) 0 true) (
  cond (decide (0 ≤ 0) && decide (0 < ((ByteArray.size (x0.inp 0) : Nat) : Int))) (
  let t28 : Int := (bytesAt (x0.inp 0) 0)
  cond (decide (0 ≤ ((ByteArray.size (x0.inp 0) : Nat) : Int)) && decide (((ByteArray.size (x0.inp 0) : Nat) : Int) ≤ ((ByteArray.size (x0.inp 0) : Nat) : Int))) (
  cond (decide (0 ≤ 1) && decide (1 ≤ ((ByteArray.size (x0.inp 0) : Nat) : Int))) (
  let t29 : ByteArray := (ByteArray.extract (x0.inp 0) 1 (Int.toNat ((ByteArray.size (x0.inp 0) : Nat) : Int)))
  let t30 : Int := (IntKind.u64.wrap t28)
  k (GRBus.mk x0.m x0.time x0.alarm (upd (upd (upd (fun _ => t29) 1 (x0.inp 1)) 2 (x0.inp 2)) 3 (x0.inp 3)) x0.typed (upd (upd (upd (fun _ => (x0.outp 0)) 1 (x0.outp 1)) 2 (x0.outp 2)) 3 (x0.outp 3)) x0.bare) t30 true) none) none) none)) (
  k (NR x0) 0 false))) (
  let b31 : Bool := (x2 == 1)
  cond b31 (
  let b32 : Bool := (ByteArray.toList (x0.inp 0) == ByteArray.toList (ByteArray.mk #[]))
  cond b32 (
  k (NR x0) 0 true) (
  cond (decide (0 ≤ 0) && decide (0 < ((ByteArray.size (x0.inp 0) : Nat) : Int))) (
  let t33 : Int := (bytesAt (x0.inp 0) 0)
  cond (decide (0 ≤ ((ByteArray.size (x0.inp 0) : Nat) : Int)) && decide (((ByteArray.size (x0.inp 0) : Nat) : Int) ≤ ((ByteArray.size (x0.inp 0) : Nat) : Int))) (
  cond (decide (0 ≤ 1) && decide (1 ≤ ((ByteArray.size (x0.inp 0) : Nat) : Int))) (
  let t34 : ByteArray := (ByteArray.extract (x0.inp 0) 1 (Int.toNat ((ByteArray.size (x0.inp 0) : Nat) : Int)))
  let t35 : Int := (IntKind.u64.wrap t33)
  k (GRBus.mk x0.m x0.time x0.alarm (upd (upd (upd (fun _ => t34) 1 (x0.inp 1)) 2 (x0.inp 2)) 3 (x0.inp 3)) x0.typed (upd (upd (upd (fun _ => (x0.outp 0)) 1 (x0.outp 1)) 2 (x0.outp 2)) 3 (x0.outp 3)) x0.bare) t35 true) none) none) none)) (
  k (NR x0) 0 false))))) (
  cond x0.bare (
  k (NR x0) 0 false) (
  let b36 : Bool := (x1 == 61440)
  cond b36 (
  let b37 : Bool := (x2 == 8)
  cond b37 (
  k (NR x0) x0.time true) (
  let b38 : Bool := (x1 == 61448)
  cond b38 (
  let b39 : Bool := (x2 == 8)
  cond b39 (
  k (NR x0) x0.alarm true) (
  let b40 : Bool := (x2 == 1)
  cond b40 (
  let b41 : Bool := (ByteArray.toList (x0.inp 1) == ByteArray.toList (ByteArray.mk #[]))
  cond b41 (
  k (NR x0) 0 true) (
  cond (decide (0 ≤ 0) && decide (0 < ((ByteArray.size (x0.inp 1) : Nat) : Int))) (
  let t42 : Int := (bytesAt (x0.inp 1) 0)
  cond (decide (0 ≤ ((ByteArray.size (x0.inp 1) : Nat) : Int)) && decide (((ByteArray.size (x0.inp 1) : Nat) : Int) ≤ ((ByteArray.size (x0.inp 1) : Nat) : Int))) (
  cond (decide (0 ≤ 1) && decide (1 ≤ ((ByteArray.size (x0.inp 1) : Nat) : Int))) (
  let t43 : ByteArray := (ByteArray.extract (x0.inp 1) 1 (Int.toNat ((ByteArray.size (x0.inp 1) : Nat) : Int)))
  let t44 : Int := (IntKind.u64.wrap t42)
  k (GRBus.mk x0.m x0.time x0.alarm (upd (upd (upd (fun _ => (x0.inp 0)) 1 t43) 2 (x0.inp 2)) 3 (x0.inp 3)) x0.typed (upd (upd (upd (fun _ => (x0.outp 0)) 1 (x0.outp 1)) 2 (x0.outp 2)) 3 (x0.outp 3)) x0.bare) t44 true) none) none) none)) (
  k (NR x0) 0 false))) (
  let b45 : Bool := (x2 == 1)
  cond b45 (
  let b46 : Bool := (ByteArray.toList (x0.inp 1) == ByteArray.toList (ByteArray.mk #[]))
  cond b46 (
  k (NR x0) 0 true) (
  cond (decide (0 ≤ 0) && decide (0 < ((ByteArray.size (x0.inp 1) : Nat) : Int))) (
  let t47 : Int := (bytesAt (x0.inp 1) 0)
  cond (decide (0 ≤ ((ByteArray.size (x0.inp 1) : Nat) : Int)) && decide (((ByteArray.size (x0.inp 1) : Nat) : Int) ≤ ((ByteArray.size (x0.inp 1) : Nat) : Int))) (
  cond (decide (0 ≤ 1) && decide (1 ≤ ((ByteArray.size (x0.inp 1) : Nat) : Int))) (
  let t48 : ByteArray := (ByteArray.extract (x0.inp 1) 1 (Int.toNat ((ByteArray.size (x0.inp 1) : Nat) : Int)))
  let t49 : Int := (IntKind.u64.wrap t47)
  k (GRBus.mk x0.m x0.time x0.alarm (upd (upd (upd (fun _ => (x0.inp 0)) 1 t48) 2 (x0.inp 2)) 3 (x0.inp 3)) x0.typed (upd (upd (upd (fun _ => (x0.outp 0)) 1 (x0.outp 1)) 2 (x0.outp 2)) 3 (x0.outp 3)) x0.bare) t49 true) none) none) none)) (
  k (NR x0) 0 false)))) (
  let b50 : Bool := (x1 == 61448)
  cond b50 (
  let b51 : Bool := (x2 == 8)
  cond b51 (
  k (NR x0) x0.alarm true) (
  let b52 : Bool := (x2 == 1)
  cond b52 (
  let b53 : Bool := (ByteArray.toList (x0.inp 1) == ByteArray.toList (ByteArray.mk #[]))
  cond b53 (
  k (NR x0) 0 true) (
  cond (decide (0 ≤ 0) && decide (0 < ((ByteArray.size (x0.inp 1) : Nat) : Int))) (
  let t54 : Int := (bytesAt (x0.inp 1) 0)
  cond (decide (0 ≤ ((ByteArray.size (x0.inp 1) : Nat) : Int)) && decide (((ByteArray.size (x0.inp 1) : Nat) : Int) ≤ ((ByteArray.size (x0.inp 1) : Nat) : Int))) (
  cond (decide (0 ≤ 1) && decide (1 ≤ ((ByteArray.size (x0.inp 1) : Nat) : Int))) (
  let t55 : ByteArray := (ByteArray.extract (x0.inp 1) 1 (Int.toNat ((ByteArray.size (x0.inp 1) : Nat) : Int)))
  let t56 : Int := (IntKind.u64.wrap t54)
  k (GRBus.mk x0.m x0.time x0.alarm (upd (upd (upd (fun _ => (x0.inp 0)) 1 t55) 2 (x0.inp 2)) 3 (x0.inp 3)) x0.typed (upd (upd (upd (fun _ => (x0.outp 0)) 1 (x0.outp 1)) 2 (x0.outp 2)) 3 (x0.outp 3)) x0.bare) t56 true) none) none) none)) (
  k (NR x0) 0 false))) (
  let b57 : Bool := (x2 == 1)
  cond b57 (
  let b58 : Bool := (ByteArray.toList (x0.inp 1) == ByteArray.toList (ByteArray.mk #[]))
  cond b58 (
  k (NR x0) 0 true) (
  cond (decide (0 ≤ 0) && decide (0 < ((ByteArray.size (x0.inp 1) : Nat) : Int))) (
  let t59 : Int := (bytesAt (x0.inp 1) 0)
  cond (decide (0 ≤ ((ByteArray.size (x0.inp 1) : Nat) : Int)) && decide (((ByteArray.size (x0.inp 1) : Nat) : Int) ≤ ((ByteArray.size (x0.inp 1) : Nat) : Int))) (
  cond (decide (0 ≤ 1) && decide (1 ≤ ((ByteArray.size (x0.inp 1) : Nat) : Int))) (
  let t60 : ByteArray := (ByteArray.extract (x0.inp 1) 1 (Int.toNat ((ByteArray.size (x0.inp 1) : Nat) : Int)))
  let t61 : Int := (IntKind.u64.wrap t59)
  k (GRBus.mk x0.m x0.time x0.alarm (upd (upd (upd (fun _ => (x0.inp 0)) 1 t60) 2 (x0.inp 2)) 3 (x0.inp 3)) x0.typed (upd (upd (upd (fun _ => (x0.outp 0)) 1 (x0.outp 1)) 2 (x0.outp 2)) 3 (x0.outp 3)) x0.bare) t61 true) none) none) none)) (
  k (NR x0) 0 false))))) (
  cond x0.bare (
  k (NR x0) 0 false) (
  let b62 : Bool := (x1 == 61440)
  cond b62 (
  let b63 : Bool := (x2 == 8)
  cond b63 (
  k (NR x0) x0.time true) (
  let b64 : Bool := (x1 == 61448)
  cond b64 (
  let b65 : Bool := (x2 == 8)
  cond b65 (
  k (NR x0) x0.alarm true) (
  let b66 : Bool := (x2 == 1)
  cond b66 (
  let b67 : Bool := (ByteArray.toList (x0.inp 2) == ByteArray.toList (ByteArray.mk #[]))
  cond b67 (
  k (NR x0) 0 true) (
  cond (decide (0 ≤ 0) && decide (0 < ((ByteArray.size (x0.inp 2) : Nat) : Int))) (
  let t68 : Int := (bytesAt (x0.inp 2) 0)
  cond (decide (0 ≤ ((ByteArray.size (x0.inp 2) : Nat) : Int)) && decide (((ByteArray.size (x0.inp 2) : Nat) : Int) ≤ ((ByteArray.size (x0.inp 2) : Nat) : Int))) (
  cond (decide (0 ≤ 1) && decide (1 ≤ ((ByteArray.size (x0.inp 2) : Nat) : Int))) (
  let t69 : ByteArray := (ByteArray.extract (x0.inp 2) 1 (Int.toNat ((ByteArray.size (x0.inp 2) : Nat) : Int)))
  let t70 : Int := (IntKind.u64.wrap t68)
  k (GRBus.mk x0.m x0.time x0.alarm (upd (upd (upd (fun _ => (x0.inp 0)) 1 (x0.inp 1)) 2 t69) 3 (x0.inp 3)) x0.typed (upd (upd (upd (fun _ => (x0.outp 0)) 1 (x0.outp 1)) 2 (x0.outp 2)) 3 (x0.outp 3)) x0.bare) t70 true) none) none) none)) (
  k (NR x0) 0 false))) (
  let b71 : Bool := (x2 == 1)
  cond b71 (
  let b72 : Bool := (ByteArray.toList (x0.inp 2) == ByteArray.toList (ByteArray.mk #[]))
  cond b72 (
  k (NR x0) 0 true) (
  cond (decide (0 ≤ 0) && decide (0 < ((ByteArray.size (x0.inp 2) : Nat) : Int))) (
  let t73 : Int := (bytesAt (x0.inp 2) 0)
  cond (decide (0 ≤ ((ByteArray.size (x0.inp 2) : Nat) : Int)) && decide (((ByteArray.size (x0.inp 2) : Nat) : Int) ≤ ((ByteArray.size (x0.inp 2) : Nat) : Int))) (
  cond (decide (0 ≤ 1) && decide (1 ≤ ((ByteArray.size (x0.inp 2) : Nat) : Int))) (
  let t74 : ByteArray := (ByteArray.extract (x0.inp 2) 1 (Int.toNat ((ByteArray.size (x0.inp 2) : Nat) : Int)))
  let t75 : Int := (IntKind.u64.wrap t73)
  k (GRBus.mk x0.m x0.time x0.alarm (upd (upd (upd (fun _ => (x0.inp 0)) 1 (x0.inp 1)) 2 t74) 3 (x0.inp 3)) x0.typed (upd (upd (upd (fun _ => (x0.outp 0)) 1 (x0.outp 1)) 2 (x0.outp 2)) 3 (x0.outp 3)) x0.bare) t75 true) none) none) none)) (
  k (NR x0) 0 false)))) (
  let b76 : Bool := (x1 == 61448)
  cond b76 (
  let b77 : Bool := (x2 == 8)
  cond b77 (
  k (NR x0) x0.alarm true) (
  let b78 : Bool := (x2 == 1)
  cond b78 (
  let b79 : Bool := (ByteArray.toList (x0.inp 2) == ByteArray.toList (ByteArray.mk #[]))
  cond b79 (
  k (NR x0) 0 true) (
  cond (decide (0 ≤ 0) && decide (0 < ((ByteArray.size (x0.inp 2) : Nat) : Int))) (
  let t80 : Int := (bytesAt (x0.inp 2) 0)
  cond (decide (0 ≤ ((ByteArray.size (x0.inp 2) : Nat) : Int)) && decide (((ByteArray.size (x0.inp 2) : Nat) : Int) ≤ ((ByteArray.size (x0.inp 2) : Nat) : Int))) (
  cond (decide (0 ≤ 1) && decide (1 ≤ ((ByteArray.size (x0.inp 2) : Nat) : Int))) (
  let t81 : ByteArray := (ByteArray.extract (x0.inp 2) 1 (Int.toNat ((ByteArray.size (x0.inp 2) : Nat) : Int)))
  let t82 : Int := (IntKind.u64.wrap t80)
  k (GRBus.mk x0.m x0.time x0.alarm (upd (upd (upd (fun _ => (x0.inp 0)) 1 (x0.inp 1)) 2 t81) 3 (x0.inp 3)) x0.typed (upd (upd (upd (fun _ => (x0.outp 0)) 1 (x0.outp 1)) 2 (x0.outp 2)) 3 (x0.outp 3)) x0.bare) t82 true) none) none) none)) (
  k (NR x0) 0 false))) (
  let b83 : Bool := (x2 == 1)
  cond b83 (
  let b84 : Bool := (ByteArray.toList (x0.inp 2) == ByteArray.toList (ByteArray.mk #[]))
  cond b84 (
  k (NR x0) 0 true) (
  cond (decide (0 ≤ 0) && decide (0 < ((ByteArray.size (x0.inp 2) : Nat) : Int))) (
  let t85 : Int := (bytesAt (x0.inp 2) 0)
  cond (decide (0 ≤ ((ByteArray.size (x0.inp 2) : Nat) : Int)) && decide (((ByteArray.size (x0.inp 2) : Nat) : Int) ≤ ((ByteArray.size (x0.inp 2) : Nat) : Int))) (
  cond (decide (0 ≤ 1) && decide (1 ≤ ((ByteArray.size (x0.inp 2) : Nat) : Int))) (
  let t86 : ByteArray := (ByteArray.extract (x0.inp 2) 1 (Int.toNat ((ByteArray.size (x0.inp 2) : Nat) : Int)))
  let t87 : Int := (IntKind.u64.wrap t85)
  k (GRBus.mk x0.m x0.time x0.alarm (upd (upd (upd (fun _ => (x0.inp 0)) 1 (x0.inp 1)) 2 t86) 3 (x0.inp 3)) x0.typed (upd (upd (upd (fun _ => (x0.outp 0)) 1 (x0.outp 1)) 2 (x0.outp 2)) 3 (x0.outp 3)) x0.bare) t87 true) none) none) none)) (
  k (NR x0) 0 false))))) (
  cond x0.bare (
  k (NR x0) 0 false) (
  let b88 : Bool := (x1 == 61440)
  cond b88 (
  let b89 : Bool := (x2 == 8)
  cond b89 (
  k (NR x0) x0.time true) (
  let b90 : Bool := (x1 == 61448)
  cond b90 (
  let b91 : Bool := (x2 == 8)
  cond b91 (
  k (NR x0) x0.alarm true) (
  let b92 : Bool := (x2 == 1)
  cond b92 (
  let b93 : Bool := (ByteArray.toList (x0.inp 3) == ByteArray.toList (ByteArray.mk #[]))
  cond b93 (
  k (NR x0) 0 true) (
  cond (decide (0 ≤ 0) && decide (0 < ((ByteArray.size (x0.inp 3) : Nat) : Int))) (
  let t94 : Int := (bytesAt (x0.inp 3) 0)
  cond (decide (0 ≤ ((ByteArray.size (x0.inp 3) : Nat) : Int)) && decide (((ByteArray.size (x0.inp 3) : Nat) : Int) ≤ ((ByteArray.size (x0.inp 3) : Nat) : Int))) (
  cond (decide (0 ≤ 1) && decide (1 ≤ ((ByteArray.size (x0.inp 3) : Nat) : Int))) (
  let t95 : ByteArray := (ByteArray.extract (x0.inp 3) 1 (Int.toNat ((ByteArray.size (x0.inp 3) : Nat) : Int)))
  let t96 : Int := (IntKind.u64.wrap t94)
  k (GRBus.mk x0.m x0.time x0.alarm (upd (upd (upd (fun _ => (x0.inp 0)) 1 (x0.inp 1)) 2 (x0.inp 2)) 3 t95) x0.typed (upd (upd (upd (fun _ => (x0.outp 0)) 1 (x0.outp 1)) 2 (x0.outp 2)) 3 (x0.outp 3)) x0.bare) t96 true) none) none) none)) (
  k (NR x0) 0 false))) (
  let b97 : Bool := (x2 == 1)
  cond b97 (
  let b98 : Bool := (ByteArray.toList (x0.inp 3) == ByteArray.toList (ByteArray.mk #[]))
  cond b98 (
  k (NR x0) 0 true) (
  cond (decide (0 ≤ 0) && decide (0 < ((ByteArray.size (x0.inp 3) : Nat) : Int))) (
  let t99 : Int := (bytesAt (x0.inp 3) 0)
  cond (decide (0 ≤ ((ByteArray.size (x0.inp 3) : Nat) : Int)) && decide (((ByteArray.size (x0.inp 3) : Nat) : Int) ≤ ((ByteArray.size (x0.inp 3) : Nat) : Int))) (
  cond (decide (0 ≤ 1) && decide (1 ≤ ((ByteArray.size (x0.inp 3) : Nat) : Int))) (
  let t100 : ByteArray := (ByteArray.extract (x0.inp 3) 1 (Int.toNat ((ByteArray.size (x0.inp 3) : Nat) : Int)))
  let t101 : Int := (IntKind.u64.wrap t99)
  k (GRBus.mk x0.m x0.time x0.alarm (upd (upd (upd (fun _ => (x0.inp 0)) 1 (x0.inp 1)) 2 (x0.inp 2)) 3 t100) x0.typed (upd (upd (upd (fun _ => (x0.outp 0)) 1 (x0.outp 1)) 2 (x0.outp 2)) 3 (x0.outp 3)) x0.bare) t101 true) none) none) none)) (
  k (NR x0) 0 false)))) (
  let b102 : Bool := (x1 == 61448)
  cond b102 (
  let b103 : Bool := (x2 == 8)
  cond b103 (
  k (NR x0) x0.alarm true) (
  let b104 : Bool := (x2 == 1)
  cond b104 (
  let b105 : Bool := (ByteArray.toList (x0.inp 3) == ByteArray.toList (ByteArray.mk #[]))
  cond b105 (
  k (NR x0) 0 true) (
  cond (decide (0 ≤ 0) && decide (0 < ((ByteArray.size (x0.inp 3) : Nat) : Int))) (
  let t106 : Int := (bytesAt (x0.inp 3) 0)
  cond (decide (0 ≤ ((ByteArray.size (x0.inp 3) : Nat) : Int)) && decide (((ByteArray.size (x0.inp 3) : Nat) : Int) ≤ ((ByteArray.size (x0.inp 3) : Nat) : Int))) (
  cond (decide (0 ≤ 1) && decide (1 ≤ ((ByteArray.size (x0.inp 3) : Nat) : Int))) (
  let t107 : ByteArray := (ByteArray.extract (x0.inp 3) 1 (Int.toNat ((ByteArray.size (x0.inp 3) : Nat) : Int)))
  let t108 : Int := (IntKind.u64.wrap t106)
  k (GRBus.mk x0.m x0.time x0.alarm (upd (upd (upd (fun _ => (x0.inp 0)) 1 (x0.inp 1)) 2 (x0.inp 2)) 3 t107) x0.typed (upd (upd (upd (fun _ => (x0.outp 0)) 1 (x0.outp 1)) 2 (x0.outp 2)) 3 (x0.outp 3)) x0.bare) t108 true) none) none) none)) (
  k (NR x0) 0 false))) (
  let b109 : Bool := (x2 == 1)
  cond b109 (
  let b110 : Bool := (ByteArray.toList (x0.inp 3) == ByteArray.toList (ByteArray.mk #[]))
  cond b110 (
  k (NR x0) 0 true) (
  cond (decide (0 ≤ 0) && decide (0 < ((ByteArray.size (x0.inp 3) : Nat) : Int))) (
  let t111 : Int := (bytesAt (x0.inp 3) 0)
  cond (decide (0 ≤ ((ByteArray.size (x0.inp 3) : Nat) : Int)) && decide (((ByteArray.size (x0.inp 3) : Nat) : Int) ≤ ((ByteArray.size (x0.inp 3) : Nat) : Int))) (
  cond (decide (0 ≤ 1) && decide (1 ≤ ((ByteArray.size (x0.inp 3) : Nat) : Int))) (
  let t112 : ByteArray := (ByteArray.extract (x0.inp 3) 1 (Int.toNat ((ByteArray.size (x0.inp 3) : Nat) : Int)))
  let t113 : Int := (IntKind.u64.wrap t111)
  k (GRBus.mk x0.m x0.time x0.alarm (upd (upd (upd (fun _ => (x0.inp 0)) 1 (x0.inp 1)) 2 (x0.inp 2)) 3 t112) x0.typed (upd (upd (upd (fun _ => (x0.outp 0)) 1 (x0.outp 1)) 2 (x0.outp 2)) 3 (x0.outp 3)) x0.bare) t113 true) none) none) none)) (
  k (NR x0) 0 false)))))))
abbrev Sg_zi (α : Type) := GRBus → Int → Int → Int → (GRBus → Bool → R α) → R α
@[reducible] def E_zi : OShs (GRBus × Int × Int × Int × Unit) := (.cons sh_RBus (.cons (.leaf (Lf_int .u64)) (.cons (.leaf (Lf_int .i64)) (.cons (.leaf (Lf_int .u64)) .nil))))
@[reducible] def M_zi : OShs (GRBus × Unit) := (.cons sh_RBus .nil)
@[reducible] def Q_zi : OShs (Bool × Unit) := (.cons (.leaf Lf_bool) .nil)
theorem E_z2j : E_zi.PlainP := ⟨plsh_RBus, trivial, trivial, trivial, trivial⟩
theorem M_z2j : M_zi.Plain := ⟨plsh_RBus, trivial⟩
theorem Q_z2j : Q_zi.Plain := ⟨pl_bool, trivial⟩
def ad_zi {α : Type} (F : Sg_zi α) : FF α := adO E_zi M_zi Q_zi true fun a k => F a.1 a.2.1 a.2.2.1 a.2.2.2.1 (fun y0 z0 => k (y0, ()) (z0, ()))
def p_zi {α : Type} (F_z7 : Sg_z7 α) (F_zk : Sg_zk α) (F_z1c : Sg_z1c α) (x0 : GRBus) (x1 : Int) (x2 : Int) (x3 : Int) (k : GRBus → Bool → R α) : R α :=
  F_z7 x0.m x1 x2 (fun r1 =>
  let b2 : Bool := (r1 == 0)
  cond b2 (
  F_zk x0.m x1 x2 x3 (fun f3 =>
  k (GRBus.mk f3 x0.time x0.alarm (upd (upd (upd (fun _ => (x0.inp 0)) 1 (x0.inp 1)) 2 (x0.inp 2)) 3 (x0.inp 3)) x0.typed (upd (upd (upd (fun _ => (x0.outp 0)) 1 (x0.outp 1)) 2 (x0.outp 2)) 3 (x0.outp 3)) x0.bare) true)) (
  F_z1c x1 (
  cond x0.bare (
  k (NR x0) false) (
  let b4 : Bool := (x1 == 61448)
  cond b4 (
  let b5 : Bool := (x2 == 8)
  cond b5 (
  k (GRBus.mk x0.m x0.time x3 (upd (upd (upd (fun _ => (x0.inp 0)) 1 (x0.inp 1)) 2 (x0.inp 2)) 3 (x0.inp 3)) x0.typed (upd (upd (upd (fun _ => (x0.outp 0)) 1 (x0.outp 1)) 2 (x0.outp 2)) 3 (x0.outp 3)) x0.bare) true) (
  k (NR x0) false)) (
  k (NR x0) false))) (
  cond x0.bare (
  k (NR x0) false) (
  let b6 : Bool := (x1 == 61448)
  cond b6 (
  let b7 : Bool := (x2 == 8)
  cond b7 (
  k (GRBus.mk x0.m x0.time x3 (upd (upd (upd (fun _ => (x0.inp 0)) 1 (x0.inp 1)) 2 (x0.inp 2)) 3 (x0.inp 3)) x0.typed (upd (upd (upd (fun _ => (x0.outp 0)) 1 (x0.outp 1)) 2 (x0.outp 2)) 3 (x0.outp 3)) x0.bare) true) (
  let b8 : Bool := (x2 == 1)
  cond b8 (
  let t9 : Int := (IntKind.u8.wrap x3)
  let t10 : ByteArray := (strOf (fun i => (upd (fun _ => 0) 0 t9) (0 + i)) 1)
  cond (Nat.ble (ByteArray.size (x0.outp 0) + ByteArray.size t10) 9223372036854775807) (
  let t11 : ByteArray := ((x0.outp 0) ++ t10)
  let t12 : Int := ((ByteArray.size t11 : Nat) : Int)
  let b13 : Bool := (ltB 64 t12)
  cond b13 (
  cond (decide (0 ≤ ((ByteArray.size t11 : Nat) : Int)) && decide (((ByteArray.size t11 : Nat) : Int) ≤ ((ByteArray.size t11 : Nat) : Int))) (
  cond (decide (0 ≤ 1) && decide (1 ≤ ((ByteArray.size t11 : Nat) : Int))) (
  let t14 : ByteArray := (ByteArray.extract t11 1 (Int.toNat ((ByteArray.size t11 : Nat) : Int)))
  k (GRBus.mk x0.m x0.time x0.alarm (upd (upd (upd (fun _ => (x0.inp 0)) 1 (x0.inp 1)) 2 (x0.inp 2)) 3 (x0.inp 3)) x0.typed (upd (upd (upd (fun _ => t14) 1 (x0.outp 1)) 2 (x0.outp 2)) 3 (x0.outp 3)) x0.bare) true) none) none) (
  k (GRBus.mk x0.m x0.time x0.alarm (upd (upd (upd (fun _ => (x0.inp 0)) 1 (x0.inp 1)) 2 (x0.inp 2)) 3 (x0.inp 3)) x0.typed (upd (upd (upd (fun _ => t11) 1 (x0.outp 1)) 2 (x0.outp 2)) 3 (x0.outp 3)) x0.bare) true)) none) (
  k (NR x0) false))) (
  let b15 : Bool := (x2 == 1)
  cond b15 (
  let t16 : Int := (IntKind.u8.wrap x3)
  let t17 : ByteArray := (strOf (fun i => (upd (fun _ => 0) 0 t16) (0 + i)) 1)
  cond (Nat.ble (ByteArray.size (x0.outp 0) + ByteArray.size t17) 9223372036854775807) (
  let t18 : ByteArray := ((x0.outp 0) ++ t17)
  let t19 : Int := ((ByteArray.size t18 : Nat) : Int)
  let b20 : Bool := (ltB 64 t19)
  cond b20 (
  cond (decide (0 ≤ ((ByteArray.size t18 : Nat) : Int)) && decide (((ByteArray.size t18 : Nat) : Int) ≤ ((ByteArray.size t18 : Nat) : Int))) (
  cond (decide (0 ≤ 1) && decide (1 ≤ ((ByteArray.size t18 : Nat) : Int))) (
  let t21 : ByteArray := (ByteArray.extract t18 1 (Int.toNat ((ByteArray.size t18 : Nat) : Int)))
  k (GRBus.mk x0.m x0.time x0.alarm (upd (upd (upd (fun _ => (x0.inp 0)) 1 (x0.inp 1)) 2 (x0.inp 2)) 3 (x0.inp 3)) x0.typed (upd (upd (upd (fun _ => t21) 1 (x0.outp 1)) 2 (x0.outp 2)) 3 (x0.outp 3)) x0.bare) true) none) none) (
  k (GRBus.mk x0.m x0.time x0.alarm (upd (upd (upd (fun _ => (x0.inp 0)) 1 (x0.inp 1)) 2 (x0.inp 2)) 3 (x0.inp 3)) x0.typed (upd (upd (upd (fun _ => t18) 1 (x0.outp 1)) 2 (x0.outp 2)) 3 (x0.outp 3)) x0.bare) true)) none) (
  k (NR x0) false)))) (
  cond x0.bare (
  k (NR x0) false) (
  let b22 : Bool := (x1 == 61448)
  cond b22 (
  let b23 : Bool := (x2 == 8)
  cond b23 (
  k (GRBus.mk x0.m x0.time x3 (upd (upd (upd (fun _ => (x0.inp 0)) 1 (x0.inp 1)) 2 (x0.inp 2)) 3 (x0.inp 3)) x0.typed (upd (upd (upd (fun _ => (x0.outp 0)) 1 (x0.outp 1)) 2 (x0.outp 2)) 3 (x0.outp 3)) x0.bare) true) (
  let b24 : Bool := (x2 == 1)
  cond b24 (
  let t25 : Int := (IntKind.u8.wrap x3)
  let t26 : ByteArray := (strOf (fun i => (upd (fun _ => 0) 0 t25) (0 + i)) 1)
  cond (Nat.ble (ByteArray.size (x0.outp 1) + ByteArray.size t26) 9223372036854775807) (
  let t27 : ByteArray := ((x0.outp 1) ++ t26)
  let t28 : Int := ((ByteArray.size t27 : Nat) : Int)
  let b29 : Bool := (ltB 64 t28)
  cond b29 (
  cond (decide (0 ≤ ((ByteArray.size t27 : Nat) : Int)) && decide (((ByteArray.size t27 : Nat) : Int) ≤ ((ByteArray.size t27 : Nat) : Int))) (
  cond (decide (0 ≤ 1) && decide (1 ≤ ((ByteArray.size t27 : Nat) : Int))) (
  let t30 : ByteArray := (ByteArray.extract t27 1 (Int.toNat ((ByteArray.size t27 : Nat) : Int)))
  k (GRBus.mk x0.m x0.time x0.alarm (upd (upd (upd (fun _ => (x0.inp 0)) 1 (x0.inp 1)) 2 (x0.inp 2)) 3 (x0.inp 3)) x0.typed (upd (upd (upd (fun _ => (x0.outp 0)) 1 t30) 2 (x0.outp 2)) 3 (x0.outp 3)) x0.bare) true) none) none) (
  k (GRBus.mk x0.m x0.time x0.alarm (upd (upd (upd (fun _ => (x0.inp 0)) 1 (x0.inp 1)) 2 (x0.inp 2)) 3 (x0.inp 3)) x0.typed (upd (upd (upd (fun _ => (x0.outp 0)) 1 t27) 2 (x0.outp 2)) 3 (x0.outp 3)) x0.bare) true)) none) (
  k (NR x0) false))) (
  let b31 : Bool := (x2 == 1)
  cond b31 (
  let t32 : Int := (IntKind.u8.wrap x3)
  let t33 : ByteArray := (strOf (fun i => (upd (fun _ => 0) 0 t32) (0 + i)) 1)
  cond (Nat.ble (ByteArray.size (x0.outp 1) + ByteArray.size t33) 9223372036854775807) (
  let t34 : ByteArray := ((x0.outp 1) ++ t33)
  let t35 : Int := ((ByteArray.size t34 : Nat) : Int)
  let b36 : Bool := (ltB 64 t35)
  cond b36 (
  cond (decide (0 ≤ ((ByteArray.size t34 : Nat) : Int)) && decide (((ByteArray.size t34 : Nat) : Int) ≤ ((ByteArray.size t34 : Nat) : Int))) (
  cond (decide (0 ≤ 1) && decide (1 ≤ ((ByteArray.size t34 : Nat) : Int))) (
  let t37 : ByteArray := (ByteArray.extract t34 1 (Int.toNat ((ByteArray.size t34 : Nat) : Int)))
  k (GRBus.mk x0.m x0.time x0.alarm (upd (upd (upd (fun _ => (x0.inp 0)) 1 (x0.inp 1)) 2 (x0.inp 2)) 3 (x0.inp 3)) x0.typed (upd (upd (upd (fun _ => (x0.outp 0)) 1 t37) 2 (x0.outp 2)) 3 (x0.outp 3)) x0.bare) true) none) none) (
  k (GRBus.mk x0.m x0.time x0.alarm (upd (upd (upd (fun _ => (x0.inp 0)) 1 (x0.inp 1)) 2 (x0.inp 2)) 3 (x0.inp 3)) x0.typed (upd (upd (upd (fun _ => (x0.outp 0)) 1 t34) 2 (x0.outp 2)) 3 (x0.outp 3)) x0.bare) true)) none) (
  k (NR x0) false)))) (
  cond x0.bare (
  k (NR x0) false) (
  let b38 : Bool := (x1 == 61448)
  cond b38 (
  let b39 : Bool := (x2 == 8)
  cond b39 (
  k (GRBus.mk x0.m x0.time x3 (upd (upd (upd (fun _ => (x0.inp 0)) 1 (x0.inp 1)) 2 (x0.inp 2)) 3 (x0.inp 3)) x0.typed (upd (upd (upd (fun _ => (x0.outp 0)) 1 (x0.outp 1)) 2 (x0.outp 2)) 3 (x0.outp 3)) x0.bare) true) (
  let b40 : Bool := (x2 == 1)
  cond b40 (
  let t41 : Int := (IntKind.u8.wrap x3)
  let t42 : ByteArray := (strOf (fun i => (upd (fun _ => 0) 0 t41) (0 + i)) 1)
  cond (Nat.ble (ByteArray.size (x0.outp 2) + ByteArray.size t42) 9223372036854775807) (
  let t43 : ByteArray := ((x0.outp 2) ++ t42)
  let t44 : Int := ((ByteArray.size t43 : Nat) : Int)
  let b45 : Bool := (ltB 64 t44)
  cond b45 (
  cond (decide (0 ≤ ((ByteArray.size t43 : Nat) : Int)) && decide (((ByteArray.size t43 : Nat) : Int) ≤ ((ByteArray.size t43 : Nat) : Int))) (
  cond (decide (0 ≤ 1) && decide (1 ≤ ((ByteArray.size t43 : Nat) : Int))) (
  let t46 : ByteArray := (ByteArray.extract t43 1 (Int.toNat ((ByteArray.size t43 : Nat) : Int)))
  k (GRBus.mk x0.m x0.time x0.alarm (upd (upd (upd (fun _ => (x0.inp 0)) 1 (x0.inp 1)) 2 (x0.inp 2)) 3 (x0.inp 3)) x0.typed (upd (upd (upd (fun _ => (x0.outp 0)) 1 (x0.outp 1)) 2 t46) 3 (x0.outp 3)) x0.bare) true) none) none) (
  k (GRBus.mk x0.m x0.time x0.alarm (upd (upd (upd (fun _ => (x0.inp 0)) 1 (x0.inp 1)) 2 (x0.inp 2)) 3 (x0.inp 3)) x0.typed (upd (upd (upd (fun _ => (x0.outp 0)) 1 (x0.outp 1)) 2 t43) 3 (x0.outp 3)) x0.bare) true)) none) (
  k (NR x0) false))) (
  let b47 : Bool := (x2 == 1)
  cond b47 (
  let t48 : Int := (IntKind.u8.wrap x3)
  let t49 : ByteArray := (strOf (fun i => (upd (fun _ => 0) 0 t48) (0 + i)) 1)
  cond (Nat.ble (ByteArray.size (x0.outp 2) + ByteArray.size t49) 9223372036854775807) (
  let t50 : ByteArray := ((x0.outp 2) ++ t49)
  let t51 : Int := ((ByteArray.size t50 : Nat) : Int)
  let b52 : Bool := (ltB 64 t51)
  cond b52 (
  cond (decide (0 ≤ ((ByteArray.size t50 : Nat) : Int)) && decide (((ByteArray.size t50 : Nat) : Int) ≤ ((ByteArray.size t50 : Nat) : Int))) (
  cond (decide (0 ≤ 1) && decide (1 ≤ ((ByteArray.size t50 : Nat) : Int))) (
  let t53 : ByteArray := (ByteArray.extract t50 1 (Int.toNat ((ByteArray.size t50 : Nat) : Int)))
  k (GRBus.mk x0.m x0.time x0.alarm (upd (upd (upd (fun _ => (x0.inp 0)) 1 (x0.inp 1)) 2 (x0.inp 2)) 3 (x0.inp 3)) x0.typed (upd (upd (upd (fun _ => (x0.outp 0)) 1 (x0.outp 1)) 2 t53) 3 (x0.outp 3)) x0.bare) true) none) none) (
  k (GRBus.mk x0.m x0.time x0.alarm (upd (upd (upd (fun _ => (x0.inp 0)) 1 (x0.inp 1)) 2 (x0.inp 2)) 3 (x0.inp 3)) x0.typed (upd (upd (upd (fun _ => (x0.outp 0)) 1 (x0.outp 1)) 2 t50) 3 (x0.outp 3)) x0.bare) true)) none) (
  k (NR x0) false)))) (
  cond x0.bare (
  k (NR x0) false) (
  let b54 : Bool := (x1 == 61448)
  cond b54 (
  let b55 : Bool := (x2 == 8)
  cond b55 (
  k (GRBus.mk x0.m x0.time x3 (upd (upd (upd (fun _ => (x0.inp 0)) 1 (x0.inp 1)) 2 (x0.inp 2)) 3 (x0.inp 3)) x0.typed (upd (upd (upd (fun _ => (x0.outp 0)) 1 (x0.outp 1)) 2 (x0.outp 2)) 3 (x0.outp 3)) x0.bare) true) (
  let b56 : Bool := (x2 == 1)
  cond b56 (
  let t57 : Int := (IntKind.u8.wrap x3)
  let t58 : ByteArray := (strOf (fun i => (upd (fun _ => 0) 0 t57) (0 + i)) 1)
  cond (Nat.ble (ByteArray.size (x0.outp 3) + ByteArray.size t58) 9223372036854775807) (
  let t59 : ByteArray := ((x0.outp 3) ++ t58)
  let t60 : Int := ((ByteArray.size t59 : Nat) : Int)
  let b61 : Bool := (ltB 64 t60)
  cond b61 (
  cond (decide (0 ≤ ((ByteArray.size t59 : Nat) : Int)) && decide (((ByteArray.size t59 : Nat) : Int) ≤ ((ByteArray.size t59 : Nat) : Int))) (
  cond (decide (0 ≤ 1) && decide (1 ≤ ((ByteArray.size t59 : Nat) : Int))) (
  let t62 : ByteArray := (ByteArray.extract t59 1 (Int.toNat ((ByteArray.size t59 : Nat) : Int)))
  k (GRBus.mk x0.m x0.time x0.alarm (upd (upd (upd (fun _ => (x0.inp 0)) 1 (x0.inp 1)) 2 (x0.inp 2)) 3 (x0.inp 3)) x0.typed (upd (upd (upd (fun _ => (x0.outp 0)) 1 (x0.outp 1)) 2 (x0.outp 2)) 3 t62) x0.bare) true) none) none) (
  k (GRBus.mk x0.m x0.time x0.alarm (upd (upd (upd (fun _ => (x0.inp 0)) 1 (x0.inp 1)) 2 (x0.inp 2)) 3 (x0.inp 3)) x0.typed (upd (upd (upd (fun _ => (x0.outp 0)) 1 (x0.outp 1)) 2 (x0.outp 2)) 3 t59) x0.bare) true)) none) (
  k (NR x0) false))) (
  let b63 : Bool := (x2 == 1)
  cond b63 (
  let t64 : Int := (IntKind.u8.wrap x3)
  let t65 : ByteArray := (strOf (fun i => (upd (fun _ => 0) 0 t64) (0 + i)) 1)
  cond (Nat.ble (ByteArray.size (x0.outp 3) + ByteArray.size t65) 9223372036854775807) (
  let t66 : ByteArray := ((x0.outp 3) ++ t65)
  let t67 : Int := ((ByteArray.size t66 : Nat) : Int)
  let b68 : Bool := (ltB 64 t67)
  cond b68 (
  cond (decide (0 ≤ ((ByteArray.size t66 : Nat) : Int)) && decide (((ByteArray.size t66 : Nat) : Int) ≤ ((ByteArray.size t66 : Nat) : Int))) (
  cond (decide (0 ≤ 1) && decide (1 ≤ ((ByteArray.size t66 : Nat) : Int))) (
  let t69 : ByteArray := (ByteArray.extract t66 1 (Int.toNat ((ByteArray.size t66 : Nat) : Int)))
  k (GRBus.mk x0.m x0.time x0.alarm (upd (upd (upd (fun _ => (x0.inp 0)) 1 (x0.inp 1)) 2 (x0.inp 2)) 3 (x0.inp 3)) x0.typed (upd (upd (upd (fun _ => (x0.outp 0)) 1 (x0.outp 1)) 2 (x0.outp 2)) 3 t69) x0.bare) true) none) none) (
  k (GRBus.mk x0.m x0.time x0.alarm (upd (upd (upd (fun _ => (x0.inp 0)) 1 (x0.inp 1)) 2 (x0.inp 2)) 3 (x0.inp 3)) x0.typed (upd (upd (upd (fun _ => (x0.outp 0)) 1 (x0.outp 1)) 2 (x0.outp 2)) 3 t66) x0.bare) true)) none) (
  k (NR x0) false))))))
abbrev Sg_zz (α : Type) := Int → (Int → R α) → R α
def ad_zz {α : Type} (F : Sg_zz α) : FP α := fun args k => match args with
  | [a0] => decI .i64 a0 fun x0 => F x0 (fun r0 => k (.int .u64 r0))
  | _ => none
def dR_ref18_mis {α : Type} (a0 : SV) (k : Int → R α) : R α := decI .u64 a0 fun x0 => k x0
theorem dR_ref18_mis_spec {α : Type} {v : SV} {k : Int → R α} {r : α} (h : dR_ref18_mis v k = some r) : ∃ x0, v = (.int .u64 x0) ∧ k x0 = some r := by
  unfold dR_ref18_mis at h
  obtain ⟨x0, rfl, h0⟩ := decI_spec h
  exact ⟨x0, rfl, h0⟩
def p_zz {α : Type}  (x0 : Int) (k : Int → R α) : R α :=
  cond (decide (0 ≤ x0) && decide (x0 < 3)) (
  cond (decide ((Int.toNat x0) < 3)) (
  k ((upd (upd (upd (fun _ => 0) 0 0) 1 4) 2 6) (Int.toNat x0))) none) none
theorem le_zz {α : Type} {F F' : Sg_zz α} (h : ∀ x0 k r, F' x0 k = some r → F x0 k = some r) {args : List SV} {k : SV → R α} {r : α} (hk : ad_zz F' args k = some r) : ad_zz F args k = some r := by
  unfold ad_zz at hk
  split at hk <;> try (cases hk; done)
  obtain ⟨x0, rfl, hk0⟩ := decI_spec hk
  have hkz := hk0
  exact h x0 _ _ hkz
abbrev Sg_z14 (α : Type) := GRBus → GState → Int → Int → Int → Int → Int → Bool → Bool → (GRBus → GDone → R α) → R α
@[reducible] def E_z14 : OShs (GRBus × GState × Int × Int × Int × Int × Int × Bool × Bool × Unit) := (.cons sh_RBus (.cons (.leaf Lf_GState) (.cons (.leaf (Lf_int .u64)) (.cons (.leaf (Lf_int .i64)) (.cons (.leaf (Lf_int .i64)) (.cons (.leaf (Lf_int .u64)) (.cons (.leaf (Lf_int .i64)) (.cons (.leaf Lf_bool) (.cons (.leaf Lf_bool) .nil)))))))))
@[reducible] def M_z14 : OShs (GRBus × Unit) := (.cons sh_RBus .nil)
@[reducible] def Q_z14 : OShs (GDone × Unit) := (.cons sh_Done .nil)
theorem E_z2k : E_z14.PlainP := ⟨plsh_RBus, trivial, trivial, trivial, trivial, trivial, trivial, trivial, trivial, trivial⟩
theorem M_z2k : M_z14.Plain := ⟨plsh_RBus, trivial⟩
theorem Q_z2k : Q_z14.Plain := ⟨plsh_Done, trivial⟩
def ad_z14 {α : Type} (F : Sg_z14 α) : FF α := adO E_z14 M_z14 Q_z14 true fun a k => F a.1 a.2.1 a.2.2.1 a.2.2.2.1 a.2.2.2.2.1 a.2.2.2.2.2.1 a.2.2.2.2.2.2.1 a.2.2.2.2.2.2.2.1 a.2.2.2.2.2.2.2.2.1 (fun y0 z0 => k (y0, ()) (z0, ()))
def p_z14 {α : Type} (F_z2 : Sg_z2 α) (F_zz : Sg_zz α) (F_zy : Sg_zy α) (F_zi : Sg_zi α) (F_zh : Sg_zh α) (x0 : GRBus) (x1 : GState) (x2 : Int) (x3 : Int) (x4 : Int) (x5 : Int) (x6 : Int) (x7 : Bool) (x8 : Bool) (k : GRBus → GDone → R α) : R α :=
  let b1 : Bool := (x3 != 1)
  cond b1 (
  let b2 : Bool := (x3 != 2)
  cond b2 (
  let b3 : Bool := (x3 != 4)
  cond b3 (
  let b4 : Bool := (x3 != 8)
  cond b4 (
  F_z2 x4 (fun r5 =>
  k (NR x0) (GDone.mk 0 (GFault.mk r5 x2 0 x7) false 0 (Row.mk 0 fun _ => 0)))) (
  let t6 : Int := (IntKind.u64.wrap x3)
  cond (decide (t6 = 0)) none (
  let t7 : Int := (Int.tmod x2 t6)
  let b8 : Bool := (t7 != 0)
  cond b8 (
  F_zz x4 (fun r9 =>
  k (NR x0) (GDone.mk 0 (GFault.mk r9 x2 0 x7) false 0 (Row.mk 0 fun _ => 0)))) (
  F_zy x0.m x1 x2 x4 x6 x7 x8 (fun r10 r11 r12 r13 nl14 n15 tf16 =>
  cond nl14 (
  let b17 : Bool := (!r13)
  cond b17 (
  k (NR x0) (GDone.mk 0 r12 false 0 (Row.mk 0 fun _ => 0))) (
  let b18 : Bool := (x4 == 0)
  cond b18 (
  let b19 : Bool := (!x0.bare)
  cond b19 (
  let b20 : Bool := (leB 61440 r10)
  cond b20 (
  let b21 : Bool := (ltB r10 62720)
  cond b21 (
  F_z2 x4 (fun r22 =>
  k (NR x0) (GDone.mk 0 (GFault.mk r22 x2 0 x7) false r10 (Row.mk 0 fun _ => 0)))) (
  let b23 : Bool := (x4 == 2)
  cond b23 (
  F_zi (NR x0) r10 x3 x5 (fun y24 r25 =>
  let b26 : Bool := (!r25)
  cond b26 (
  F_z2 x4 (fun r27 =>
  k (NR y24) (GDone.mk 0 (GFault.mk r27 x2 0 x7) false r10 (Row.mk 0 fun _ => 0)))) (
  k (NR y24) (GDone.mk 0 (GFault.mk 0 0 0 false) true r10 (Row.mk 0 fun _ => 0))))) (
  F_zh (NR x0) r10 x3 (fun y28 r29 r30 =>
  let b31 : Bool := (!r30)
  cond b31 (
  F_z2 x4 (fun r32 =>
  k (NR y28) (GDone.mk 0 (GFault.mk r32 x2 0 x7) false r10 (Row.mk 0 fun _ => 0)))) (
  k (NR y28) (GDone.mk r29 (GFault.mk 0 0 0 false) true r10 (Row.mk 0 fun _ => 0))))))) (
  let b33 : Bool := (x4 == 2)
  cond b33 (
  F_zi (NR x0) r10 x3 x5 (fun y34 r35 =>
  let b36 : Bool := (!r35)
  cond b36 (
  F_z2 x4 (fun r37 =>
  k (NR y34) (GDone.mk 0 (GFault.mk r37 x2 0 x7) false r10 (Row.mk 0 fun _ => 0)))) (
  k (NR y34) (GDone.mk 0 (GFault.mk 0 0 0 false) true r10 (Row.mk 0 fun _ => 0))))) (
  F_zh (NR x0) r10 x3 (fun y38 r39 r40 =>
  let b41 : Bool := (!r40)
  cond b41 (
  F_z2 x4 (fun r42 =>
  k (NR y38) (GDone.mk 0 (GFault.mk r42 x2 0 x7) false r10 (Row.mk 0 fun _ => 0)))) (
  k (NR y38) (GDone.mk r39 (GFault.mk 0 0 0 false) true r10 (Row.mk 0 fun _ => 0))))))) (
  let b43 : Bool := (x4 == 2)
  cond b43 (
  F_zi (NR x0) r10 x3 x5 (fun y44 r45 =>
  let b46 : Bool := (!r45)
  cond b46 (
  F_z2 x4 (fun r47 =>
  k (NR y44) (GDone.mk 0 (GFault.mk r47 x2 0 x7) false r10 (Row.mk 0 fun _ => 0)))) (
  k (NR y44) (GDone.mk 0 (GFault.mk 0 0 0 false) true r10 (Row.mk 0 fun _ => 0))))) (
  F_zh (NR x0) r10 x3 (fun y48 r49 r50 =>
  let b51 : Bool := (!r50)
  cond b51 (
  F_z2 x4 (fun r52 =>
  k (NR y48) (GDone.mk 0 (GFault.mk r52 x2 0 x7) false r10 (Row.mk 0 fun _ => 0)))) (
  k (NR y48) (GDone.mk r49 (GFault.mk 0 0 0 false) true r10 (Row.mk 0 fun _ => 0))))))) (
  let b53 : Bool := (x4 == 2)
  cond b53 (
  F_zi (NR x0) r10 x3 x5 (fun y54 r55 =>
  let b56 : Bool := (!r55)
  cond b56 (
  F_z2 x4 (fun r57 =>
  k (NR y54) (GDone.mk 0 (GFault.mk r57 x2 0 x7) false r10 (Row.mk 0 fun _ => 0)))) (
  k (NR y54) (GDone.mk 0 (GFault.mk 0 0 0 false) true r10 (Row.mk 0 fun _ => 0))))) (
  F_zh (NR x0) r10 x3 (fun y58 r59 r60 =>
  let b61 : Bool := (!r60)
  cond b61 (
  F_z2 x4 (fun r62 =>
  k (NR y58) (GDone.mk 0 (GFault.mk r62 x2 0 x7) false r10 (Row.mk 0 fun _ => 0)))) (
  k (NR y58) (GDone.mk r59 (GFault.mk 0 0 0 false) true r10 (Row.mk 0 fun _ => 0)))))))) (
  let b63 : Bool := (!r13)
  cond b63 (
  gP n15 n15 (k (NR x0) (GDone.mk 0 r12 false 0 (Row.mk n15 tf16)))) (
  let b64 : Bool := (x4 == 0)
  cond b64 (
  let b65 : Bool := (!x0.bare)
  cond b65 (
  let b66 : Bool := (leB 61440 r10)
  cond b66 (
  let b67 : Bool := (ltB r10 62720)
  cond b67 (
  F_z2 x4 (fun r68 =>
  gP n15 n15 (k (NR x0) (GDone.mk 0 (GFault.mk r68 x2 0 x7) false r10 (Row.mk n15 tf16))))) (
  let b69 : Bool := (x4 == 2)
  cond b69 (
  F_zi (NR x0) r10 x3 x5 (fun y70 r71 =>
  let b72 : Bool := (!r71)
  cond b72 (
  F_z2 x4 (fun r73 =>
  gP n15 n15 (k (NR y70) (GDone.mk 0 (GFault.mk r73 x2 0 x7) false r10 (Row.mk n15 tf16))))) (
  gP n15 n15 (k (NR y70) (GDone.mk 0 (GFault.mk 0 0 0 false) true r10 (Row.mk n15 tf16)))))) (
  F_zh (NR x0) r10 x3 (fun y74 r75 r76 =>
  let b77 : Bool := (!r76)
  cond b77 (
  F_z2 x4 (fun r78 =>
  gP n15 n15 (k (NR y74) (GDone.mk 0 (GFault.mk r78 x2 0 x7) false r10 (Row.mk n15 tf16))))) (
  gP n15 n15 (k (NR y74) (GDone.mk r75 (GFault.mk 0 0 0 false) true r10 (Row.mk n15 tf16)))))))) (
  let b79 : Bool := (x4 == 2)
  cond b79 (
  F_zi (NR x0) r10 x3 x5 (fun y80 r81 =>
  let b82 : Bool := (!r81)
  cond b82 (
  F_z2 x4 (fun r83 =>
  gP n15 n15 (k (NR y80) (GDone.mk 0 (GFault.mk r83 x2 0 x7) false r10 (Row.mk n15 tf16))))) (
  gP n15 n15 (k (NR y80) (GDone.mk 0 (GFault.mk 0 0 0 false) true r10 (Row.mk n15 tf16)))))) (
  F_zh (NR x0) r10 x3 (fun y84 r85 r86 =>
  let b87 : Bool := (!r86)
  cond b87 (
  F_z2 x4 (fun r88 =>
  gP n15 n15 (k (NR y84) (GDone.mk 0 (GFault.mk r88 x2 0 x7) false r10 (Row.mk n15 tf16))))) (
  gP n15 n15 (k (NR y84) (GDone.mk r85 (GFault.mk 0 0 0 false) true r10 (Row.mk n15 tf16)))))))) (
  let b89 : Bool := (x4 == 2)
  cond b89 (
  F_zi (NR x0) r10 x3 x5 (fun y90 r91 =>
  let b92 : Bool := (!r91)
  cond b92 (
  F_z2 x4 (fun r93 =>
  gP n15 n15 (k (NR y90) (GDone.mk 0 (GFault.mk r93 x2 0 x7) false r10 (Row.mk n15 tf16))))) (
  gP n15 n15 (k (NR y90) (GDone.mk 0 (GFault.mk 0 0 0 false) true r10 (Row.mk n15 tf16)))))) (
  F_zh (NR x0) r10 x3 (fun y94 r95 r96 =>
  let b97 : Bool := (!r96)
  cond b97 (
  F_z2 x4 (fun r98 =>
  gP n15 n15 (k (NR y94) (GDone.mk 0 (GFault.mk r98 x2 0 x7) false r10 (Row.mk n15 tf16))))) (
  gP n15 n15 (k (NR y94) (GDone.mk r95 (GFault.mk 0 0 0 false) true r10 (Row.mk n15 tf16)))))))) (
  let b99 : Bool := (x4 == 2)
  cond b99 (
  F_zi (NR x0) r10 x3 x5 (fun y100 r101 =>
  let b102 : Bool := (!r101)
  cond b102 (
  F_z2 x4 (fun r103 =>
  gP n15 n15 (k (NR y100) (GDone.mk 0 (GFault.mk r103 x2 0 x7) false r10 (Row.mk n15 tf16))))) (
  gP n15 n15 (k (NR y100) (GDone.mk 0 (GFault.mk 0 0 0 false) true r10 (Row.mk n15 tf16)))))) (
  F_zh (NR x0) r10 x3 (fun y104 r105 r106 =>
  let b107 : Bool := (!r106)
  cond b107 (
  F_z2 x4 (fun r108 =>
  gP n15 n15 (k (NR y104) (GDone.mk 0 (GFault.mk r108 x2 0 x7) false r10 (Row.mk n15 tf16))))) (
  gP n15 n15 (k (NR y104) (GDone.mk r105 (GFault.mk 0 0 0 false) true r10 (Row.mk n15 tf16)))))))))))))) (
  let t109 : Int := (IntKind.u64.wrap x3)
  cond (decide (t109 = 0)) none (
  let t110 : Int := (Int.tmod x2 t109)
  let b111 : Bool := (t110 != 0)
  cond b111 (
  F_zz x4 (fun r112 =>
  k (NR x0) (GDone.mk 0 (GFault.mk r112 x2 0 x7) false 0 (Row.mk 0 fun _ => 0)))) (
  F_zy x0.m x1 x2 x4 x6 x7 x8 (fun r113 r114 r115 r116 nl117 n118 tf119 =>
  cond nl117 (
  let b120 : Bool := (!r116)
  cond b120 (
  k (NR x0) (GDone.mk 0 r115 false 0 (Row.mk 0 fun _ => 0))) (
  let b121 : Bool := (x4 == 0)
  cond b121 (
  let b122 : Bool := (!x0.bare)
  cond b122 (
  let b123 : Bool := (leB 61440 r113)
  cond b123 (
  let b124 : Bool := (ltB r113 62720)
  cond b124 (
  F_z2 x4 (fun r125 =>
  k (NR x0) (GDone.mk 0 (GFault.mk r125 x2 0 x7) false r113 (Row.mk 0 fun _ => 0)))) (
  let b126 : Bool := (x4 == 2)
  cond b126 (
  F_zi (NR x0) r113 x3 x5 (fun y127 r128 =>
  let b129 : Bool := (!r128)
  cond b129 (
  F_z2 x4 (fun r130 =>
  k (NR y127) (GDone.mk 0 (GFault.mk r130 x2 0 x7) false r113 (Row.mk 0 fun _ => 0)))) (
  k (NR y127) (GDone.mk 0 (GFault.mk 0 0 0 false) true r113 (Row.mk 0 fun _ => 0))))) (
  F_zh (NR x0) r113 x3 (fun y131 r132 r133 =>
  let b134 : Bool := (!r133)
  cond b134 (
  F_z2 x4 (fun r135 =>
  k (NR y131) (GDone.mk 0 (GFault.mk r135 x2 0 x7) false r113 (Row.mk 0 fun _ => 0)))) (
  k (NR y131) (GDone.mk r132 (GFault.mk 0 0 0 false) true r113 (Row.mk 0 fun _ => 0))))))) (
  let b136 : Bool := (x4 == 2)
  cond b136 (
  F_zi (NR x0) r113 x3 x5 (fun y137 r138 =>
  let b139 : Bool := (!r138)
  cond b139 (
  F_z2 x4 (fun r140 =>
  k (NR y137) (GDone.mk 0 (GFault.mk r140 x2 0 x7) false r113 (Row.mk 0 fun _ => 0)))) (
  k (NR y137) (GDone.mk 0 (GFault.mk 0 0 0 false) true r113 (Row.mk 0 fun _ => 0))))) (
  F_zh (NR x0) r113 x3 (fun y141 r142 r143 =>
  let b144 : Bool := (!r143)
  cond b144 (
  F_z2 x4 (fun r145 =>
  k (NR y141) (GDone.mk 0 (GFault.mk r145 x2 0 x7) false r113 (Row.mk 0 fun _ => 0)))) (
  k (NR y141) (GDone.mk r142 (GFault.mk 0 0 0 false) true r113 (Row.mk 0 fun _ => 0))))))) (
  let b146 : Bool := (x4 == 2)
  cond b146 (
  F_zi (NR x0) r113 x3 x5 (fun y147 r148 =>
  let b149 : Bool := (!r148)
  cond b149 (
  F_z2 x4 (fun r150 =>
  k (NR y147) (GDone.mk 0 (GFault.mk r150 x2 0 x7) false r113 (Row.mk 0 fun _ => 0)))) (
  k (NR y147) (GDone.mk 0 (GFault.mk 0 0 0 false) true r113 (Row.mk 0 fun _ => 0))))) (
  F_zh (NR x0) r113 x3 (fun y151 r152 r153 =>
  let b154 : Bool := (!r153)
  cond b154 (
  F_z2 x4 (fun r155 =>
  k (NR y151) (GDone.mk 0 (GFault.mk r155 x2 0 x7) false r113 (Row.mk 0 fun _ => 0)))) (
  k (NR y151) (GDone.mk r152 (GFault.mk 0 0 0 false) true r113 (Row.mk 0 fun _ => 0))))))) (
  let b156 : Bool := (x4 == 2)
  cond b156 (
  F_zi (NR x0) r113 x3 x5 (fun y157 r158 =>
  let b159 : Bool := (!r158)
  cond b159 (
  F_z2 x4 (fun r160 =>
  k (NR y157) (GDone.mk 0 (GFault.mk r160 x2 0 x7) false r113 (Row.mk 0 fun _ => 0)))) (
  k (NR y157) (GDone.mk 0 (GFault.mk 0 0 0 false) true r113 (Row.mk 0 fun _ => 0))))) (
  F_zh (NR x0) r113 x3 (fun y161 r162 r163 =>
  let b164 : Bool := (!r163)
  cond b164 (
  F_z2 x4 (fun r165 =>
  k (NR y161) (GDone.mk 0 (GFault.mk r165 x2 0 x7) false r113 (Row.mk 0 fun _ => 0)))) (
  k (NR y161) (GDone.mk r162 (GFault.mk 0 0 0 false) true r113 (Row.mk 0 fun _ => 0)))))))) (
  let b166 : Bool := (!r116)
  cond b166 (
  gP n118 n118 (k (NR x0) (GDone.mk 0 r115 false 0 (Row.mk n118 tf119)))) (
  let b167 : Bool := (x4 == 0)
  cond b167 (
  let b168 : Bool := (!x0.bare)
  cond b168 (
  let b169 : Bool := (leB 61440 r113)
  cond b169 (
  let b170 : Bool := (ltB r113 62720)
  cond b170 (
  F_z2 x4 (fun r171 =>
  gP n118 n118 (k (NR x0) (GDone.mk 0 (GFault.mk r171 x2 0 x7) false r113 (Row.mk n118 tf119))))) (
  let b172 : Bool := (x4 == 2)
  cond b172 (
  F_zi (NR x0) r113 x3 x5 (fun y173 r174 =>
  let b175 : Bool := (!r174)
  cond b175 (
  F_z2 x4 (fun r176 =>
  gP n118 n118 (k (NR y173) (GDone.mk 0 (GFault.mk r176 x2 0 x7) false r113 (Row.mk n118 tf119))))) (
  gP n118 n118 (k (NR y173) (GDone.mk 0 (GFault.mk 0 0 0 false) true r113 (Row.mk n118 tf119)))))) (
  F_zh (NR x0) r113 x3 (fun y177 r178 r179 =>
  let b180 : Bool := (!r179)
  cond b180 (
  F_z2 x4 (fun r181 =>
  gP n118 n118 (k (NR y177) (GDone.mk 0 (GFault.mk r181 x2 0 x7) false r113 (Row.mk n118 tf119))))) (
  gP n118 n118 (k (NR y177) (GDone.mk r178 (GFault.mk 0 0 0 false) true r113 (Row.mk n118 tf119)))))))) (
  let b182 : Bool := (x4 == 2)
  cond b182 (
  F_zi (NR x0) r113 x3 x5 (fun y183 r184 =>
  let b185 : Bool := (!r184)
  cond b185 (
  F_z2 x4 (fun r186 =>
  gP n118 n118 (k (NR y183) (GDone.mk 0 (GFault.mk r186 x2 0 x7) false r113 (Row.mk n118 tf119))))) (
  gP n118 n118 (k (NR y183) (GDone.mk 0 (GFault.mk 0 0 0 false) true r113 (Row.mk n118 tf119)))))) (
  F_zh (NR x0) r113 x3 (fun y187 r188 r189 =>
  let b190 : Bool := (!r189)
  cond b190 (
  F_z2 x4 (fun r191 =>
  gP n118 n118 (k (NR y187) (GDone.mk 0 (GFault.mk r191 x2 0 x7) false r113 (Row.mk n118 tf119))))) (
  gP n118 n118 (k (NR y187) (GDone.mk r188 (GFault.mk 0 0 0 false) true r113 (Row.mk n118 tf119)))))))) (
  let b192 : Bool := (x4 == 2)
  cond b192 (
  F_zi (NR x0) r113 x3 x5 (fun y193 r194 =>
  let b195 : Bool := (!r194)
  cond b195 (
  F_z2 x4 (fun r196 =>
  gP n118 n118 (k (NR y193) (GDone.mk 0 (GFault.mk r196 x2 0 x7) false r113 (Row.mk n118 tf119))))) (
  gP n118 n118 (k (NR y193) (GDone.mk 0 (GFault.mk 0 0 0 false) true r113 (Row.mk n118 tf119)))))) (
  F_zh (NR x0) r113 x3 (fun y197 r198 r199 =>
  let b200 : Bool := (!r199)
  cond b200 (
  F_z2 x4 (fun r201 =>
  gP n118 n118 (k (NR y197) (GDone.mk 0 (GFault.mk r201 x2 0 x7) false r113 (Row.mk n118 tf119))))) (
  gP n118 n118 (k (NR y197) (GDone.mk r198 (GFault.mk 0 0 0 false) true r113 (Row.mk n118 tf119)))))))) (
  let b202 : Bool := (x4 == 2)
  cond b202 (
  F_zi (NR x0) r113 x3 x5 (fun y203 r204 =>
  let b205 : Bool := (!r204)
  cond b205 (
  F_z2 x4 (fun r206 =>
  gP n118 n118 (k (NR y203) (GDone.mk 0 (GFault.mk r206 x2 0 x7) false r113 (Row.mk n118 tf119))))) (
  gP n118 n118 (k (NR y203) (GDone.mk 0 (GFault.mk 0 0 0 false) true r113 (Row.mk n118 tf119)))))) (
  F_zh (NR x0) r113 x3 (fun y207 r208 r209 =>
  let b210 : Bool := (!r209)
  cond b210 (
  F_z2 x4 (fun r211 =>
  gP n118 n118 (k (NR y207) (GDone.mk 0 (GFault.mk r211 x2 0 x7) false r113 (Row.mk n118 tf119))))) (
  gP n118 n118 (k (NR y207) (GDone.mk r208 (GFault.mk 0 0 0 false) true r113 (Row.mk n118 tf119)))))))))))))) (
  let t212 : Int := (IntKind.u64.wrap x3)
  cond (decide (t212 = 0)) none (
  let t213 : Int := (Int.tmod x2 t212)
  let b214 : Bool := (t213 != 0)
  cond b214 (
  F_zz x4 (fun r215 =>
  k (NR x0) (GDone.mk 0 (GFault.mk r215 x2 0 x7) false 0 (Row.mk 0 fun _ => 0)))) (
  F_zy x0.m x1 x2 x4 x6 x7 x8 (fun r216 r217 r218 r219 nl220 n221 tf222 =>
  cond nl220 (
  let b223 : Bool := (!r219)
  cond b223 (
  k (NR x0) (GDone.mk 0 r218 false 0 (Row.mk 0 fun _ => 0))) (
  let b224 : Bool := (x4 == 0)
  cond b224 (
  let b225 : Bool := (!x0.bare)
  cond b225 (
  let b226 : Bool := (leB 61440 r216)
  cond b226 (
  let b227 : Bool := (ltB r216 62720)
  cond b227 (
  F_z2 x4 (fun r228 =>
  k (NR x0) (GDone.mk 0 (GFault.mk r228 x2 0 x7) false r216 (Row.mk 0 fun _ => 0)))) (
  let b229 : Bool := (x4 == 2)
  cond b229 (
  F_zi (NR x0) r216 x3 x5 (fun y230 r231 =>
  let b232 : Bool := (!r231)
  cond b232 (
  F_z2 x4 (fun r233 =>
  k (NR y230) (GDone.mk 0 (GFault.mk r233 x2 0 x7) false r216 (Row.mk 0 fun _ => 0)))) (
  k (NR y230) (GDone.mk 0 (GFault.mk 0 0 0 false) true r216 (Row.mk 0 fun _ => 0))))) (
  F_zh (NR x0) r216 x3 (fun y234 r235 r236 =>
  let b237 : Bool := (!r236)
  cond b237 (
  F_z2 x4 (fun r238 =>
  k (NR y234) (GDone.mk 0 (GFault.mk r238 x2 0 x7) false r216 (Row.mk 0 fun _ => 0)))) (
  k (NR y234) (GDone.mk r235 (GFault.mk 0 0 0 false) true r216 (Row.mk 0 fun _ => 0))))))) (
  let b239 : Bool := (x4 == 2)
  cond b239 (
  F_zi (NR x0) r216 x3 x5 (fun y240 r241 =>
  let b242 : Bool := (!r241)
  cond b242 (
  F_z2 x4 (fun r243 =>
  k (NR y240) (GDone.mk 0 (GFault.mk r243 x2 0 x7) false r216 (Row.mk 0 fun _ => 0)))) (
  k (NR y240) (GDone.mk 0 (GFault.mk 0 0 0 false) true r216 (Row.mk 0 fun _ => 0))))) (
  F_zh (NR x0) r216 x3 (fun y244 r245 r246 =>
  let b247 : Bool := (!r246)
  cond b247 (
  F_z2 x4 (fun r248 =>
  k (NR y244) (GDone.mk 0 (GFault.mk r248 x2 0 x7) false r216 (Row.mk 0 fun _ => 0)))) (
  k (NR y244) (GDone.mk r245 (GFault.mk 0 0 0 false) true r216 (Row.mk 0 fun _ => 0))))))) (
  let b249 : Bool := (x4 == 2)
  cond b249 (
  F_zi (NR x0) r216 x3 x5 (fun y250 r251 =>
  let b252 : Bool := (!r251)
  cond b252 (
  F_z2 x4 (fun r253 =>
  k (NR y250) (GDone.mk 0 (GFault.mk r253 x2 0 x7) false r216 (Row.mk 0 fun _ => 0)))) (
  k (NR y250) (GDone.mk 0 (GFault.mk 0 0 0 false) true r216 (Row.mk 0 fun _ => 0))))) (
  F_zh (NR x0) r216 x3 (fun y254 r255 r256 =>
  let b257 : Bool := (!r256)
  cond b257 (
  F_z2 x4 (fun r258 =>
  k (NR y254) (GDone.mk 0 (GFault.mk r258 x2 0 x7) false r216 (Row.mk 0 fun _ => 0)))) (
  k (NR y254) (GDone.mk r255 (GFault.mk 0 0 0 false) true r216 (Row.mk 0 fun _ => 0))))))) (
  let b259 : Bool := (x4 == 2)
  cond b259 (
  F_zi (NR x0) r216 x3 x5 (fun y260 r261 =>
  let b262 : Bool := (!r261)
  cond b262 (
  F_z2 x4 (fun r263 =>
  k (NR y260) (GDone.mk 0 (GFault.mk r263 x2 0 x7) false r216 (Row.mk 0 fun _ => 0)))) (
  k (NR y260) (GDone.mk 0 (GFault.mk 0 0 0 false) true r216 (Row.mk 0 fun _ => 0))))) (
  F_zh (NR x0) r216 x3 (fun y264 r265 r266 =>
  let b267 : Bool := (!r266)
  cond b267 (
  F_z2 x4 (fun r268 =>
  k (NR y264) (GDone.mk 0 (GFault.mk r268 x2 0 x7) false r216 (Row.mk 0 fun _ => 0)))) (
  k (NR y264) (GDone.mk r265 (GFault.mk 0 0 0 false) true r216 (Row.mk 0 fun _ => 0)))))))) (
  let b269 : Bool := (!r219)
  cond b269 (
  gP n221 n221 (k (NR x0) (GDone.mk 0 r218 false 0 (Row.mk n221 tf222)))) (
  let b270 : Bool := (x4 == 0)
  cond b270 (
  let b271 : Bool := (!x0.bare)
  cond b271 (
  let b272 : Bool := (leB 61440 r216)
  cond b272 (
  let b273 : Bool := (ltB r216 62720)
  cond b273 (
  F_z2 x4 (fun r274 =>
  gP n221 n221 (k (NR x0) (GDone.mk 0 (GFault.mk r274 x2 0 x7) false r216 (Row.mk n221 tf222))))) (
  let b275 : Bool := (x4 == 2)
  cond b275 (
  F_zi (NR x0) r216 x3 x5 (fun y276 r277 =>
  let b278 : Bool := (!r277)
  cond b278 (
  F_z2 x4 (fun r279 =>
  gP n221 n221 (k (NR y276) (GDone.mk 0 (GFault.mk r279 x2 0 x7) false r216 (Row.mk n221 tf222))))) (
  gP n221 n221 (k (NR y276) (GDone.mk 0 (GFault.mk 0 0 0 false) true r216 (Row.mk n221 tf222)))))) (
  F_zh (NR x0) r216 x3 (fun y280 r281 r282 =>
  let b283 : Bool := (!r282)
  cond b283 (
  F_z2 x4 (fun r284 =>
  gP n221 n221 (k (NR y280) (GDone.mk 0 (GFault.mk r284 x2 0 x7) false r216 (Row.mk n221 tf222))))) (
  gP n221 n221 (k (NR y280) (GDone.mk r281 (GFault.mk 0 0 0 false) true r216 (Row.mk n221 tf222)))))))) (
  let b285 : Bool := (x4 == 2)
  cond b285 (
  F_zi (NR x0) r216 x3 x5 (fun y286 r287 =>
  let b288 : Bool := (!r287)
  cond b288 (
  F_z2 x4 (fun r289 =>
  gP n221 n221 (k (NR y286) (GDone.mk 0 (GFault.mk r289 x2 0 x7) false r216 (Row.mk n221 tf222))))) (
  gP n221 n221 (k (NR y286) (GDone.mk 0 (GFault.mk 0 0 0 false) true r216 (Row.mk n221 tf222)))))) (
  F_zh (NR x0) r216 x3 (fun y290 r291 r292 =>
  let b293 : Bool := (!r292)
  cond b293 (
  F_z2 x4 (fun r294 =>
  gP n221 n221 (k (NR y290) (GDone.mk 0 (GFault.mk r294 x2 0 x7) false r216 (Row.mk n221 tf222))))) (
  gP n221 n221 (k (NR y290) (GDone.mk r291 (GFault.mk 0 0 0 false) true r216 (Row.mk n221 tf222)))))))) (
  let b295 : Bool := (x4 == 2)
  cond b295 (
  F_zi (NR x0) r216 x3 x5 (fun y296 r297 =>
  let b298 : Bool := (!r297)
  cond b298 (
  F_z2 x4 (fun r299 =>
  gP n221 n221 (k (NR y296) (GDone.mk 0 (GFault.mk r299 x2 0 x7) false r216 (Row.mk n221 tf222))))) (
  gP n221 n221 (k (NR y296) (GDone.mk 0 (GFault.mk 0 0 0 false) true r216 (Row.mk n221 tf222)))))) (
  F_zh (NR x0) r216 x3 (fun y300 r301 r302 =>
  let b303 : Bool := (!r302)
  cond b303 (
  F_z2 x4 (fun r304 =>
  gP n221 n221 (k (NR y300) (GDone.mk 0 (GFault.mk r304 x2 0 x7) false r216 (Row.mk n221 tf222))))) (
  gP n221 n221 (k (NR y300) (GDone.mk r301 (GFault.mk 0 0 0 false) true r216 (Row.mk n221 tf222)))))))) (
  let b305 : Bool := (x4 == 2)
  cond b305 (
  F_zi (NR x0) r216 x3 x5 (fun y306 r307 =>
  let b308 : Bool := (!r307)
  cond b308 (
  F_z2 x4 (fun r309 =>
  gP n221 n221 (k (NR y306) (GDone.mk 0 (GFault.mk r309 x2 0 x7) false r216 (Row.mk n221 tf222))))) (
  gP n221 n221 (k (NR y306) (GDone.mk 0 (GFault.mk 0 0 0 false) true r216 (Row.mk n221 tf222)))))) (
  F_zh (NR x0) r216 x3 (fun y310 r311 r312 =>
  let b313 : Bool := (!r312)
  cond b313 (
  F_z2 x4 (fun r314 =>
  gP n221 n221 (k (NR y310) (GDone.mk 0 (GFault.mk r314 x2 0 x7) false r216 (Row.mk n221 tf222))))) (
  gP n221 n221 (k (NR y310) (GDone.mk r311 (GFault.mk 0 0 0 false) true r216 (Row.mk n221 tf222)))))))))))))) (
  let t315 : Int := (IntKind.u64.wrap x3)
  cond (decide (t315 = 0)) none (
  let t316 : Int := (Int.tmod x2 t315)
  let b317 : Bool := (t316 != 0)
  cond b317 (
  F_zz x4 (fun r318 =>
  k (NR x0) (GDone.mk 0 (GFault.mk r318 x2 0 x7) false 0 (Row.mk 0 fun _ => 0)))) (
  F_zy x0.m x1 x2 x4 x6 x7 x8 (fun r319 r320 r321 r322 nl323 n324 tf325 =>
  cond nl323 (
  let b326 : Bool := (!r322)
  cond b326 (
  k (NR x0) (GDone.mk 0 r321 false 0 (Row.mk 0 fun _ => 0))) (
  let b327 : Bool := (x4 == 0)
  cond b327 (
  let b328 : Bool := (!x0.bare)
  cond b328 (
  let b329 : Bool := (leB 61440 r319)
  cond b329 (
  let b330 : Bool := (ltB r319 62720)
  cond b330 (
  F_z2 x4 (fun r331 =>
  k (NR x0) (GDone.mk 0 (GFault.mk r331 x2 0 x7) false r319 (Row.mk 0 fun _ => 0)))) (
  let b332 : Bool := (x4 == 2)
  cond b332 (
  F_zi (NR x0) r319 x3 x5 (fun y333 r334 =>
  let b335 : Bool := (!r334)
  cond b335 (
  F_z2 x4 (fun r336 =>
  k (NR y333) (GDone.mk 0 (GFault.mk r336 x2 0 x7) false r319 (Row.mk 0 fun _ => 0)))) (
  k (NR y333) (GDone.mk 0 (GFault.mk 0 0 0 false) true r319 (Row.mk 0 fun _ => 0))))) (
  F_zh (NR x0) r319 x3 (fun y337 r338 r339 =>
  let b340 : Bool := (!r339)
  cond b340 (
  F_z2 x4 (fun r341 =>
  k (NR y337) (GDone.mk 0 (GFault.mk r341 x2 0 x7) false r319 (Row.mk 0 fun _ => 0)))) (
  k (NR y337) (GDone.mk r338 (GFault.mk 0 0 0 false) true r319 (Row.mk 0 fun _ => 0))))))) (
  let b342 : Bool := (x4 == 2)
  cond b342 (
  F_zi (NR x0) r319 x3 x5 (fun y343 r344 =>
  let b345 : Bool := (!r344)
  cond b345 (
  F_z2 x4 (fun r346 =>
  k (NR y343) (GDone.mk 0 (GFault.mk r346 x2 0 x7) false r319 (Row.mk 0 fun _ => 0)))) (
  k (NR y343) (GDone.mk 0 (GFault.mk 0 0 0 false) true r319 (Row.mk 0 fun _ => 0))))) (
  F_zh (NR x0) r319 x3 (fun y347 r348 r349 =>
  let b350 : Bool := (!r349)
  cond b350 (
  F_z2 x4 (fun r351 =>
  k (NR y347) (GDone.mk 0 (GFault.mk r351 x2 0 x7) false r319 (Row.mk 0 fun _ => 0)))) (
  k (NR y347) (GDone.mk r348 (GFault.mk 0 0 0 false) true r319 (Row.mk 0 fun _ => 0))))))) (
  let b352 : Bool := (x4 == 2)
  cond b352 (
  F_zi (NR x0) r319 x3 x5 (fun y353 r354 =>
  let b355 : Bool := (!r354)
  cond b355 (
  F_z2 x4 (fun r356 =>
  k (NR y353) (GDone.mk 0 (GFault.mk r356 x2 0 x7) false r319 (Row.mk 0 fun _ => 0)))) (
  k (NR y353) (GDone.mk 0 (GFault.mk 0 0 0 false) true r319 (Row.mk 0 fun _ => 0))))) (
  F_zh (NR x0) r319 x3 (fun y357 r358 r359 =>
  let b360 : Bool := (!r359)
  cond b360 (
  F_z2 x4 (fun r361 =>
  k (NR y357) (GDone.mk 0 (GFault.mk r361 x2 0 x7) false r319 (Row.mk 0 fun _ => 0)))) (
  k (NR y357) (GDone.mk r358 (GFault.mk 0 0 0 false) true r319 (Row.mk 0 fun _ => 0))))))) (
  let b362 : Bool := (x4 == 2)
  cond b362 (
  F_zi (NR x0) r319 x3 x5 (fun y363 r364 =>
  let b365 : Bool := (!r364)
  cond b365 (
  F_z2 x4 (fun r366 =>
  k (NR y363) (GDone.mk 0 (GFault.mk r366 x2 0 x7) false r319 (Row.mk 0 fun _ => 0)))) (
  k (NR y363) (GDone.mk 0 (GFault.mk 0 0 0 false) true r319 (Row.mk 0 fun _ => 0))))) (
  F_zh (NR x0) r319 x3 (fun y367 r368 r369 =>
  let b370 : Bool := (!r369)
  cond b370 (
  F_z2 x4 (fun r371 =>
  k (NR y367) (GDone.mk 0 (GFault.mk r371 x2 0 x7) false r319 (Row.mk 0 fun _ => 0)))) (
  k (NR y367) (GDone.mk r368 (GFault.mk 0 0 0 false) true r319 (Row.mk 0 fun _ => 0)))))))) (
  let b372 : Bool := (!r322)
  cond b372 (
  gP n324 n324 (k (NR x0) (GDone.mk 0 r321 false 0 (Row.mk n324 tf325)))) (
  let b373 : Bool := (x4 == 0)
  cond b373 (
  let b374 : Bool := (!x0.bare)
  cond b374 (
  let b375 : Bool := (leB 61440 r319)
  cond b375 (
  let b376 : Bool := (ltB r319 62720)
  cond b376 (
  F_z2 x4 (fun r377 =>
  gP n324 n324 (k (NR x0) (GDone.mk 0 (GFault.mk r377 x2 0 x7) false r319 (Row.mk n324 tf325))))) (
  let b378 : Bool := (x4 == 2)
  cond b378 (
  F_zi (NR x0) r319 x3 x5 (fun y379 r380 =>
  let b381 : Bool := (!r380)
  cond b381 (
  F_z2 x4 (fun r382 =>
  gP n324 n324 (k (NR y379) (GDone.mk 0 (GFault.mk r382 x2 0 x7) false r319 (Row.mk n324 tf325))))) (
  gP n324 n324 (k (NR y379) (GDone.mk 0 (GFault.mk 0 0 0 false) true r319 (Row.mk n324 tf325)))))) (
  F_zh (NR x0) r319 x3 (fun y383 r384 r385 =>
  let b386 : Bool := (!r385)
  cond b386 (
  F_z2 x4 (fun r387 =>
  gP n324 n324 (k (NR y383) (GDone.mk 0 (GFault.mk r387 x2 0 x7) false r319 (Row.mk n324 tf325))))) (
  gP n324 n324 (k (NR y383) (GDone.mk r384 (GFault.mk 0 0 0 false) true r319 (Row.mk n324 tf325)))))))) (
  let b388 : Bool := (x4 == 2)
  cond b388 (
  F_zi (NR x0) r319 x3 x5 (fun y389 r390 =>
  let b391 : Bool := (!r390)
  cond b391 (
  F_z2 x4 (fun r392 =>
  gP n324 n324 (k (NR y389) (GDone.mk 0 (GFault.mk r392 x2 0 x7) false r319 (Row.mk n324 tf325))))) (
  gP n324 n324 (k (NR y389) (GDone.mk 0 (GFault.mk 0 0 0 false) true r319 (Row.mk n324 tf325)))))) (
  F_zh (NR x0) r319 x3 (fun y393 r394 r395 =>
  let b396 : Bool := (!r395)
  cond b396 (
  F_z2 x4 (fun r397 =>
  gP n324 n324 (k (NR y393) (GDone.mk 0 (GFault.mk r397 x2 0 x7) false r319 (Row.mk n324 tf325))))) (
  gP n324 n324 (k (NR y393) (GDone.mk r394 (GFault.mk 0 0 0 false) true r319 (Row.mk n324 tf325)))))))) (
  let b398 : Bool := (x4 == 2)
  cond b398 (
  F_zi (NR x0) r319 x3 x5 (fun y399 r400 =>
  let b401 : Bool := (!r400)
  cond b401 (
  F_z2 x4 (fun r402 =>
  gP n324 n324 (k (NR y399) (GDone.mk 0 (GFault.mk r402 x2 0 x7) false r319 (Row.mk n324 tf325))))) (
  gP n324 n324 (k (NR y399) (GDone.mk 0 (GFault.mk 0 0 0 false) true r319 (Row.mk n324 tf325)))))) (
  F_zh (NR x0) r319 x3 (fun y403 r404 r405 =>
  let b406 : Bool := (!r405)
  cond b406 (
  F_z2 x4 (fun r407 =>
  gP n324 n324 (k (NR y403) (GDone.mk 0 (GFault.mk r407 x2 0 x7) false r319 (Row.mk n324 tf325))))) (
  gP n324 n324 (k (NR y403) (GDone.mk r404 (GFault.mk 0 0 0 false) true r319 (Row.mk n324 tf325)))))))) (
  let b408 : Bool := (x4 == 2)
  cond b408 (
  F_zi (NR x0) r319 x3 x5 (fun y409 r410 =>
  let b411 : Bool := (!r410)
  cond b411 (
  F_z2 x4 (fun r412 =>
  gP n324 n324 (k (NR y409) (GDone.mk 0 (GFault.mk r412 x2 0 x7) false r319 (Row.mk n324 tf325))))) (
  gP n324 n324 (k (NR y409) (GDone.mk 0 (GFault.mk 0 0 0 false) true r319 (Row.mk n324 tf325)))))) (
  F_zh (NR x0) r319 x3 (fun y413 r414 r415 =>
  let b416 : Bool := (!r415)
  cond b416 (
  F_z2 x4 (fun r417 =>
  gP n324 n324 (k (NR y413) (GDone.mk 0 (GFault.mk r417 x2 0 x7) false r319 (Row.mk n324 tf325))))) (
  gP n324 n324 (k (NR y413) (GDone.mk r414 (GFault.mk 0 0 0 false) true r319 (Row.mk n324 tf325)))))))))))))
structure S_z3 where
  v0 : (Bool × Addr × Nat × Nat × (Nat → (Int × Int × Unit)))
  v1 : Int
  v2 : (Nat → Int)
  v3 : (Nat → Int)
def E_z3 (s : S_z3) : Env := [(0, .vslc (.st [(.int .u64), (.int .u64)]) s.v0.1 s.v0.2.1 s.v0.2.2.1 s.v0.2.2.2.1 s.v0.2.2.2.2), (4, .ptr 0 []), (5, .ptr 1 []), (6, .int .i64 s.v1)]
def OS_z3 (s : S_z3) : List SObj := [.cells none (.agg [(.slc 2 [] 1 0 32768 (some 32768))]), .cells none (.agg [(.slc 3 [] 1 0 32768 (some 32768))]), .cells none (.ints .u8 32768 s.v2), .cells none (.ints .u8 32768 s.v3)]
structure X_z1u where
  v0 : (Nat → Int)
  v1 : (Nat → Int)
def EX_z1u (s : X_z1u) : Env := [(4, .ptr 0 []), (5, .ptr 1 [])]
def OX_z1u (s : X_z1u) : List SObj := [.cells none (.agg [(.slc 2 [] 1 0 32768 (some 32768))]), .cells none (.agg [(.slc 3 [] 1 0 32768 (some 32768))]), .cells none (.ints .u8 32768 s.v0), .cells none (.ints .u8 32768 s.v1)]
abbrev X_z3 := X_z1u
def EX_z3 (x : X_z3) : Env := EX_z1u x
def OX_z3 (x : X_z3) : List SObj := OX_z1u x
def xx_z3 (_ : X_z3) : SX := (.exit 0)
abbrev SgL_z3 (α : Type) := S_z3 → (X_z1u → R α) → R α
def dL_z3 {α : Type} (kn : S_z3 → R α) (k0 : X_z1u → R α) : KC α := fun x env σ => match x with
  | .norm => decT env 0 fun u1 => decV_st_int_u64_int_u64 u1 fun v0 => decT env 4 fun u2 => decP 0 u2 <| decT env 5 fun u3 => decP 1 u3 <| decT env 6 fun u4 => decI .i64 u4 fun v1 => decO σ 0 fun u5 => (match u5 with | .agg [u6] => decSl 2 1 0 32768 32768 u6 <| decO σ 1 fun u7 => (match u7 with | .agg [u8] => decSl 3 1 0 32768 32768 u8 <| decO σ 2 fun u9 => decA .u8 32768 u9 fun v2 => decO σ 3 fun u10 => decA .u8 32768 u10 fun v3 => kn ⟨v0, v1, v2, v3⟩ | _ => none) | _ => none)
  | .ret => none
  | .exit i => bif Nat.beq i 0 then (decT env 4 fun u1 => decP 0 u1 <| decT env 5 fun u2 => decP 1 u2 <| decO σ 0 fun u3 => (match u3 with | .agg [u4] => decSl 2 1 0 32768 32768 u4 <| decO σ 1 fun u5 => (match u5 with | .agg [u6] => decSl 3 1 0 32768 32768 u6 <| decO σ 2 fun u7 => decA .u8 32768 u7 fun v0 => decO σ 3 fun u8 => decA .u8 32768 u8 fun v1 => k0 ⟨v0, v1⟩ | _ => none) | _ => none)) else none
theorem dL_z4p {α : Type} {kn : S_z3 → R α} {k0 : X_z1u → R α} {x : SX} {env : Env} {σ : Heap} {r : α} (h : dL_z3 kn k0 x env σ = some r) : (x = .norm ∧ ∃ s, (∀ t v, getE (E_z3 s) t = some v → Ids (· < 4) v ∧ getE env t = some v) ∧ (∀ y ∈ enumO 0 (OS_z3 s), σ.get y.1 = some y.2) ∧ kn s = some r) ∨ (x = (.exit 0) ∧ ∃ s, (∀ t v, getE (EX_z1u s) t = some v → Ids (· < 4) v ∧ getE env t = some v) ∧ (∀ y ∈ enumO 0 (OX_z1u s), σ.get y.1 = some y.2) ∧ k0 s = some r) := by
  unfold dL_z3 at h
  split at h
  · skip
    obtain ⟨w1, w2, w3⟩ := decT_spec h
    obtain ⟨v0, rfl, w4⟩ := decV_st_int_u64_int_u64_spec w3
    obtain ⟨w5, w6, w7⟩ := decT_spec w4
    obtain ⟨rfl, w8⟩ := decP_spec w7
    obtain ⟨w9, w10, w11⟩ := decT_spec w8
    obtain ⟨rfl, w12⟩ := decP_spec w11
    obtain ⟨w13, w14, w15⟩ := decT_spec w12
    obtain ⟨v1, rfl, w16⟩ := decI_spec w15
    obtain ⟨w17, w18, w19⟩ := decO_spec w16
    split at w19 <;> try (cases w19; done)
    obtain ⟨rfl, w20⟩ := decSl_spec w19
    obtain ⟨w21, w22, w23⟩ := decO_spec w20
    split at w23 <;> try (cases w23; done)
    obtain ⟨rfl, w24⟩ := decSl_spec w23
    obtain ⟨w25, w26, w27⟩ := decO_spec w24
    obtain ⟨v2, rfl, w28⟩ := decA_spec w27
    obtain ⟨w29, w30, w31⟩ := decO_spec w28
    obtain ⟨v3, rfl, w32⟩ := decA_spec w31
    exact .inl (⟨rfl, ⟨v0, v1, v2, v3⟩, env_all ⟨⟨by simp [Ids, Idss], w2⟩, ⟨by simp [Ids, Idss], w6⟩, ⟨by simp [Ids, Idss], w10⟩, ⟨by simp [Ids, Idss], w14⟩, trivial⟩, enum_all ⟨w18, w22, w26, w30, trivial⟩, w32⟩)
  · cases h
  · rename_i i
    cases hi0 : Nat.beq i 0 <;> rw [hi0] at h <;> simp only [cond_true, cond_false] at h
    case true =>
      have e0 := Nat.eq_of_beq_eq_true hi0
      subst e0
      obtain ⟨w1, w2, w3⟩ := decT_spec h
      obtain ⟨rfl, w4⟩ := decP_spec w3
      obtain ⟨w5, w6, w7⟩ := decT_spec w4
      obtain ⟨rfl, w8⟩ := decP_spec w7
      obtain ⟨w9, w10, w11⟩ := decO_spec w8
      split at w11 <;> try (cases w11; done)
      obtain ⟨rfl, w12⟩ := decSl_spec w11
      obtain ⟨w13, w14, w15⟩ := decO_spec w12
      split at w15 <;> try (cases w15; done)
      obtain ⟨rfl, w16⟩ := decSl_spec w15
      obtain ⟨w17, w18, w19⟩ := decO_spec w16
      obtain ⟨v0, rfl, w20⟩ := decA_spec w19
      obtain ⟨w21, w22, w23⟩ := decO_spec w20
      obtain ⟨v1, rfl, w24⟩ := decA_spec w23
      exact .inr ((⟨rfl, ⟨v0, v1⟩, env_all ⟨⟨by simp [Ids, Idss], w2⟩, ⟨by simp [Ids, Idss], w6⟩, trivial⟩, enum_all ⟨w10, w14, w18, w22, trivial⟩, w24⟩))
    cases h
def b_z3 {α : Type} (F_z7 : Sg_z7 α) (F_z13 : Sg_z13 α) (F_zk : Sg_zk α) (s : S_z3) (kn : S_z3 → R α) (k0 : X_z1u → R α) : R α :=
  let b1 : Bool := (ltB s.v1 ((s.v0.2.2.1 : Nat) : Int))
  cond b1 (
  cond (decide (0 ≤ s.v1) && decide (s.v1 < ((s.v0.2.2.1 : Nat) : Int))) (
  F_z7 s.v3 (s.v0.2.2.2.2 (Int.toNat s.v1)).1 8 (fun r2 =>
  let b3 : Bool := (r2 == 0)
  cond b3 (
  cond (decide (0 ≤ s.v1) && decide (s.v1 < ((s.v0.2.2.1 : Nat) : Int))) (
  cond (decide (0 ≤ s.v1) && decide (s.v1 < ((s.v0.2.2.1 : Nat) : Int))) (
  F_z13 s.v2 (s.v0.2.2.2.2 (Int.toNat s.v1)).1 8 (s.v0.2.2.2.2 (Int.toNat s.v1)).2.1 (fun f4 r5 =>
  cond (decide (0 ≤ s.v1) && decide (s.v1 < ((s.v0.2.2.1 : Nat) : Int))) (
  cond (decide (0 ≤ s.v1) && decide (s.v1 < ((s.v0.2.2.1 : Nat) : Int))) (
  F_zk s.v3 (s.v0.2.2.2.2 (Int.toNat s.v1)).1 8 (s.v0.2.2.2.2 (Int.toNat s.v1)).2.1 (fun f6 =>
  let t7 : Int := (IntKind.i64.wrap (s.v1 + 1))
  kn ⟨s.v0, t7, f4, f6⟩)) none) none)) none) none) (
  let t8 : Int := (IntKind.i64.wrap (s.v1 + 1))
  kn ⟨s.v0, t8, s.v2, s.v3⟩))) none) (
  k0 ⟨s.v2, s.v3⟩)
def Lf_z3 {α : Type} (L : SgL_z3 α) : LF α := fun env σ k => bif allB (fun b => Nat.blt b σ.next) [1, 3, 0, 2] then (decT env 0 fun u1 => decV_st_int_u64_int_u64 u1 fun v0 => decT env 4 fun u2 => decP 1 u2 <| decT env 5 fun u3 => decP 3 u3 <| decT env 6 fun u4 => decI .i64 u4 fun v1 => decO σ 1 fun u5 => (match u5 with | .agg [u6] => decSl 0 1 0 32768 32768 u6 <| decO σ 3 fun u7 => (match u7 with | .agg [u8] => decSl 2 1 0 32768 32768 u8 <| decO σ 0 fun u9 => decA .u8 32768 u9 fun v2 => decO σ 2 fun u10 => decA .u8 32768 u10 fun v3 => L ⟨v0, v1, v2, v3⟩ (fun x => k (.exit 0) [(4, .ptr 1 []), (5, .ptr 3 [])] ⟨σ.next, [(1, .cells none (.agg [(.slc 0 [] 1 0 32768 (some 32768))])), (3, .cells none (.agg [(.slc 2 [] 1 0 32768 (some 32768))])), (0, .cells none (.ints .u8 32768 x.v0)), (2, .cells none (.ints .u8 32768 x.v1))] ++ σ.blocks⟩) | _ => none) | _ => none)) else none
abbrev Sg_z15 (α : Type) := (Bool × Addr × Nat × Nat × (Nat → (Int × Int × Unit))) → (GBus → GRBus → R α) → R α
@[reducible] def E_z15 : OShs ((Bool × Addr × Nat × Nat × (Nat → (Int × Int × Unit))) × Unit) := (.cons (.leaf Lf_st_int_u64_int_u64) .nil)
@[reducible] def M_z15 : OShs (Unit) := .nil
@[reducible] def Q_z15 : OShs (GBus × GRBus × Unit) := (.cons sh_Bus (.cons sh_RBus .nil))
theorem E_z20 : E_z15.PlainP := ⟨trivial, trivial⟩
theorem M_z20 : M_z15.Plain := trivial
theorem Q_z20 : Q_z15.Plain := ⟨plsh_Bus, plsh_RBus, trivial⟩
def ad_z15 {α : Type} (F : Sg_z15 α) : FF α := adO E_z15 M_z15 Q_z15 false fun a k => F a.1 (fun z0 z1 => k () (z0, z1, ()))
def p_z15 {α : Type} (L_z3 : SgL_z3 α) (x0 : (Bool × Addr × Nat × Nat × (Nat → (Int × Int × Unit)))) (k : GBus → GRBus → R α) : R α :=
  L_z3 ⟨x0, 0, (fun _ => 0), (fun _ => 0)⟩ (fun x1 =>
  let t2 : Int := ((ByteArray.size (ByteArray.mk #[105, 110, 112, 117, 116]) : Nat) : Int)
  let t3 : Int := (pickmx false t2 64)
  cond (decide (0 ≤ t3) && decide (t3 ≤ ((ByteArray.size (ByteArray.mk #[105, 110, 112, 117, 116]) : Nat) : Int))) (
  cond (decide (0 ≤ 0) && decide (0 ≤ t3)) (
  let t4 : ByteArray := (ByteArray.extract (ByteArray.mk #[105, 110, 112, 117, 116]) 0 (Int.toNat t3))
  cond (Nat.beq (ByteArray.size t4) 0) (
  let t5 : Int := (IntKind.i64.wrap (0 + t3))
  let t6 : Int := ((ByteArray.size (ByteArray.mk #[105, 110, 112, 117, 116]) : Nat) : Int)
  let t7 : Int := (pickmx false t6 64)
  cond (decide (0 ≤ t7) && decide (t7 ≤ ((ByteArray.size (ByteArray.mk #[105, 110, 112, 117, 116]) : Nat) : Int))) (
  cond (decide (0 ≤ 0) && decide (0 ≤ t7)) (
  let t8 : ByteArray := (ByteArray.extract (ByteArray.mk #[105, 110, 112, 117, 116]) 0 (Int.toNat t7))
  cond (Nat.ble (ByteArray.size .empty + ByteArray.size t8) 9223372036854775807) (
  let t9 : ByteArray := (.empty ++ t8)
  let t10 : Int := (IntKind.i64.wrap (0 + t7))
  k (GBus.mk x1.v0 0 18446744073709551615 (upd (upd (upd (fun _ => (GPort.mk (Row.mk 0 fun _ => 0) (Row.mk 0 fun _ => 0) t5)) 1 (GPort.mk (Row.mk 0 fun _ => 0) (Row.mk 0 fun _ => 0) 0)) 2 (GPort.mk (Row.mk 0 fun _ => 0) (Row.mk 0 fun _ => 0) 0)) 3 (GPort.mk (Row.mk 0 fun _ => 0) (Row.mk 0 fun _ => 0) 0))) (GRBus.mk x1.v1 0 18446744073709551615 (upd (upd (upd (fun _ => t9) 1 .empty) 2 .empty) 3 .empty) (upd (fun _ => 0) 0 t10) (upd (upd (upd (fun _ => .empty) 1 .empty) 2 .empty) 3 .empty) false)) none) none) none) (
  cond (decide ((ByteArray.size t4) * 1 ≤ 140737488355328) && decide ((ByteArray.size t4) ≤ 4611686018427387904)) (
  let t11 : Int := (IntKind.i64.wrap (0 + t3))
  let t12 : Int := ((ByteArray.size (ByteArray.mk #[105, 110, 112, 117, 116]) : Nat) : Int)
  let t13 : Int := (pickmx false t12 64)
  cond (decide (0 ≤ t13) && decide (t13 ≤ ((ByteArray.size (ByteArray.mk #[105, 110, 112, 117, 116]) : Nat) : Int))) (
  cond (decide (0 ≤ 0) && decide (0 ≤ t13)) (
  let t14 : ByteArray := (ByteArray.extract (ByteArray.mk #[105, 110, 112, 117, 116]) 0 (Int.toNat t13))
  cond (Nat.ble (ByteArray.size .empty + ByteArray.size t14) 9223372036854775807) (
  let t15 : ByteArray := (.empty ++ t14)
  let t16 : Int := (IntKind.i64.wrap (0 + t13))
  gP (ByteArray.size t4) (ByteArray.size t4) (k (GBus.mk x1.v0 0 18446744073709551615 (upd (upd (upd (fun _ => (GPort.mk (Row.mk (ByteArray.size t4) (bytesAt t4)) (Row.mk 0 fun _ => 0) t11)) 1 (GPort.mk (Row.mk 0 fun _ => 0) (Row.mk 0 fun _ => 0) 0)) 2 (GPort.mk (Row.mk 0 fun _ => 0) (Row.mk 0 fun _ => 0) 0)) 3 (GPort.mk (Row.mk 0 fun _ => 0) (Row.mk 0 fun _ => 0) 0))) (GRBus.mk x1.v1 0 18446744073709551615 (upd (upd (upd (fun _ => t15) 1 .empty) 2 .empty) 3 .empty) (upd (fun _ => 0) 0 t16) (upd (upd (upd (fun _ => .empty) 1 .empty) 2 .empty) 3 .empty) false))) none) none) none) none)) none) none)
abbrev Sg_zc (α : Type) := (Nat → Int) → Int → (ByteArray → R α) → R α
def ad_zc {α : Type} (F : Sg_zc α) : FF α := fun args σ k => match args with
  | [a0, a1] => withMem σ a0 fun _ b1 _ g1 x0 => decI .i64 a1 fun x1 => F x0 x1 (fun r0 => k (.str r0) σ)
  | _ => none
def dR_mem_Memory_Frame {α : Type} (a0 : SV) (σ1 : Heap) (k : ByteArray → R α) : R α := bif kept 2 σ1 then (decS a0 fun r0 => k r0) else none
def p_zc {α : Type}  (x0 : (Nat → Int)) (x1 : Int) (k : ByteArray → R α) : R α :=
  let b1 : Bool := (ltB x1 0)
  cond b1 (
  k (ByteArray.mk #[])) (
  let b2 : Bool := (leB 128 x1)
  cond b2 (
  k (ByteArray.mk #[])) (
  let t3 : Int := (IntKind.i64.wrap (x1 * 256))
  let t4 : Int := (IntKind.i64.wrap (x1 + 1))
  let t5 : Int := (IntKind.i64.wrap (t4 * 256))
  cond (decide (0 ≤ t5) && decide (t5 ≤ 32768)) (
  cond (decide (0 ≤ t3) && decide (t3 ≤ t5)) (
  cond (Nat.beq 32768 (Int.toNat t3)) (
  cond (decide (0 + ((Int.toNat t5) - (Int.toNat t3)) ≤ 32768)) (
  let t6 : ByteArray := (strOf (fun i => x0 (0 + i)) ((Int.toNat t5) - (Int.toNat t3)))
  k t6) none) (
  cond (decide ((0 + (Int.toNat t3)) + ((Int.toNat t5) - (Int.toNat t3)) ≤ 32768)) (
  let t7 : ByteArray := (strOf (fun i => x0 ((0 + (Int.toNat t3)) + i)) ((Int.toNat t5) - (Int.toNat t3)))
  k t7) none)) none) none))
theorem le_zc {α : Type} {F F' : Sg_zc α} (h : ∀ x0 x1 k r, F' x0 x1 k = some r → F x0 x1 k = some r) {args : List SV} {σ : Heap} {k : SV → Heap → R α} {r : α} (hk : ad_zc F' args σ k = some r) : ad_zc F args σ k = some r := by
  unfold ad_zc at hk
  split at hk <;> try (cases hk; done)
  obtain ⟨b, b1, g0, g1, x0, rfl, h0, h1, hne, hk0⟩ := withMem_spec hk
  obtain ⟨x1, rfl, hk1⟩ := decI_spec hk0
  have hkz := hk1
  unfold ad_zc
  dsimp only
  rw [withMem_eq h0 h1 hne]
  exact h x0 x1 _ _ hkz
abbrev Sg_zd (α : Type) := (Nat → Int) → Int → (ByteArray → R α) → R α
def ad_zd {α : Type} (F : Sg_zd α) : FF α := fun args σ k => match args with
  | [a0, a1] => withMem σ a0 fun _ b1 _ g1 x0 => decI .i64 a1 fun x1 => F x0 x1 (fun r0 => k (.str r0) σ)
  | _ => none
def dR_ref1_Mem_Frame {α : Type} (a0 : SV) (σ1 : Heap) (k : ByteArray → R α) : R α := bif kept 2 σ1 then (decS a0 fun r0 => k r0) else none
def p_zd {α : Type}  (x0 : (Nat → Int)) (x1 : Int) (k : ByteArray → R α) : R α :=
  let b1 : Bool := (ltB x1 0)
  cond b1 (
  k (ByteArray.mk #[])) (
  let b2 : Bool := (leB 128 x1)
  cond b2 (
  k (ByteArray.mk #[])) (
  let t3 : Int := (IntKind.i64.wrap (x1 * 256))
  let t4 : Int := (IntKind.i64.wrap (x1 + 1))
  let t5 : Int := (IntKind.i64.wrap (t4 * 256))
  cond (decide (0 ≤ t5) && decide (t5 ≤ 32768)) (
  cond (decide (0 ≤ t3) && decide (t3 ≤ t5)) (
  cond (Nat.beq 32768 (Int.toNat t3)) (
  cond (decide (0 + ((Int.toNat t5) - (Int.toNat t3)) ≤ 32768)) (
  let t6 : ByteArray := (strOf (fun i => x0 (0 + i)) ((Int.toNat t5) - (Int.toNat t3)))
  k t6) none) (
  cond (decide ((0 + (Int.toNat t3)) + ((Int.toNat t5) - (Int.toNat t3)) ≤ 32768)) (
  let t7 : ByteArray := (strOf (fun i => x0 ((0 + (Int.toNat t3)) + i)) ((Int.toNat t5) - (Int.toNat t3)))
  k t7) none)) none) none))
theorem le_zd {α : Type} {F F' : Sg_zd α} (h : ∀ x0 x1 k r, F' x0 x1 k = some r → F x0 x1 k = some r) {args : List SV} {σ : Heap} {k : SV → Heap → R α} {r : α} (hk : ad_zd F' args σ k = some r) : ad_zd F args σ k = some r := by
  unfold ad_zd at hk
  split at hk <;> try (cases hk; done)
  obtain ⟨b, b1, g0, g1, x0, rfl, h0, h1, hne, hk0⟩ := withMem_spec hk
  obtain ⟨x1, rfl, hk1⟩ := decI_spec hk0
  have hkz := hk1
  unfold ad_zd
  dsimp only
  rw [withMem_eq h0 h1 hne]
  exact h x0 x1 _ _ hkz
abbrev Sg_z16 (α : Type) := GBus → GRBus → Int → (GBus → GRBus → Bool → R α) → R α
@[reducible] def E_z16 : OShs (GBus × GRBus × Int × Unit) := (.cons sh_Bus (.cons sh_RBus (.cons (.leaf (Lf_int .u64)) .nil)))
@[reducible] def M_z16 : OShs (GBus × GRBus × Unit) := (.cons sh_Bus (.cons sh_RBus .nil))
@[reducible] def Q_z16 : OShs (Bool × Unit) := (.cons (.leaf Lf_bool) .nil)
theorem E_z2l : E_z16.PlainP := ⟨plsh_Bus, plsh_RBus, trivial, trivial⟩
theorem M_z2l : M_z16.Plain := ⟨plsh_Bus, plsh_RBus, trivial⟩
theorem Q_z2l : Q_z16.Plain := ⟨pl_bool, trivial⟩
def ad_z16 {α : Type} (F : Sg_z16 α) : FF α := adO E_z16 M_z16 Q_z16 true fun a k => F a.1 a.2.1 a.2.2.1 (fun y0 y1 z0 => k (y0, y1, ()) (z0, ()))
def p_z16 {α : Type} (F_zc : Sg_zc α) (F_zd : Sg_zd α) (x0 : GBus) (x1 : GRBus) (x2 : Int) (k : GBus → GRBus → Bool → R α) : R α :=
  cond (decide ((x0.ports 0).outp.n ≤ (x0.ports 0).outp.n)) (
  let t1 : ByteArray := (strOf (x0.ports 0).outp.f (x0.ports 0).outp.n)
  let b2 : Bool := (!(ByteArray.toList t1 == ByteArray.toList (x1.outp 0)))
  cond b2 (
  GN x0 ((((((((k (NB x0) (NR x1) false))))))))) (
  cond (decide ((x0.ports 3).outp.n ≤ (x0.ports 3).outp.n)) (
  let t3 : ByteArray := (strOf (x0.ports 3).outp.f (x0.ports 3).outp.n)
  let b4 : Bool := (!(ByteArray.toList t3 == ByteArray.toList (x1.outp 3)))
  cond b4 (
  GN x0 ((((((((k (NB x0) (NR x1) false))))))))) (
  let b5 : Bool := (leB x0.alarm x0.time)
  let b6 : Bool := (leB x1.alarm x1.time)
  let b7 : Bool := (!(b5 == b6))
  cond b7 (
  GN x0 ((((((((k (NB x0) (NR x1) false))))))))) (
  let t8 : Int := (gshr .u64 x2 8)
  let t9 : Int := (bitop .and .u64 t8 127)
  let t10 : Int := (IntKind.i64.wrap t9)
  F_zc x0.m t10 (fun r11 =>
  let t12 : Int := (gshr .u64 x2 8)
  let t13 : Int := (bitop .and .u64 t12 127)
  let t14 : Int := (IntKind.i64.wrap t13)
  F_zd x1.m t14 (fun r15 =>
  let b16 : Bool := (ByteArray.toList r11 == ByteArray.toList r15)
  GN x0 ((((((((k (NB x0) (NR x1) b16))))))))))))) none)) none
abbrev Sg_z1m (α : Type) := (Bool × Addr × Nat × Nat × (Nat → (Int × Int × Unit))) → (Bool → R α) → R α
def ad_z1m {α : Type} (F : Sg_z1m α) : FP α := fun args k => match args with
  | [a0] => decV_st_int_u64_int_u64 a0 fun x0 => F x0 (fun r0 => k (.bool r0))
  | _ => none
def dR_law17_few {α : Type} (a0 : SV) (k : Bool → R α) : R α := decB a0 fun x0 => k x0
theorem dR_law17_few_spec {α : Type} {v : SV} {k : Bool → R α} {r : α} (h : dR_law17_few v k = some r) : ∃ x0, v = (.bool x0) ∧ k x0 = some r := by
  unfold dR_law17_few at h
  obtain ⟨x0, rfl, h0⟩ := decB_spec h
  exact ⟨x0, rfl, h0⟩
def p_z1m {α : Type}  (x0 : (Bool × Addr × Nat × Nat × (Nat → (Int × Int × Unit)))) (k : Bool → R α) : R α :=
  let b1 : Bool := (leB ((x0.2.2.1 : Nat) : Int) 60)
  k b1
theorem le_z1m {α : Type} {F F' : Sg_z1m α} (h : ∀ x0 k r, F' x0 k = some r → F x0 k = some r) {args : List SV} {k : SV → R α} {r : α} (hk : ad_z1m F' args k = some r) : ad_z1m F args k = some r := by
  unfold ad_z1m at hk
  split at hk <;> try (cases hk; done)
  obtain ⟨x0, rfl, hk0⟩ := decV_st_int_u64_int_u64_spec hk
  have hkz := hk0
  exact h x0 _ _ hkz
abbrev Sg_zj (α : Type) := Int → (Int → R α) → R α
def ad_zj {α : Type} (F : Sg_zj α) : FP α := fun args k => match args with
  | [a0] => decI .i64 a0 fun x0 => F x0 (fun r0 => k (.int .i64 r0))
  | _ => none
def dR_insn_Class {α : Type} (a0 : SV) (k : Int → R α) : R α := decI .i64 a0 fun x0 => k x0
theorem dR_insn_Class_spec {α : Type} {v : SV} {k : Int → R α} {r : α} (h : dR_insn_Class v k = some r) : ∃ x0, v = (.int .i64 x0) ∧ k x0 = some r := by
  unfold dR_insn_Class at h
  obtain ⟨x0, rfl, h0⟩ := decI_spec h
  exact ⟨x0, rfl, h0⟩
def p_zj {α : Type}  (x0 : Int) (k : Int → R α) : R α :=
  let b1 : Bool := (ltB x0 1)
  cond b1 (
  k 0) (
  let b2 : Bool := (leB 70 x0)
  cond b2 (
  k 0) (
  let b3 : Bool := (leB x0 4)
  cond b3 (
  k 1) (
  let b4 : Bool := (leB x0 10)
  cond b4 (
  k 2) (
  let b5 : Bool := (leB x0 17)
  cond b5 (
  k 3) (
  let b6 : Bool := (leB x0 21)
  cond b6 (
  k 4) (
  let b7 : Bool := (leB x0 34)
  cond b7 (
  k 5) (
  let b8 : Bool := (leB x0 49)
  cond b8 (
  k 6) (
  let b9 : Bool := (leB x0 51)
  cond b9 (
  k 7) (
  let b10 : Bool := (leB x0 53)
  cond b10 (
  k 8) (
  let b11 : Bool := (leB x0 59)
  cond b11 (
  k 9) (
  let b12 : Bool := (leB x0 62)
  cond b12 (
  k 10) (
  let b13 : Bool := (leB x0 65)
  cond b13 (
  k 11) (
  let b14 : Bool := (leB x0 69)
  cond b14 (
  k 12) (
  k 0))))))))))))))
abbrev Sg_z1o (α : Type) := Int → (GInsn_Fields → R α) → R α
def ad_z1o {α : Type} (F : Sg_z1o α) : FP α := fun args k => match args with
  | [a0] => decI .i64 a0 fun x0 => F x0 (fun r0 => k (GInsn_Fields.sv r0))
  | _ => none
def dR_insn_jumps {α : Type} (a0 : SV) (k : GInsn_Fields → R α) : R α := GInsn_Fields.dec a0 fun x0 => k x0
theorem dR_insn_jumps_spec {α : Type} {v : SV} {k : GInsn_Fields → R α} {r : α} (h : dR_insn_jumps v k = some r) : ∃ x0, v = (GInsn_Fields.sv x0) ∧ k x0 = some r := by
  unfold dR_insn_jumps at h
  obtain ⟨x0, rfl, h0⟩ := GInsn_Fields.dec_spec h
  exact ⟨x0, rfl, h0⟩
def p_z1o {α : Type}  (x0 : Int) (k : GInsn_Fields → R α) : R α :=
  let b1 : Bool := (x0 == 3)
  cond b1 (
  k (GInsn_Fields.mk true false false false (-1048576) 1048574 2)) (
  let b2 : Bool := (x0 == 4)
  cond b2 (
  k (GInsn_Fields.mk true false true false (-2048) 2047 1)) (
  k (GInsn_Fields.mk true false false false (-2147483648) 2147479552 4096)))
abbrev Sg_z1p (α : Type) := Int → (GInsn_Fields → R α) → R α
def ad_z1p {α : Type} (F : Sg_z1p α) : FP α := fun args k => match args with
  | [a0] => decI .i64 a0 fun x0 => F x0 (fun r0 => k (GInsn_Fields.sv r0))
  | _ => none
def dR_insn_withNumber {α : Type} (a0 : SV) (k : GInsn_Fields → R α) : R α := GInsn_Fields.dec a0 fun x0 => k x0
theorem dR_insn_withNumber_spec {α : Type} {v : SV} {k : GInsn_Fields → R α} {r : α} (h : dR_insn_withNumber v k = some r) : ∃ x0, v = (GInsn_Fields.sv x0) ∧ k x0 = some r := by
  unfold dR_insn_withNumber at h
  obtain ⟨x0, rfl, h0⟩ := GInsn_Fields.dec_spec h
  exact ⟨x0, rfl, h0⟩
def p_z1p {α : Type}  (x0 : Int) (k : GInsn_Fields → R α) : R α :=
  let b1 : Bool := (x0 == 28)
  cond b1 (
  k (GInsn_Fields.mk true false true false 0 63 1)) (
  let b2 : Bool := (x0 == 29)
  cond b2 (
  k (GInsn_Fields.mk true false true false 0 63 1)) (
  let b3 : Bool := (x0 == 30)
  cond b3 (
  k (GInsn_Fields.mk true false true false 0 63 1)) (
  let b4 : Bool := (x0 == 32)
  cond b4 (
  k (GInsn_Fields.mk true false true false 0 31 1)) (
  let b5 : Bool := (x0 == 33)
  cond b5 (
  k (GInsn_Fields.mk true false true false 0 31 1)) (
  let b6 : Bool := (x0 == 34)
  cond b6 (
  k (GInsn_Fields.mk true false true false 0 31 1)) (
  k (GInsn_Fields.mk true false true false (-2048) 2047 1)))))))
abbrev Sg_z1q (α : Type) := Int → (GInsn_Fields → R α) → R α
def ad_z1q {α : Type} (F : Sg_z1q α) : FP α := fun args k => match args with
  | [a0] => decI .i64 a0 fun x0 => F x0 (fun r0 => k (GInsn_Fields.sv r0))
  | _ => none
def dR_insn_Of {α : Type} (a0 : SV) (k : GInsn_Fields → R α) : R α := GInsn_Fields.dec a0 fun x0 => k x0
theorem dR_insn_Of_spec {α : Type} {v : SV} {k : GInsn_Fields → R α} {r : α} (h : dR_insn_Of v k = some r) : ∃ x0, v = (GInsn_Fields.sv x0) ∧ k x0 = some r := by
  unfold dR_insn_Of at h
  obtain ⟨x0, rfl, h0⟩ := GInsn_Fields.dec_spec h
  exact ⟨x0, rfl, h0⟩
def p_z1q {α : Type} (F_zj : Sg_zj α) (F_z1o : Sg_z1o α) (F_z1p : Sg_z1p α) (x0 : Int) (k : GInsn_Fields → R α) : R α :=
  F_zj x0 (fun r1 =>
  let b2 : Bool := (r1 == 1)
  cond b2 (
  F_z1o x0 (fun r3 =>
  k r3)) (
  let b4 : Bool := (r1 == 2)
  cond b4 (
  k (GInsn_Fields.mk false false true true (-4096) 4094 2)) (
  let b5 : Bool := (r1 == 3)
  cond b5 (
  k (GInsn_Fields.mk true false true false (-2048) 2047 1)) (
  let b6 : Bool := (r1 == 4)
  cond b6 (
  k (GInsn_Fields.mk false false true true (-2048) 2047 1)) (
  let b7 : Bool := (r1 == 5)
  cond b7 (
  F_z1p x0 (fun r8 =>
  k r8)) (
  let b9 : Bool := (r1 == 6)
  cond b9 (
  k (GInsn_Fields.mk true false true true 0 0 0)) (
  let b10 : Bool := (r1 == 9)
  cond b10 (
  let b11 : Bool := (leB 57 x0)
  cond b11 (
  k (GInsn_Fields.mk true true false false 0 31 1)) (
  k (GInsn_Fields.mk true true true false 0 0 0))) (
  let b12 : Bool := (r1 == 11)
  cond b12 (
  k (GInsn_Fields.mk false false true true 0 0 0)) (
  let b13 : Bool := (r1 == 12)
  cond b13 (
  let b14 : Bool := (x0 == 69)
  cond b14 (
  k (GInsn_Fields.mk false false true true 0 0 0)) (
  k (GInsn_Fields.mk true false true false 0 0 0))) (
  k (GInsn_Fields.mk false false false false 0 0 0)))))))))))
abbrev Sg_z12 (α : Type) := Bool → Int → Int → (Bool → R α) → R α
def ad_z12 {α : Type} (F : Sg_z12 α) : FP α := fun args k => match args with
  | [a0, a1, a2] => decB a0 fun x0 => decI .i64 a1 fun x1 => decI .i64 a2 fun x2 => F x0 x1 x2 (fun r0 => k (.bool r0))
  | _ => none
def dR_insn_field {α : Type} (a0 : SV) (k : Bool → R α) : R α := decB a0 fun x0 => k x0
theorem dR_insn_field_spec {α : Type} {v : SV} {k : Bool → R α} {r : α} (h : dR_insn_field v k = some r) : ∃ x0, v = (.bool x0) ∧ k x0 = some r := by
  unfold dR_insn_field at h
  obtain ⟨x0, rfl, h0⟩ := decB_spec h
  exact ⟨x0, rfl, h0⟩
def p_z12 {α : Type}  (x0 : Bool) (x1 : Int) (x2 : Int) (k : Bool → R α) : R α :=
  let b1 : Bool := (x1 == 0)
  cond b1 (
  k true) (
  cond x0 (
  let b2 : Bool := (ltB 0 x1)
  cond b2 (
  let b3 : Bool := (ltB x1 x2)
  k b3) (
  k false)) (
  k false))
abbrev Sg_z1n (α : Type) := GInsn → (Bool → R α) → R α
def ad_z1n {α : Type} (F : Sg_z1n α) : FP α := fun args k => match args with
  | [a0] => GInsn.dec a0 fun x0 => F x0 (fun r0 => k (.bool r0))
  | _ => none
def dR_insn_Is {α : Type} (a0 : SV) (k : Bool → R α) : R α := decB a0 fun x0 => k x0
theorem dR_insn_Is_spec {α : Type} {v : SV} {k : Bool → R α} {r : α} (h : dR_insn_Is v k = some r) : ∃ x0, v = (.bool x0) ∧ k x0 = some r := by
  unfold dR_insn_Is at h
  obtain ⟨x0, rfl, h0⟩ := decB_spec h
  exact ⟨x0, rfl, h0⟩
def p_z1n {α : Type} (F_zj : Sg_zj α) (F_z1q : Sg_z1q α) (F_z12 : Sg_z12 α) (x0 : GInsn) (k : Bool → R α) : R α :=
  F_zj x0.Op (fun r1 =>
  let b2 : Bool := (r1 == 0)
  cond b2 (
  k false) (
  F_z1q x0.Op (fun r3 =>
  let b4 : Bool := (r3.Step == 0)
  cond b4 (
  let b5 : Bool := (x0.Imm != 0)
  cond b5 (
  k false) (
  let b6 : Bool := (ltB 0 r3.Step)
  cond b6 (
  let b7 : Bool := (ltB x0.Imm r3.Low)
  cond b7 (
  k false) (
  let b8 : Bool := (ltB r3.High x0.Imm)
  cond b8 (
  k false) (
  cond (decide (r3.Step = 0)) none (
  let t9 : Int := (Int.tmod x0.Imm r3.Step)
  let b10 : Bool := (t9 != 0)
  cond b10 (
  k false) (
  F_z12 r3.Rd x0.Rd 32 (fun r11 =>
  cond r11 (
  F_z12 r3.Rs1 x0.Rs1 32 (fun r12 =>
  cond r12 (
  F_z12 r3.Rs2 x0.Rs2 32 (fun r13 =>
  cond r13 (
  F_z12 r3.CSR x0.CSR 4096 (fun r14 =>
  k r14)) (
  k false))) (
  k false))) (
  k false))))))) (
  F_z12 r3.Rd x0.Rd 32 (fun r15 =>
  cond r15 (
  F_z12 r3.Rs1 x0.Rs1 32 (fun r16 =>
  cond r16 (
  F_z12 r3.Rs2 x0.Rs2 32 (fun r17 =>
  cond r17 (
  F_z12 r3.CSR x0.CSR 4096 (fun r18 =>
  k r18)) (
  k false))) (
  k false))) (
  k false))))) (
  let b19 : Bool := (ltB 0 r3.Step)
  cond b19 (
  let b20 : Bool := (ltB x0.Imm r3.Low)
  cond b20 (
  k false) (
  let b21 : Bool := (ltB r3.High x0.Imm)
  cond b21 (
  k false) (
  cond (decide (r3.Step = 0)) none (
  let t22 : Int := (Int.tmod x0.Imm r3.Step)
  let b23 : Bool := (t22 != 0)
  cond b23 (
  k false) (
  F_z12 r3.Rd x0.Rd 32 (fun r24 =>
  cond r24 (
  F_z12 r3.Rs1 x0.Rs1 32 (fun r25 =>
  cond r25 (
  F_z12 r3.Rs2 x0.Rs2 32 (fun r26 =>
  cond r26 (
  F_z12 r3.CSR x0.CSR 4096 (fun r27 =>
  k r27)) (
  k false))) (
  k false))) (
  k false))))))) (
  F_z12 r3.Rd x0.Rd 32 (fun r28 =>
  cond r28 (
  F_z12 r3.Rs1 x0.Rs1 32 (fun r29 =>
  cond r29 (
  F_z12 r3.Rs2 x0.Rs2 32 (fun r30 =>
  cond r30 (
  F_z12 r3.CSR x0.CSR 4096 (fun r31 =>
  k r31)) (
  k false))) (
  k false))) (
  k false)))))))
abbrev Sg_z1a (α : Type) := Int → Int → (Int → Int → R α) → R α
def ad_z1a {α : Type} (F : Sg_z1a α) : FP α := fun args k => match args with
  | [a0, a1] => decI .i64 a0 fun x0 => decI .i64 a1 fun x1 => F x0 x1 (fun r0 r1 => k (.tuple [(.int .i64 r0), (.int .i64 r1)]))
  | _ => none
def dR_word_part {α : Type} (v : SV) (k : Int → Int → R α) : R α := match v with
  | .tuple [a0, a1] => decI .i64 a0 fun x0 => decI .i64 a1 fun x1 => k x0 x1
  | _ => none
theorem dR_word_part_spec {α : Type} {v : SV} {k : Int → Int → R α} {r : α} (h : dR_word_part v k = some r) : ∃ x0 x1, v = (.tuple [(.int .i64 x0), (.int .i64 x1)]) ∧ k x0 x1 = some r := by
  unfold dR_word_part at h
  split at h <;> try (cases h; done)
  obtain ⟨x0, rfl, h0⟩ := decI_spec h
  obtain ⟨x1, rfl, h1⟩ := decI_spec h0
  exact ⟨x0, x1, rfl, h1⟩
def p_z1a {α : Type}  (x0 : Int) (x1 : Int) (k : Int → Int → R α) : R α :=
  let t1 : Int := (pickmx true x0 0)
  let t2 : Int := (pickmx false t1 63)
  let t3 : Int := (pickmx true x1 0)
  let t4 : Int := (IntKind.i64.wrap (64 - t2))
  let t5 : Int := (pickmx false t3 t4)
  k t2 t5
abbrev Sg_zo (α : Type) := Int → (Int → R α) → R α
def ad_zo {α : Type} (F : Sg_zo α) : FP α := fun args k => match args with
  | [a0] => decI .i64 a0 fun x0 => F x0 (fun r0 => k (.int .u64 r0))
  | _ => none
def dR_word_mask {α : Type} (a0 : SV) (k : Int → R α) : R α := decI .u64 a0 fun x0 => k x0
theorem dR_word_mask_spec {α : Type} {v : SV} {k : Int → R α} {r : α} (h : dR_word_mask v k = some r) : ∃ x0, v = (.int .u64 x0) ∧ k x0 = some r := by
  unfold dR_word_mask at h
  obtain ⟨x0, rfl, h0⟩ := decI_spec h
  exact ⟨x0, rfl, h0⟩
def p_zo {α : Type}  (x0 : Int) (k : Int → R α) : R α :=
  let b1 : Bool := (leB 64 x0)
  cond b1 (
  k 18446744073709551615) (
  cond (decide (x0 < 0)) none (
  let t2 : Int := (gshl .u64 1 x0)
  let t3 : Int := (IntKind.u64.wrap (t2 - 1))
  k t3))
abbrev Sg_z18 (α : Type) := Int → Int → Int → (Int → R α) → R α
def ad_z18 {α : Type} (F : Sg_z18 α) : FP α := fun args k => match args with
  | [a0, a1, a2] => decI .u64 a0 fun x0 => decI .i64 a1 fun x1 => decI .i64 a2 fun x2 => F x0 x1 x2 (fun r0 => k (.int .u64 r0))
  | _ => none
def dR_word_Bits {α : Type} (a0 : SV) (k : Int → R α) : R α := decI .u64 a0 fun x0 => k x0
theorem dR_word_Bits_spec {α : Type} {v : SV} {k : Int → R α} {r : α} (h : dR_word_Bits v k = some r) : ∃ x0, v = (.int .u64 x0) ∧ k x0 = some r := by
  unfold dR_word_Bits at h
  obtain ⟨x0, rfl, h0⟩ := decI_spec h
  exact ⟨x0, rfl, h0⟩
def p_z18 {α : Type} (F_z1a : Sg_z1a α) (F_zo : Sg_zo α) (x0 : Int) (x1 : Int) (x2 : Int) (k : Int → R α) : R α :=
  F_z1a x1 x2 (fun r1 r2 =>
  cond (decide (r1 < 0)) none (
  let t3 : Int := (gshr .u64 x0 r1)
  F_zo r2 (fun r4 =>
  let t5 : Int := (bitop .and .u64 t3 r4)
  k t5)))
abbrev Sg_z11 (α : Type) := GState → Int → Int → (Bool → R α) → R α
def ad_z11 {α : Type} (F : Sg_z11 α) : FP α := fun args k => match args with
  | [a0, a1, a2] => GState.dec a0 fun x0 => decI .i64 a1 fun x1 => decI .i64 a2 fun x2 => F x0 x1 x2 (fun r0 => k (.bool r0))
  | _ => none
def dR_csr_Bit {α : Type} (a0 : SV) (k : Bool → R α) : R α := decB a0 fun x0 => k x0
theorem dR_csr_Bit_spec {α : Type} {v : SV} {k : Bool → R α} {r : α} (h : dR_csr_Bit v k = some r) : ∃ x0, v = (.bool x0) ∧ k x0 = some r := by
  unfold dR_csr_Bit at h
  obtain ⟨x0, rfl, h0⟩ := decB_spec h
  exact ⟨x0, rfl, h0⟩
def p_z11 {α : Type} (F_z18 : Sg_z18 α) (x0 : GState) (x1 : Int) (x2 : Int) (k : Bool → R α) : R α :=
  cond (decide (0 ≤ x1) && decide (x1 < 29)) (
  cond (decide ((Int.toNat x1) < 29)) (
  F_z18 (x0.C (Int.toNat x1)) x2 1 (fun r1 =>
  let b2 : Bool := (r1 == 1)
  k b2)) none) none
abbrev Sg_z19 (α : Type) := Int → (Int → R α) → R α
def ad_z19 {α : Type} (F : Sg_z19 α) : FP α := fun args k => match args with
  | [a0] => decI .u64 a0 fun x0 => F x0 (fun r0 => k (.int .i64 r0))
  | _ => none
def dR_access_sort {α : Type} (a0 : SV) (k : Int → R α) : R α := decI .i64 a0 fun x0 => k x0
theorem dR_access_sort_spec {α : Type} {v : SV} {k : Int → R α} {r : α} (h : dR_access_sort v k = some r) : ∃ x0, v = (.int .i64 x0) ∧ k x0 = some r := by
  unfold dR_access_sort at h
  obtain ⟨x0, rfl, h0⟩ := decI_spec h
  exact ⟨x0, rfl, h0⟩
def p_z19 {α : Type}  (x0 : Int) (k : Int → R α) : R α :=
  let b1 : Bool := (x0 == 12)
  cond b1 (
  k 1) (
  let b2 : Bool := (x0 == 20)
  cond b2 (
  k 2) (
  k 0))
abbrev Sg_zg (α : Type) := Int → (Int → R α) → R α
def ad_zg {α : Type} (F : Sg_zg α) : FP α := fun args k => match args with
  | [a0] => decI .i64 a0 fun x0 => F x0 (fun r0 => k (.int .i64 r0))
  | _ => none
def dR_insn_Size {α : Type} (a0 : SV) (k : Int → R α) : R α := decI .i64 a0 fun x0 => k x0
theorem dR_insn_Size_spec {α : Type} {v : SV} {k : Int → R α} {r : α} (h : dR_insn_Size v k = some r) : ∃ x0, v = (.int .i64 x0) ∧ k x0 = some r := by
  unfold dR_insn_Size at h
  obtain ⟨x0, rfl, h0⟩ := decI_spec h
  exact ⟨x0, rfl, h0⟩
def p_zg {α : Type}  (x0 : Int) (k : Int → R α) : R α :=
  let b1 : Bool := (x0 == 11)
  cond b1 (
  k 1) (
  let b2 : Bool := (x0 == 15)
  cond b2 (
  k 1) (
  let b3 : Bool := (x0 == 18)
  cond b3 (
  k 1) (
  let b4 : Bool := (x0 == 12)
  cond b4 (
  k 2) (
  let b5 : Bool := (x0 == 16)
  cond b5 (
  k 2) (
  let b6 : Bool := (x0 == 19)
  cond b6 (
  k 2) (
  let b7 : Bool := (x0 == 13)
  cond b7 (
  k 4) (
  let b8 : Bool := (x0 == 17)
  cond b8 (
  k 4) (
  let b9 : Bool := (x0 == 20)
  cond b9 (
  k 4) (
  let b10 : Bool := (x0 == 66)
  cond b10 (
  k 4) (
  let b11 : Bool := (x0 == 68)
  cond b11 (
  k 4) (
  let b12 : Bool := (x0 == 14)
  cond b12 (
  k 8) (
  let b13 : Bool := (x0 == 21)
  cond b13 (
  k 8) (
  let b14 : Bool := (x0 == 67)
  cond b14 (
  k 8) (
  let b15 : Bool := (x0 == 69)
  cond b15 (
  k 8) (
  k 0)))))))))))))))
abbrev Sg_z10 (α : Type) := Int → Int → (Int → R α) → R α
def ad_z10 {α : Type} (F : Sg_z10 α) : FP α := fun args k => match args with
  | [a0, a1] => decI .u64 a0 fun x0 => decI .i64 a1 fun x1 => F x0 x1 (fun r0 => k (.int .u64 r0))
  | _ => none
def dR_word_Zext {α : Type} (a0 : SV) (k : Int → R α) : R α := decI .u64 a0 fun x0 => k x0
theorem dR_word_Zext_spec {α : Type} {v : SV} {k : Int → R α} {r : α} (h : dR_word_Zext v k = some r) : ∃ x0, v = (.int .u64 x0) ∧ k x0 = some r := by
  unfold dR_word_Zext at h
  obtain ⟨x0, rfl, h0⟩ := decI_spec h
  exact ⟨x0, rfl, h0⟩
def p_z10 {α : Type} (F_zo : Sg_zo α) (x0 : Int) (x1 : Int) (k : Int → R α) : R α :=
  let t1 : Int := (pickmx true x1 1)
  let t2 : Int := (pickmx false t1 64)
  F_zo t2 (fun r3 =>
  let t4 : Int := (bitop .and .u64 x0 r3)
  k t4)
abbrev Sg_z1b (α : Type) := Int → Int → (Int → R α) → R α
def ad_z1b {α : Type} (F : Sg_z1b α) : FP α := fun args k => match args with
  | [a0, a1] => decI .u64 a0 fun x0 => decI .i64 a1 fun x1 => F x0 x1 (fun r0 => k (.int .u64 r0))
  | _ => none
def dR_word_Sext {α : Type} (a0 : SV) (k : Int → R α) : R α := decI .u64 a0 fun x0 => k x0
theorem dR_word_Sext_spec {α : Type} {v : SV} {k : Int → R α} {r : α} (h : dR_word_Sext v k = some r) : ∃ x0, v = (.int .u64 x0) ∧ k x0 = some r := by
  unfold dR_word_Sext at h
  obtain ⟨x0, rfl, h0⟩ := decI_spec h
  exact ⟨x0, rfl, h0⟩
def p_z1b {α : Type}  (x0 : Int) (x1 : Int) (k : Int → R α) : R α :=
  let t1 : Int := (pickmx true x1 1)
  let t2 : Int := (pickmx false t1 64)
  let t3 : Int := (IntKind.i64.wrap (64 - t2))
  cond (decide (t3 < 0)) none (
  let t4 : Int := (gshl .u64 x0 t3)
  let t5 : Int := (IntKind.i64.wrap t4)
  cond (decide (t3 < 0)) none (
  let t6 : Int := (gshr .i64 t5 t3)
  let t7 : Int := (IntKind.u64.wrap t6)
  k t7))
abbrev Sg_ze (α : Type) := Int → Int → (Int → R α) → R α
def ad_ze {α : Type} (F : Sg_ze α) : FP α := fun args k => match args with
  | [a0, a1] => decI .i64 a0 fun x0 => decI .u64 a1 fun x1 => F x0 x1 (fun r0 => k (.int .u64 r0))
  | _ => none
def dR_alu_Extend {α : Type} (a0 : SV) (k : Int → R α) : R α := decI .u64 a0 fun x0 => k x0
theorem dR_alu_Extend_spec {α : Type} {v : SV} {k : Int → R α} {r : α} (h : dR_alu_Extend v k = some r) : ∃ x0, v = (.int .u64 x0) ∧ k x0 = some r := by
  unfold dR_alu_Extend at h
  obtain ⟨x0, rfl, h0⟩ := decI_spec h
  exact ⟨x0, rfl, h0⟩
def p_ze {α : Type} (F_zg : Sg_zg α) (F_z10 : Sg_z10 α) (F_z1b : Sg_z1b α) (x0 : Int) (x1 : Int) (k : Int → R α) : R α :=
  F_zg x0 (fun r1 =>
  let t2 : Int := (IntKind.i64.wrap (8 * r1))
  let b3 : Bool := (x0 == 15)
  cond b3 (
  F_z10 x1 t2 (fun r4 =>
  k r4)) (
  let b5 : Bool := (x0 == 16)
  cond b5 (
  F_z10 x1 t2 (fun r6 =>
  k r6)) (
  let b7 : Bool := (x0 == 17)
  cond b7 (
  F_z10 x1 t2 (fun r8 =>
  k r8)) (
  let b9 : Bool := (x0 == 68)
  cond b9 (
  F_z10 x1 t2 (fun r10 =>
  k r10)) (
  let b11 : Bool := (x0 == 11)
  cond b11 (
  F_z1b x1 t2 (fun r12 =>
  k r12)) (
  let b13 : Bool := (x0 == 12)
  cond b13 (
  F_z1b x1 t2 (fun r14 =>
  k r14)) (
  let b15 : Bool := (x0 == 13)
  cond b15 (
  F_z1b x1 t2 (fun r16 =>
  k r16)) (
  let b17 : Bool := (x0 == 14)
  cond b17 (
  F_z1b x1 t2 (fun r18 =>
  k r18)) (
  let b19 : Bool := (x0 == 66)
  cond b19 (
  F_z1b x1 t2 (fun r20 =>
  k r20)) (
  let b21 : Bool := (x0 == 67)
  cond b21 (
  F_z1b x1 t2 (fun r22 =>
  k r22)) (
  k 0)))))))))))
abbrev Sg_zp (α : Type) := GBus → GState → Int → Int → (GBus → Int → GFault → Bool → R α) → R α
@[reducible] def E_zp : OShs (GBus × GState × Int × Int × Unit) := (.cons sh_Bus (.cons (.leaf Lf_GState) (.cons (.leaf (Lf_int .u64)) (.cons (.leaf (Lf_int .i64)) .nil))))
@[reducible] def M_zp : OShs (GBus × Unit) := (.cons sh_Bus .nil)
@[reducible] def Q_zp : OShs (Int × GFault × Bool × Unit) := (.cons (.leaf (Lf_int .u64)) (.cons (.leaf Lf_GFault) (.cons (.leaf Lf_bool) .nil)))
theorem E_z2m : E_zp.PlainP := ⟨plsh_Bus, trivial, trivial, trivial, trivial⟩
theorem M_z2m : M_zp.Plain := ⟨plsh_Bus, trivial⟩
theorem Q_z2m : Q_zp.Plain := ⟨(pl_int .u64), pl_GFault, pl_bool, trivial⟩
def ad_zp {α : Type} (F : Sg_zp α) : FF α := adO E_zp M_zp Q_zp false fun a k => F a.1 a.2.1 a.2.2.1 a.2.2.2.1 (fun y0 z0 z1 z2 => k (y0, ()) (z0, z1, z2, ()))
def p_zp {α : Type} (F_zl : Sg_zl α) (F_zq : Sg_zq α) (F_z19 : Sg_z19 α) (F_zf : Sg_zf α) (F_ze : Sg_ze α) (x0 : GBus) (x1 : GState) (x2 : Int) (x3 : Int) (k : GBus → Int → GFault → Bool → R α) : R α :=
  F_zl x2 4 1 true (fun r1 r2 =>
  let b3 : Bool := (!r2)
  cond b3 (
  GN x0 ((((((((k (NB x0) 0 r1 false))))))))) (
  F_zq x0.m x1 x2 0 x3 true (fun r4 r5 r6 r7 =>
  let b8 : Bool := (!r7)
  cond b8 (
  F_z19 r6.Cause (fun r9 =>
  cond (decide (0 ≤ r9) && decide (r9 < 3)) (
  cond (decide ((Int.toNat r9) < 3)) (
  GN x0 ((((((((k (NB x0) 0 (GFault.mk ((upd (upd (upd (fun _ => 0) 0 5) 1 13) 2 21) (Int.toNat r9)) r6.Value r6.Place r6.GVA) false))))))))) none) none)) (
  GN x0 ((((((((F_zf (NB x0) r4 x2 4 1 0 true (fun y10 r11 r12 r13 =>
  F_ze 68 r11 (fun r14 =>
  GN y10 ((((((((k (NB y10) r14 r12 r13))))))))))))))))))))))
abbrev Sg_zw (α : Type) := GBus → GState → GInsn → (GBus → Int → GFault → Bool → R α) → R α
@[reducible] def E_zw : OShs (GBus × GState × GInsn × Unit) := (.cons sh_Bus (.cons (.leaf Lf_GState) (.cons (.leaf Lf_GInsn) .nil)))
@[reducible] def M_zw : OShs (GBus × Unit) := (.cons sh_Bus .nil)
@[reducible] def Q_zw : OShs (Int × GFault × Bool × Unit) := (.cons (.leaf (Lf_int .u64)) (.cons (.leaf Lf_GFault) (.cons (.leaf Lf_bool) .nil)))
theorem E_z2n : E_zw.PlainP := ⟨plsh_Bus, trivial, trivial, trivial⟩
theorem M_z2n : M_zw.Plain := ⟨plsh_Bus, trivial⟩
theorem Q_z2n : Q_zw.Plain := ⟨(pl_int .u64), pl_GFault, pl_bool, trivial⟩
def ad_zw {α : Type} (F : Sg_zw α) : FF α := adO E_zw M_zw Q_zw false fun a k => F a.1 a.2.1 a.2.2.1 (fun y0 z0 z1 z2 => k (y0, ()) (z0, z1, z2, ()))
def p_zw {α : Type} (F_zj : Sg_zj α) (F_z1n : Sg_z1n α) (F_z11 : Sg_z11 α) (F_zp : Sg_zp α) (F_zg : Sg_zg α) (F_z5 : Sg_z5 α) (F_ze : Sg_ze α) (x0 : GBus) (x1 : GState) (x2 : GInsn) (k : GBus → Int → GFault → Bool → R α) : R α :=
  F_zj x2.Op (fun r1 =>
  let b2 : Bool := (r1 != 3)
  cond b2 (
  let b3 : Bool := (r1 != 4)
  cond b3 (
  let b4 : Bool := (r1 != 12)
  cond b4 (
  GN x0 ((((((((k (NB x0) 0 (GFault.mk 0 0 0 false) true))))))))) (
  F_z1n x2 (fun r5 =>
  let b6 : Bool := (!r5)
  cond b6 (
  GN x0 ((((((((k (NB x0) 0 (GFault.mk 0 0 0 false) true))))))))) (
  cond (decide (0 ≤ x2.Rs1) && decide (x2.Rs1 < 32)) (
  cond (decide ((Int.toNat x2.Rs1) < 32)) (
  let t7 : Int := (IntKind.u64.wrap x2.Imm)
  let t8 : Int := (IntKind.u64.wrap ((x1.X (Int.toNat x2.Rs1)) + t7))
  let b9 : Bool := (r1 == 4)
  cond b9 (
  let b10 : Bool := (r1 == 12)
  cond b10 (
  F_z11 x1 16 8 (fun r11 =>
  cond r11 (
  let b12 : Bool := (x2.Op == 68)
  cond b12 (
  GN x0 ((((((((F_zp (NB x0) x1 t8 1 (fun y13 r14 r15 r16 =>
  GN y13 ((((((((k (NB y13) r14 r15 r16)))))))))))))))))) (
  F_zg x2.Op (fun r17 =>
  cond (decide (0 ≤ x2.Rs2) && decide (x2.Rs2 < 32)) (
  cond (decide ((Int.toNat x2.Rs2) < 32)) (
  GN x0 ((((((((F_z5 (NB x0) x1 t8 r17 2 (x1.X (Int.toNat x2.Rs2)) 1 true (fun y18 r19 r20 r21 =>
  let b22 : Bool := (!r21)
  cond b22 (
  GN y18 ((((((((k (NB y18) 0 r20 false))))))))) (
  F_ze x2.Op r19 (fun r23 =>
  GN y18 ((((((((k (NB y18) r23 r20 true)))))))))))))))))))) none) none))) (
  let b24 : Bool := (x2.Op == 68)
  cond b24 (
  GN x0 ((((((((F_zp (NB x0) x1 t8 0 (fun y25 r26 r27 r28 =>
  GN y25 ((((((((k (NB y25) r26 r27 r28)))))))))))))))))) (
  F_zg x2.Op (fun r29 =>
  cond (decide (0 ≤ x2.Rs2) && decide (x2.Rs2 < 32)) (
  cond (decide ((Int.toNat x2.Rs2) < 32)) (
  GN x0 ((((((((F_z5 (NB x0) x1 t8 r29 2 (x1.X (Int.toNat x2.Rs2)) 0 true (fun y30 r31 r32 r33 =>
  let b34 : Bool := (!r33)
  cond b34 (
  GN y30 ((((((((k (NB y30) 0 r32 false))))))))) (
  F_ze x2.Op r31 (fun r35 =>
  GN y30 ((((((((k (NB y30) r35 r32 true)))))))))))))))))))) none) none))))) (
  let b36 : Bool := (x2.Op == 68)
  cond b36 (
  GN x0 ((((((((F_zp (NB x0) x1 t8 x1.Level (fun y37 r38 r39 r40 =>
  GN y37 ((((((((k (NB y37) r38 r39 r40)))))))))))))))))) (
  F_zg x2.Op (fun r41 =>
  cond (decide (0 ≤ x2.Rs2) && decide (x2.Rs2 < 32)) (
  cond (decide ((Int.toNat x2.Rs2) < 32)) (
  GN x0 ((((((((F_z5 (NB x0) x1 t8 r41 2 (x1.X (Int.toNat x2.Rs2)) x1.Level x1.V (fun y42 r43 r44 r45 =>
  let b46 : Bool := (!r45)
  cond b46 (
  GN y42 ((((((((k (NB y42) 0 r44 false))))))))) (
  F_ze x2.Op r43 (fun r47 =>
  GN y42 ((((((((k (NB y42) r47 r44 true)))))))))))))))))))) none) none)))) (
  let b48 : Bool := (x2.Op == 69)
  cond b48 (
  let b49 : Bool := (r1 == 12)
  cond b49 (
  F_z11 x1 16 8 (fun r50 =>
  cond r50 (
  let b51 : Bool := (x2.Op == 68)
  cond b51 (
  GN x0 ((((((((F_zp (NB x0) x1 t8 1 (fun y52 r53 r54 r55 =>
  GN y52 ((((((((k (NB y52) r53 r54 r55)))))))))))))))))) (
  F_zg x2.Op (fun r56 =>
  cond (decide (0 ≤ x2.Rs2) && decide (x2.Rs2 < 32)) (
  cond (decide ((Int.toNat x2.Rs2) < 32)) (
  GN x0 ((((((((F_z5 (NB x0) x1 t8 r56 2 (x1.X (Int.toNat x2.Rs2)) 1 true (fun y57 r58 r59 r60 =>
  let b61 : Bool := (!r60)
  cond b61 (
  GN y57 ((((((((k (NB y57) 0 r59 false))))))))) (
  F_ze x2.Op r58 (fun r62 =>
  GN y57 ((((((((k (NB y57) r62 r59 true)))))))))))))))))))) none) none))) (
  let b63 : Bool := (x2.Op == 68)
  cond b63 (
  GN x0 ((((((((F_zp (NB x0) x1 t8 0 (fun y64 r65 r66 r67 =>
  GN y64 ((((((((k (NB y64) r65 r66 r67)))))))))))))))))) (
  F_zg x2.Op (fun r68 =>
  cond (decide (0 ≤ x2.Rs2) && decide (x2.Rs2 < 32)) (
  cond (decide ((Int.toNat x2.Rs2) < 32)) (
  GN x0 ((((((((F_z5 (NB x0) x1 t8 r68 2 (x1.X (Int.toNat x2.Rs2)) 0 true (fun y69 r70 r71 r72 =>
  let b73 : Bool := (!r72)
  cond b73 (
  GN y69 ((((((((k (NB y69) 0 r71 false))))))))) (
  F_ze x2.Op r70 (fun r74 =>
  GN y69 ((((((((k (NB y69) r74 r71 true)))))))))))))))))))) none) none))))) (
  let b75 : Bool := (x2.Op == 68)
  cond b75 (
  GN x0 ((((((((F_zp (NB x0) x1 t8 x1.Level (fun y76 r77 r78 r79 =>
  GN y76 ((((((((k (NB y76) r77 r78 r79)))))))))))))))))) (
  F_zg x2.Op (fun r80 =>
  cond (decide (0 ≤ x2.Rs2) && decide (x2.Rs2 < 32)) (
  cond (decide ((Int.toNat x2.Rs2) < 32)) (
  GN x0 ((((((((F_z5 (NB x0) x1 t8 r80 2 (x1.X (Int.toNat x2.Rs2)) x1.Level x1.V (fun y81 r82 r83 r84 =>
  let b85 : Bool := (!r84)
  cond b85 (
  GN y81 ((((((((k (NB y81) 0 r83 false))))))))) (
  F_ze x2.Op r82 (fun r86 =>
  GN y81 ((((((((k (NB y81) r86 r83 true)))))))))))))))))))) none) none)))) (
  let b87 : Bool := (r1 == 12)
  cond b87 (
  F_z11 x1 16 8 (fun r88 =>
  cond r88 (
  let b89 : Bool := (x2.Op == 68)
  cond b89 (
  GN x0 ((((((((F_zp (NB x0) x1 t8 1 (fun y90 r91 r92 r93 =>
  GN y90 ((((((((k (NB y90) r91 r92 r93)))))))))))))))))) (
  F_zg x2.Op (fun r94 =>
  cond (decide (0 ≤ x2.Rs2) && decide (x2.Rs2 < 32)) (
  cond (decide ((Int.toNat x2.Rs2) < 32)) (
  GN x0 ((((((((F_z5 (NB x0) x1 t8 r94 1 (x1.X (Int.toNat x2.Rs2)) 1 true (fun y95 r96 r97 r98 =>
  let b99 : Bool := (!r98)
  cond b99 (
  GN y95 ((((((((k (NB y95) 0 r97 false))))))))) (
  F_ze x2.Op r96 (fun r100 =>
  GN y95 ((((((((k (NB y95) r100 r97 true)))))))))))))))))))) none) none))) (
  let b101 : Bool := (x2.Op == 68)
  cond b101 (
  GN x0 ((((((((F_zp (NB x0) x1 t8 0 (fun y102 r103 r104 r105 =>
  GN y102 ((((((((k (NB y102) r103 r104 r105)))))))))))))))))) (
  F_zg x2.Op (fun r106 =>
  cond (decide (0 ≤ x2.Rs2) && decide (x2.Rs2 < 32)) (
  cond (decide ((Int.toNat x2.Rs2) < 32)) (
  GN x0 ((((((((F_z5 (NB x0) x1 t8 r106 1 (x1.X (Int.toNat x2.Rs2)) 0 true (fun y107 r108 r109 r110 =>
  let b111 : Bool := (!r110)
  cond b111 (
  GN y107 ((((((((k (NB y107) 0 r109 false))))))))) (
  F_ze x2.Op r108 (fun r112 =>
  GN y107 ((((((((k (NB y107) r112 r109 true)))))))))))))))))))) none) none))))) (
  let b113 : Bool := (x2.Op == 68)
  cond b113 (
  GN x0 ((((((((F_zp (NB x0) x1 t8 x1.Level (fun y114 r115 r116 r117 =>
  GN y114 ((((((((k (NB y114) r115 r116 r117)))))))))))))))))) (
  F_zg x2.Op (fun r118 =>
  cond (decide (0 ≤ x2.Rs2) && decide (x2.Rs2 < 32)) (
  cond (decide ((Int.toNat x2.Rs2) < 32)) (
  GN x0 ((((((((F_z5 (NB x0) x1 t8 r118 1 (x1.X (Int.toNat x2.Rs2)) x1.Level x1.V (fun y119 r120 r121 r122 =>
  let b123 : Bool := (!r122)
  cond b123 (
  GN y119 ((((((((k (NB y119) 0 r121 false))))))))) (
  F_ze x2.Op r120 (fun r124 =>
  GN y119 ((((((((k (NB y119) r124 r121 true)))))))))))))))))))) none) none)))))) none) none)))) (
  F_z1n x2 (fun r125 =>
  let b126 : Bool := (!r125)
  cond b126 (
  GN x0 ((((((((k (NB x0) 0 (GFault.mk 0 0 0 false) true))))))))) (
  cond (decide (0 ≤ x2.Rs1) && decide (x2.Rs1 < 32)) (
  cond (decide ((Int.toNat x2.Rs1) < 32)) (
  let t127 : Int := (IntKind.u64.wrap x2.Imm)
  let t128 : Int := (IntKind.u64.wrap ((x1.X (Int.toNat x2.Rs1)) + t127))
  let b129 : Bool := (r1 == 4)
  cond b129 (
  let b130 : Bool := (r1 == 12)
  cond b130 (
  F_z11 x1 16 8 (fun r131 =>
  cond r131 (
  let b132 : Bool := (x2.Op == 68)
  cond b132 (
  GN x0 ((((((((F_zp (NB x0) x1 t128 1 (fun y133 r134 r135 r136 =>
  GN y133 ((((((((k (NB y133) r134 r135 r136)))))))))))))))))) (
  F_zg x2.Op (fun r137 =>
  cond (decide (0 ≤ x2.Rs2) && decide (x2.Rs2 < 32)) (
  cond (decide ((Int.toNat x2.Rs2) < 32)) (
  GN x0 ((((((((F_z5 (NB x0) x1 t128 r137 2 (x1.X (Int.toNat x2.Rs2)) 1 true (fun y138 r139 r140 r141 =>
  let b142 : Bool := (!r141)
  cond b142 (
  GN y138 ((((((((k (NB y138) 0 r140 false))))))))) (
  F_ze x2.Op r139 (fun r143 =>
  GN y138 ((((((((k (NB y138) r143 r140 true)))))))))))))))))))) none) none))) (
  let b144 : Bool := (x2.Op == 68)
  cond b144 (
  GN x0 ((((((((F_zp (NB x0) x1 t128 0 (fun y145 r146 r147 r148 =>
  GN y145 ((((((((k (NB y145) r146 r147 r148)))))))))))))))))) (
  F_zg x2.Op (fun r149 =>
  cond (decide (0 ≤ x2.Rs2) && decide (x2.Rs2 < 32)) (
  cond (decide ((Int.toNat x2.Rs2) < 32)) (
  GN x0 ((((((((F_z5 (NB x0) x1 t128 r149 2 (x1.X (Int.toNat x2.Rs2)) 0 true (fun y150 r151 r152 r153 =>
  let b154 : Bool := (!r153)
  cond b154 (
  GN y150 ((((((((k (NB y150) 0 r152 false))))))))) (
  F_ze x2.Op r151 (fun r155 =>
  GN y150 ((((((((k (NB y150) r155 r152 true)))))))))))))))))))) none) none))))) (
  let b156 : Bool := (x2.Op == 68)
  cond b156 (
  GN x0 ((((((((F_zp (NB x0) x1 t128 x1.Level (fun y157 r158 r159 r160 =>
  GN y157 ((((((((k (NB y157) r158 r159 r160)))))))))))))))))) (
  F_zg x2.Op (fun r161 =>
  cond (decide (0 ≤ x2.Rs2) && decide (x2.Rs2 < 32)) (
  cond (decide ((Int.toNat x2.Rs2) < 32)) (
  GN x0 ((((((((F_z5 (NB x0) x1 t128 r161 2 (x1.X (Int.toNat x2.Rs2)) x1.Level x1.V (fun y162 r163 r164 r165 =>
  let b166 : Bool := (!r165)
  cond b166 (
  GN y162 ((((((((k (NB y162) 0 r164 false))))))))) (
  F_ze x2.Op r163 (fun r167 =>
  GN y162 ((((((((k (NB y162) r167 r164 true)))))))))))))))))))) none) none)))) (
  let b168 : Bool := (x2.Op == 69)
  cond b168 (
  let b169 : Bool := (r1 == 12)
  cond b169 (
  F_z11 x1 16 8 (fun r170 =>
  cond r170 (
  let b171 : Bool := (x2.Op == 68)
  cond b171 (
  GN x0 ((((((((F_zp (NB x0) x1 t128 1 (fun y172 r173 r174 r175 =>
  GN y172 ((((((((k (NB y172) r173 r174 r175)))))))))))))))))) (
  F_zg x2.Op (fun r176 =>
  cond (decide (0 ≤ x2.Rs2) && decide (x2.Rs2 < 32)) (
  cond (decide ((Int.toNat x2.Rs2) < 32)) (
  GN x0 ((((((((F_z5 (NB x0) x1 t128 r176 2 (x1.X (Int.toNat x2.Rs2)) 1 true (fun y177 r178 r179 r180 =>
  let b181 : Bool := (!r180)
  cond b181 (
  GN y177 ((((((((k (NB y177) 0 r179 false))))))))) (
  F_ze x2.Op r178 (fun r182 =>
  GN y177 ((((((((k (NB y177) r182 r179 true)))))))))))))))))))) none) none))) (
  let b183 : Bool := (x2.Op == 68)
  cond b183 (
  GN x0 ((((((((F_zp (NB x0) x1 t128 0 (fun y184 r185 r186 r187 =>
  GN y184 ((((((((k (NB y184) r185 r186 r187)))))))))))))))))) (
  F_zg x2.Op (fun r188 =>
  cond (decide (0 ≤ x2.Rs2) && decide (x2.Rs2 < 32)) (
  cond (decide ((Int.toNat x2.Rs2) < 32)) (
  GN x0 ((((((((F_z5 (NB x0) x1 t128 r188 2 (x1.X (Int.toNat x2.Rs2)) 0 true (fun y189 r190 r191 r192 =>
  let b193 : Bool := (!r192)
  cond b193 (
  GN y189 ((((((((k (NB y189) 0 r191 false))))))))) (
  F_ze x2.Op r190 (fun r194 =>
  GN y189 ((((((((k (NB y189) r194 r191 true)))))))))))))))))))) none) none))))) (
  let b195 : Bool := (x2.Op == 68)
  cond b195 (
  GN x0 ((((((((F_zp (NB x0) x1 t128 x1.Level (fun y196 r197 r198 r199 =>
  GN y196 ((((((((k (NB y196) r197 r198 r199)))))))))))))))))) (
  F_zg x2.Op (fun r200 =>
  cond (decide (0 ≤ x2.Rs2) && decide (x2.Rs2 < 32)) (
  cond (decide ((Int.toNat x2.Rs2) < 32)) (
  GN x0 ((((((((F_z5 (NB x0) x1 t128 r200 2 (x1.X (Int.toNat x2.Rs2)) x1.Level x1.V (fun y201 r202 r203 r204 =>
  let b205 : Bool := (!r204)
  cond b205 (
  GN y201 ((((((((k (NB y201) 0 r203 false))))))))) (
  F_ze x2.Op r202 (fun r206 =>
  GN y201 ((((((((k (NB y201) r206 r203 true)))))))))))))))))))) none) none)))) (
  let b207 : Bool := (r1 == 12)
  cond b207 (
  F_z11 x1 16 8 (fun r208 =>
  cond r208 (
  let b209 : Bool := (x2.Op == 68)
  cond b209 (
  GN x0 ((((((((F_zp (NB x0) x1 t128 1 (fun y210 r211 r212 r213 =>
  GN y210 ((((((((k (NB y210) r211 r212 r213)))))))))))))))))) (
  F_zg x2.Op (fun r214 =>
  cond (decide (0 ≤ x2.Rs2) && decide (x2.Rs2 < 32)) (
  cond (decide ((Int.toNat x2.Rs2) < 32)) (
  GN x0 ((((((((F_z5 (NB x0) x1 t128 r214 1 (x1.X (Int.toNat x2.Rs2)) 1 true (fun y215 r216 r217 r218 =>
  let b219 : Bool := (!r218)
  cond b219 (
  GN y215 ((((((((k (NB y215) 0 r217 false))))))))) (
  F_ze x2.Op r216 (fun r220 =>
  GN y215 ((((((((k (NB y215) r220 r217 true)))))))))))))))))))) none) none))) (
  let b221 : Bool := (x2.Op == 68)
  cond b221 (
  GN x0 ((((((((F_zp (NB x0) x1 t128 0 (fun y222 r223 r224 r225 =>
  GN y222 ((((((((k (NB y222) r223 r224 r225)))))))))))))))))) (
  F_zg x2.Op (fun r226 =>
  cond (decide (0 ≤ x2.Rs2) && decide (x2.Rs2 < 32)) (
  cond (decide ((Int.toNat x2.Rs2) < 32)) (
  GN x0 ((((((((F_z5 (NB x0) x1 t128 r226 1 (x1.X (Int.toNat x2.Rs2)) 0 true (fun y227 r228 r229 r230 =>
  let b231 : Bool := (!r230)
  cond b231 (
  GN y227 ((((((((k (NB y227) 0 r229 false))))))))) (
  F_ze x2.Op r228 (fun r232 =>
  GN y227 ((((((((k (NB y227) r232 r229 true)))))))))))))))))))) none) none))))) (
  let b233 : Bool := (x2.Op == 68)
  cond b233 (
  GN x0 ((((((((F_zp (NB x0) x1 t128 x1.Level (fun y234 r235 r236 r237 =>
  GN y234 ((((((((k (NB y234) r235 r236 r237)))))))))))))))))) (
  F_zg x2.Op (fun r238 =>
  cond (decide (0 ≤ x2.Rs2) && decide (x2.Rs2 < 32)) (
  cond (decide ((Int.toNat x2.Rs2) < 32)) (
  GN x0 ((((((((F_z5 (NB x0) x1 t128 r238 1 (x1.X (Int.toNat x2.Rs2)) x1.Level x1.V (fun y239 r240 r241 r242 =>
  let b243 : Bool := (!r242)
  cond b243 (
  GN y239 ((((((((k (NB y239) 0 r241 false))))))))) (
  F_ze x2.Op r240 (fun r244 =>
  GN y239 ((((((((k (NB y239) r244 r241 true)))))))))))))))))))) none) none)))))) none) none)))) (
  F_z1n x2 (fun r245 =>
  let b246 : Bool := (!r245)
  cond b246 (
  GN x0 ((((((((k (NB x0) 0 (GFault.mk 0 0 0 false) true))))))))) (
  cond (decide (0 ≤ x2.Rs1) && decide (x2.Rs1 < 32)) (
  cond (decide ((Int.toNat x2.Rs1) < 32)) (
  let t247 : Int := (IntKind.u64.wrap x2.Imm)
  let t248 : Int := (IntKind.u64.wrap ((x1.X (Int.toNat x2.Rs1)) + t247))
  let b249 : Bool := (r1 == 4)
  cond b249 (
  let b250 : Bool := (r1 == 12)
  cond b250 (
  F_z11 x1 16 8 (fun r251 =>
  cond r251 (
  let b252 : Bool := (x2.Op == 68)
  cond b252 (
  GN x0 ((((((((F_zp (NB x0) x1 t248 1 (fun y253 r254 r255 r256 =>
  GN y253 ((((((((k (NB y253) r254 r255 r256)))))))))))))))))) (
  F_zg x2.Op (fun r257 =>
  cond (decide (0 ≤ x2.Rs2) && decide (x2.Rs2 < 32)) (
  cond (decide ((Int.toNat x2.Rs2) < 32)) (
  GN x0 ((((((((F_z5 (NB x0) x1 t248 r257 2 (x1.X (Int.toNat x2.Rs2)) 1 true (fun y258 r259 r260 r261 =>
  let b262 : Bool := (!r261)
  cond b262 (
  GN y258 ((((((((k (NB y258) 0 r260 false))))))))) (
  F_ze x2.Op r259 (fun r263 =>
  GN y258 ((((((((k (NB y258) r263 r260 true)))))))))))))))))))) none) none))) (
  let b264 : Bool := (x2.Op == 68)
  cond b264 (
  GN x0 ((((((((F_zp (NB x0) x1 t248 0 (fun y265 r266 r267 r268 =>
  GN y265 ((((((((k (NB y265) r266 r267 r268)))))))))))))))))) (
  F_zg x2.Op (fun r269 =>
  cond (decide (0 ≤ x2.Rs2) && decide (x2.Rs2 < 32)) (
  cond (decide ((Int.toNat x2.Rs2) < 32)) (
  GN x0 ((((((((F_z5 (NB x0) x1 t248 r269 2 (x1.X (Int.toNat x2.Rs2)) 0 true (fun y270 r271 r272 r273 =>
  let b274 : Bool := (!r273)
  cond b274 (
  GN y270 ((((((((k (NB y270) 0 r272 false))))))))) (
  F_ze x2.Op r271 (fun r275 =>
  GN y270 ((((((((k (NB y270) r275 r272 true)))))))))))))))))))) none) none))))) (
  let b276 : Bool := (x2.Op == 68)
  cond b276 (
  GN x0 ((((((((F_zp (NB x0) x1 t248 x1.Level (fun y277 r278 r279 r280 =>
  GN y277 ((((((((k (NB y277) r278 r279 r280)))))))))))))))))) (
  F_zg x2.Op (fun r281 =>
  cond (decide (0 ≤ x2.Rs2) && decide (x2.Rs2 < 32)) (
  cond (decide ((Int.toNat x2.Rs2) < 32)) (
  GN x0 ((((((((F_z5 (NB x0) x1 t248 r281 2 (x1.X (Int.toNat x2.Rs2)) x1.Level x1.V (fun y282 r283 r284 r285 =>
  let b286 : Bool := (!r285)
  cond b286 (
  GN y282 ((((((((k (NB y282) 0 r284 false))))))))) (
  F_ze x2.Op r283 (fun r287 =>
  GN y282 ((((((((k (NB y282) r287 r284 true)))))))))))))))))))) none) none)))) (
  let b288 : Bool := (x2.Op == 69)
  cond b288 (
  let b289 : Bool := (r1 == 12)
  cond b289 (
  F_z11 x1 16 8 (fun r290 =>
  cond r290 (
  let b291 : Bool := (x2.Op == 68)
  cond b291 (
  GN x0 ((((((((F_zp (NB x0) x1 t248 1 (fun y292 r293 r294 r295 =>
  GN y292 ((((((((k (NB y292) r293 r294 r295)))))))))))))))))) (
  F_zg x2.Op (fun r296 =>
  cond (decide (0 ≤ x2.Rs2) && decide (x2.Rs2 < 32)) (
  cond (decide ((Int.toNat x2.Rs2) < 32)) (
  GN x0 ((((((((F_z5 (NB x0) x1 t248 r296 2 (x1.X (Int.toNat x2.Rs2)) 1 true (fun y297 r298 r299 r300 =>
  let b301 : Bool := (!r300)
  cond b301 (
  GN y297 ((((((((k (NB y297) 0 r299 false))))))))) (
  F_ze x2.Op r298 (fun r302 =>
  GN y297 ((((((((k (NB y297) r302 r299 true)))))))))))))))))))) none) none))) (
  let b303 : Bool := (x2.Op == 68)
  cond b303 (
  GN x0 ((((((((F_zp (NB x0) x1 t248 0 (fun y304 r305 r306 r307 =>
  GN y304 ((((((((k (NB y304) r305 r306 r307)))))))))))))))))) (
  F_zg x2.Op (fun r308 =>
  cond (decide (0 ≤ x2.Rs2) && decide (x2.Rs2 < 32)) (
  cond (decide ((Int.toNat x2.Rs2) < 32)) (
  GN x0 ((((((((F_z5 (NB x0) x1 t248 r308 2 (x1.X (Int.toNat x2.Rs2)) 0 true (fun y309 r310 r311 r312 =>
  let b313 : Bool := (!r312)
  cond b313 (
  GN y309 ((((((((k (NB y309) 0 r311 false))))))))) (
  F_ze x2.Op r310 (fun r314 =>
  GN y309 ((((((((k (NB y309) r314 r311 true)))))))))))))))))))) none) none))))) (
  let b315 : Bool := (x2.Op == 68)
  cond b315 (
  GN x0 ((((((((F_zp (NB x0) x1 t248 x1.Level (fun y316 r317 r318 r319 =>
  GN y316 ((((((((k (NB y316) r317 r318 r319)))))))))))))))))) (
  F_zg x2.Op (fun r320 =>
  cond (decide (0 ≤ x2.Rs2) && decide (x2.Rs2 < 32)) (
  cond (decide ((Int.toNat x2.Rs2) < 32)) (
  GN x0 ((((((((F_z5 (NB x0) x1 t248 r320 2 (x1.X (Int.toNat x2.Rs2)) x1.Level x1.V (fun y321 r322 r323 r324 =>
  let b325 : Bool := (!r324)
  cond b325 (
  GN y321 ((((((((k (NB y321) 0 r323 false))))))))) (
  F_ze x2.Op r322 (fun r326 =>
  GN y321 ((((((((k (NB y321) r326 r323 true)))))))))))))))))))) none) none)))) (
  let b327 : Bool := (r1 == 12)
  cond b327 (
  F_z11 x1 16 8 (fun r328 =>
  cond r328 (
  let b329 : Bool := (x2.Op == 68)
  cond b329 (
  GN x0 ((((((((F_zp (NB x0) x1 t248 1 (fun y330 r331 r332 r333 =>
  GN y330 ((((((((k (NB y330) r331 r332 r333)))))))))))))))))) (
  F_zg x2.Op (fun r334 =>
  cond (decide (0 ≤ x2.Rs2) && decide (x2.Rs2 < 32)) (
  cond (decide ((Int.toNat x2.Rs2) < 32)) (
  GN x0 ((((((((F_z5 (NB x0) x1 t248 r334 1 (x1.X (Int.toNat x2.Rs2)) 1 true (fun y335 r336 r337 r338 =>
  let b339 : Bool := (!r338)
  cond b339 (
  GN y335 ((((((((k (NB y335) 0 r337 false))))))))) (
  F_ze x2.Op r336 (fun r340 =>
  GN y335 ((((((((k (NB y335) r340 r337 true)))))))))))))))))))) none) none))) (
  let b341 : Bool := (x2.Op == 68)
  cond b341 (
  GN x0 ((((((((F_zp (NB x0) x1 t248 0 (fun y342 r343 r344 r345 =>
  GN y342 ((((((((k (NB y342) r343 r344 r345)))))))))))))))))) (
  F_zg x2.Op (fun r346 =>
  cond (decide (0 ≤ x2.Rs2) && decide (x2.Rs2 < 32)) (
  cond (decide ((Int.toNat x2.Rs2) < 32)) (
  GN x0 ((((((((F_z5 (NB x0) x1 t248 r346 1 (x1.X (Int.toNat x2.Rs2)) 0 true (fun y347 r348 r349 r350 =>
  let b351 : Bool := (!r350)
  cond b351 (
  GN y347 ((((((((k (NB y347) 0 r349 false))))))))) (
  F_ze x2.Op r348 (fun r352 =>
  GN y347 ((((((((k (NB y347) r352 r349 true)))))))))))))))))))) none) none))))) (
  let b353 : Bool := (x2.Op == 68)
  cond b353 (
  GN x0 ((((((((F_zp (NB x0) x1 t248 x1.Level (fun y354 r355 r356 r357 =>
  GN y354 ((((((((k (NB y354) r355 r356 r357)))))))))))))))))) (
  F_zg x2.Op (fun r358 =>
  cond (decide (0 ≤ x2.Rs2) && decide (x2.Rs2 < 32)) (
  cond (decide ((Int.toNat x2.Rs2) < 32)) (
  GN x0 ((((((((F_z5 (NB x0) x1 t248 r358 1 (x1.X (Int.toNat x2.Rs2)) x1.Level x1.V (fun y359 r360 r361 r362 =>
  let b363 : Bool := (!r362)
  cond b363 (
  GN y359 ((((((((k (NB y359) 0 r361 false))))))))) (
  F_ze x2.Op r360 (fun r364 =>
  GN y359 ((((((((k (NB y359) r364 r361 true)))))))))))))))))))) none) none)))))) none) none))))
abbrev Sg_zx (α : Type) := GBus → GState → (GBus → Int → GFault → Bool → R α) → R α
@[reducible] def E_zx : OShs (GBus × GState × Unit) := (.cons sh_Bus (.cons (.leaf Lf_GState) .nil))
@[reducible] def M_zx : OShs (GBus × Unit) := (.cons sh_Bus .nil)
@[reducible] def Q_zx : OShs (Int × GFault × Bool × Unit) := (.cons (.leaf (Lf_int .u32)) (.cons (.leaf Lf_GFault) (.cons (.leaf Lf_bool) .nil)))
theorem E_z2o : E_zx.PlainP := ⟨plsh_Bus, trivial, trivial⟩
theorem M_z2o : M_zx.Plain := ⟨plsh_Bus, trivial⟩
theorem Q_z2o : Q_zx.Plain := ⟨(pl_int .u32), pl_GFault, pl_bool, trivial⟩
def ad_zx {α : Type} (F : Sg_zx α) : FF α := adO E_zx M_zx Q_zx false fun a k => F a.1 a.2.1 (fun y0 z0 z1 z2 => k (y0, ()) (z0, z1, z2, ()))
def p_zx {α : Type} (F_z5 : Sg_z5 α) (x0 : GBus) (x1 : GState) (k : GBus → Int → GFault → Bool → R α) : R α :=
  GN x0 ((((((((F_z5 (NB x0) x1 x1.PC 4 0 0 x1.Level x1.V (fun y1 r2 r3 r4 =>
  let t5 : Int := (IntKind.u32.wrap r2)
  GN y1 ((((((((k (NB y1) t5 r3 r4)))))))))))))))))
abbrev Sg_z1i (α : Type) := (Bool → R α) → R α
def ad_z1i {α : Type} (F : Sg_z1i α) : FP α := fun args k => match args with
  | [] =>  F  (fun r0 => k (.bool r0))
  | _ => none
def dR_law17_known {α : Type} (a0 : SV) (k : Bool → R α) : R α := decB a0 fun x0 => k x0
theorem dR_law17_known_spec {α : Type} {v : SV} {k : Bool → R α} {r : α} (h : dR_law17_known v k = some r) : ∃ x0, v = (.bool x0) ∧ k x0 = some r := by
  unfold dR_law17_known at h
  obtain ⟨x0, rfl, h0⟩ := decB_spec h
  exact ⟨x0, rfl, h0⟩
def p_z1i {α : Type} (F_z5 : Sg_z5 α) (F_zw : Sg_zw α) (F_zx : Sg_zx α)  (k : Bool → R α) : R α :=
  F_z5 (GBus.mk (fun _ => 0) 0 18446744073709551615 (upd (upd (upd (fun _ => (GPort.mk (Row.mk 0 fun _ => 0) (Row.mk 0 fun _ => 0) 0)) 1 (GPort.mk (Row.mk 0 fun _ => 0) (Row.mk 0 fun _ => 0) 0)) 2 (GPort.mk (Row.mk 0 fun _ => 0) (Row.mk 0 fun _ => 0) 0)) 3 (GPort.mk (Row.mk 0 fun _ => 0) (Row.mk 0 fun _ => 0) 0))) (GState.mk (fun _ => 0) 0 3 false (fun _ => 0) 0) 3 4 1 0 3 false (fun y1 r2 r3 r4 =>
  GN y1 ((((((((F_z5 (NB y1) (GState.mk (fun _ => 0) 0 3 false (fun _ => 0) 0) 32768 4 2 0 3 false (fun y5 r6 r7 r8 =>
  GN y5 ((((((((F_z5 (NB y5) (GState.mk (fun _ => 0) 0 3 false (fun _ => 0) 0) 61440 8 0 0 3 false (fun y9 r10 r11 r12 =>
  GN y9 ((((((((F_z5 (NB y9) (GState.mk (fun _ => 0) 0 3 false (fun _ => 0) 0) 8 8 2 4660 3 false (fun y13 r14 r15 r16 =>
  GN y13 ((((((((F_zw (NB y13) (GState.mk (upd (fun _ => 0) 1 8) 0 3 false (fun _ => 0) 0) (GInsn.mk 15 2 1 0 0 0) (fun y17 r18 r19 r20 =>
  GN y17 ((((((((F_zx (NB y17) (GState.mk (upd (fun _ => 0) 1 8) 8 3 false (fun _ => 0) 0) (fun y21 r22 r23 r24 =>
  let b25 : Bool := (!r4)
  cond b25 (
  let b26 : Bool := ((r3.Cause == 4) && ((r3.Value == 3) && ((r3.Place == 0) && ((r3.GVA == false) && true))))
  cond b26 (
  let b27 : Bool := (!r8)
  cond b27 (
  let b28 : Bool := (r7.Cause == 7)
  cond b28 (
  let b29 : Bool := (!r12)
  cond b29 (
  let b30 : Bool := (r11.Cause == 1)
  cond b30 (
  cond r16 (
  cond r20 (
  let b31 : Bool := (r18 == 52)
  cond b31 (
  cond r24 (
  let b32 : Bool := (r22 == 4660)
  k b32) (
  k false)) (
  k false)) (
  k false)) (
  k false)) (
  k false)) (
  k false)) (
  k false)) (
  k false)) (
  k false)) (
  k false)))))))))))))))))))))))))))))))))))))))))))))))
theorem le_z1i {α : Type} {F F' : Sg_z1i α} (h : ∀  k r, F'  k = some r → F  k = some r) {args : List SV} {k : SV → R α} {r : α} (hk : ad_z1i F' args k = some r) : ad_z1i F args k = some r := by
  unfold ad_z1i at hk
  split at hk <;> try (cases hk; done)
  have hkz := hk
  exact h  _ _ hkz
abbrev Sg_z1r (α : Type) := (Bool × Addr × Nat × Nat × (Nat → (Int × Int × Unit))) → GState → Int → Int → Int → Int → Bool → Bool → (Bool → R α) → R α
def ad_z1r {α : Type} (F : Sg_z1r α) : FP α := fun args k => match args with
  | [a0, a1, a2, a3, a4, a5, a6, a7] => decV_st_int_u64_int_u64 a0 fun x0 => GState.dec a1 fun x1 => decI .u64 a2 fun x2 => decI .i64 a3 fun x3 => decI .u8 a4 fun x4 => decI .u64 a5 fun x5 => decB a6 fun x6 => decB a7 fun x7 => F x0 x1 x2 x3 x4 x5 x6 x7 (fun r0 => k (.bool r0))
  | _ => none
def dR_law17_AccessTells {α : Type} (a0 : SV) (k : Bool → R α) : R α := decB a0 fun x0 => k x0
theorem dR_law17_AccessTells_spec {α : Type} {v : SV} {k : Bool → R α} {r : α} (h : dR_law17_AccessTells v k = some r) : ∃ x0, v = (.bool x0) ∧ k x0 = some r := by
  unfold dR_law17_AccessTells at h
  obtain ⟨x0, rfl, h0⟩ := decB_spec h
  exact ⟨x0, rfl, h0⟩
def p_z1r {α : Type} (F_z1i : Sg_z1i α) (F_z1m : Sg_z1m α) (F_z15 : Sg_z15 α) (F_z1h : Sg_z1h α) (F_z5 : Sg_z5 α) (F_z14 : Sg_z14 α) (F_z16 : Sg_z16 α) (x0 : (Bool × Addr × Nat × Nat × (Nat → (Int × Int × Unit)))) (x1 : GState) (x2 : Int) (x3 : Int) (x4 : Int) (x5 : Int) (x6 : Bool) (x7 : Bool) (k : Bool → R α) : R α :=
  F_z1i  (fun r1 =>
  let b2 : Bool := (!r1)
  cond b2 (
  k false) (
  F_z1m x0 (fun r3 =>
  let b4 : Bool := (!r3)
  cond b4 (
  k true) (
  F_z15 x0 (fun r5 r6 =>
  F_z1h x1 (fun r7 =>
  cond x6 (
  let t8 : Int := (Int.tmod x4 3)
  let t9 : Int := (IntKind.i64.wrap t8)
  GN r5 ((((((((F_z5 (NB r5) r7 x2 x3 t9 x5 0 x7 (fun y10 r11 r12 r13 =>
  let t14 : Int := (Int.tmod x4 3)
  let t15 : Int := (IntKind.i64.wrap t14)
  F_z14 (NR r6) r7 x2 x3 t15 x5 0 x7 false (fun y16 r17 =>
  let b18 : Bool := (r11 == r17.v)
  cond b18 (
  let b19 : Bool := ((r12.Cause == r17.f.Cause) && ((r12.Value == r17.f.Value) && ((r12.Place == r17.f.Place) && ((r12.GVA == r17.f.GVA) && true))))
  cond b19 (
  let b20 : Bool := (r13 == r17.ok)
  cond b20 (
  GN y10 ((((((((F_z16 (NB y10) (NR y16) r17.at_ (fun y21 y22 r23 =>
  k r23)))))))))) (
  k false)) (
  k false)) (
  k false)))))))))))) (
  let t24 : Int := (Int.tmod x4 3)
  let t25 : Int := (IntKind.i64.wrap t24)
  GN r5 ((((((((F_z5 (NB r5) r7 x2 x3 t25 x5 1 x7 (fun y26 r27 r28 r29 =>
  let t30 : Int := (Int.tmod x4 3)
  let t31 : Int := (IntKind.i64.wrap t30)
  F_z14 (NR r6) r7 x2 x3 t31 x5 1 x7 false (fun y32 r33 =>
  let b34 : Bool := (r27 == r33.v)
  cond b34 (
  let b35 : Bool := ((r28.Cause == r33.f.Cause) && ((r28.Value == r33.f.Value) && ((r28.Place == r33.f.Place) && ((r28.GVA == r33.f.GVA) && true))))
  cond b35 (
  let b36 : Bool := (r29 == r33.ok)
  cond b36 (
  GN y26 ((((((((F_z16 (NB y26) (NR y32) r33.at_ (fun y37 y38 r39 =>
  k r39)))))))))) (
  k false)) (
  k false)) (
  k false))))))))))))))))))
theorem le_z1r {α : Type} {F F' : Sg_z1r α} (h : ∀ x0 x1 x2 x3 x4 x5 x6 x7 k r, F' x0 x1 x2 x3 x4 x5 x6 x7 k = some r → F x0 x1 x2 x3 x4 x5 x6 x7 k = some r) {args : List SV} {k : SV → R α} {r : α} (hk : ad_z1r F' args k = some r) : ad_z1r F args k = some r := by
  unfold ad_z1r at hk
  split at hk <;> try (cases hk; done)
  obtain ⟨x0, rfl, hk0⟩ := decV_st_int_u64_int_u64_spec hk
  obtain ⟨x1, rfl, hk1⟩ := GState.dec_spec hk0
  obtain ⟨x2, rfl, hk2⟩ := decI_spec hk1
  obtain ⟨x3, rfl, hk3⟩ := decI_spec hk2
  obtain ⟨x4, rfl, hk4⟩ := decI_spec hk3
  obtain ⟨x5, rfl, hk5⟩ := decI_spec hk4
  obtain ⟨x6, rfl, hk6⟩ := decB_spec hk5
  obtain ⟨x7, rfl, hk7⟩ := decB_spec hk6
  have hkz := hk7
  exact h x0 x1 x2 x3 x4 x5 x6 x7 _ _ hkz
end Go.Sh
