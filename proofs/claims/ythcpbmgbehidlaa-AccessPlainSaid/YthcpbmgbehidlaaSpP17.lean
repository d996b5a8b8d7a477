/-
  The bus, accesses, the law AccessPlain (printed by wip/pr/pr.py): what the functions come to, told without the program.
-/
import Derived.Test.YthcpbmgbehidlaaSkC
import Derived.Test.YthcpbmgbehidlaaSpTwo
set_option linter.unusedSimpArgs false
set_option linter.unusedVariables false
namespace Go.Sh
open Go
set_option linter.unusedVariables false
structure GState where
  X : (Nat → Int)
  PC : Int
  Level : Int
  V : Bool
  C : (Nat → Int)
  Done : Int
abbrev GState.sv (t : GState) : SV := .agg [.ints .u64 32 t.X, .int .u64 t.PC, .int .i64 t.Level, .bool t.V, .ints .u64 29 t.C, .int .u64 t.Done]
def GState.dec {α : Type} (v : SV) (k : GState → R α) : R α := match v with
  | .agg [a0, a1, a2, a3, a4, a5] => decA .u64 32 a0 fun x0 => decI .u64 a1 fun x1 => decI .i64 a2 fun x2 => decB a3 fun x3 => decA .u64 29 a4 fun x4 => decI .u64 a5 fun x5 => k ⟨x0, x1, x2, x3, x4, x5⟩
  | _ => none
theorem GState.dec_spec {α : Type} {v : SV} {k : GState → R α} {r : α} (h : GState.dec v k = some r) : ∃ t : GState, v = t.sv ∧ k t = some r := by
  unfold GState.dec at h
  split at h <;> try (cases h; done)
  obtain ⟨x0, rfl, h0⟩ := decA_spec h
  obtain ⟨x1, rfl, h1⟩ := decI_spec h0
  obtain ⟨x2, rfl, h2⟩ := decI_spec h1
  obtain ⟨x3, rfl, h3⟩ := decB_spec h2
  obtain ⟨x4, rfl, h4⟩ := decA_spec h3
  obtain ⟨x5, rfl, h5⟩ := decI_spec h4
  exact ⟨⟨x0, x1, x2, x3, x4, x5⟩, rfl, h5⟩
theorem GState.ids (t : GState) {p : Nat → Prop} : Ids p t.sv := by simp [Ids, Idss]
structure GInsn where
  Op : Int
  Rd : Int
  Rs1 : Int
  Rs2 : Int
  Imm : Int
  CSR : Int
abbrev GInsn.sv (t : GInsn) : SV := .agg [.int .i64 t.Op, .int .i64 t.Rd, .int .i64 t.Rs1, .int .i64 t.Rs2, .int .i64 t.Imm, .int .i64 t.CSR]
def GInsn.dec {α : Type} (v : SV) (k : GInsn → R α) : R α := match v with
  | .agg [a0, a1, a2, a3, a4, a5] => decI .i64 a0 fun x0 => decI .i64 a1 fun x1 => decI .i64 a2 fun x2 => decI .i64 a3 fun x3 => decI .i64 a4 fun x4 => decI .i64 a5 fun x5 => k ⟨x0, x1, x2, x3, x4, x5⟩
  | _ => none
theorem GInsn.dec_spec {α : Type} {v : SV} {k : GInsn → R α} {r : α} (h : GInsn.dec v k = some r) : ∃ t : GInsn, v = t.sv ∧ k t = some r := by
  unfold GInsn.dec at h
  split at h <;> try (cases h; done)
  obtain ⟨x0, rfl, h0⟩ := decI_spec h
  obtain ⟨x1, rfl, h1⟩ := decI_spec h0
  obtain ⟨x2, rfl, h2⟩ := decI_spec h1
  obtain ⟨x3, rfl, h3⟩ := decI_spec h2
  obtain ⟨x4, rfl, h4⟩ := decI_spec h3
  obtain ⟨x5, rfl, h5⟩ := decI_spec h4
  exact ⟨⟨x0, x1, x2, x3, x4, x5⟩, rfl, h5⟩
theorem GInsn.ids (t : GInsn) {p : Nat → Prop} : Ids p t.sv := by simp [Ids, Idss]
structure GFault where
  Cause : Int
  Value : Int
  Place : Int
  GVA : Bool
abbrev GFault.sv (t : GFault) : SV := .agg [.int .u64 t.Cause, .int .u64 t.Value, .int .u64 t.Place, .bool t.GVA]
def GFault.dec {α : Type} (v : SV) (k : GFault → R α) : R α := match v with
  | .agg [a0, a1, a2, a3] => decI .u64 a0 fun x0 => decI .u64 a1 fun x1 => decI .u64 a2 fun x2 => decB a3 fun x3 => k ⟨x0, x1, x2, x3⟩
  | _ => none
theorem GFault.dec_spec {α : Type} {v : SV} {k : GFault → R α} {r : α} (h : GFault.dec v k = some r) : ∃ t : GFault, v = t.sv ∧ k t = some r := by
  unfold GFault.dec at h
  split at h <;> try (cases h; done)
  obtain ⟨x0, rfl, h0⟩ := decI_spec h
  obtain ⟨x1, rfl, h1⟩ := decI_spec h0
  obtain ⟨x2, rfl, h2⟩ := decI_spec h1
  obtain ⟨x3, rfl, h3⟩ := decB_spec h2
  exact ⟨⟨x0, x1, x2, x3⟩, rfl, h3⟩
theorem GFault.ids (t : GFault) {p : Nat → Prop} : Ids p t.sv := by simp [Ids, Idss]
structure GEntry where
  Valid : Bool
  V : Bool
  Page : Int
  Asid : Int
  Vmid : Int
  Frame : Int
  Bits : Int
  Host : Int
  Guest : Int
abbrev GEntry.sv (t : GEntry) : SV := .agg [.bool t.Valid, .bool t.V, .int .i64 t.Page, .int .i64 t.Asid, .int .i64 t.Vmid, .int .i64 t.Frame, .int .i64 t.Bits, .int .i64 t.Host, .int .i64 t.Guest]
def GEntry.dec {α : Type} (v : SV) (k : GEntry → R α) : R α := match v with
  | .agg [a0, a1, a2, a3, a4, a5, a6, a7, a8] => decB a0 fun x0 => decB a1 fun x1 => decI .i64 a2 fun x2 => decI .i64 a3 fun x3 => decI .i64 a4 fun x4 => decI .i64 a5 fun x5 => decI .i64 a6 fun x6 => decI .i64 a7 fun x7 => decI .i64 a8 fun x8 => k ⟨x0, x1, x2, x3, x4, x5, x6, x7, x8⟩
  | _ => none
theorem GEntry.dec_spec {α : Type} {v : SV} {k : GEntry → R α} {r : α} (h : GEntry.dec v k = some r) : ∃ t : GEntry, v = t.sv ∧ k t = some r := by
  unfold GEntry.dec at h
  split at h <;> try (cases h; done)
  obtain ⟨x0, rfl, h0⟩ := decB_spec h
  obtain ⟨x1, rfl, h1⟩ := decB_spec h0
  obtain ⟨x2, rfl, h2⟩ := decI_spec h1
  obtain ⟨x3, rfl, h3⟩ := decI_spec h2
  obtain ⟨x4, rfl, h4⟩ := decI_spec h3
  obtain ⟨x5, rfl, h5⟩ := decI_spec h4
  obtain ⟨x6, rfl, h6⟩ := decI_spec h5
  obtain ⟨x7, rfl, h7⟩ := decI_spec h6
  obtain ⟨x8, rfl, h8⟩ := decI_spec h7
  exact ⟨⟨x0, x1, x2, x3, x4, x5, x6, x7, x8⟩, rfl, h8⟩
theorem GEntry.ids (t : GEntry) {p : Nat → Prop} : Ids p t.sv := by simp [Ids, Idss]
structure GInsn_Fields where
  Rd : Bool
  CSR : Bool
  Rs1 : Bool
  Rs2 : Bool
  Low : Int
  High : Int
  Step : Int
abbrev GInsn_Fields.sv (t : GInsn_Fields) : SV := .agg [.bool t.Rd, .bool t.CSR, .bool t.Rs1, .bool t.Rs2, .int .i64 t.Low, .int .i64 t.High, .int .i64 t.Step]
def GInsn_Fields.dec {α : Type} (v : SV) (k : GInsn_Fields → R α) : R α := match v with
  | .agg [a0, a1, a2, a3, a4, a5, a6] => decB a0 fun x0 => decB a1 fun x1 => decB a2 fun x2 => decB a3 fun x3 => decI .i64 a4 fun x4 => decI .i64 a5 fun x5 => decI .i64 a6 fun x6 => k ⟨x0, x1, x2, x3, x4, x5, x6⟩
  | _ => none
theorem GInsn_Fields.dec_spec {α : Type} {v : SV} {k : GInsn_Fields → R α} {r : α} (h : GInsn_Fields.dec v k = some r) : ∃ t : GInsn_Fields, v = t.sv ∧ k t = some r := by
  unfold GInsn_Fields.dec at h
  split at h <;> try (cases h; done)
  obtain ⟨x0, rfl, h0⟩ := decB_spec h
  obtain ⟨x1, rfl, h1⟩ := decB_spec h0
  obtain ⟨x2, rfl, h2⟩ := decB_spec h1
  obtain ⟨x3, rfl, h3⟩ := decB_spec h2
  obtain ⟨x4, rfl, h4⟩ := decI_spec h3
  obtain ⟨x5, rfl, h5⟩ := decI_spec h4
  obtain ⟨x6, rfl, h6⟩ := decI_spec h5
  exact ⟨⟨x0, x1, x2, x3, x4, x5, x6⟩, rfl, h6⟩
theorem GInsn_Fields.ids (t : GInsn_Fields) {p : Nat → Prop} : Ids p t.sv := by simp [Ids, Idss]
@[reducible] def Lf_GState : Lf GState := .of GState.sv GState.dec GState.dec_spec (fun t => GState.ids t) fun _ => rfl
@[reducible] def Lf_GInsn : Lf GInsn := .of GInsn.sv GInsn.dec GInsn.dec_spec (fun t => GInsn.ids t) fun _ => rfl
@[reducible] def Lf_GFault : Lf GFault := .of GFault.sv GFault.dec GFault.dec_spec (fun t => GFault.ids t) fun _ => rfl
theorem pl_GFault : (OSh.leaf Lf_GFault).Plain := fun t I D => show Wf I D (GFault.sv t) by simp [Wf, Wfs]
@[reducible] def sh_Mem : OSh (Nat → Int) := (.own (.st (.cons (.cap .u8 32768) .nil) (fun x => x.1) (fun x => (x, ())) (fun _ => rfl)))
theorem plsh_Mem : sh_Mem.Plain := ⟨trivial, trivial⟩
structure GPort where
  inp : Row
  outp : Row
  typed : Int
structure GBus where
  m : (Nat → Int)
  time : Int
  alarm : Int
  ports : (Nat → GPort)
@[reducible] def sh_Bus : OSh GBus := (.own (.st (.cons sh_Mem (.cons (.leaf (Lf_au .u64)) (.cons (.leaf (Lf_int .u64)) (.cons (.arr 4 3 (.st (.cons (.orow .u8) (.cons (.orow .u8) (.cons (.leaf (Lf_int .i64)) .nil))) (fun x => (⟨x.1, x.2.1, x.2.2.1⟩ : GPort)) (fun x => (x.inp, x.outp, x.typed, ())) (fun _ => rfl))) .nil)))) (fun x => (⟨x.1, x.2.1, x.2.2.1, x.2.2.2.1⟩ : GBus)) (fun x => (x.m, x.time, x.alarm, x.ports, ())) (fun _ => rfl)))
theorem plsh_Bus : sh_Bus.Plain := ⟨plsh_Mem, ⟨(pl_au .u64), ⟨(pl_int .u64), ⟨⟨trivial, ⟨trivial, ⟨(pl_int .i64), trivial⟩⟩⟩, trivial⟩⟩⟩⟩
abbrev NB (b : GBus) : GBus := GBus.mk b.m b.time b.alarm (upd (upd (upd (fun _ => b.ports 0) 1 (b.ports 1)) 2 (b.ports 2)) 3 (b.ports 3))
abbrev GN {α : Type} (b : GBus) (k : R α) : R α := gN (b.ports 0).inp.n (b.ports 0).inp.n (gN (b.ports 0).outp.n (b.ports 0).outp.n (gN (b.ports 1).inp.n (b.ports 1).inp.n (gN (b.ports 1).outp.n (b.ports 1).outp.n (gN (b.ports 2).inp.n (b.ports 2).inp.n (gN (b.ports 2).outp.n (b.ports 2).outp.n (gN (b.ports 3).inp.n (b.ports 3).inp.n (gN (b.ports 3).outp.n (b.ports 3).outp.n (k))))))))
abbrev Sg_zb (α : Type) := SgCon α
def p_zb {α : Type} (x1 x2 : Int) (kn : R α) (kp : Nat → R α) : R α :=
  let b1 : Bool := (x2 != 1)
  cond b1 (
  kn) (
  let b2 : Bool := (ltB x1 61696)
  cond b2 (
  kn) (
  let t3 : Int := (IntKind.u64.wrap (x1 - 61696))
  let t4 : Int := (Int.tmod t3 256)
  let b5 : Bool := (t4 != 0)
  cond b5 (
  kn) (
  let t6 : Int := (IntKind.u64.wrap (x1 - 61696))
  let t7 : Int := (IntKind.u64.wrap (Int.tdiv t6 256))
  let b8 : Bool := (leB 4 t7)
  cond b8 (
  kn) (
  cond (decide (0 ≤ t7) && decide (t7 < 4)) (
  kp (Int.toNat t7)) none))))
theorem mono_zb {α : Type} {x1 x2 : Int} {kn : R α} {kp kp' : Nat → R α} {r : α} (h : ∀ i, kp' i = some r → kp i = some r) (hk : p_zb x1 x2 kn kp' = some r) : p_zb x1 x2 kn kp = some r := by
  unfold p_zb at hk ⊢
  dsimp only at hk ⊢
  repeat' (first | exact hk | exact h _ hk | (refine cond_mono hk ?_ ?_ <;> intro hk))
abbrev Sg_zq (α : Type) := (Nat → Int) → Int → Int → (Int → Int → R α) → R α
def ad_zq {α : Type} (F : Sg_zq α) : FF α := fun args σ k => match args with
  | [a0, a1, a2] => withMem σ a0 fun _ b1 _ g1 x0 => decI .u64 a1 fun x1 => decI .i64 a2 fun x2 => F x0 x1 x2 (fun r0 r1 => k (.tuple [(.int .u64 r0), (.int .i64 r1)]) σ)
  | _ => none
abbrev Sg_ze (α : Type) := GBus → Int → Int → (GBus → Int → Bool → R α) → R α
@[reducible] def E_ze : OShs (GBus × Int × Int × Unit) := (.cons sh_Bus (.cons (.leaf (Lf_int .u64)) (.cons (.leaf (Lf_int .i64)) .nil)))
@[reducible] def M_ze : OShs (GBus × Unit) := (.cons sh_Bus .nil)
@[reducible] def Q_ze : OShs (Int × Bool × Unit) := (.cons (.leaf (Lf_int .u64)) (.cons (.leaf Lf_bool) .nil))
theorem E_z1g : E_ze.PlainP := ⟨plsh_Bus, trivial, trivial, trivial⟩
theorem M_z1g : M_ze.Plain := ⟨plsh_Bus, trivial⟩
theorem Q_z1g : Q_ze.Plain := ⟨(pl_int .u64), pl_bool, trivial⟩
def ad_ze {α : Type} (F : Sg_ze α) : FF α := adO E_ze M_ze Q_ze false fun a k => F a.1 a.2.1 a.2.2.1 (fun y0 z0 z1 => k (y0, ()) (z0, z1, ()))
def p_ze {α : Type} (F_zb : Sg_zb α) (F_zq : Sg_zq α) (x0 : GBus) (x1 : Int) (x2 : Int) (k : GBus → Int → Bool → R α) : R α :=
  let b1 : Bool := (x1 == 61440)
  cond b1 (
  let b2 : Bool := (x2 == 8)
  cond b2 (
  GN x0 ((((((((k (NB x0) x0.time true))))))))) (
  let b3 : Bool := (x1 == 61448)
  cond b3 (
  let b4 : Bool := (x2 == 8)
  cond b4 (
  GN x0 ((((((((k (NB x0) x0.alarm true))))))))) (
  F_zb x1 x2 (
  F_zq x0.m x1 x2 (fun r5 r6 =>
  let b7 : Bool := (r6 == 0)
  GN x0 ((((((((k (NB x0) r5 b7)))))))))) (
  let b8 : Bool := ((((x0.ports 0).inp.n : Nat) : Int) == 0)
  cond b8 (
  GN x0 ((((((((k (NB x0) 0 true))))))))) (
  cond (decide (0 ≤ 0) && decide (0 < (((x0.ports 0).inp.n : Nat) : Int))) (
  cond (decide (0 < (x0.ports 0).inp.n)) (
  cond (decide (0 ≤ (((x0.ports 0).inp.n : Nat) : Int)) && decide ((((x0.ports 0).inp.n : Nat) : Int) ≤ (((x0.ports 0).inp.n : Nat) : Int))) (
  cond (decide (0 ≤ 1) && decide (1 ≤ (((x0.ports 0).inp.n : Nat) : Int))) (
  cond (decide ((x0.ports 0).inp.n ≤ (x0.ports 0).inp.n)) (
  cond (decide ((1 + ((x0.ports 0).inp.n - 1)) ≤ (x0.ports 0).inp.n)) (
  let t9 : Int := (IntKind.u64.wrap ((x0.ports 0).inp.f 0))
  gN ((x0.ports 0).inp.n - 1) ((x0.ports 0).inp.n - 1) (gN (x0.ports 0).outp.n (x0.ports 0).outp.n (gN (x0.ports 1).inp.n (x0.ports 1).inp.n (gN (x0.ports 1).outp.n (x0.ports 1).outp.n (gN (x0.ports 2).inp.n (x0.ports 2).inp.n (gN (x0.ports 2).outp.n (x0.ports 2).outp.n (gN (x0.ports 3).inp.n (x0.ports 3).inp.n (gN (x0.ports 3).outp.n (x0.ports 3).outp.n (k (GBus.mk x0.m x0.time x0.alarm (upd (upd (upd (fun _ => (GPort.mk (Row.mk ((x0.ports 0).inp.n - 1) (fun i => (x0.ports 0).inp.f (1 + i))) (x0.ports 0).outp (x0.ports 0).typed)) 1 (x0.ports 1)) 2 (x0.ports 2)) 3 (x0.ports 3))) t9 true))))))))) none) none) none) none) none) none)) (
  let b10 : Bool := ((((x0.ports 1).inp.n : Nat) : Int) == 0)
  cond b10 (
  GN x0 ((((((((k (NB x0) 0 true))))))))) (
  cond (decide (0 ≤ 0) && decide (0 < (((x0.ports 1).inp.n : Nat) : Int))) (
  cond (decide (0 < (x0.ports 1).inp.n)) (
  cond (decide (0 ≤ (((x0.ports 1).inp.n : Nat) : Int)) && decide ((((x0.ports 1).inp.n : Nat) : Int) ≤ (((x0.ports 1).inp.n : Nat) : Int))) (
  cond (decide (0 ≤ 1) && decide (1 ≤ (((x0.ports 1).inp.n : Nat) : Int))) (
  cond (decide ((x0.ports 1).inp.n ≤ (x0.ports 1).inp.n)) (
  cond (decide ((1 + ((x0.ports 1).inp.n - 1)) ≤ (x0.ports 1).inp.n)) (
  let t11 : Int := (IntKind.u64.wrap ((x0.ports 1).inp.f 0))
  gN (x0.ports 0).inp.n (x0.ports 0).inp.n (gN (x0.ports 0).outp.n (x0.ports 0).outp.n (gN ((x0.ports 1).inp.n - 1) ((x0.ports 1).inp.n - 1) (gN (x0.ports 1).outp.n (x0.ports 1).outp.n (gN (x0.ports 2).inp.n (x0.ports 2).inp.n (gN (x0.ports 2).outp.n (x0.ports 2).outp.n (gN (x0.ports 3).inp.n (x0.ports 3).inp.n (gN (x0.ports 3).outp.n (x0.ports 3).outp.n (k (GBus.mk x0.m x0.time x0.alarm (upd (upd (upd (fun _ => (x0.ports 0)) 1 (GPort.mk (Row.mk ((x0.ports 1).inp.n - 1) (fun i => (x0.ports 1).inp.f (1 + i))) (x0.ports 1).outp (x0.ports 1).typed)) 2 (x0.ports 2)) 3 (x0.ports 3))) t11 true))))))))) none) none) none) none) none) none)) (
  let b12 : Bool := ((((x0.ports 2).inp.n : Nat) : Int) == 0)
  cond b12 (
  GN x0 ((((((((k (NB x0) 0 true))))))))) (
  cond (decide (0 ≤ 0) && decide (0 < (((x0.ports 2).inp.n : Nat) : Int))) (
  cond (decide (0 < (x0.ports 2).inp.n)) (
  cond (decide (0 ≤ (((x0.ports 2).inp.n : Nat) : Int)) && decide ((((x0.ports 2).inp.n : Nat) : Int) ≤ (((x0.ports 2).inp.n : Nat) : Int))) (
  cond (decide (0 ≤ 1) && decide (1 ≤ (((x0.ports 2).inp.n : Nat) : Int))) (
  cond (decide ((x0.ports 2).inp.n ≤ (x0.ports 2).inp.n)) (
  cond (decide ((1 + ((x0.ports 2).inp.n - 1)) ≤ (x0.ports 2).inp.n)) (
  let t13 : Int := (IntKind.u64.wrap ((x0.ports 2).inp.f 0))
  gN (x0.ports 0).inp.n (x0.ports 0).inp.n (gN (x0.ports 0).outp.n (x0.ports 0).outp.n (gN (x0.ports 1).inp.n (x0.ports 1).inp.n (gN (x0.ports 1).outp.n (x0.ports 1).outp.n (gN ((x0.ports 2).inp.n - 1) ((x0.ports 2).inp.n - 1) (gN (x0.ports 2).outp.n (x0.ports 2).outp.n (gN (x0.ports 3).inp.n (x0.ports 3).inp.n (gN (x0.ports 3).outp.n (x0.ports 3).outp.n (k (GBus.mk x0.m x0.time x0.alarm (upd (upd (upd (fun _ => (x0.ports 0)) 1 (x0.ports 1)) 2 (GPort.mk (Row.mk ((x0.ports 2).inp.n - 1) (fun i => (x0.ports 2).inp.f (1 + i))) (x0.ports 2).outp (x0.ports 2).typed)) 3 (x0.ports 3))) t13 true))))))))) none) none) none) none) none) none)) (
  let b14 : Bool := ((((x0.ports 3).inp.n : Nat) : Int) == 0)
  cond b14 (
  GN x0 ((((((((k (NB x0) 0 true))))))))) (
  cond (decide (0 ≤ 0) && decide (0 < (((x0.ports 3).inp.n : Nat) : Int))) (
  cond (decide (0 < (x0.ports 3).inp.n)) (
  cond (decide (0 ≤ (((x0.ports 3).inp.n : Nat) : Int)) && decide ((((x0.ports 3).inp.n : Nat) : Int) ≤ (((x0.ports 3).inp.n : Nat) : Int))) (
  cond (decide (0 ≤ 1) && decide (1 ≤ (((x0.ports 3).inp.n : Nat) : Int))) (
  cond (decide ((x0.ports 3).inp.n ≤ (x0.ports 3).inp.n)) (
  cond (decide ((1 + ((x0.ports 3).inp.n - 1)) ≤ (x0.ports 3).inp.n)) (
  let t15 : Int := (IntKind.u64.wrap ((x0.ports 3).inp.f 0))
  gN (x0.ports 0).inp.n (x0.ports 0).inp.n (gN (x0.ports 0).outp.n (x0.ports 0).outp.n (gN (x0.ports 1).inp.n (x0.ports 1).inp.n (gN (x0.ports 1).outp.n (x0.ports 1).outp.n (gN (x0.ports 2).inp.n (x0.ports 2).inp.n (gN (x0.ports 2).outp.n (x0.ports 2).outp.n (gN ((x0.ports 3).inp.n - 1) ((x0.ports 3).inp.n - 1) (gN (x0.ports 3).outp.n (x0.ports 3).outp.n (k (GBus.mk x0.m x0.time x0.alarm (upd (upd (upd (fun _ => (x0.ports 0)) 1 (x0.ports 1)) 2 (x0.ports 2)) 3 (GPort.mk (Row.mk ((x0.ports 3).inp.n - 1) (fun i => (x0.ports 3).inp.f (1 + i))) (x0.ports 3).outp (x0.ports 3).typed))) t15 true))))))))) none) none) none) none) none) none)))) (
  F_zb x1 x2 (
  F_zq x0.m x1 x2 (fun r16 r17 =>
  let b18 : Bool := (r17 == 0)
  GN x0 ((((((((k (NB x0) r16 b18)))))))))) (
  let b19 : Bool := ((((x0.ports 0).inp.n : Nat) : Int) == 0)
  cond b19 (
  GN x0 ((((((((k (NB x0) 0 true))))))))) (
  cond (decide (0 ≤ 0) && decide (0 < (((x0.ports 0).inp.n : Nat) : Int))) (
  cond (decide (0 < (x0.ports 0).inp.n)) (
  cond (decide (0 ≤ (((x0.ports 0).inp.n : Nat) : Int)) && decide ((((x0.ports 0).inp.n : Nat) : Int) ≤ (((x0.ports 0).inp.n : Nat) : Int))) (
  cond (decide (0 ≤ 1) && decide (1 ≤ (((x0.ports 0).inp.n : Nat) : Int))) (
  cond (decide ((x0.ports 0).inp.n ≤ (x0.ports 0).inp.n)) (
  cond (decide ((1 + ((x0.ports 0).inp.n - 1)) ≤ (x0.ports 0).inp.n)) (
  let t20 : Int := (IntKind.u64.wrap ((x0.ports 0).inp.f 0))
  gN ((x0.ports 0).inp.n - 1) ((x0.ports 0).inp.n - 1) (gN (x0.ports 0).outp.n (x0.ports 0).outp.n (gN (x0.ports 1).inp.n (x0.ports 1).inp.n (gN (x0.ports 1).outp.n (x0.ports 1).outp.n (gN (x0.ports 2).inp.n (x0.ports 2).inp.n (gN (x0.ports 2).outp.n (x0.ports 2).outp.n (gN (x0.ports 3).inp.n (x0.ports 3).inp.n (gN (x0.ports 3).outp.n (x0.ports 3).outp.n (k (GBus.mk x0.m x0.time x0.alarm (upd (upd (upd (fun _ => (GPort.mk (Row.mk ((x0.ports 0).inp.n - 1) (fun i => (x0.ports 0).inp.f (1 + i))) (x0.ports 0).outp (x0.ports 0).typed)) 1 (x0.ports 1)) 2 (x0.ports 2)) 3 (x0.ports 3))) t20 true))))))))) none) none) none) none) none) none)) (
  let b21 : Bool := ((((x0.ports 1).inp.n : Nat) : Int) == 0)
  cond b21 (
  GN x0 ((((((((k (NB x0) 0 true))))))))) (
  cond (decide (0 ≤ 0) && decide (0 < (((x0.ports 1).inp.n : Nat) : Int))) (
  cond (decide (0 < (x0.ports 1).inp.n)) (
  cond (decide (0 ≤ (((x0.ports 1).inp.n : Nat) : Int)) && decide ((((x0.ports 1).inp.n : Nat) : Int) ≤ (((x0.ports 1).inp.n : Nat) : Int))) (
  cond (decide (0 ≤ 1) && decide (1 ≤ (((x0.ports 1).inp.n : Nat) : Int))) (
  cond (decide ((x0.ports 1).inp.n ≤ (x0.ports 1).inp.n)) (
  cond (decide ((1 + ((x0.ports 1).inp.n - 1)) ≤ (x0.ports 1).inp.n)) (
  let t22 : Int := (IntKind.u64.wrap ((x0.ports 1).inp.f 0))
  gN (x0.ports 0).inp.n (x0.ports 0).inp.n (gN (x0.ports 0).outp.n (x0.ports 0).outp.n (gN ((x0.ports 1).inp.n - 1) ((x0.ports 1).inp.n - 1) (gN (x0.ports 1).outp.n (x0.ports 1).outp.n (gN (x0.ports 2).inp.n (x0.ports 2).inp.n (gN (x0.ports 2).outp.n (x0.ports 2).outp.n (gN (x0.ports 3).inp.n (x0.ports 3).inp.n (gN (x0.ports 3).outp.n (x0.ports 3).outp.n (k (GBus.mk x0.m x0.time x0.alarm (upd (upd (upd (fun _ => (x0.ports 0)) 1 (GPort.mk (Row.mk ((x0.ports 1).inp.n - 1) (fun i => (x0.ports 1).inp.f (1 + i))) (x0.ports 1).outp (x0.ports 1).typed)) 2 (x0.ports 2)) 3 (x0.ports 3))) t22 true))))))))) none) none) none) none) none) none)) (
  let b23 : Bool := ((((x0.ports 2).inp.n : Nat) : Int) == 0)
  cond b23 (
  GN x0 ((((((((k (NB x0) 0 true))))))))) (
  cond (decide (0 ≤ 0) && decide (0 < (((x0.ports 2).inp.n : Nat) : Int))) (
  cond (decide (0 < (x0.ports 2).inp.n)) (
  cond (decide (0 ≤ (((x0.ports 2).inp.n : Nat) : Int)) && decide ((((x0.ports 2).inp.n : Nat) : Int) ≤ (((x0.ports 2).inp.n : Nat) : Int))) (
  cond (decide (0 ≤ 1) && decide (1 ≤ (((x0.ports 2).inp.n : Nat) : Int))) (
  cond (decide ((x0.ports 2).inp.n ≤ (x0.ports 2).inp.n)) (
  cond (decide ((1 + ((x0.ports 2).inp.n - 1)) ≤ (x0.ports 2).inp.n)) (
  let t24 : Int := (IntKind.u64.wrap ((x0.ports 2).inp.f 0))
  gN (x0.ports 0).inp.n (x0.ports 0).inp.n (gN (x0.ports 0).outp.n (x0.ports 0).outp.n (gN (x0.ports 1).inp.n (x0.ports 1).inp.n (gN (x0.ports 1).outp.n (x0.ports 1).outp.n (gN ((x0.ports 2).inp.n - 1) ((x0.ports 2).inp.n - 1) (gN (x0.ports 2).outp.n (x0.ports 2).outp.n (gN (x0.ports 3).inp.n (x0.ports 3).inp.n (gN (x0.ports 3).outp.n (x0.ports 3).outp.n (k (GBus.mk x0.m x0.time x0.alarm (upd (upd (upd (fun _ => (x0.ports 0)) 1 (x0.ports 1)) 2 (GPort.mk (Row.mk ((x0.ports 2).inp.n - 1) (fun i => (x0.ports 2).inp.f (1 + i))) (x0.ports 2).outp (x0.ports 2).typed)) 3 (x0.ports 3))) t24 true))))))))) none) none) none) none) none) none)) (
  let b25 : Bool := ((((x0.ports 3).inp.n : Nat) : Int) == 0)
  cond b25 (
  GN x0 ((((((((k (NB x0) 0 true))))))))) (
  cond (decide (0 ≤ 0) && decide (0 < (((x0.ports 3).inp.n : Nat) : Int))) (
  cond (decide (0 < (x0.ports 3).inp.n)) (
  cond (decide (0 ≤ (((x0.ports 3).inp.n : Nat) : Int)) && decide ((((x0.ports 3).inp.n : Nat) : Int) ≤ (((x0.ports 3).inp.n : Nat) : Int))) (
  cond (decide (0 ≤ 1) && decide (1 ≤ (((x0.ports 3).inp.n : Nat) : Int))) (
  cond (decide ((x0.ports 3).inp.n ≤ (x0.ports 3).inp.n)) (
  cond (decide ((1 + ((x0.ports 3).inp.n - 1)) ≤ (x0.ports 3).inp.n)) (
  let t26 : Int := (IntKind.u64.wrap ((x0.ports 3).inp.f 0))
  gN (x0.ports 0).inp.n (x0.ports 0).inp.n (gN (x0.ports 0).outp.n (x0.ports 0).outp.n (gN (x0.ports 1).inp.n (x0.ports 1).inp.n (gN (x0.ports 1).outp.n (x0.ports 1).outp.n (gN (x0.ports 2).inp.n (x0.ports 2).inp.n (gN (x0.ports 2).outp.n (x0.ports 2).outp.n (gN ((x0.ports 3).inp.n - 1) ((x0.ports 3).inp.n - 1) (gN (x0.ports 3).outp.n (x0.ports 3).outp.n (k (GBus.mk x0.m x0.time x0.alarm (upd (upd (upd (fun _ => (x0.ports 0)) 1 (x0.ports 1)) 2 (x0.ports 2)) 3 (GPort.mk (Row.mk ((x0.ports 3).inp.n - 1) (fun i => (x0.ports 3).inp.f (1 + i))) (x0.ports 3).outp (x0.ports 3).typed))) t26 true))))))))) none) none) none) none) none) none))))) (
  let b27 : Bool := (x1 == 61448)
  cond b27 (
  let b28 : Bool := (x2 == 8)
  cond b28 (
  GN x0 ((((((((k (NB x0) x0.alarm true))))))))) (
  F_zb x1 x2 (
  F_zq x0.m x1 x2 (fun r29 r30 =>
  let b31 : Bool := (r30 == 0)
  GN x0 ((((((((k (NB x0) r29 b31)))))))))) (
  let b32 : Bool := ((((x0.ports 0).inp.n : Nat) : Int) == 0)
  cond b32 (
  GN x0 ((((((((k (NB x0) 0 true))))))))) (
  cond (decide (0 ≤ 0) && decide (0 < (((x0.ports 0).inp.n : Nat) : Int))) (
  cond (decide (0 < (x0.ports 0).inp.n)) (
  cond (decide (0 ≤ (((x0.ports 0).inp.n : Nat) : Int)) && decide ((((x0.ports 0).inp.n : Nat) : Int) ≤ (((x0.ports 0).inp.n : Nat) : Int))) (
  cond (decide (0 ≤ 1) && decide (1 ≤ (((x0.ports 0).inp.n : Nat) : Int))) (
  cond (decide ((x0.ports 0).inp.n ≤ (x0.ports 0).inp.n)) (
  cond (decide ((1 + ((x0.ports 0).inp.n - 1)) ≤ (x0.ports 0).inp.n)) (
  let t33 : Int := (IntKind.u64.wrap ((x0.ports 0).inp.f 0))
  gN ((x0.ports 0).inp.n - 1) ((x0.ports 0).inp.n - 1) (gN (x0.ports 0).outp.n (x0.ports 0).outp.n (gN (x0.ports 1).inp.n (x0.ports 1).inp.n (gN (x0.ports 1).outp.n (x0.ports 1).outp.n (gN (x0.ports 2).inp.n (x0.ports 2).inp.n (gN (x0.ports 2).outp.n (x0.ports 2).outp.n (gN (x0.ports 3).inp.n (x0.ports 3).inp.n (gN (x0.ports 3).outp.n (x0.ports 3).outp.n (k (GBus.mk x0.m x0.time x0.alarm (upd (upd (upd (fun _ => (GPort.mk (Row.mk ((x0.ports 0).inp.n - 1) (fun i => (x0.ports 0).inp.f (1 + i))) (x0.ports 0).outp (x0.ports 0).typed)) 1 (x0.ports 1)) 2 (x0.ports 2)) 3 (x0.ports 3))) t33 true))))))))) none) none) none) none) none) none)) (
  let b34 : Bool := ((((x0.ports 1).inp.n : Nat) : Int) == 0)
  cond b34 (
  GN x0 ((((((((k (NB x0) 0 true))))))))) (
  cond (decide (0 ≤ 0) && decide (0 < (((x0.ports 1).inp.n : Nat) : Int))) (
  cond (decide (0 < (x0.ports 1).inp.n)) (
  cond (decide (0 ≤ (((x0.ports 1).inp.n : Nat) : Int)) && decide ((((x0.ports 1).inp.n : Nat) : Int) ≤ (((x0.ports 1).inp.n : Nat) : Int))) (
  cond (decide (0 ≤ 1) && decide (1 ≤ (((x0.ports 1).inp.n : Nat) : Int))) (
  cond (decide ((x0.ports 1).inp.n ≤ (x0.ports 1).inp.n)) (
  cond (decide ((1 + ((x0.ports 1).inp.n - 1)) ≤ (x0.ports 1).inp.n)) (
  let t35 : Int := (IntKind.u64.wrap ((x0.ports 1).inp.f 0))
  gN (x0.ports 0).inp.n (x0.ports 0).inp.n (gN (x0.ports 0).outp.n (x0.ports 0).outp.n (gN ((x0.ports 1).inp.n - 1) ((x0.ports 1).inp.n - 1) (gN (x0.ports 1).outp.n (x0.ports 1).outp.n (gN (x0.ports 2).inp.n (x0.ports 2).inp.n (gN (x0.ports 2).outp.n (x0.ports 2).outp.n (gN (x0.ports 3).inp.n (x0.ports 3).inp.n (gN (x0.ports 3).outp.n (x0.ports 3).outp.n (k (GBus.mk x0.m x0.time x0.alarm (upd (upd (upd (fun _ => (x0.ports 0)) 1 (GPort.mk (Row.mk ((x0.ports 1).inp.n - 1) (fun i => (x0.ports 1).inp.f (1 + i))) (x0.ports 1).outp (x0.ports 1).typed)) 2 (x0.ports 2)) 3 (x0.ports 3))) t35 true))))))))) none) none) none) none) none) none)) (
  let b36 : Bool := ((((x0.ports 2).inp.n : Nat) : Int) == 0)
  cond b36 (
  GN x0 ((((((((k (NB x0) 0 true))))))))) (
  cond (decide (0 ≤ 0) && decide (0 < (((x0.ports 2).inp.n : Nat) : Int))) (
  cond (decide (0 < (x0.ports 2).inp.n)) (
  cond (decide (0 ≤ (((x0.ports 2).inp.n : Nat) : Int)) && decide ((((x0.ports 2).inp.n : Nat) : Int) ≤ (((x0.ports 2).inp.n : Nat) : Int))) (
  cond (decide (0 ≤ 1) && decide (1 ≤ (((x0.ports 2).inp.n : Nat) : Int))) (
  cond (decide ((x0.ports 2).inp.n ≤ (x0.ports 2).inp.n)) (
  cond (decide ((1 + ((x0.ports 2).inp.n - 1)) ≤ (x0.ports 2).inp.n)) (
  let t37 : Int := (IntKind.u64.wrap ((x0.ports 2).inp.f 0))
  gN (x0.ports 0).inp.n (x0.ports 0).inp.n (gN (x0.ports 0).outp.n (x0.ports 0).outp.n (gN (x0.ports 1).inp.n (x0.ports 1).inp.n (gN (x0.ports 1).outp.n (x0.ports 1).outp.n (gN ((x0.ports 2).inp.n - 1) ((x0.ports 2).inp.n - 1) (gN (x0.ports 2).outp.n (x0.ports 2).outp.n (gN (x0.ports 3).inp.n (x0.ports 3).inp.n (gN (x0.ports 3).outp.n (x0.ports 3).outp.n (k (GBus.mk x0.m x0.time x0.alarm (upd (upd (upd (fun _ => (x0.ports 0)) 1 (x0.ports 1)) 2 (GPort.mk (Row.mk ((x0.ports 2).inp.n - 1) (fun i => (x0.ports 2).inp.f (1 + i))) (x0.ports 2).outp (x0.ports 2).typed)) 3 (x0.ports 3))) t37 true))))))))) none) none) none) none) none) none)) (
  let b38 : Bool := ((((x0.ports 3).inp.n : Nat) : Int) == 0)
  cond b38 (
  GN x0 ((((((((k (NB x0) 0 true))))))))) (
  cond (decide (0 ≤ 0) && decide (0 < (((x0.ports 3).inp.n : Nat) : Int))) (
  cond (decide (0 < (x0.ports 3).inp.n)) (
  cond (decide (0 ≤ (((x0.ports 3).inp.n : Nat) : Int)) && decide ((((x0.ports 3).inp.n : Nat) : Int) ≤ (((x0.ports 3).inp.n : Nat) : Int))) (
  cond (decide (0 ≤ 1) && decide (1 ≤ (((x0.ports 3).inp.n : Nat) : Int))) (
  cond (decide ((x0.ports 3).inp.n ≤ (x0.ports 3).inp.n)) (
  cond (decide ((1 + ((x0.ports 3).inp.n - 1)) ≤ (x0.ports 3).inp.n)) (
  let t39 : Int := (IntKind.u64.wrap ((x0.ports 3).inp.f 0))
  gN (x0.ports 0).inp.n (x0.ports 0).inp.n (gN (x0.ports 0).outp.n (x0.ports 0).outp.n (gN (x0.ports 1).inp.n (x0.ports 1).inp.n (gN (x0.ports 1).outp.n (x0.ports 1).outp.n (gN (x0.ports 2).inp.n (x0.ports 2).inp.n (gN (x0.ports 2).outp.n (x0.ports 2).outp.n (gN ((x0.ports 3).inp.n - 1) ((x0.ports 3).inp.n - 1) (gN (x0.ports 3).outp.n (x0.ports 3).outp.n (k (GBus.mk x0.m x0.time x0.alarm (upd (upd (upd (fun _ => (x0.ports 0)) 1 (x0.ports 1)) 2 (x0.ports 2)) 3 (GPort.mk (Row.mk ((x0.ports 3).inp.n - 1) (fun i => (x0.ports 3).inp.f (1 + i))) (x0.ports 3).outp (x0.ports 3).typed))) t39 true))))))))) none) none) none) none) none) none)))) (
  F_zb x1 x2 (
  F_zq x0.m x1 x2 (fun r40 r41 =>
  let b42 : Bool := (r41 == 0)
  GN x0 ((((((((k (NB x0) r40 b42)))))))))) (
  let b43 : Bool := ((((x0.ports 0).inp.n : Nat) : Int) == 0)
  cond b43 (
  GN x0 ((((((((k (NB x0) 0 true))))))))) (
  cond (decide (0 ≤ 0) && decide (0 < (((x0.ports 0).inp.n : Nat) : Int))) (
  cond (decide (0 < (x0.ports 0).inp.n)) (
  cond (decide (0 ≤ (((x0.ports 0).inp.n : Nat) : Int)) && decide ((((x0.ports 0).inp.n : Nat) : Int) ≤ (((x0.ports 0).inp.n : Nat) : Int))) (
  cond (decide (0 ≤ 1) && decide (1 ≤ (((x0.ports 0).inp.n : Nat) : Int))) (
  cond (decide ((x0.ports 0).inp.n ≤ (x0.ports 0).inp.n)) (
  cond (decide ((1 + ((x0.ports 0).inp.n - 1)) ≤ (x0.ports 0).inp.n)) (
  let t44 : Int := (IntKind.u64.wrap ((x0.ports 0).inp.f 0))
  gN ((x0.ports 0).inp.n - 1) ((x0.ports 0).inp.n - 1) (gN (x0.ports 0).outp.n (x0.ports 0).outp.n (gN (x0.ports 1).inp.n (x0.ports 1).inp.n (gN (x0.ports 1).outp.n (x0.ports 1).outp.n (gN (x0.ports 2).inp.n (x0.ports 2).inp.n (gN (x0.ports 2).outp.n (x0.ports 2).outp.n (gN (x0.ports 3).inp.n (x0.ports 3).inp.n (gN (x0.ports 3).outp.n (x0.ports 3).outp.n (k (GBus.mk x0.m x0.time x0.alarm (upd (upd (upd (fun _ => (GPort.mk (Row.mk ((x0.ports 0).inp.n - 1) (fun i => (x0.ports 0).inp.f (1 + i))) (x0.ports 0).outp (x0.ports 0).typed)) 1 (x0.ports 1)) 2 (x0.ports 2)) 3 (x0.ports 3))) t44 true))))))))) none) none) none) none) none) none)) (
  let b45 : Bool := ((((x0.ports 1).inp.n : Nat) : Int) == 0)
  cond b45 (
  GN x0 ((((((((k (NB x0) 0 true))))))))) (
  cond (decide (0 ≤ 0) && decide (0 < (((x0.ports 1).inp.n : Nat) : Int))) (
  cond (decide (0 < (x0.ports 1).inp.n)) (
  cond (decide (0 ≤ (((x0.ports 1).inp.n : Nat) : Int)) && decide ((((x0.ports 1).inp.n : Nat) : Int) ≤ (((x0.ports 1).inp.n : Nat) : Int))) (
  cond (decide (0 ≤ 1) && decide (1 ≤ (((x0.ports 1).inp.n : Nat) : Int))) (
  cond (decide ((x0.ports 1).inp.n ≤ (x0.ports 1).inp.n)) (
  cond (decide ((1 + ((x0.ports 1).inp.n - 1)) ≤ (x0.ports 1).inp.n)) (
  let t46 : Int := (IntKind.u64.wrap ((x0.ports 1).inp.f 0))
  gN (x0.ports 0).inp.n (x0.ports 0).inp.n (gN (x0.ports 0).outp.n (x0.ports 0).outp.n (gN ((x0.ports 1).inp.n - 1) ((x0.ports 1).inp.n - 1) (gN (x0.ports 1).outp.n (x0.ports 1).outp.n (gN (x0.ports 2).inp.n (x0.ports 2).inp.n (gN (x0.ports 2).outp.n (x0.ports 2).outp.n (gN (x0.ports 3).inp.n (x0.ports 3).inp.n (gN (x0.ports 3).outp.n (x0.ports 3).outp.n (k (GBus.mk x0.m x0.time x0.alarm (upd (upd (upd (fun _ => (x0.ports 0)) 1 (GPort.mk (Row.mk ((x0.ports 1).inp.n - 1) (fun i => (x0.ports 1).inp.f (1 + i))) (x0.ports 1).outp (x0.ports 1).typed)) 2 (x0.ports 2)) 3 (x0.ports 3))) t46 true))))))))) none) none) none) none) none) none)) (
  let b47 : Bool := ((((x0.ports 2).inp.n : Nat) : Int) == 0)
  cond b47 (
  GN x0 ((((((((k (NB x0) 0 true))))))))) (
  cond (decide (0 ≤ 0) && decide (0 < (((x0.ports 2).inp.n : Nat) : Int))) (
  cond (decide (0 < (x0.ports 2).inp.n)) (
  cond (decide (0 ≤ (((x0.ports 2).inp.n : Nat) : Int)) && decide ((((x0.ports 2).inp.n : Nat) : Int) ≤ (((x0.ports 2).inp.n : Nat) : Int))) (
  cond (decide (0 ≤ 1) && decide (1 ≤ (((x0.ports 2).inp.n : Nat) : Int))) (
  cond (decide ((x0.ports 2).inp.n ≤ (x0.ports 2).inp.n)) (
  cond (decide ((1 + ((x0.ports 2).inp.n - 1)) ≤ (x0.ports 2).inp.n)) (
  let t48 : Int := (IntKind.u64.wrap ((x0.ports 2).inp.f 0))
  gN (x0.ports 0).inp.n (x0.ports 0).inp.n (gN (x0.ports 0).outp.n (x0.ports 0).outp.n (gN (x0.ports 1).inp.n (x0.ports 1).inp.n (gN (x0.ports 1).outp.n (x0.ports 1).outp.n (gN ((x0.ports 2).inp.n - 1) ((x0.ports 2).inp.n - 1) (gN (x0.ports 2).outp.n (x0.ports 2).outp.n (gN (x0.ports 3).inp.n (x0.ports 3).inp.n (gN (x0.ports 3).outp.n (x0.ports 3).outp.n (k (GBus.mk x0.m x0.time x0.alarm (upd (upd (upd (fun _ => (x0.ports 0)) 1 (x0.ports 1)) 2 (GPort.mk (Row.mk ((x0.ports 2).inp.n - 1) (fun i => (x0.ports 2).inp.f (1 + i))) (x0.ports 2).outp (x0.ports 2).typed)) 3 (x0.ports 3))) t48 true))))))))) none) none) none) none) none) none)) (
  let b49 : Bool := ((((x0.ports 3).inp.n : Nat) : Int) == 0)
  cond b49 (
  GN x0 ((((((((k (NB x0) 0 true))))))))) (
  cond (decide (0 ≤ 0) && decide (0 < (((x0.ports 3).inp.n : Nat) : Int))) (
  cond (decide (0 < (x0.ports 3).inp.n)) (
  cond (decide (0 ≤ (((x0.ports 3).inp.n : Nat) : Int)) && decide ((((x0.ports 3).inp.n : Nat) : Int) ≤ (((x0.ports 3).inp.n : Nat) : Int))) (
  cond (decide (0 ≤ 1) && decide (1 ≤ (((x0.ports 3).inp.n : Nat) : Int))) (
  cond (decide ((x0.ports 3).inp.n ≤ (x0.ports 3).inp.n)) (
  cond (decide ((1 + ((x0.ports 3).inp.n - 1)) ≤ (x0.ports 3).inp.n)) (
  let t50 : Int := (IntKind.u64.wrap ((x0.ports 3).inp.f 0))
  gN (x0.ports 0).inp.n (x0.ports 0).inp.n (gN (x0.ports 0).outp.n (x0.ports 0).outp.n (gN (x0.ports 1).inp.n (x0.ports 1).inp.n (gN (x0.ports 1).outp.n (x0.ports 1).outp.n (gN (x0.ports 2).inp.n (x0.ports 2).inp.n (gN (x0.ports 2).outp.n (x0.ports 2).outp.n (gN ((x0.ports 3).inp.n - 1) ((x0.ports 3).inp.n - 1) (gN (x0.ports 3).outp.n (x0.ports 3).outp.n (k (GBus.mk x0.m x0.time x0.alarm (upd (upd (upd (fun _ => (x0.ports 0)) 1 (x0.ports 1)) 2 (x0.ports 2)) 3 (GPort.mk (Row.mk ((x0.ports 3).inp.n - 1) (fun i => (x0.ports 3).inp.f (1 + i))) (x0.ports 3).outp (x0.ports 3).typed))) t50 true))))))))) none) none) none) none) none) none))))
abbrev Sg_zv (α : Type) := (Nat → Int) → Int → Int → Int → ((Nat → Int) → Int → R α) → R α
def ad_zv {α : Type} (F : Sg_zv α) : FF α := fun args σ k => match args with
  | [a0, a1, a2, a3] => withMem σ a0 fun _ b1 _ g1 x0 => decI .u64 a1 fun x1 => decI .i64 a2 fun x2 => decI .u64 a3 fun x3 => F x0 x1 x2 x3 (fun fm r0 => k (.int .i64 r0) ⟨σ.next, [(b1, byO g1 fm)] ++ σ.blocks⟩)
  | _ => none
abbrev Sg_zf (α : Type) := GBus → Int → Int → Int → (GBus → Bool → R α) → R α
@[reducible] def E_zf : OShs (GBus × Int × Int × Int × Unit) := (.cons sh_Bus (.cons (.leaf (Lf_int .u64)) (.cons (.leaf (Lf_int .i64)) (.cons (.leaf (Lf_int .u64)) .nil))))
@[reducible] def M_zf : OShs (GBus × Unit) := (.cons sh_Bus .nil)
@[reducible] def Q_zf : OShs (Bool × Unit) := (.cons (.leaf Lf_bool) .nil)
theorem E_z1h : E_zf.PlainP := ⟨plsh_Bus, trivial, trivial, trivial, trivial⟩
theorem M_z1h : M_zf.Plain := ⟨plsh_Bus, trivial⟩
theorem Q_z1h : Q_zf.Plain := ⟨pl_bool, trivial⟩
def ad_zf {α : Type} (F : Sg_zf α) : FF α := adO E_zf M_zf Q_zf true fun a k => F a.1 a.2.1 a.2.2.1 a.2.2.2.1 (fun y0 z0 => k (y0, ()) (z0, ()))
def p_zf {α : Type} (F_zb : Sg_zb α) (F_zv : Sg_zv α) (x0 : GBus) (x1 : Int) (x2 : Int) (x3 : Int) (k : GBus → Bool → R α) : R α :=
  let b1 : Bool := (x1 == 61448)
  cond b1 (
  let b2 : Bool := (x2 == 8)
  cond b2 (
  GN x0 ((((((((k (GBus.mk x0.m x0.time x3 (upd (upd (upd (fun _ => (x0.ports 0)) 1 (x0.ports 1)) 2 (x0.ports 2)) 3 (x0.ports 3))) true))))))))) (
  F_zb x1 x2 (
  F_zv x0.m x1 x2 x3 (fun f3 r4 =>
  let b5 : Bool := (r4 == 0)
  GN x0 ((((((((k (GBus.mk f3 x0.time x0.alarm (upd (upd (upd (fun _ => (x0.ports 0)) 1 (x0.ports 1)) 2 (x0.ports 2)) 3 (x0.ports 3))) b5)))))))))) (
  let t6 : Int := (IntKind.u8.wrap x3)
  cond (decide ((x0.ports 0).outp.n ≤ (x0.ports 0).outp.n)) (
  cond (decide (((x0.ports 0).outp.n + 1) * 1 ≤ 140737488355328) && decide (((x0.ports 0).outp.n + 1) ≤ 4611686018427387904)) (
  let t7 : Int := (IntKind.i64.wrap (((((x0.ports 0).outp.n + 1) : Nat) : Int) - 64))
  let t8 : Int := (pickmx true t7 0)
  cond (decide (0 ≤ ((((x0.ports 0).outp.n + 1) : Nat) : Int)) && decide (((((x0.ports 0).outp.n + 1) : Nat) : Int) ≤ ((((x0.ports 0).outp.n + 1) : Nat) : Int))) (
  cond (decide (0 ≤ t8) && decide (t8 ≤ ((((x0.ports 0).outp.n + 1) : Nat) : Int))) (
  cond (decide (((x0.ports 0).outp.n + 1) ≤ ((x0.ports 0).outp.n + 1))) (
  cond (decide (((Int.toNat t8) + (((x0.ports 0).outp.n + 1) - (Int.toNat t8))) ≤ ((x0.ports 0).outp.n + 1))) (
  gN (x0.ports 0).inp.n (x0.ports 0).inp.n (gN (((x0.ports 0).outp.n + 1) - (Int.toNat t8)) (((x0.ports 0).outp.n + 1) - (Int.toNat t8)) (gN (x0.ports 1).inp.n (x0.ports 1).inp.n (gN (x0.ports 1).outp.n (x0.ports 1).outp.n (gN (x0.ports 2).inp.n (x0.ports 2).inp.n (gN (x0.ports 2).outp.n (x0.ports 2).outp.n (gN (x0.ports 3).inp.n (x0.ports 3).inp.n (gN (x0.ports 3).outp.n (x0.ports 3).outp.n (k (GBus.mk x0.m x0.time x0.alarm (upd (upd (upd (fun _ => (GPort.mk (x0.ports 0).inp (Row.mk (((x0.ports 0).outp.n + 1) - (Int.toNat t8)) (fun i => (fun i => bif Nat.blt i (x0.ports 0).outp.n then (x0.ports 0).outp.f i else (fun i => (upd (fun _ => 0) 0 t6) (0 + i)) (i - (x0.ports 0).outp.n)) ((Int.toNat t8) + i))) (x0.ports 0).typed)) 1 (x0.ports 1)) 2 (x0.ports 2)) 3 (x0.ports 3))) true))))))))) none) none) none) none) none) none) (
  let t9 : Int := (IntKind.u8.wrap x3)
  cond (decide ((x0.ports 1).outp.n ≤ (x0.ports 1).outp.n)) (
  cond (decide (((x0.ports 1).outp.n + 1) * 1 ≤ 140737488355328) && decide (((x0.ports 1).outp.n + 1) ≤ 4611686018427387904)) (
  let t10 : Int := (IntKind.i64.wrap (((((x0.ports 1).outp.n + 1) : Nat) : Int) - 64))
  let t11 : Int := (pickmx true t10 0)
  cond (decide (0 ≤ ((((x0.ports 1).outp.n + 1) : Nat) : Int)) && decide (((((x0.ports 1).outp.n + 1) : Nat) : Int) ≤ ((((x0.ports 1).outp.n + 1) : Nat) : Int))) (
  cond (decide (0 ≤ t11) && decide (t11 ≤ ((((x0.ports 1).outp.n + 1) : Nat) : Int))) (
  cond (decide (((x0.ports 1).outp.n + 1) ≤ ((x0.ports 1).outp.n + 1))) (
  cond (decide (((Int.toNat t11) + (((x0.ports 1).outp.n + 1) - (Int.toNat t11))) ≤ ((x0.ports 1).outp.n + 1))) (
  gN (x0.ports 0).inp.n (x0.ports 0).inp.n (gN (x0.ports 0).outp.n (x0.ports 0).outp.n (gN (x0.ports 1).inp.n (x0.ports 1).inp.n (gN (((x0.ports 1).outp.n + 1) - (Int.toNat t11)) (((x0.ports 1).outp.n + 1) - (Int.toNat t11)) (gN (x0.ports 2).inp.n (x0.ports 2).inp.n (gN (x0.ports 2).outp.n (x0.ports 2).outp.n (gN (x0.ports 3).inp.n (x0.ports 3).inp.n (gN (x0.ports 3).outp.n (x0.ports 3).outp.n (k (GBus.mk x0.m x0.time x0.alarm (upd (upd (upd (fun _ => (x0.ports 0)) 1 (GPort.mk (x0.ports 1).inp (Row.mk (((x0.ports 1).outp.n + 1) - (Int.toNat t11)) (fun i => (fun i => bif Nat.blt i (x0.ports 1).outp.n then (x0.ports 1).outp.f i else (fun i => (upd (fun _ => 0) 0 t9) (0 + i)) (i - (x0.ports 1).outp.n)) ((Int.toNat t11) + i))) (x0.ports 1).typed)) 2 (x0.ports 2)) 3 (x0.ports 3))) true))))))))) none) none) none) none) none) none) (
  let t12 : Int := (IntKind.u8.wrap x3)
  cond (decide ((x0.ports 2).outp.n ≤ (x0.ports 2).outp.n)) (
  cond (decide (((x0.ports 2).outp.n + 1) * 1 ≤ 140737488355328) && decide (((x0.ports 2).outp.n + 1) ≤ 4611686018427387904)) (
  let t13 : Int := (IntKind.i64.wrap (((((x0.ports 2).outp.n + 1) : Nat) : Int) - 64))
  let t14 : Int := (pickmx true t13 0)
  cond (decide (0 ≤ ((((x0.ports 2).outp.n + 1) : Nat) : Int)) && decide (((((x0.ports 2).outp.n + 1) : Nat) : Int) ≤ ((((x0.ports 2).outp.n + 1) : Nat) : Int))) (
  cond (decide (0 ≤ t14) && decide (t14 ≤ ((((x0.ports 2).outp.n + 1) : Nat) : Int))) (
  cond (decide (((x0.ports 2).outp.n + 1) ≤ ((x0.ports 2).outp.n + 1))) (
  cond (decide (((Int.toNat t14) + (((x0.ports 2).outp.n + 1) - (Int.toNat t14))) ≤ ((x0.ports 2).outp.n + 1))) (
  gN (x0.ports 0).inp.n (x0.ports 0).inp.n (gN (x0.ports 0).outp.n (x0.ports 0).outp.n (gN (x0.ports 1).inp.n (x0.ports 1).inp.n (gN (x0.ports 1).outp.n (x0.ports 1).outp.n (gN (x0.ports 2).inp.n (x0.ports 2).inp.n (gN (((x0.ports 2).outp.n + 1) - (Int.toNat t14)) (((x0.ports 2).outp.n + 1) - (Int.toNat t14)) (gN (x0.ports 3).inp.n (x0.ports 3).inp.n (gN (x0.ports 3).outp.n (x0.ports 3).outp.n (k (GBus.mk x0.m x0.time x0.alarm (upd (upd (upd (fun _ => (x0.ports 0)) 1 (x0.ports 1)) 2 (GPort.mk (x0.ports 2).inp (Row.mk (((x0.ports 2).outp.n + 1) - (Int.toNat t14)) (fun i => (fun i => bif Nat.blt i (x0.ports 2).outp.n then (x0.ports 2).outp.f i else (fun i => (upd (fun _ => 0) 0 t12) (0 + i)) (i - (x0.ports 2).outp.n)) ((Int.toNat t14) + i))) (x0.ports 2).typed)) 3 (x0.ports 3))) true))))))))) none) none) none) none) none) none) (
  let t15 : Int := (IntKind.u8.wrap x3)
  cond (decide ((x0.ports 3).outp.n ≤ (x0.ports 3).outp.n)) (
  cond (decide (((x0.ports 3).outp.n + 1) * 1 ≤ 140737488355328) && decide (((x0.ports 3).outp.n + 1) ≤ 4611686018427387904)) (
  let t16 : Int := (IntKind.i64.wrap (((((x0.ports 3).outp.n + 1) : Nat) : Int) - 64))
  let t17 : Int := (pickmx true t16 0)
  cond (decide (0 ≤ ((((x0.ports 3).outp.n + 1) : Nat) : Int)) && decide (((((x0.ports 3).outp.n + 1) : Nat) : Int) ≤ ((((x0.ports 3).outp.n + 1) : Nat) : Int))) (
  cond (decide (0 ≤ t17) && decide (t17 ≤ ((((x0.ports 3).outp.n + 1) : Nat) : Int))) (
  cond (decide (((x0.ports 3).outp.n + 1) ≤ ((x0.ports 3).outp.n + 1))) (
  cond (decide (((Int.toNat t17) + (((x0.ports 3).outp.n + 1) - (Int.toNat t17))) ≤ ((x0.ports 3).outp.n + 1))) (
  gN (x0.ports 0).inp.n (x0.ports 0).inp.n (gN (x0.ports 0).outp.n (x0.ports 0).outp.n (gN (x0.ports 1).inp.n (x0.ports 1).inp.n (gN (x0.ports 1).outp.n (x0.ports 1).outp.n (gN (x0.ports 2).inp.n (x0.ports 2).inp.n (gN (x0.ports 2).outp.n (x0.ports 2).outp.n (gN (x0.ports 3).inp.n (x0.ports 3).inp.n (gN (((x0.ports 3).outp.n + 1) - (Int.toNat t17)) (((x0.ports 3).outp.n + 1) - (Int.toNat t17)) (k (GBus.mk x0.m x0.time x0.alarm (upd (upd (upd (fun _ => (x0.ports 0)) 1 (x0.ports 1)) 2 (x0.ports 2)) 3 (GPort.mk (x0.ports 3).inp (Row.mk (((x0.ports 3).outp.n + 1) - (Int.toNat t17)) (fun i => (fun i => bif Nat.blt i (x0.ports 3).outp.n then (x0.ports 3).outp.f i else (fun i => (upd (fun _ => 0) 0 t15) (0 + i)) (i - (x0.ports 3).outp.n)) ((Int.toNat t17) + i))) (x0.ports 3).typed))) true))))))))) none) none) none) none) none) none))) (
  F_zb x1 x2 (
  F_zv x0.m x1 x2 x3 (fun f18 r19 =>
  let b20 : Bool := (r19 == 0)
  GN x0 ((((((((k (GBus.mk f18 x0.time x0.alarm (upd (upd (upd (fun _ => (x0.ports 0)) 1 (x0.ports 1)) 2 (x0.ports 2)) 3 (x0.ports 3))) b20)))))))))) (
  let t21 : Int := (IntKind.u8.wrap x3)
  cond (decide ((x0.ports 0).outp.n ≤ (x0.ports 0).outp.n)) (
  cond (decide (((x0.ports 0).outp.n + 1) * 1 ≤ 140737488355328) && decide (((x0.ports 0).outp.n + 1) ≤ 4611686018427387904)) (
  let t22 : Int := (IntKind.i64.wrap (((((x0.ports 0).outp.n + 1) : Nat) : Int) - 64))
  let t23 : Int := (pickmx true t22 0)
  cond (decide (0 ≤ ((((x0.ports 0).outp.n + 1) : Nat) : Int)) && decide (((((x0.ports 0).outp.n + 1) : Nat) : Int) ≤ ((((x0.ports 0).outp.n + 1) : Nat) : Int))) (
  cond (decide (0 ≤ t23) && decide (t23 ≤ ((((x0.ports 0).outp.n + 1) : Nat) : Int))) (
  cond (decide (((x0.ports 0).outp.n + 1) ≤ ((x0.ports 0).outp.n + 1))) (
  cond (decide (((Int.toNat t23) + (((x0.ports 0).outp.n + 1) - (Int.toNat t23))) ≤ ((x0.ports 0).outp.n + 1))) (
  gN (x0.ports 0).inp.n (x0.ports 0).inp.n (gN (((x0.ports 0).outp.n + 1) - (Int.toNat t23)) (((x0.ports 0).outp.n + 1) - (Int.toNat t23)) (gN (x0.ports 1).inp.n (x0.ports 1).inp.n (gN (x0.ports 1).outp.n (x0.ports 1).outp.n (gN (x0.ports 2).inp.n (x0.ports 2).inp.n (gN (x0.ports 2).outp.n (x0.ports 2).outp.n (gN (x0.ports 3).inp.n (x0.ports 3).inp.n (gN (x0.ports 3).outp.n (x0.ports 3).outp.n (k (GBus.mk x0.m x0.time x0.alarm (upd (upd (upd (fun _ => (GPort.mk (x0.ports 0).inp (Row.mk (((x0.ports 0).outp.n + 1) - (Int.toNat t23)) (fun i => (fun i => bif Nat.blt i (x0.ports 0).outp.n then (x0.ports 0).outp.f i else (fun i => (upd (fun _ => 0) 0 t21) (0 + i)) (i - (x0.ports 0).outp.n)) ((Int.toNat t23) + i))) (x0.ports 0).typed)) 1 (x0.ports 1)) 2 (x0.ports 2)) 3 (x0.ports 3))) true))))))))) none) none) none) none) none) none) (
  let t24 : Int := (IntKind.u8.wrap x3)
  cond (decide ((x0.ports 1).outp.n ≤ (x0.ports 1).outp.n)) (
  cond (decide (((x0.ports 1).outp.n + 1) * 1 ≤ 140737488355328) && decide (((x0.ports 1).outp.n + 1) ≤ 4611686018427387904)) (
  let t25 : Int := (IntKind.i64.wrap (((((x0.ports 1).outp.n + 1) : Nat) : Int) - 64))
  let t26 : Int := (pickmx true t25 0)
  cond (decide (0 ≤ ((((x0.ports 1).outp.n + 1) : Nat) : Int)) && decide (((((x0.ports 1).outp.n + 1) : Nat) : Int) ≤ ((((x0.ports 1).outp.n + 1) : Nat) : Int))) (
  cond (decide (0 ≤ t26) && decide (t26 ≤ ((((x0.ports 1).outp.n + 1) : Nat) : Int))) (
  cond (decide (((x0.ports 1).outp.n + 1) ≤ ((x0.ports 1).outp.n + 1))) (
  cond (decide (((Int.toNat t26) + (((x0.ports 1).outp.n + 1) - (Int.toNat t26))) ≤ ((x0.ports 1).outp.n + 1))) (
  gN (x0.ports 0).inp.n (x0.ports 0).inp.n (gN (x0.ports 0).outp.n (x0.ports 0).outp.n (gN (x0.ports 1).inp.n (x0.ports 1).inp.n (gN (((x0.ports 1).outp.n + 1) - (Int.toNat t26)) (((x0.ports 1).outp.n + 1) - (Int.toNat t26)) (gN (x0.ports 2).inp.n (x0.ports 2).inp.n (gN (x0.ports 2).outp.n (x0.ports 2).outp.n (gN (x0.ports 3).inp.n (x0.ports 3).inp.n (gN (x0.ports 3).outp.n (x0.ports 3).outp.n (k (GBus.mk x0.m x0.time x0.alarm (upd (upd (upd (fun _ => (x0.ports 0)) 1 (GPort.mk (x0.ports 1).inp (Row.mk (((x0.ports 1).outp.n + 1) - (Int.toNat t26)) (fun i => (fun i => bif Nat.blt i (x0.ports 1).outp.n then (x0.ports 1).outp.f i else (fun i => (upd (fun _ => 0) 0 t24) (0 + i)) (i - (x0.ports 1).outp.n)) ((Int.toNat t26) + i))) (x0.ports 1).typed)) 2 (x0.ports 2)) 3 (x0.ports 3))) true))))))))) none) none) none) none) none) none) (
  let t27 : Int := (IntKind.u8.wrap x3)
  cond (decide ((x0.ports 2).outp.n ≤ (x0.ports 2).outp.n)) (
  cond (decide (((x0.ports 2).outp.n + 1) * 1 ≤ 140737488355328) && decide (((x0.ports 2).outp.n + 1) ≤ 4611686018427387904)) (
  let t28 : Int := (IntKind.i64.wrap (((((x0.ports 2).outp.n + 1) : Nat) : Int) - 64))
  let t29 : Int := (pickmx true t28 0)
  cond (decide (0 ≤ ((((x0.ports 2).outp.n + 1) : Nat) : Int)) && decide (((((x0.ports 2).outp.n + 1) : Nat) : Int) ≤ ((((x0.ports 2).outp.n + 1) : Nat) : Int))) (
  cond (decide (0 ≤ t29) && decide (t29 ≤ ((((x0.ports 2).outp.n + 1) : Nat) : Int))) (
  cond (decide (((x0.ports 2).outp.n + 1) ≤ ((x0.ports 2).outp.n + 1))) (
  cond (decide (((Int.toNat t29) + (((x0.ports 2).outp.n + 1) - (Int.toNat t29))) ≤ ((x0.ports 2).outp.n + 1))) (
  gN (x0.ports 0).inp.n (x0.ports 0).inp.n (gN (x0.ports 0).outp.n (x0.ports 0).outp.n (gN (x0.ports 1).inp.n (x0.ports 1).inp.n (gN (x0.ports 1).outp.n (x0.ports 1).outp.n (gN (x0.ports 2).inp.n (x0.ports 2).inp.n (gN (((x0.ports 2).outp.n + 1) - (Int.toNat t29)) (((x0.ports 2).outp.n + 1) - (Int.toNat t29)) (gN (x0.ports 3).inp.n (x0.ports 3).inp.n (gN (x0.ports 3).outp.n (x0.ports 3).outp.n (k (GBus.mk x0.m x0.time x0.alarm (upd (upd (upd (fun _ => (x0.ports 0)) 1 (x0.ports 1)) 2 (GPort.mk (x0.ports 2).inp (Row.mk (((x0.ports 2).outp.n + 1) - (Int.toNat t29)) (fun i => (fun i => bif Nat.blt i (x0.ports 2).outp.n then (x0.ports 2).outp.f i else (fun i => (upd (fun _ => 0) 0 t27) (0 + i)) (i - (x0.ports 2).outp.n)) ((Int.toNat t29) + i))) (x0.ports 2).typed)) 3 (x0.ports 3))) true))))))))) none) none) none) none) none) none) (
  let t30 : Int := (IntKind.u8.wrap x3)
  cond (decide ((x0.ports 3).outp.n ≤ (x0.ports 3).outp.n)) (
  cond (decide (((x0.ports 3).outp.n + 1) * 1 ≤ 140737488355328) && decide (((x0.ports 3).outp.n + 1) ≤ 4611686018427387904)) (
  let t31 : Int := (IntKind.i64.wrap (((((x0.ports 3).outp.n + 1) : Nat) : Int) - 64))
  let t32 : Int := (pickmx true t31 0)
  cond (decide (0 ≤ ((((x0.ports 3).outp.n + 1) : Nat) : Int)) && decide (((((x0.ports 3).outp.n + 1) : Nat) : Int) ≤ ((((x0.ports 3).outp.n + 1) : Nat) : Int))) (
  cond (decide (0 ≤ t32) && decide (t32 ≤ ((((x0.ports 3).outp.n + 1) : Nat) : Int))) (
  cond (decide (((x0.ports 3).outp.n + 1) ≤ ((x0.ports 3).outp.n + 1))) (
  cond (decide (((Int.toNat t32) + (((x0.ports 3).outp.n + 1) - (Int.toNat t32))) ≤ ((x0.ports 3).outp.n + 1))) (
  gN (x0.ports 0).inp.n (x0.ports 0).inp.n (gN (x0.ports 0).outp.n (x0.ports 0).outp.n (gN (x0.ports 1).inp.n (x0.ports 1).inp.n (gN (x0.ports 1).outp.n (x0.ports 1).outp.n (gN (x0.ports 2).inp.n (x0.ports 2).inp.n (gN (x0.ports 2).outp.n (x0.ports 2).outp.n (gN (x0.ports 3).inp.n (x0.ports 3).inp.n (gN (((x0.ports 3).outp.n + 1) - (Int.toNat t32)) (((x0.ports 3).outp.n + 1) - (Int.toNat t32)) (k (GBus.mk x0.m x0.time x0.alarm (upd (upd (upd (fun _ => (x0.ports 0)) 1 (x0.ports 1)) 2 (x0.ports 2)) 3 (GPort.mk (x0.ports 3).inp (Row.mk (((x0.ports 3).outp.n + 1) - (Int.toNat t32)) (fun i => (fun i => bif Nat.blt i (x0.ports 3).outp.n then (x0.ports 3).outp.f i else (fun i => (upd (fun _ => 0) 0 t30) (0 + i)) (i - (x0.ports 3).outp.n)) ((Int.toNat t32) + i))) (x0.ports 3).typed))) true))))))))) none) none) none) none) none) none))
abbrev Sg_zc (α : Type) := Int → (Nat → Int) → (Int → R α) → R α
def ad_zc {α : Type} (F : Sg_zc α) : FP α := fun args k => match args with
  | [a0, a1] => decI .i64 a0 fun x0 => decA .u64 3 a1 fun x1 => F x0 x1 (fun r0 => k (.int .u64 r0))
  | _ => none
def dR_access_cause {α : Type} (a0 : SV) (k : Int → R α) : R α := decI .u64 a0 fun x0 => k x0
theorem dR_access_cause_spec {α : Type} {v : SV} {k : Int → R α} {r : α} (h : dR_access_cause v k = some r) : ∃ x0, v = (.int .u64 x0) ∧ k x0 = some r := by
  unfold dR_access_cause at h
  obtain ⟨x0, rfl, h0⟩ := decI_spec h
  exact ⟨x0, rfl, h0⟩
def p_zc {α : Type}  (x0 : Int) (x1 : (Nat → Int)) (k : Int → R α) : R α :=
  let t1 : Int := (pickmx true x0 0)
  let t2 : Int := (pickmx false t1 2)
  cond (decide (0 ≤ t2) && decide (t2 < 3)) (
  cond (decide ((Int.toNat t2) < 3)) (
  k (x1 (Int.toNat t2))) none) none
theorem le_zc {α : Type} {F F' : Sg_zc α} (h : ∀ x0 x1 k r, F' x0 x1 k = some r → F x0 x1 k = some r) {args : List SV} {k : SV → R α} {r : α} (hk : ad_zc F' args k = some r) : ad_zc F args k = some r := by
  unfold ad_zc at hk
  split at hk <;> try (cases hk; done)
  obtain ⟨x0, rfl, hk0⟩ := decI_spec hk
  obtain ⟨x1, rfl, hk1⟩ := decA_spec hk0
  have hkz := hk1
  exact h x0 x1 _ _ hkz
abbrev Sg_z7 (α : Type) := Int → Int → Bool → (GFault → R α) → R α
def ad_z7 {α : Type} (F : Sg_z7 α) : FP α := fun args k => match args with
  | [a0, a1, a2] => decI .u64 a0 fun x0 => decI .i64 a1 fun x1 => decB a2 fun x2 => F x0 x1 x2 (fun r0 => k (GFault.sv r0))
  | _ => none
def dR_access_Bad {α : Type} (a0 : SV) (k : GFault → R α) : R α := GFault.dec a0 fun x0 => k x0
theorem dR_access_Bad_spec {α : Type} {v : SV} {k : GFault → R α} {r : α} (h : dR_access_Bad v k = some r) : ∃ x0, v = (GFault.sv x0) ∧ k x0 = some r := by
  unfold dR_access_Bad at h
  obtain ⟨x0, rfl, h0⟩ := GFault.dec_spec h
  exact ⟨x0, rfl, h0⟩
def p_z7 {α : Type} (F_zc : Sg_zc α) (x0 : Int) (x1 : Int) (x2 : Bool) (k : GFault → R α) : R α :=
  F_zc x1 (upd (upd (upd (fun _ => 0) 0 1) 1 5) 2 7) (fun r1 =>
  k (GFault.mk r1 x0 0 x2))
theorem le_z7 {α : Type} {F F' : Sg_z7 α} (h : ∀ x0 x1 x2 k r, F' x0 x1 x2 k = some r → F x0 x1 x2 k = some r) {args : List SV} {k : SV → R α} {r : α} (hk : ad_z7 F' args k = some r) : ad_z7 F args k = some r := by
  unfold ad_z7 at hk
  split at hk <;> try (cases hk; done)
  obtain ⟨x0, rfl, hk0⟩ := decI_spec hk
  obtain ⟨x1, rfl, hk1⟩ := decI_spec hk0
  obtain ⟨x2, rfl, hk2⟩ := decB_spec hk1
  have hkz := hk2
  exact h x0 x1 x2 _ _ hkz
abbrev Sg_z3 (α : Type) := GBus → Int → Int → Int → Int → Int → Bool → (GBus → Int → GFault → Bool → R α) → R α
@[reducible] def E_z3 : OShs (GBus × Int × Int × Int × Int × Int × Bool × Unit) := (.cons sh_Bus (.cons (.leaf (Lf_int .u64)) (.cons (.leaf (Lf_int .u64)) (.cons (.leaf (Lf_int .i64)) (.cons (.leaf (Lf_int .i64)) (.cons (.leaf (Lf_int .u64)) (.cons (.leaf Lf_bool) .nil)))))))
@[reducible] def M_z3 : OShs (GBus × Unit) := (.cons sh_Bus .nil)
@[reducible] def Q_z3 : OShs (Int × GFault × Bool × Unit) := (.cons (.leaf (Lf_int .u64)) (.cons (.leaf Lf_GFault) (.cons (.leaf Lf_bool) .nil)))
theorem E_z1i : E_z3.PlainP := ⟨plsh_Bus, trivial, trivial, trivial, trivial, trivial, trivial, trivial⟩
theorem M_z1i : M_z3.Plain := ⟨plsh_Bus, trivial⟩
theorem Q_z1i : Q_z3.Plain := ⟨(pl_int .u64), pl_GFault, pl_bool, trivial⟩
def ad_z3 {α : Type} (F : Sg_z3 α) : FF α := adO E_z3 M_z3 Q_z3 false fun a k => F a.1 a.2.1 a.2.2.1 a.2.2.2.1 a.2.2.2.2.1 a.2.2.2.2.2.1 a.2.2.2.2.2.2.1 (fun y0 z0 z1 z2 => k (y0, ()) (z0, z1, z2, ()))
def p_z3 {α : Type} (F_z7 : Sg_z7 α) (F_zf : Sg_zf α) (F_ze : Sg_ze α) (x0 : GBus) (x1 : Int) (x2 : Int) (x3 : Int) (x4 : Int) (x5 : Int) (x6 : Bool) (k : GBus → Int → GFault → Bool → R α) : R α :=
  let b1 : Bool := (x4 == 0)
  cond b1 (
  let b2 : Bool := (leB 61440 x1)
  cond b2 (
  let b3 : Bool := (ltB x1 62720)
  cond b3 (
  F_z7 x2 x4 x6 (fun r4 =>
  GN x0 ((((((((k (NB x0) 0 r4 false)))))))))) (
  let b5 : Bool := (x4 == 2)
  cond b5 (
  GN x0 ((((((((F_zf (NB x0) x1 x3 x5 (fun y6 r7 =>
  let b8 : Bool := (!r7)
  cond b8 (
  F_z7 x2 x4 x6 (fun r9 =>
  GN y6 ((((((((k (NB y6) 0 r9 false)))))))))) (
  GN y6 ((((((((k (NB y6) 0 (GFault.mk 0 0 0 false) true))))))))))))))))))) (
  GN x0 ((((((((F_ze (NB x0) x1 x3 (fun y10 r11 r12 =>
  let b13 : Bool := (!r12)
  cond b13 (
  F_z7 x2 x4 x6 (fun r14 =>
  GN y10 ((((((((k (NB y10) 0 r14 false)))))))))) (
  GN y10 ((((((((k (NB y10) r11 (GFault.mk 0 0 0 false) true))))))))))))))))))))) (
  let b15 : Bool := (x4 == 2)
  cond b15 (
  GN x0 ((((((((F_zf (NB x0) x1 x3 x5 (fun y16 r17 =>
  let b18 : Bool := (!r17)
  cond b18 (
  F_z7 x2 x4 x6 (fun r19 =>
  GN y16 ((((((((k (NB y16) 0 r19 false)))))))))) (
  GN y16 ((((((((k (NB y16) 0 (GFault.mk 0 0 0 false) true))))))))))))))))))) (
  GN x0 ((((((((F_ze (NB x0) x1 x3 (fun y20 r21 r22 =>
  let b23 : Bool := (!r22)
  cond b23 (
  F_z7 x2 x4 x6 (fun r24 =>
  GN y20 ((((((((k (NB y20) 0 r24 false)))))))))) (
  GN y20 ((((((((k (NB y20) r21 (GFault.mk 0 0 0 false) true))))))))))))))))))))) (
  let b25 : Bool := (x4 == 2)
  cond b25 (
  GN x0 ((((((((F_zf (NB x0) x1 x3 x5 (fun y26 r27 =>
  let b28 : Bool := (!r27)
  cond b28 (
  F_z7 x2 x4 x6 (fun r29 =>
  GN y26 ((((((((k (NB y26) 0 r29 false)))))))))) (
  GN y26 ((((((((k (NB y26) 0 (GFault.mk 0 0 0 false) true))))))))))))))))))) (
  GN x0 ((((((((F_ze (NB x0) x1 x3 (fun y30 r31 r32 =>
  let b33 : Bool := (!r32)
  cond b33 (
  F_z7 x2 x4 x6 (fun r34 =>
  GN y30 ((((((((k (NB y30) 0 r34 false)))))))))) (
  GN y30 ((((((((k (NB y30) r31 (GFault.mk 0 0 0 false) true))))))))))))))))))))
abbrev Sg_z6 (α : Type) := Int → Int → Int → Bool → (GFault → Bool → R α) → R α
def ad_z6 {α : Type} (F : Sg_z6 α) : FP α := fun args k => match args with
  | [a0, a1, a2, a3] => decI .u64 a0 fun x0 => decI .i64 a1 fun x1 => decI .i64 a2 fun x2 => decB a3 fun x3 => F x0 x1 x2 x3 (fun r0 r1 => k (.tuple [(GFault.sv r0), (.bool r1)]))
  | _ => none
def dR_access_Aligned {α : Type} (v : SV) (k : GFault → Bool → R α) : R α := match v with
  | .tuple [a0, a1] => GFault.dec a0 fun x0 => decB a1 fun x1 => k x0 x1
  | _ => none
theorem dR_access_Aligned_spec {α : Type} {v : SV} {k : GFault → Bool → R α} {r : α} (h : dR_access_Aligned v k = some r) : ∃ x0 x1, v = (.tuple [(GFault.sv x0), (.bool x1)]) ∧ k x0 x1 = some r := by
  unfold dR_access_Aligned at h
  split at h <;> try (cases h; done)
  obtain ⟨x0, rfl, h0⟩ := GFault.dec_spec h
  obtain ⟨x1, rfl, h1⟩ := decB_spec h0
  exact ⟨x0, x1, rfl, h1⟩
def p_z6 {α : Type} (F_z7 : Sg_z7 α) (F_zc : Sg_zc α) (x0 : Int) (x1 : Int) (x2 : Int) (x3 : Bool) (k : GFault → Bool → R α) : R α :=
  let b1 : Bool := (x1 != 1)
  cond b1 (
  let b2 : Bool := (x1 != 2)
  cond b2 (
  let b3 : Bool := (x1 != 4)
  cond b3 (
  let b4 : Bool := (x1 != 8)
  cond b4 (
  F_z7 x0 x2 x3 (fun r5 =>
  k r5 false)) (
  let t6 : Int := (IntKind.u64.wrap x1)
  cond (decide (t6 = 0)) none (
  let t7 : Int := (Int.tmod x0 t6)
  let b8 : Bool := (t7 != 0)
  cond b8 (
  F_zc x2 (upd (upd (upd (fun _ => 0) 0 0) 1 4) 2 6) (fun r9 =>
  k (GFault.mk r9 x0 0 x3) false)) (
  k (GFault.mk 0 0 0 false) true)))) (
  let t10 : Int := (IntKind.u64.wrap x1)
  cond (decide (t10 = 0)) none (
  let t11 : Int := (Int.tmod x0 t10)
  let b12 : Bool := (t11 != 0)
  cond b12 (
  F_zc x2 (upd (upd (upd (fun _ => 0) 0 0) 1 4) 2 6) (fun r13 =>
  k (GFault.mk r13 x0 0 x3) false)) (
  k (GFault.mk 0 0 0 false) true)))) (
  let t14 : Int := (IntKind.u64.wrap x1)
  cond (decide (t14 = 0)) none (
  let t15 : Int := (Int.tmod x0 t14)
  let b16 : Bool := (t15 != 0)
  cond b16 (
  F_zc x2 (upd (upd (upd (fun _ => 0) 0 0) 1 4) 2 6) (fun r17 =>
  k (GFault.mk r17 x0 0 x3) false)) (
  k (GFault.mk 0 0 0 false) true)))) (
  let t18 : Int := (IntKind.u64.wrap x1)
  cond (decide (t18 = 0)) none (
  let t19 : Int := (Int.tmod x0 t18)
  let b20 : Bool := (t19 != 0)
  cond b20 (
  F_zc x2 (upd (upd (upd (fun _ => 0) 0 0) 1 4) 2 6) (fun r21 =>
  k (GFault.mk r21 x0 0 x3) false)) (
  k (GFault.mk 0 0 0 false) true)))
theorem le_z6 {α : Type} {F F' : Sg_z6 α} (h : ∀ x0 x1 x2 x3 k r, F' x0 x1 x2 x3 k = some r → F x0 x1 x2 x3 k = some r) {args : List SV} {k : SV → R α} {r : α} (hk : ad_z6 F' args k = some r) : ad_z6 F args k = some r := by
  unfold ad_z6 at hk
  split at hk <;> try (cases hk; done)
  obtain ⟨x0, rfl, hk0⟩ := decI_spec hk
  obtain ⟨x1, rfl, hk1⟩ := decI_spec hk0
  obtain ⟨x2, rfl, hk2⟩ := decI_spec hk1
  obtain ⟨x3, rfl, hk3⟩ := decB_spec hk2
  have hkz := hk3
  exact h x0 x1 x2 x3 _ _ hkz
abbrev Sg_za (α : Type) := (Nat → Int) → GState → Int → Int → Int → Bool → (Int → GEntry → GFault → Bool → R α) → R α
def ad_za {α : Type} (F : Sg_za α) : FF α := fun args σ k => match args with
  | [a0, a1, a2, a3, a4, a5] => withMem σ a0 fun _ b1 _ g1 x0 => GState.dec a1 fun x1 => decI .u64 a2 fun x2 => decI .i64 a3 fun x3 => decI .i64 a4 fun x4 => decB a5 fun x5 => F x0 x1 x2 x3 x4 x5 (fun r0 r1 r2 r3 => k (.tuple [(.int .u64 r0), (GEntry.sv r1), (GFault.sv r2), (.bool r3)]) σ)
  | _ => none
abbrev Sg_z1 (α : Type) := GBus → GState → Int → Int → Int → Int → Int → Bool → (GBus → Int → GFault → Bool → R α) → R α
@[reducible] def E_z1 : OShs (GBus × GState × Int × Int × Int × Int × Int × Bool × Unit) := (.cons sh_Bus (.cons (.leaf Lf_GState) (.cons (.leaf (Lf_int .u64)) (.cons (.leaf (Lf_int .i64)) (.cons (.leaf (Lf_int .i64)) (.cons (.leaf (Lf_int .u64)) (.cons (.leaf (Lf_int .i64)) (.cons (.leaf Lf_bool) .nil))))))))
@[reducible] def M_z1 : OShs (GBus × Unit) := (.cons sh_Bus .nil)
@[reducible] def Q_z1 : OShs (Int × GFault × Bool × Unit) := (.cons (.leaf (Lf_int .u64)) (.cons (.leaf Lf_GFault) (.cons (.leaf Lf_bool) .nil)))
theorem E_z1j : E_z1.PlainP := ⟨plsh_Bus, trivial, trivial, trivial, trivial, trivial, trivial, trivial, trivial⟩
theorem M_z1j : M_z1.Plain := ⟨plsh_Bus, trivial⟩
theorem Q_z1j : Q_z1.Plain := ⟨(pl_int .u64), pl_GFault, pl_bool, trivial⟩
def ad_z1 {α : Type} (F : Sg_z1 α) : FF α := adO E_z1 M_z1 Q_z1 false fun a k => F a.1 a.2.1 a.2.2.1 a.2.2.2.1 a.2.2.2.2.1 a.2.2.2.2.2.1 a.2.2.2.2.2.2.1 a.2.2.2.2.2.2.2.1 (fun y0 z0 z1 z2 => k (y0, ()) (z0, z1, z2, ()))
def p_z1 {α : Type} (F_z6 : Sg_z6 α) (F_za : Sg_za α) (F_z3 : Sg_z3 α) (x0 : GBus) (x1 : GState) (x2 : Int) (x3 : Int) (x4 : Int) (x5 : Int) (x6 : Int) (x7 : Bool) (k : GBus → Int → GFault → Bool → R α) : R α :=
  F_z6 x2 x3 x4 x7 (fun r1 r2 =>
  let b3 : Bool := (!r2)
  cond b3 (
  GN x0 ((((((((k (NB x0) 0 r1 false))))))))) (
  F_za x0.m x1 x2 x4 x6 x7 (fun r4 r5 r6 r7 =>
  let b8 : Bool := (!r7)
  cond b8 (
  GN x0 ((((((((k (NB x0) 0 r6 false))))))))) (
  GN x0 ((((((((F_z3 (NB x0) r4 x2 x3 x4 x5 x7 (fun y9 r10 r11 r12 =>
  GN y9 ((((((((k (NB y9) r10 r11 r12)))))))))))))))))))))
abbrev Sg_z5 (α : Type) := Int → (Int → R α) → R α
def ad_z5 {α : Type} (F : Sg_z5 α) : FP α := fun args k => match args with
  | [a0] => decI .i64 a0 fun x0 => F x0 (fun r0 => k (.int .i64 r0))
  | _ => none
def dR_insn_Class {α : Type} (a0 : SV) (k : Int → R α) : R α := decI .i64 a0 fun x0 => k x0
theorem dR_insn_Class_spec {α : Type} {v : SV} {k : Int → R α} {r : α} (h : dR_insn_Class v k = some r) : ∃ x0, v = (.int .i64 x0) ∧ k x0 = some r := by
  unfold dR_insn_Class at h
  obtain ⟨x0, rfl, h0⟩ := decI_spec h
  exact ⟨x0, rfl, h0⟩
def p_z5 {α : Type}  (x0 : Int) (k : Int → R α) : R α :=
  let b1 : Bool := (ltB x0 1)
  cond b1 (
  k 0) (
  let b2 : Bool := (leB 70 x0)
  cond b2 (
  k 0) (
  let b3 : Bool := (leB x0 4)
  cond b3 (
  k 1) (
  let b4 : Bool := (leB x0 10)
  cond b4 (
  k 2) (
  let b5 : Bool := (leB x0 17)
  cond b5 (
  k 3) (
  let b6 : Bool := (leB x0 21)
  cond b6 (
  k 4) (
  let b7 : Bool := (leB x0 34)
  cond b7 (
  k 5) (
  let b8 : Bool := (leB x0 49)
  cond b8 (
  k 6) (
  let b9 : Bool := (leB x0 51)
  cond b9 (
  k 7) (
  let b10 : Bool := (leB x0 53)
  cond b10 (
  k 8) (
  let b11 : Bool := (leB x0 59)
  cond b11 (
  k 9) (
  let b12 : Bool := (leB x0 62)
  cond b12 (
  k 10) (
  let b13 : Bool := (leB x0 65)
  cond b13 (
  k 11) (
  let b14 : Bool := (leB x0 69)
  cond b14 (
  k 12) (
  k 0))))))))))))))
abbrev Sg_zs (α : Type) := Int → (GInsn_Fields → R α) → R α
def ad_zs {α : Type} (F : Sg_zs α) : FP α := fun args k => match args with
  | [a0] => decI .i64 a0 fun x0 => F x0 (fun r0 => k (GInsn_Fields.sv r0))
  | _ => none
def dR_insn_jumps {α : Type} (a0 : SV) (k : GInsn_Fields → R α) : R α := GInsn_Fields.dec a0 fun x0 => k x0
theorem dR_insn_jumps_spec {α : Type} {v : SV} {k : GInsn_Fields → R α} {r : α} (h : dR_insn_jumps v k = some r) : ∃ x0, v = (GInsn_Fields.sv x0) ∧ k x0 = some r := by
  unfold dR_insn_jumps at h
  obtain ⟨x0, rfl, h0⟩ := GInsn_Fields.dec_spec h
  exact ⟨x0, rfl, h0⟩
def p_zs {α : Type}  (x0 : Int) (k : GInsn_Fields → R α) : R α :=
  let b1 : Bool := (x0 == 3)
  cond b1 (
  k (GInsn_Fields.mk true false false false (-1048576) 1048574 2)) (
  let b2 : Bool := (x0 == 4)
  cond b2 (
  k (GInsn_Fields.mk true false true false (-2048) 2047 1)) (
  k (GInsn_Fields.mk true false false false (-2147483648) 2147479552 4096)))
abbrev Sg_zt (α : Type) := Int → (GInsn_Fields → R α) → R α
def ad_zt {α : Type} (F : Sg_zt α) : FP α := fun args k => match args with
  | [a0] => decI .i64 a0 fun x0 => F x0 (fun r0 => k (GInsn_Fields.sv r0))
  | _ => none
def dR_insn_withNumber {α : Type} (a0 : SV) (k : GInsn_Fields → R α) : R α := GInsn_Fields.dec a0 fun x0 => k x0
theorem dR_insn_withNumber_spec {α : Type} {v : SV} {k : GInsn_Fields → R α} {r : α} (h : dR_insn_withNumber v k = some r) : ∃ x0, v = (GInsn_Fields.sv x0) ∧ k x0 = some r := by
  unfold dR_insn_withNumber at h
  obtain ⟨x0, rfl, h0⟩ := GInsn_Fields.dec_spec h
  exact ⟨x0, rfl, h0⟩
def p_zt {α : Type}  (x0 : Int) (k : GInsn_Fields → R α) : R α :=
  let b1 : Bool := (x0 == 28)
  cond b1 (
  k (GInsn_Fields.mk true false true false 0 63 1)) (
  let b2 : Bool := (x0 == 29)
  cond b2 (
  k (GInsn_Fields.mk true false true false 0 63 1)) (
  let b3 : Bool := (x0 == 30)
  cond b3 (
  k (GInsn_Fields.mk true false true false 0 63 1)) (
  let b4 : Bool := (x0 == 32)
  cond b4 (
  k (GInsn_Fields.mk true false true false 0 31 1)) (
  let b5 : Bool := (x0 == 33)
  cond b5 (
  k (GInsn_Fields.mk true false true false 0 31 1)) (
  let b6 : Bool := (x0 == 34)
  cond b6 (
  k (GInsn_Fields.mk true false true false 0 31 1)) (
  k (GInsn_Fields.mk true false true false (-2048) 2047 1)))))))
abbrev Sg_zu (α : Type) := Int → (GInsn_Fields → R α) → R α
def ad_zu {α : Type} (F : Sg_zu α) : FP α := fun args k => match args with
  | [a0] => decI .i64 a0 fun x0 => F x0 (fun r0 => k (GInsn_Fields.sv r0))
  | _ => none
def dR_insn_Of {α : Type} (a0 : SV) (k : GInsn_Fields → R α) : R α := GInsn_Fields.dec a0 fun x0 => k x0
theorem dR_insn_Of_spec {α : Type} {v : SV} {k : GInsn_Fields → R α} {r : α} (h : dR_insn_Of v k = some r) : ∃ x0, v = (GInsn_Fields.sv x0) ∧ k x0 = some r := by
  unfold dR_insn_Of at h
  obtain ⟨x0, rfl, h0⟩ := GInsn_Fields.dec_spec h
  exact ⟨x0, rfl, h0⟩
def p_zu {α : Type} (F_z5 : Sg_z5 α) (F_zs : Sg_zs α) (F_zt : Sg_zt α) (x0 : Int) (k : GInsn_Fields → R α) : R α :=
  F_z5 x0 (fun r1 =>
  let b2 : Bool := (r1 == 1)
  cond b2 (
  F_zs x0 (fun r3 =>
  k r3)) (
  let b4 : Bool := (r1 == 2)
  cond b4 (
  k (GInsn_Fields.mk false false true true (-4096) 4094 2)) (
  let b5 : Bool := (r1 == 3)
  cond b5 (
  k (GInsn_Fields.mk true false true false (-2048) 2047 1)) (
  let b6 : Bool := (r1 == 4)
  cond b6 (
  k (GInsn_Fields.mk false false true true (-2048) 2047 1)) (
  let b7 : Bool := (r1 == 5)
  cond b7 (
  F_zt x0 (fun r8 =>
  k r8)) (
  let b9 : Bool := (r1 == 6)
  cond b9 (
  k (GInsn_Fields.mk true false true true 0 0 0)) (
  let b10 : Bool := (r1 == 9)
  cond b10 (
  let b11 : Bool := (leB 57 x0)
  cond b11 (
  k (GInsn_Fields.mk true true false false 0 31 1)) (
  k (GInsn_Fields.mk true true true false 0 0 0))) (
  let b12 : Bool := (r1 == 11)
  cond b12 (
  k (GInsn_Fields.mk false false true true 0 0 0)) (
  let b13 : Bool := (r1 == 12)
  cond b13 (
  let b14 : Bool := (x0 == 69)
  cond b14 (
  k (GInsn_Fields.mk false false true true 0 0 0)) (
  k (GInsn_Fields.mk true false true false 0 0 0))) (
  k (GInsn_Fields.mk false false false false 0 0 0)))))))))))
abbrev Sg_zl (α : Type) := Bool → Int → Int → (Bool → R α) → R α
def ad_zl {α : Type} (F : Sg_zl α) : FP α := fun args k => match args with
  | [a0, a1, a2] => decB a0 fun x0 => decI .i64 a1 fun x1 => decI .i64 a2 fun x2 => F x0 x1 x2 (fun r0 => k (.bool r0))
  | _ => none
def dR_insn_field {α : Type} (a0 : SV) (k : Bool → R α) : R α := decB a0 fun x0 => k x0
theorem dR_insn_field_spec {α : Type} {v : SV} {k : Bool → R α} {r : α} (h : dR_insn_field v k = some r) : ∃ x0, v = (.bool x0) ∧ k x0 = some r := by
  unfold dR_insn_field at h
  obtain ⟨x0, rfl, h0⟩ := decB_spec h
  exact ⟨x0, rfl, h0⟩
def p_zl {α : Type}  (x0 : Bool) (x1 : Int) (x2 : Int) (k : Bool → R α) : R α :=
  let b1 : Bool := (x1 == 0)
  cond b1 (
  k true) (
  cond x0 (
  let b2 : Bool := (ltB 0 x1)
  cond b2 (
  let b3 : Bool := (ltB x1 x2)
  k b3) (
  k false)) (
  k false))
abbrev Sg_zr (α : Type) := GInsn → (Bool → R α) → R α
def ad_zr {α : Type} (F : Sg_zr α) : FP α := fun args k => match args with
  | [a0] => GInsn.dec a0 fun x0 => F x0 (fun r0 => k (.bool r0))
  | _ => none
def dR_insn_Is {α : Type} (a0 : SV) (k : Bool → R α) : R α := decB a0 fun x0 => k x0
theorem dR_insn_Is_spec {α : Type} {v : SV} {k : Bool → R α} {r : α} (h : dR_insn_Is v k = some r) : ∃ x0, v = (.bool x0) ∧ k x0 = some r := by
  unfold dR_insn_Is at h
  obtain ⟨x0, rfl, h0⟩ := decB_spec h
  exact ⟨x0, rfl, h0⟩
def p_zr {α : Type} (F_z5 : Sg_z5 α) (F_zu : Sg_zu α) (F_zl : Sg_zl α) (x0 : GInsn) (k : Bool → R α) : R α :=
  F_z5 x0.Op (fun r1 =>
  let b2 : Bool := (r1 == 0)
  cond b2 (
  k false) (
  F_zu x0.Op (fun r3 =>
  let b4 : Bool := (r3.Step == 0)
  cond b4 (
  let b5 : Bool := (x0.Imm != 0)
  cond b5 (
  k false) (
  let b6 : Bool := (ltB 0 r3.Step)
  cond b6 (
  let b7 : Bool := (ltB x0.Imm r3.Low)
  cond b7 (
  k false) (
  let b8 : Bool := (ltB r3.High x0.Imm)
  cond b8 (
  k false) (
  cond (decide (r3.Step = 0)) none (
  let t9 : Int := (Int.tmod x0.Imm r3.Step)
  let b10 : Bool := (t9 != 0)
  cond b10 (
  k false) (
  F_zl r3.Rd x0.Rd 32 (fun r11 =>
  cond r11 (
  F_zl r3.Rs1 x0.Rs1 32 (fun r12 =>
  cond r12 (
  F_zl r3.Rs2 x0.Rs2 32 (fun r13 =>
  cond r13 (
  F_zl r3.CSR x0.CSR 4096 (fun r14 =>
  k r14)) (
  k false))) (
  k false))) (
  k false))))))) (
  F_zl r3.Rd x0.Rd 32 (fun r15 =>
  cond r15 (
  F_zl r3.Rs1 x0.Rs1 32 (fun r16 =>
  cond r16 (
  F_zl r3.Rs2 x0.Rs2 32 (fun r17 =>
  cond r17 (
  F_zl r3.CSR x0.CSR 4096 (fun r18 =>
  k r18)) (
  k false))) (
  k false))) (
  k false))))) (
  let b19 : Bool := (ltB 0 r3.Step)
  cond b19 (
  let b20 : Bool := (ltB x0.Imm r3.Low)
  cond b20 (
  k false) (
  let b21 : Bool := (ltB r3.High x0.Imm)
  cond b21 (
  k false) (
  cond (decide (r3.Step = 0)) none (
  let t22 : Int := (Int.tmod x0.Imm r3.Step)
  let b23 : Bool := (t22 != 0)
  cond b23 (
  k false) (
  F_zl r3.Rd x0.Rd 32 (fun r24 =>
  cond r24 (
  F_zl r3.Rs1 x0.Rs1 32 (fun r25 =>
  cond r25 (
  F_zl r3.Rs2 x0.Rs2 32 (fun r26 =>
  cond r26 (
  F_zl r3.CSR x0.CSR 4096 (fun r27 =>
  k r27)) (
  k false))) (
  k false))) (
  k false))))))) (
  F_zl r3.Rd x0.Rd 32 (fun r28 =>
  cond r28 (
  F_zl r3.Rs1 x0.Rs1 32 (fun r29 =>
  cond r29 (
  F_zl r3.Rs2 x0.Rs2 32 (fun r30 =>
  cond r30 (
  F_zl r3.CSR x0.CSR 4096 (fun r31 =>
  k r31)) (
  k false))) (
  k false))) (
  k false)))))))
abbrev Sg_zo (α : Type) := Int → Int → (Int → Int → R α) → R α
def ad_zo {α : Type} (F : Sg_zo α) : FP α := fun args k => match args with
  | [a0, a1] => decI .i64 a0 fun x0 => decI .i64 a1 fun x1 => F x0 x1 (fun r0 r1 => k (.tuple [(.int .i64 r0), (.int .i64 r1)]))
  | _ => none
def dR_word_part {α : Type} (v : SV) (k : Int → Int → R α) : R α := match v with
  | .tuple [a0, a1] => decI .i64 a0 fun x0 => decI .i64 a1 fun x1 => k x0 x1
  | _ => none
theorem dR_word_part_spec {α : Type} {v : SV} {k : Int → Int → R α} {r : α} (h : dR_word_part v k = some r) : ∃ x0 x1, v = (.tuple [(.int .i64 x0), (.int .i64 x1)]) ∧ k x0 x1 = some r := by
  unfold dR_word_part at h
  split at h <;> try (cases h; done)
  obtain ⟨x0, rfl, h0⟩ := decI_spec h
  obtain ⟨x1, rfl, h1⟩ := decI_spec h0
  exact ⟨x0, x1, rfl, h1⟩
def p_zo {α : Type}  (x0 : Int) (x1 : Int) (k : Int → Int → R α) : R α :=
  let t1 : Int := (pickmx true x0 0)
  let t2 : Int := (pickmx false t1 63)
  let t3 : Int := (pickmx true x1 0)
  let t4 : Int := (IntKind.i64.wrap (64 - t2))
  let t5 : Int := (pickmx false t3 t4)
  k t2 t5
abbrev Sg_z8 (α : Type) := Int → (Int → R α) → R α
def ad_z8 {α : Type} (F : Sg_z8 α) : FP α := fun args k => match args with
  | [a0] => decI .i64 a0 fun x0 => F x0 (fun r0 => k (.int .u64 r0))
  | _ => none
def dR_word_mask {α : Type} (a0 : SV) (k : Int → R α) : R α := decI .u64 a0 fun x0 => k x0
theorem dR_word_mask_spec {α : Type} {v : SV} {k : Int → R α} {r : α} (h : dR_word_mask v k = some r) : ∃ x0, v = (.int .u64 x0) ∧ k x0 = some r := by
  unfold dR_word_mask at h
  obtain ⟨x0, rfl, h0⟩ := decI_spec h
  exact ⟨x0, rfl, h0⟩
def p_z8 {α : Type}  (x0 : Int) (k : Int → R α) : R α :=
  let b1 : Bool := (leB 64 x0)
  cond b1 (
  k 18446744073709551615) (
  cond (decide (x0 < 0)) none (
  let t2 : Int := (gshl .u64 1 x0)
  let t3 : Int := (IntKind.u64.wrap (t2 - 1))
  k t3))
abbrev Sg_zm (α : Type) := Int → Int → Int → (Int → R α) → R α
def ad_zm {α : Type} (F : Sg_zm α) : FP α := fun args k => match args with
  | [a0, a1, a2] => decI .u64 a0 fun x0 => decI .i64 a1 fun x1 => decI .i64 a2 fun x2 => F x0 x1 x2 (fun r0 => k (.int .u64 r0))
  | _ => none
def dR_word_Bits {α : Type} (a0 : SV) (k : Int → R α) : R α := decI .u64 a0 fun x0 => k x0
theorem dR_word_Bits_spec {α : Type} {v : SV} {k : Int → R α} {r : α} (h : dR_word_Bits v k = some r) : ∃ x0, v = (.int .u64 x0) ∧ k x0 = some r := by
  unfold dR_word_Bits at h
  obtain ⟨x0, rfl, h0⟩ := decI_spec h
  exact ⟨x0, rfl, h0⟩
def p_zm {α : Type} (F_zo : Sg_zo α) (F_z8 : Sg_z8 α) (x0 : Int) (x1 : Int) (x2 : Int) (k : Int → R α) : R α :=
  F_zo x1 x2 (fun r1 r2 =>
  cond (decide (r1 < 0)) none (
  let t3 : Int := (gshr .u64 x0 r1)
  F_z8 r2 (fun r4 =>
  let t5 : Int := (bitop .and .u64 t3 r4)
  k t5)))
abbrev Sg_zk (α : Type) := GState → Int → Int → (Bool → R α) → R α
def ad_zk {α : Type} (F : Sg_zk α) : FP α := fun args k => match args with
  | [a0, a1, a2] => GState.dec a0 fun x0 => decI .i64 a1 fun x1 => decI .i64 a2 fun x2 => F x0 x1 x2 (fun r0 => k (.bool r0))
  | _ => none
def dR_csr_Bit {α : Type} (a0 : SV) (k : Bool → R α) : R α := decB a0 fun x0 => k x0
theorem dR_csr_Bit_spec {α : Type} {v : SV} {k : Bool → R α} {r : α} (h : dR_csr_Bit v k = some r) : ∃ x0, v = (.bool x0) ∧ k x0 = some r := by
  unfold dR_csr_Bit at h
  obtain ⟨x0, rfl, h0⟩ := decB_spec h
  exact ⟨x0, rfl, h0⟩
def p_zk {α : Type} (F_zm : Sg_zm α) (x0 : GState) (x1 : Int) (x2 : Int) (k : Bool → R α) : R α :=
  cond (decide (0 ≤ x1) && decide (x1 < 29)) (
  cond (decide ((Int.toNat x1) < 29)) (
  F_zm (x0.C (Int.toNat x1)) x2 1 (fun r1 =>
  let b2 : Bool := (r1 == 1)
  k b2)) none) none
abbrev Sg_zn (α : Type) := Int → (Int → R α) → R α
def ad_zn {α : Type} (F : Sg_zn α) : FP α := fun args k => match args with
  | [a0] => decI .u64 a0 fun x0 => F x0 (fun r0 => k (.int .i64 r0))
  | _ => none
def dR_access_sort {α : Type} (a0 : SV) (k : Int → R α) : R α := decI .i64 a0 fun x0 => k x0
theorem dR_access_sort_spec {α : Type} {v : SV} {k : Int → R α} {r : α} (h : dR_access_sort v k = some r) : ∃ x0, v = (.int .i64 x0) ∧ k x0 = some r := by
  unfold dR_access_sort at h
  obtain ⟨x0, rfl, h0⟩ := decI_spec h
  exact ⟨x0, rfl, h0⟩
def p_zn {α : Type}  (x0 : Int) (k : Int → R α) : R α :=
  let b1 : Bool := (x0 == 12)
  cond b1 (
  k 1) (
  let b2 : Bool := (x0 == 20)
  cond b2 (
  k 2) (
  k 0))
abbrev Sg_z4 (α : Type) := Int → (Int → R α) → R α
def ad_z4 {α : Type} (F : Sg_z4 α) : FP α := fun args k => match args with
  | [a0] => decI .i64 a0 fun x0 => F x0 (fun r0 => k (.int .i64 r0))
  | _ => none
def dR_insn_Size {α : Type} (a0 : SV) (k : Int → R α) : R α := decI .i64 a0 fun x0 => k x0
theorem dR_insn_Size_spec {α : Type} {v : SV} {k : Int → R α} {r : α} (h : dR_insn_Size v k = some r) : ∃ x0, v = (.int .i64 x0) ∧ k x0 = some r := by
  unfold dR_insn_Size at h
  obtain ⟨x0, rfl, h0⟩ := decI_spec h
  exact ⟨x0, rfl, h0⟩
def p_z4 {α : Type}  (x0 : Int) (k : Int → R α) : R α :=
  let b1 : Bool := (x0 == 11)
  cond b1 (
  k 1) (
  let b2 : Bool := (x0 == 15)
  cond b2 (
  k 1) (
  let b3 : Bool := (x0 == 18)
  cond b3 (
  k 1) (
  let b4 : Bool := (x0 == 12)
  cond b4 (
  k 2) (
  let b5 : Bool := (x0 == 16)
  cond b5 (
  k 2) (
  let b6 : Bool := (x0 == 19)
  cond b6 (
  k 2) (
  let b7 : Bool := (x0 == 13)
  cond b7 (
  k 4) (
  let b8 : Bool := (x0 == 17)
  cond b8 (
  k 4) (
  let b9 : Bool := (x0 == 20)
  cond b9 (
  k 4) (
  let b10 : Bool := (x0 == 66)
  cond b10 (
  k 4) (
  let b11 : Bool := (x0 == 68)
  cond b11 (
  k 4) (
  let b12 : Bool := (x0 == 14)
  cond b12 (
  k 8) (
  let b13 : Bool := (x0 == 21)
  cond b13 (
  k 8) (
  let b14 : Bool := (x0 == 67)
  cond b14 (
  k 8) (
  let b15 : Bool := (x0 == 69)
  cond b15 (
  k 8) (
  k 0)))))))))))))))
abbrev Sg_zj (α : Type) := Int → Int → (Int → R α) → R α
def ad_zj {α : Type} (F : Sg_zj α) : FP α := fun args k => match args with
  | [a0, a1] => decI .u64 a0 fun x0 => decI .i64 a1 fun x1 => F x0 x1 (fun r0 => k (.int .u64 r0))
  | _ => none
def dR_word_Zext {α : Type} (a0 : SV) (k : Int → R α) : R α := decI .u64 a0 fun x0 => k x0
theorem dR_word_Zext_spec {α : Type} {v : SV} {k : Int → R α} {r : α} (h : dR_word_Zext v k = some r) : ∃ x0, v = (.int .u64 x0) ∧ k x0 = some r := by
  unfold dR_word_Zext at h
  obtain ⟨x0, rfl, h0⟩ := decI_spec h
  exact ⟨x0, rfl, h0⟩
def p_zj {α : Type} (F_z8 : Sg_z8 α) (x0 : Int) (x1 : Int) (k : Int → R α) : R α :=
  let t1 : Int := (pickmx true x1 1)
  let t2 : Int := (pickmx false t1 64)
  F_z8 t2 (fun r3 =>
  let t4 : Int := (bitop .and .u64 x0 r3)
  k t4)
abbrev Sg_zp (α : Type) := Int → Int → (Int → R α) → R α
def ad_zp {α : Type} (F : Sg_zp α) : FP α := fun args k => match args with
  | [a0, a1] => decI .u64 a0 fun x0 => decI .i64 a1 fun x1 => F x0 x1 (fun r0 => k (.int .u64 r0))
  | _ => none
def dR_word_Sext {α : Type} (a0 : SV) (k : Int → R α) : R α := decI .u64 a0 fun x0 => k x0
theorem dR_word_Sext_spec {α : Type} {v : SV} {k : Int → R α} {r : α} (h : dR_word_Sext v k = some r) : ∃ x0, v = (.int .u64 x0) ∧ k x0 = some r := by
  unfold dR_word_Sext at h
  obtain ⟨x0, rfl, h0⟩ := decI_spec h
  exact ⟨x0, rfl, h0⟩
def p_zp {α : Type}  (x0 : Int) (x1 : Int) (k : Int → R α) : R α :=
  let t1 : Int := (pickmx true x1 1)
  let t2 : Int := (pickmx false t1 64)
  let t3 : Int := (IntKind.i64.wrap (64 - t2))
  cond (decide (t3 < 0)) none (
  let t4 : Int := (gshl .u64 x0 t3)
  let t5 : Int := (IntKind.i64.wrap t4)
  cond (decide (t3 < 0)) none (
  let t6 : Int := (gshr .i64 t5 t3)
  let t7 : Int := (IntKind.u64.wrap t6)
  k t7))
abbrev Sg_z2 (α : Type) := Int → Int → (Int → R α) → R α
def ad_z2 {α : Type} (F : Sg_z2 α) : FP α := fun args k => match args with
  | [a0, a1] => decI .i64 a0 fun x0 => decI .u64 a1 fun x1 => F x0 x1 (fun r0 => k (.int .u64 r0))
  | _ => none
def dR_alu_Extend {α : Type} (a0 : SV) (k : Int → R α) : R α := decI .u64 a0 fun x0 => k x0
theorem dR_alu_Extend_spec {α : Type} {v : SV} {k : Int → R α} {r : α} (h : dR_alu_Extend v k = some r) : ∃ x0, v = (.int .u64 x0) ∧ k x0 = some r := by
  unfold dR_alu_Extend at h
  obtain ⟨x0, rfl, h0⟩ := decI_spec h
  exact ⟨x0, rfl, h0⟩
def p_z2 {α : Type} (F_z4 : Sg_z4 α) (F_zj : Sg_zj α) (F_zp : Sg_zp α) (x0 : Int) (x1 : Int) (k : Int → R α) : R α :=
  F_z4 x0 (fun r1 =>
  let t2 : Int := (IntKind.i64.wrap (8 * r1))
  let b3 : Bool := (x0 == 15)
  cond b3 (
  F_zj x1 t2 (fun r4 =>
  k r4)) (
  let b5 : Bool := (x0 == 16)
  cond b5 (
  F_zj x1 t2 (fun r6 =>
  k r6)) (
  let b7 : Bool := (x0 == 17)
  cond b7 (
  F_zj x1 t2 (fun r8 =>
  k r8)) (
  let b9 : Bool := (x0 == 68)
  cond b9 (
  F_zj x1 t2 (fun r10 =>
  k r10)) (
  let b11 : Bool := (x0 == 11)
  cond b11 (
  F_zp x1 t2 (fun r12 =>
  k r12)) (
  let b13 : Bool := (x0 == 12)
  cond b13 (
  F_zp x1 t2 (fun r14 =>
  k r14)) (
  let b15 : Bool := (x0 == 13)
  cond b15 (
  F_zp x1 t2 (fun r16 =>
  k r16)) (
  let b17 : Bool := (x0 == 14)
  cond b17 (
  F_zp x1 t2 (fun r18 =>
  k r18)) (
  let b19 : Bool := (x0 == 66)
  cond b19 (
  F_zp x1 t2 (fun r20 =>
  k r20)) (
  let b21 : Bool := (x0 == 67)
  cond b21 (
  F_zp x1 t2 (fun r22 =>
  k r22)) (
  k 0)))))))))))
abbrev Sg_z9 (α : Type) := GBus → GState → Int → Int → (GBus → Int → GFault → Bool → R α) → R α
@[reducible] def E_z9 : OShs (GBus × GState × Int × Int × Unit) := (.cons sh_Bus (.cons (.leaf Lf_GState) (.cons (.leaf (Lf_int .u64)) (.cons (.leaf (Lf_int .i64)) .nil))))
@[reducible] def M_z9 : OShs (GBus × Unit) := (.cons sh_Bus .nil)
@[reducible] def Q_z9 : OShs (Int × GFault × Bool × Unit) := (.cons (.leaf (Lf_int .u64)) (.cons (.leaf Lf_GFault) (.cons (.leaf Lf_bool) .nil)))
theorem E_z1k : E_z9.PlainP := ⟨plsh_Bus, trivial, trivial, trivial, trivial⟩
theorem M_z1k : M_z9.Plain := ⟨plsh_Bus, trivial⟩
theorem Q_z1k : Q_z9.Plain := ⟨(pl_int .u64), pl_GFault, pl_bool, trivial⟩
def ad_z9 {α : Type} (F : Sg_z9 α) : FF α := adO E_z9 M_z9 Q_z9 false fun a k => F a.1 a.2.1 a.2.2.1 a.2.2.2.1 (fun y0 z0 z1 z2 => k (y0, ()) (z0, z1, z2, ()))
def p_z9 {α : Type} (F_z6 : Sg_z6 α) (F_za : Sg_za α) (F_zn : Sg_zn α) (F_z3 : Sg_z3 α) (F_z2 : Sg_z2 α) (x0 : GBus) (x1 : GState) (x2 : Int) (x3 : Int) (k : GBus → Int → GFault → Bool → R α) : R α :=
  F_z6 x2 4 1 true (fun r1 r2 =>
  let b3 : Bool := (!r2)
  cond b3 (
  GN x0 ((((((((k (NB x0) 0 r1 false))))))))) (
  F_za x0.m x1 x2 0 x3 true (fun r4 r5 r6 r7 =>
  let b8 : Bool := (!r7)
  cond b8 (
  F_zn r6.Cause (fun r9 =>
  cond (decide (0 ≤ r9) && decide (r9 < 3)) (
  cond (decide ((Int.toNat r9) < 3)) (
  GN x0 ((((((((k (NB x0) 0 (GFault.mk (((upd (upd (upd (fun _ => 0) 0 5) 1 13) 2 21) : Nat → Int) (Int.toNat r9)) r6.Value r6.Place r6.GVA) false))))))))) none) none)) (
  GN x0 ((((((((F_z3 (NB x0) r4 x2 4 1 0 true (fun y10 r11 r12 r13 =>
  F_z2 68 r11 (fun r14 =>
  GN y10 ((((((((k (NB y10) r14 r12 r13))))))))))))))))))))))
abbrev Sg_zh (α : Type) := GBus → GState → GInsn → (GBus → Int → GFault → Bool → R α) → R α
@[reducible] def E_zh : OShs (GBus × GState × GInsn × Unit) := (.cons sh_Bus (.cons (.leaf Lf_GState) (.cons (.leaf Lf_GInsn) .nil)))
@[reducible] def M_zh : OShs (GBus × Unit) := (.cons sh_Bus .nil)
@[reducible] def Q_zh : OShs (Int × GFault × Bool × Unit) := (.cons (.leaf (Lf_int .u64)) (.cons (.leaf Lf_GFault) (.cons (.leaf Lf_bool) .nil)))
theorem E_z1l : E_zh.PlainP := ⟨plsh_Bus, trivial, trivial, trivial⟩
theorem M_z1l : M_zh.Plain := ⟨plsh_Bus, trivial⟩
theorem Q_z1l : Q_zh.Plain := ⟨(pl_int .u64), pl_GFault, pl_bool, trivial⟩
def ad_zh {α : Type} (F : Sg_zh α) : FF α := adO E_zh M_zh Q_zh false fun a k => F a.1 a.2.1 a.2.2.1 (fun y0 z0 z1 z2 => k (y0, ()) (z0, z1, z2, ()))
def p_zh {α : Type} (F_z5 : Sg_z5 α) (F_zr : Sg_zr α) (F_zk : Sg_zk α) (F_z9 : Sg_z9 α) (F_z4 : Sg_z4 α) (F_z1 : Sg_z1 α) (F_z2 : Sg_z2 α) (x0 : GBus) (x1 : GState) (x2 : GInsn) (k : GBus → Int → GFault → Bool → R α) : R α :=
  F_z5 x2.Op (fun r1 =>
  let b2 : Bool := (r1 != 3)
  cond b2 (
  let b3 : Bool := (r1 != 4)
  cond b3 (
  let b4 : Bool := (r1 != 12)
  cond b4 (
  GN x0 ((((((((k (NB x0) 0 (GFault.mk 0 0 0 false) true))))))))) (
  F_zr x2 (fun r5 =>
  let b6 : Bool := (!r5)
  cond b6 (
  GN x0 ((((((((k (NB x0) 0 (GFault.mk 0 0 0 false) true))))))))) (
  cond (decide (0 ≤ x2.Rs1) && decide (x2.Rs1 < 32)) (
  cond (decide ((Int.toNat x2.Rs1) < 32)) (
  let t7 : Int := (IntKind.u64.wrap x2.Imm)
  let t8 : Int := (IntKind.u64.wrap ((x1.X (Int.toNat x2.Rs1)) + t7))
  let b9 : Bool := (r1 == 4)
  cond b9 (
  let b10 : Bool := (r1 == 12)
  cond b10 (
  F_zk x1 16 8 (fun r11 =>
  cond r11 (
  let b12 : Bool := (x2.Op == 68)
  cond b12 (
  GN x0 ((((((((F_z9 (NB x0) x1 t8 1 (fun y13 r14 r15 r16 =>
  GN y13 ((((((((k (NB y13) r14 r15 r16)))))))))))))))))) (
  F_z4 x2.Op (fun r17 =>
  cond (decide (0 ≤ x2.Rs2) && decide (x2.Rs2 < 32)) (
  cond (decide ((Int.toNat x2.Rs2) < 32)) (
  GN x0 ((((((((F_z1 (NB x0) x1 t8 r17 2 (x1.X (Int.toNat x2.Rs2)) 1 true (fun y18 r19 r20 r21 =>
  let b22 : Bool := (!r21)
  cond b22 (
  GN y18 ((((((((k (NB y18) 0 r20 false))))))))) (
  F_z2 x2.Op r19 (fun r23 =>
  GN y18 ((((((((k (NB y18) r23 r20 true)))))))))))))))))))) none) none))) (
  let b24 : Bool := (x2.Op == 68)
  cond b24 (
  GN x0 ((((((((F_z9 (NB x0) x1 t8 0 (fun y25 r26 r27 r28 =>
  GN y25 ((((((((k (NB y25) r26 r27 r28)))))))))))))))))) (
  F_z4 x2.Op (fun r29 =>
  cond (decide (0 ≤ x2.Rs2) && decide (x2.Rs2 < 32)) (
  cond (decide ((Int.toNat x2.Rs2) < 32)) (
  GN x0 ((((((((F_z1 (NB x0) x1 t8 r29 2 (x1.X (Int.toNat x2.Rs2)) 0 true (fun y30 r31 r32 r33 =>
  let b34 : Bool := (!r33)
  cond b34 (
  GN y30 ((((((((k (NB y30) 0 r32 false))))))))) (
  F_z2 x2.Op r31 (fun r35 =>
  GN y30 ((((((((k (NB y30) r35 r32 true)))))))))))))))))))) none) none))))) (
  let b36 : Bool := (x2.Op == 68)
  cond b36 (
  GN x0 ((((((((F_z9 (NB x0) x1 t8 x1.Level (fun y37 r38 r39 r40 =>
  GN y37 ((((((((k (NB y37) r38 r39 r40)))))))))))))))))) (
  F_z4 x2.Op (fun r41 =>
  cond (decide (0 ≤ x2.Rs2) && decide (x2.Rs2 < 32)) (
  cond (decide ((Int.toNat x2.Rs2) < 32)) (
  GN x0 ((((((((F_z1 (NB x0) x1 t8 r41 2 (x1.X (Int.toNat x2.Rs2)) x1.Level x1.V (fun y42 r43 r44 r45 =>
  let b46 : Bool := (!r45)
  cond b46 (
  GN y42 ((((((((k (NB y42) 0 r44 false))))))))) (
  F_z2 x2.Op r43 (fun r47 =>
  GN y42 ((((((((k (NB y42) r47 r44 true)))))))))))))))))))) none) none)))) (
  let b48 : Bool := (x2.Op == 69)
  cond b48 (
  let b49 : Bool := (r1 == 12)
  cond b49 (
  F_zk x1 16 8 (fun r50 =>
  cond r50 (
  let b51 : Bool := (x2.Op == 68)
  cond b51 (
  GN x0 ((((((((F_z9 (NB x0) x1 t8 1 (fun y52 r53 r54 r55 =>
  GN y52 ((((((((k (NB y52) r53 r54 r55)))))))))))))))))) (
  F_z4 x2.Op (fun r56 =>
  cond (decide (0 ≤ x2.Rs2) && decide (x2.Rs2 < 32)) (
  cond (decide ((Int.toNat x2.Rs2) < 32)) (
  GN x0 ((((((((F_z1 (NB x0) x1 t8 r56 2 (x1.X (Int.toNat x2.Rs2)) 1 true (fun y57 r58 r59 r60 =>
  let b61 : Bool := (!r60)
  cond b61 (
  GN y57 ((((((((k (NB y57) 0 r59 false))))))))) (
  F_z2 x2.Op r58 (fun r62 =>
  GN y57 ((((((((k (NB y57) r62 r59 true)))))))))))))))))))) none) none))) (
  let b63 : Bool := (x2.Op == 68)
  cond b63 (
  GN x0 ((((((((F_z9 (NB x0) x1 t8 0 (fun y64 r65 r66 r67 =>
  GN y64 ((((((((k (NB y64) r65 r66 r67)))))))))))))))))) (
  F_z4 x2.Op (fun r68 =>
  cond (decide (0 ≤ x2.Rs2) && decide (x2.Rs2 < 32)) (
  cond (decide ((Int.toNat x2.Rs2) < 32)) (
  GN x0 ((((((((F_z1 (NB x0) x1 t8 r68 2 (x1.X (Int.toNat x2.Rs2)) 0 true (fun y69 r70 r71 r72 =>
  let b73 : Bool := (!r72)
  cond b73 (
  GN y69 ((((((((k (NB y69) 0 r71 false))))))))) (
  F_z2 x2.Op r70 (fun r74 =>
  GN y69 ((((((((k (NB y69) r74 r71 true)))))))))))))))))))) none) none))))) (
  let b75 : Bool := (x2.Op == 68)
  cond b75 (
  GN x0 ((((((((F_z9 (NB x0) x1 t8 x1.Level (fun y76 r77 r78 r79 =>
  GN y76 ((((((((k (NB y76) r77 r78 r79)))))))))))))))))) (
  F_z4 x2.Op (fun r80 =>
  cond (decide (0 ≤ x2.Rs2) && decide (x2.Rs2 < 32)) (
  cond (decide ((Int.toNat x2.Rs2) < 32)) (
  GN x0 ((((((((F_z1 (NB x0) x1 t8 r80 2 (x1.X (Int.toNat x2.Rs2)) x1.Level x1.V (fun y81 r82 r83 r84 =>
  let b85 : Bool := (!r84)
  cond b85 (
  GN y81 ((((((((k (NB y81) 0 r83 false))))))))) (
  F_z2 x2.Op r82 (fun r86 =>
  GN y81 ((((((((k (NB y81) r86 r83 true)))))))))))))))))))) none) none)))) (
  let b87 : Bool := (r1 == 12)
  cond b87 (
  F_zk x1 16 8 (fun r88 =>
  cond r88 (
  let b89 : Bool := (x2.Op == 68)
  cond b89 (
  GN x0 ((((((((F_z9 (NB x0) x1 t8 1 (fun y90 r91 r92 r93 =>
  GN y90 ((((((((k (NB y90) r91 r92 r93)))))))))))))))))) (
  F_z4 x2.Op (fun r94 =>
  cond (decide (0 ≤ x2.Rs2) && decide (x2.Rs2 < 32)) (
  cond (decide ((Int.toNat x2.Rs2) < 32)) (
  GN x0 ((((((((F_z1 (NB x0) x1 t8 r94 1 (x1.X (Int.toNat x2.Rs2)) 1 true (fun y95 r96 r97 r98 =>
  let b99 : Bool := (!r98)
  cond b99 (
  GN y95 ((((((((k (NB y95) 0 r97 false))))))))) (
  F_z2 x2.Op r96 (fun r100 =>
  GN y95 ((((((((k (NB y95) r100 r97 true)))))))))))))))))))) none) none))) (
  let b101 : Bool := (x2.Op == 68)
  cond b101 (
  GN x0 ((((((((F_z9 (NB x0) x1 t8 0 (fun y102 r103 r104 r105 =>
  GN y102 ((((((((k (NB y102) r103 r104 r105)))))))))))))))))) (
  F_z4 x2.Op (fun r106 =>
  cond (decide (0 ≤ x2.Rs2) && decide (x2.Rs2 < 32)) (
  cond (decide ((Int.toNat x2.Rs2) < 32)) (
  GN x0 ((((((((F_z1 (NB x0) x1 t8 r106 1 (x1.X (Int.toNat x2.Rs2)) 0 true (fun y107 r108 r109 r110 =>
  let b111 : Bool := (!r110)
  cond b111 (
  GN y107 ((((((((k (NB y107) 0 r109 false))))))))) (
  F_z2 x2.Op r108 (fun r112 =>
  GN y107 ((((((((k (NB y107) r112 r109 true)))))))))))))))))))) none) none))))) (
  let b113 : Bool := (x2.Op == 68)
  cond b113 (
  GN x0 ((((((((F_z9 (NB x0) x1 t8 x1.Level (fun y114 r115 r116 r117 =>
  GN y114 ((((((((k (NB y114) r115 r116 r117)))))))))))))))))) (
  F_z4 x2.Op (fun r118 =>
  cond (decide (0 ≤ x2.Rs2) && decide (x2.Rs2 < 32)) (
  cond (decide ((Int.toNat x2.Rs2) < 32)) (
  GN x0 ((((((((F_z1 (NB x0) x1 t8 r118 1 (x1.X (Int.toNat x2.Rs2)) x1.Level x1.V (fun y119 r120 r121 r122 =>
  let b123 : Bool := (!r122)
  cond b123 (
  GN y119 ((((((((k (NB y119) 0 r121 false))))))))) (
  F_z2 x2.Op r120 (fun r124 =>
  GN y119 ((((((((k (NB y119) r124 r121 true)))))))))))))))))))) none) none)))))) none) none)))) (
  F_zr x2 (fun r125 =>
  let b126 : Bool := (!r125)
  cond b126 (
  GN x0 ((((((((k (NB x0) 0 (GFault.mk 0 0 0 false) true))))))))) (
  cond (decide (0 ≤ x2.Rs1) && decide (x2.Rs1 < 32)) (
  cond (decide ((Int.toNat x2.Rs1) < 32)) (
  let t127 : Int := (IntKind.u64.wrap x2.Imm)
  let t128 : Int := (IntKind.u64.wrap ((x1.X (Int.toNat x2.Rs1)) + t127))
  let b129 : Bool := (r1 == 4)
  cond b129 (
  let b130 : Bool := (r1 == 12)
  cond b130 (
  F_zk x1 16 8 (fun r131 =>
  cond r131 (
  let b132 : Bool := (x2.Op == 68)
  cond b132 (
  GN x0 ((((((((F_z9 (NB x0) x1 t128 1 (fun y133 r134 r135 r136 =>
  GN y133 ((((((((k (NB y133) r134 r135 r136)))))))))))))))))) (
  F_z4 x2.Op (fun r137 =>
  cond (decide (0 ≤ x2.Rs2) && decide (x2.Rs2 < 32)) (
  cond (decide ((Int.toNat x2.Rs2) < 32)) (
  GN x0 ((((((((F_z1 (NB x0) x1 t128 r137 2 (x1.X (Int.toNat x2.Rs2)) 1 true (fun y138 r139 r140 r141 =>
  let b142 : Bool := (!r141)
  cond b142 (
  GN y138 ((((((((k (NB y138) 0 r140 false))))))))) (
  F_z2 x2.Op r139 (fun r143 =>
  GN y138 ((((((((k (NB y138) r143 r140 true)))))))))))))))))))) none) none))) (
  let b144 : Bool := (x2.Op == 68)
  cond b144 (
  GN x0 ((((((((F_z9 (NB x0) x1 t128 0 (fun y145 r146 r147 r148 =>
  GN y145 ((((((((k (NB y145) r146 r147 r148)))))))))))))))))) (
  F_z4 x2.Op (fun r149 =>
  cond (decide (0 ≤ x2.Rs2) && decide (x2.Rs2 < 32)) (
  cond (decide ((Int.toNat x2.Rs2) < 32)) (
  GN x0 ((((((((F_z1 (NB x0) x1 t128 r149 2 (x1.X (Int.toNat x2.Rs2)) 0 true (fun y150 r151 r152 r153 =>
  let b154 : Bool := (!r153)
  cond b154 (
  GN y150 ((((((((k (NB y150) 0 r152 false))))))))) (
  F_z2 x2.Op r151 (fun r155 =>
  GN y150 ((((((((k (NB y150) r155 r152 true)))))))))))))))))))) none) none))))) (
  let b156 : Bool := (x2.Op == 68)
  cond b156 (
  GN x0 ((((((((F_z9 (NB x0) x1 t128 x1.Level (fun y157 r158 r159 r160 =>
  GN y157 ((((((((k (NB y157) r158 r159 r160)))))))))))))))))) (
  F_z4 x2.Op (fun r161 =>
  cond (decide (0 ≤ x2.Rs2) && decide (x2.Rs2 < 32)) (
  cond (decide ((Int.toNat x2.Rs2) < 32)) (
  GN x0 ((((((((F_z1 (NB x0) x1 t128 r161 2 (x1.X (Int.toNat x2.Rs2)) x1.Level x1.V (fun y162 r163 r164 r165 =>
  let b166 : Bool := (!r165)
  cond b166 (
  GN y162 ((((((((k (NB y162) 0 r164 false))))))))) (
  F_z2 x2.Op r163 (fun r167 =>
  GN y162 ((((((((k (NB y162) r167 r164 true)))))))))))))))))))) none) none)))) (
  let b168 : Bool := (x2.Op == 69)
  cond b168 (
  let b169 : Bool := (r1 == 12)
  cond b169 (
  F_zk x1 16 8 (fun r170 =>
  cond r170 (
  let b171 : Bool := (x2.Op == 68)
  cond b171 (
  GN x0 ((((((((F_z9 (NB x0) x1 t128 1 (fun y172 r173 r174 r175 =>
  GN y172 ((((((((k (NB y172) r173 r174 r175)))))))))))))))))) (
  F_z4 x2.Op (fun r176 =>
  cond (decide (0 ≤ x2.Rs2) && decide (x2.Rs2 < 32)) (
  cond (decide ((Int.toNat x2.Rs2) < 32)) (
  GN x0 ((((((((F_z1 (NB x0) x1 t128 r176 2 (x1.X (Int.toNat x2.Rs2)) 1 true (fun y177 r178 r179 r180 =>
  let b181 : Bool := (!r180)
  cond b181 (
  GN y177 ((((((((k (NB y177) 0 r179 false))))))))) (
  F_z2 x2.Op r178 (fun r182 =>
  GN y177 ((((((((k (NB y177) r182 r179 true)))))))))))))))))))) none) none))) (
  let b183 : Bool := (x2.Op == 68)
  cond b183 (
  GN x0 ((((((((F_z9 (NB x0) x1 t128 0 (fun y184 r185 r186 r187 =>
  GN y184 ((((((((k (NB y184) r185 r186 r187)))))))))))))))))) (
  F_z4 x2.Op (fun r188 =>
  cond (decide (0 ≤ x2.Rs2) && decide (x2.Rs2 < 32)) (
  cond (decide ((Int.toNat x2.Rs2) < 32)) (
  GN x0 ((((((((F_z1 (NB x0) x1 t128 r188 2 (x1.X (Int.toNat x2.Rs2)) 0 true (fun y189 r190 r191 r192 =>
  let b193 : Bool := (!r192)
  cond b193 (
  GN y189 ((((((((k (NB y189) 0 r191 false))))))))) (
  F_z2 x2.Op r190 (fun r194 =>
  GN y189 ((((((((k (NB y189) r194 r191 true)))))))))))))))))))) none) none))))) (
  let b195 : Bool := (x2.Op == 68)
  cond b195 (
  GN x0 ((((((((F_z9 (NB x0) x1 t128 x1.Level (fun y196 r197 r198 r199 =>
  GN y196 ((((((((k (NB y196) r197 r198 r199)))))))))))))))))) (
  F_z4 x2.Op (fun r200 =>
  cond (decide (0 ≤ x2.Rs2) && decide (x2.Rs2 < 32)) (
  cond (decide ((Int.toNat x2.Rs2) < 32)) (
  GN x0 ((((((((F_z1 (NB x0) x1 t128 r200 2 (x1.X (Int.toNat x2.Rs2)) x1.Level x1.V (fun y201 r202 r203 r204 =>
  let b205 : Bool := (!r204)
  cond b205 (
  GN y201 ((((((((k (NB y201) 0 r203 false))))))))) (
  F_z2 x2.Op r202 (fun r206 =>
  GN y201 ((((((((k (NB y201) r206 r203 true)))))))))))))))))))) none) none)))) (
  let b207 : Bool := (r1 == 12)
  cond b207 (
  F_zk x1 16 8 (fun r208 =>
  cond r208 (
  let b209 : Bool := (x2.Op == 68)
  cond b209 (
  GN x0 ((((((((F_z9 (NB x0) x1 t128 1 (fun y210 r211 r212 r213 =>
  GN y210 ((((((((k (NB y210) r211 r212 r213)))))))))))))))))) (
  F_z4 x2.Op (fun r214 =>
  cond (decide (0 ≤ x2.Rs2) && decide (x2.Rs2 < 32)) (
  cond (decide ((Int.toNat x2.Rs2) < 32)) (
  GN x0 ((((((((F_z1 (NB x0) x1 t128 r214 1 (x1.X (Int.toNat x2.Rs2)) 1 true (fun y215 r216 r217 r218 =>
  let b219 : Bool := (!r218)
  cond b219 (
  GN y215 ((((((((k (NB y215) 0 r217 false))))))))) (
  F_z2 x2.Op r216 (fun r220 =>
  GN y215 ((((((((k (NB y215) r220 r217 true)))))))))))))))))))) none) none))) (
  let b221 : Bool := (x2.Op == 68)
  cond b221 (
  GN x0 ((((((((F_z9 (NB x0) x1 t128 0 (fun y222 r223 r224 r225 =>
  GN y222 ((((((((k (NB y222) r223 r224 r225)))))))))))))))))) (
  F_z4 x2.Op (fun r226 =>
  cond (decide (0 ≤ x2.Rs2) && decide (x2.Rs2 < 32)) (
  cond (decide ((Int.toNat x2.Rs2) < 32)) (
  GN x0 ((((((((F_z1 (NB x0) x1 t128 r226 1 (x1.X (Int.toNat x2.Rs2)) 0 true (fun y227 r228 r229 r230 =>
  let b231 : Bool := (!r230)
  cond b231 (
  GN y227 ((((((((k (NB y227) 0 r229 false))))))))) (
  F_z2 x2.Op r228 (fun r232 =>
  GN y227 ((((((((k (NB y227) r232 r229 true)))))))))))))))))))) none) none))))) (
  let b233 : Bool := (x2.Op == 68)
  cond b233 (
  GN x0 ((((((((F_z9 (NB x0) x1 t128 x1.Level (fun y234 r235 r236 r237 =>
  GN y234 ((((((((k (NB y234) r235 r236 r237)))))))))))))))))) (
  F_z4 x2.Op (fun r238 =>
  cond (decide (0 ≤ x2.Rs2) && decide (x2.Rs2 < 32)) (
  cond (decide ((Int.toNat x2.Rs2) < 32)) (
  GN x0 ((((((((F_z1 (NB x0) x1 t128 r238 1 (x1.X (Int.toNat x2.Rs2)) x1.Level x1.V (fun y239 r240 r241 r242 =>
  let b243 : Bool := (!r242)
  cond b243 (
  GN y239 ((((((((k (NB y239) 0 r241 false))))))))) (
  F_z2 x2.Op r240 (fun r244 =>
  GN y239 ((((((((k (NB y239) r244 r241 true)))))))))))))))))))) none) none)))))) none) none)))) (
  F_zr x2 (fun r245 =>
  let b246 : Bool := (!r245)
  cond b246 (
  GN x0 ((((((((k (NB x0) 0 (GFault.mk 0 0 0 false) true))))))))) (
  cond (decide (0 ≤ x2.Rs1) && decide (x2.Rs1 < 32)) (
  cond (decide ((Int.toNat x2.Rs1) < 32)) (
  let t247 : Int := (IntKind.u64.wrap x2.Imm)
  let t248 : Int := (IntKind.u64.wrap ((x1.X (Int.toNat x2.Rs1)) + t247))
  let b249 : Bool := (r1 == 4)
  cond b249 (
  let b250 : Bool := (r1 == 12)
  cond b250 (
  F_zk x1 16 8 (fun r251 =>
  cond r251 (
  let b252 : Bool := (x2.Op == 68)
  cond b252 (
  GN x0 ((((((((F_z9 (NB x0) x1 t248 1 (fun y253 r254 r255 r256 =>
  GN y253 ((((((((k (NB y253) r254 r255 r256)))))))))))))))))) (
  F_z4 x2.Op (fun r257 =>
  cond (decide (0 ≤ x2.Rs2) && decide (x2.Rs2 < 32)) (
  cond (decide ((Int.toNat x2.Rs2) < 32)) (
  GN x0 ((((((((F_z1 (NB x0) x1 t248 r257 2 (x1.X (Int.toNat x2.Rs2)) 1 true (fun y258 r259 r260 r261 =>
  let b262 : Bool := (!r261)
  cond b262 (
  GN y258 ((((((((k (NB y258) 0 r260 false))))))))) (
  F_z2 x2.Op r259 (fun r263 =>
  GN y258 ((((((((k (NB y258) r263 r260 true)))))))))))))))))))) none) none))) (
  let b264 : Bool := (x2.Op == 68)
  cond b264 (
  GN x0 ((((((((F_z9 (NB x0) x1 t248 0 (fun y265 r266 r267 r268 =>
  GN y265 ((((((((k (NB y265) r266 r267 r268)))))))))))))))))) (
  F_z4 x2.Op (fun r269 =>
  cond (decide (0 ≤ x2.Rs2) && decide (x2.Rs2 < 32)) (
  cond (decide ((Int.toNat x2.Rs2) < 32)) (
  GN x0 ((((((((F_z1 (NB x0) x1 t248 r269 2 (x1.X (Int.toNat x2.Rs2)) 0 true (fun y270 r271 r272 r273 =>
  let b274 : Bool := (!r273)
  cond b274 (
  GN y270 ((((((((k (NB y270) 0 r272 false))))))))) (
  F_z2 x2.Op r271 (fun r275 =>
  GN y270 ((((((((k (NB y270) r275 r272 true)))))))))))))))))))) none) none))))) (
  let b276 : Bool := (x2.Op == 68)
  cond b276 (
  GN x0 ((((((((F_z9 (NB x0) x1 t248 x1.Level (fun y277 r278 r279 r280 =>
  GN y277 ((((((((k (NB y277) r278 r279 r280)))))))))))))))))) (
  F_z4 x2.Op (fun r281 =>
  cond (decide (0 ≤ x2.Rs2) && decide (x2.Rs2 < 32)) (
  cond (decide ((Int.toNat x2.Rs2) < 32)) (
  GN x0 ((((((((F_z1 (NB x0) x1 t248 r281 2 (x1.X (Int.toNat x2.Rs2)) x1.Level x1.V (fun y282 r283 r284 r285 =>
  let b286 : Bool := (!r285)
  cond b286 (
  GN y282 ((((((((k (NB y282) 0 r284 false))))))))) (
  F_z2 x2.Op r283 (fun r287 =>
  GN y282 ((((((((k (NB y282) r287 r284 true)))))))))))))))))))) none) none)))) (
  let b288 : Bool := (x2.Op == 69)
  cond b288 (
  let b289 : Bool := (r1 == 12)
  cond b289 (
  F_zk x1 16 8 (fun r290 =>
  cond r290 (
  let b291 : Bool := (x2.Op == 68)
  cond b291 (
  GN x0 ((((((((F_z9 (NB x0) x1 t248 1 (fun y292 r293 r294 r295 =>
  GN y292 ((((((((k (NB y292) r293 r294 r295)))))))))))))))))) (
  F_z4 x2.Op (fun r296 =>
  cond (decide (0 ≤ x2.Rs2) && decide (x2.Rs2 < 32)) (
  cond (decide ((Int.toNat x2.Rs2) < 32)) (
  GN x0 ((((((((F_z1 (NB x0) x1 t248 r296 2 (x1.X (Int.toNat x2.Rs2)) 1 true (fun y297 r298 r299 r300 =>
  let b301 : Bool := (!r300)
  cond b301 (
  GN y297 ((((((((k (NB y297) 0 r299 false))))))))) (
  F_z2 x2.Op r298 (fun r302 =>
  GN y297 ((((((((k (NB y297) r302 r299 true)))))))))))))))))))) none) none))) (
  let b303 : Bool := (x2.Op == 68)
  cond b303 (
  GN x0 ((((((((F_z9 (NB x0) x1 t248 0 (fun y304 r305 r306 r307 =>
  GN y304 ((((((((k (NB y304) r305 r306 r307)))))))))))))))))) (
  F_z4 x2.Op (fun r308 =>
  cond (decide (0 ≤ x2.Rs2) && decide (x2.Rs2 < 32)) (
  cond (decide ((Int.toNat x2.Rs2) < 32)) (
  GN x0 ((((((((F_z1 (NB x0) x1 t248 r308 2 (x1.X (Int.toNat x2.Rs2)) 0 true (fun y309 r310 r311 r312 =>
  let b313 : Bool := (!r312)
  cond b313 (
  GN y309 ((((((((k (NB y309) 0 r311 false))))))))) (
  F_z2 x2.Op r310 (fun r314 =>
  GN y309 ((((((((k (NB y309) r314 r311 true)))))))))))))))))))) none) none))))) (
  let b315 : Bool := (x2.Op == 68)
  cond b315 (
  GN x0 ((((((((F_z9 (NB x0) x1 t248 x1.Level (fun y316 r317 r318 r319 =>
  GN y316 ((((((((k (NB y316) r317 r318 r319)))))))))))))))))) (
  F_z4 x2.Op (fun r320 =>
  cond (decide (0 ≤ x2.Rs2) && decide (x2.Rs2 < 32)) (
  cond (decide ((Int.toNat x2.Rs2) < 32)) (
  GN x0 ((((((((F_z1 (NB x0) x1 t248 r320 2 (x1.X (Int.toNat x2.Rs2)) x1.Level x1.V (fun y321 r322 r323 r324 =>
  let b325 : Bool := (!r324)
  cond b325 (
  GN y321 ((((((((k (NB y321) 0 r323 false))))))))) (
  F_z2 x2.Op r322 (fun r326 =>
  GN y321 ((((((((k (NB y321) r326 r323 true)))))))))))))))))))) none) none)))) (
  let b327 : Bool := (r1 == 12)
  cond b327 (
  F_zk x1 16 8 (fun r328 =>
  cond r328 (
  let b329 : Bool := (x2.Op == 68)
  cond b329 (
  GN x0 ((((((((F_z9 (NB x0) x1 t248 1 (fun y330 r331 r332 r333 =>
  GN y330 ((((((((k (NB y330) r331 r332 r333)))))))))))))))))) (
  F_z4 x2.Op (fun r334 =>
  cond (decide (0 ≤ x2.Rs2) && decide (x2.Rs2 < 32)) (
  cond (decide ((Int.toNat x2.Rs2) < 32)) (
  GN x0 ((((((((F_z1 (NB x0) x1 t248 r334 1 (x1.X (Int.toNat x2.Rs2)) 1 true (fun y335 r336 r337 r338 =>
  let b339 : Bool := (!r338)
  cond b339 (
  GN y335 ((((((((k (NB y335) 0 r337 false))))))))) (
  F_z2 x2.Op r336 (fun r340 =>
  GN y335 ((((((((k (NB y335) r340 r337 true)))))))))))))))))))) none) none))) (
  let b341 : Bool := (x2.Op == 68)
  cond b341 (
  GN x0 ((((((((F_z9 (NB x0) x1 t248 0 (fun y342 r343 r344 r345 =>
  GN y342 ((((((((k (NB y342) r343 r344 r345)))))))))))))))))) (
  F_z4 x2.Op (fun r346 =>
  cond (decide (0 ≤ x2.Rs2) && decide (x2.Rs2 < 32)) (
  cond (decide ((Int.toNat x2.Rs2) < 32)) (
  GN x0 ((((((((F_z1 (NB x0) x1 t248 r346 1 (x1.X (Int.toNat x2.Rs2)) 0 true (fun y347 r348 r349 r350 =>
  let b351 : Bool := (!r350)
  cond b351 (
  GN y347 ((((((((k (NB y347) 0 r349 false))))))))) (
  F_z2 x2.Op r348 (fun r352 =>
  GN y347 ((((((((k (NB y347) r352 r349 true)))))))))))))))))))) none) none))))) (
  let b353 : Bool := (x2.Op == 68)
  cond b353 (
  GN x0 ((((((((F_z9 (NB x0) x1 t248 x1.Level (fun y354 r355 r356 r357 =>
  GN y354 ((((((((k (NB y354) r355 r356 r357)))))))))))))))))) (
  F_z4 x2.Op (fun r358 =>
  cond (decide (0 ≤ x2.Rs2) && decide (x2.Rs2 < 32)) (
  cond (decide ((Int.toNat x2.Rs2) < 32)) (
  GN x0 ((((((((F_z1 (NB x0) x1 t248 r358 1 (x1.X (Int.toNat x2.Rs2)) x1.Level x1.V (fun y359 r360 r361 r362 =>
  let b363 : Bool := (!r362)
  cond b363 (
  GN y359 ((((((((k (NB y359) 0 r361 false))))))))) (
  F_z2 x2.Op r360 (fun r364 =>
  GN y359 ((((((((k (NB y359) r364 r361 true)))))))))))))))))))) none) none)))))) none) none))))
abbrev Sg_zi (α : Type) := GBus → GState → (GBus → Int → GFault → Bool → R α) → R α
@[reducible] def E_zi : OShs (GBus × GState × Unit) := (.cons sh_Bus (.cons (.leaf Lf_GState) .nil))
@[reducible] def M_zi : OShs (GBus × Unit) := (.cons sh_Bus .nil)
@[reducible] def Q_zi : OShs (Int × GFault × Bool × Unit) := (.cons (.leaf (Lf_int .u32)) (.cons (.leaf Lf_GFault) (.cons (.leaf Lf_bool) .nil)))
theorem E_z1m : E_zi.PlainP := ⟨plsh_Bus, trivial, trivial⟩
theorem M_z1m : M_zi.Plain := ⟨plsh_Bus, trivial⟩
theorem Q_z1m : Q_zi.Plain := ⟨(pl_int .u32), pl_GFault, pl_bool, trivial⟩
def ad_zi {α : Type} (F : Sg_zi α) : FF α := adO E_zi M_zi Q_zi false fun a k => F a.1 a.2.1 (fun y0 z0 z1 z2 => k (y0, ()) (z0, z1, z2, ()))
def p_zi {α : Type} (F_z1 : Sg_z1 α) (x0 : GBus) (x1 : GState) (k : GBus → Int → GFault → Bool → R α) : R α :=
  GN x0 ((((((((F_z1 (NB x0) x1 x1.PC 4 0 0 x1.Level x1.V (fun y1 r2 r3 r4 =>
  let t5 : Int := (IntKind.u32.wrap r2)
  GN y1 ((((((((k (NB y1) t5 r3 r4)))))))))))))))))
abbrev Sg_zd (α : Type) := (Bool → R α) → R α
def ad_zd {α : Type} (F : Sg_zd α) : FP α := fun args k => match args with
  | [] =>  F  (fun r0 => k (.bool r0))
  | _ => none
def dR_law17_known {α : Type} (a0 : SV) (k : Bool → R α) : R α := decB a0 fun x0 => k x0
theorem dR_law17_known_spec {α : Type} {v : SV} {k : Bool → R α} {r : α} (h : dR_law17_known v k = some r) : ∃ x0, v = (.bool x0) ∧ k x0 = some r := by
  unfold dR_law17_known at h
  obtain ⟨x0, rfl, h0⟩ := decB_spec h
  exact ⟨x0, rfl, h0⟩
def p_zd {α : Type} (F_z1 : Sg_z1 α) (F_zh : Sg_zh α) (F_zi : Sg_zi α)  (k : Bool → R α) : R α :=
  F_z1 (GBus.mk (fun _ => 0) 0 18446744073709551615 (upd (upd (upd (fun _ => (GPort.mk (Row.mk 0 fun _ => 0) (Row.mk 0 fun _ => 0) 0)) 1 (GPort.mk (Row.mk 0 fun _ => 0) (Row.mk 0 fun _ => 0) 0)) 2 (GPort.mk (Row.mk 0 fun _ => 0) (Row.mk 0 fun _ => 0) 0)) 3 (GPort.mk (Row.mk 0 fun _ => 0) (Row.mk 0 fun _ => 0) 0))) (GState.mk (fun _ => 0) 0 3 false (fun _ => 0) 0) 3 4 1 0 3 false (fun y1 r2 r3 r4 =>
  GN y1 ((((((((F_z1 (NB y1) (GState.mk (fun _ => 0) 0 3 false (fun _ => 0) 0) 32768 4 2 0 3 false (fun y5 r6 r7 r8 =>
  GN y5 ((((((((F_z1 (NB y5) (GState.mk (fun _ => 0) 0 3 false (fun _ => 0) 0) 61440 8 0 0 3 false (fun y9 r10 r11 r12 =>
  GN y9 ((((((((F_z1 (NB y9) (GState.mk (fun _ => 0) 0 3 false (fun _ => 0) 0) 8 8 2 4660 3 false (fun y13 r14 r15 r16 =>
  GN y13 ((((((((F_zh (NB y13) (GState.mk (upd (fun _ => 0) 1 8) 0 3 false (fun _ => 0) 0) (GInsn.mk 15 2 1 0 0 0) (fun y17 r18 r19 r20 =>
  GN y17 ((((((((F_zi (NB y17) (GState.mk (upd (fun _ => 0) 1 8) 8 3 false (fun _ => 0) 0) (fun y21 r22 r23 r24 =>
  let b25 : Bool := (!r4)
  cond b25 (
  let b26 : Bool := ((r3.Cause == 4) && ((r3.Value == 3) && ((r3.Place == 0) && ((r3.GVA == false) && true))))
  cond b26 (
  let b27 : Bool := (!r8)
  cond b27 (
  let b28 : Bool := (r7.Cause == 7)
  cond b28 (
  let b29 : Bool := (!r12)
  cond b29 (
  let b30 : Bool := (r11.Cause == 1)
  cond b30 (
  cond r16 (
  cond r20 (
  let b31 : Bool := (r18 == 52)
  cond b31 (
  cond r24 (
  let b32 : Bool := (r22 == 4660)
  k b32) (
  k false)) (
  k false)) (
  k false)) (
  k false)) (
  k false)) (
  k false)) (
  k false)) (
  k false)) (
  k false)) (
  k false)))))))))))))))))))))))))))))))))))))))))))))))
theorem le_zd {α : Type} {F F' : Sg_zd α} (h : ∀  k r, F'  k = some r → F  k = some r) {args : List SV} {k : SV → R α} {r : α} (hk : ad_zd F' args k = some r) : ad_zd F args k = some r := by
  unfold ad_zd at hk
  split at hk <;> try (cases hk; done)
  have hkz := hk
  exact h  _ _ hkz
abbrev Sg_zg (α : Type) := Int → Int → (Int → R α) → R α
def ad_zg {α : Type} (F : Sg_zg α) : FP α := fun args k => match args with
  | [a0, a1] => decI .u64 a0 fun x0 => decI .i64 a1 fun x1 => F x0 x1 (fun r0 => k (.int .u64 r0))
  | _ => none
def dR_ref1_Zext {α : Type} (a0 : SV) (k : Int → R α) : R α := decI .u64 a0 fun x0 => k x0
theorem dR_ref1_Zext_spec {α : Type} {v : SV} {k : Int → R α} {r : α} (h : dR_ref1_Zext v k = some r) : ∃ x0, v = (.int .u64 x0) ∧ k x0 = some r := by
  unfold dR_ref1_Zext at h
  obtain ⟨x0, rfl, h0⟩ := decI_spec h
  exact ⟨x0, rfl, h0⟩
def p_zg {α : Type}  (x0 : Int) (x1 : Int) (k : Int → R α) : R α :=
  let t1 : Int := (pickmx false x1 64)
  let t2 : Int := (pickmx true 1 t1)
  let t3 : Int := (IntKind.u64.wrap t2)
  let b4 : Bool := (t3 == 64)
  cond b4 (
  k x0) (
  cond (decide (t3 < 0)) none (
  let t5 : Int := (gshl .u64 1 t3)
  let t6 : Int := (IntKind.u64.wrap (t5 - 1))
  let t7 : Int := (bitop .and .u64 x0 t6)
  k t7))
abbrev Sg_zw (α : Type) := Int → Int → Int → (Bool → R α) → R α
def ad_zw {α : Type} (F : Sg_zw α) : FP α := fun args k => match args with
  | [a0, a1, a2] => decI .u64 a0 fun x0 => decI .u8 a1 fun x1 => decI .u64 a2 fun x2 => F x0 x1 x2 (fun r0 => k (.bool r0))
  | _ => none
def dR_law17_AccessPlain {α : Type} (a0 : SV) (k : Bool → R α) : R α := decB a0 fun x0 => k x0
theorem dR_law17_AccessPlain_spec {α : Type} {v : SV} {k : Bool → R α} {r : α} (h : dR_law17_AccessPlain v k = some r) : ∃ x0, v = (.bool x0) ∧ k x0 = some r := by
  unfold dR_law17_AccessPlain at h
  obtain ⟨x0, rfl, h0⟩ := decB_spec h
  exact ⟨x0, rfl, h0⟩
def p_zw {α : Type} (F_zd : Sg_zd α) (F_z1 : Sg_z1 α) (F_zg : Sg_zg α) (x0 : Int) (x1 : Int) (x2 : Int) (k : Bool → R α) : R α :=
  F_zd  (fun r1 =>
  let b2 : Bool := (!r1)
  cond b2 (
  k false) (
  let t3 : Int := (Int.tmod x1 4)
  let t4 : Int := (IntKind.u64.wrap t3)
  cond (decide (t4 < 0)) none (
  let t5 : Int := (gshl .i64 1 t4)
  F_z1 (GBus.mk (fun _ => 0) 0 18446744073709551615 (upd (upd (upd (fun _ => (GPort.mk (Row.mk 0 fun _ => 0) (Row.mk 0 fun _ => 0) 0)) 1 (GPort.mk (Row.mk 0 fun _ => 0) (Row.mk 0 fun _ => 0) 0)) 2 (GPort.mk (Row.mk 0 fun _ => 0) (Row.mk 0 fun _ => 0) 0)) 3 (GPort.mk (Row.mk 0 fun _ => 0) (Row.mk 0 fun _ => 0) 0))) (GState.mk (fun _ => 0) 0 3 false (fun _ => 0) 0) x0 t5 2 x2 3 false (fun y6 r7 r8 r9 =>
  GN y6 ((((((((F_z1 (NB y6) (GState.mk (fun _ => 0) 0 3 false (fun _ => 0) 0) x0 t5 1 0 3 false (fun y10 r11 r12 r13 =>
  let t14 : Int := (IntKind.u64.wrap t5)
  cond (decide (t14 = 0)) none (
  let t15 : Int := (Int.tmod x0 t14)
  let b16 : Bool := (t15 != 0)
  cond b16 (
  let b17 : Bool := (!r9)
  cond b17 (
  let b18 : Bool := (!r13)
  cond b18 (
  let b19 : Bool := (r8.Cause == 6)
  cond b19 (
  let b20 : Bool := (r12.Cause == 4)
  cond b20 (
  let b21 : Bool := (r8.Value == x0)
  k b21) (
  k false)) (
  k false)) (
  k false)) (
  k false)) (
  let b22 : Bool := (ltB x0 32768)
  cond b22 (
  cond r9 (
  cond r13 (
  let t23 : Int := (IntKind.i64.wrap (8 * t5))
  F_zg x2 t23 (fun r24 =>
  let b25 : Bool := (r11 == r24)
  cond b25 (
  let b26 : Bool := ((r8.Cause == 0) && ((r8.Value == 0) && ((r8.Place == 0) && ((r8.GVA == false) && true))))
  k b26) (
  k false))) (
  k false)) (
  k false)) (
  let b27 : Bool := (leB 61440 x0)
  cond b27 (
  let b28 : Bool := (ltB x0 62720)
  cond b28 (
  cond r9 (
  cond r13 (
  k true) (
  let b29 : Bool := (r12.Cause == 5)
  k b29)) (
  let b30 : Bool := (r8.Cause == 7)
  cond b30 (
  cond r13 (
  k true) (
  let b31 : Bool := (r12.Cause == 5)
  k b31)) (
  k false))) (
  let b32 : Bool := (!r9)
  cond b32 (
  let b33 : Bool := (!r13)
  cond b33 (
  let b34 : Bool := (r8.Cause == 7)
  cond b34 (
  let b35 : Bool := (r12.Cause == 5)
  cond b35 (
  let b36 : Bool := (r11 == 0)
  k b36) (
  k false)) (
  k false)) (
  k false)) (
  k false))) (
  let b37 : Bool := (!r9)
  cond b37 (
  let b38 : Bool := (!r13)
  cond b38 (
  let b39 : Bool := (r8.Cause == 7)
  cond b39 (
  let b40 : Bool := (r12.Cause == 5)
  cond b40 (
  let b41 : Bool := (r11 == 0)
  k b41) (
  k false)) (
  k false)) (
  k false)) (
  k false))))))))))))))))))
theorem le_zw {α : Type} {F F' : Sg_zw α} (h : ∀ x0 x1 x2 k r, F' x0 x1 x2 k = some r → F x0 x1 x2 k = some r) {args : List SV} {k : SV → R α} {r : α} (hk : ad_zw F' args k = some r) : ad_zw F args k = some r := by
  unfold ad_zw at hk
  split at hk <;> try (cases hk; done)
  obtain ⟨x0, rfl, hk0⟩ := decI_spec hk
  obtain ⟨x1, rfl, hk1⟩ := decI_spec hk0
  obtain ⟨x2, rfl, hk2⟩ := decI_spec hk1
  have hkz := hk2
  exact h x0 x1 x2 _ _ hkz
end Go.Sh
