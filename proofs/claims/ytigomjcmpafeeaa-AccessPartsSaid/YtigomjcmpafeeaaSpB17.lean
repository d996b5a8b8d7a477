/-
  The bus at places of memory (printed by wip/pr/pr.py): what the functions come to, told without the program.
-/
import Derived.Test.YtigomjcmpafeeaaSpBus
import Derived.Test.YtigomjcmpafeeaaSpB12
set_option linter.unusedSimpArgs false
set_option linter.unusedVariables false
namespace Go.Sh
open Go
set_option linter.unusedVariables false


abbrev Sg_bus_Bus_console_nil (α : Type) := (Nat → Int) → Int → Int → Int → Int → (R α) → R α
noncomputable def ad_bus_Bus_console_nil {α : Type} (F : Sg_bus_Bus_console_nil α) : FF α := fun args σ k => match args with
  | [a0, a1, a2] => withBus σ a0 fun b1 g1 f tm al => decI .u64 a1 fun x1 => decI .i64 a2 fun x2 => F f tm al x1 x2 (k .nilp σ)
  | _ => none
def dR_bus_Bus_console_nil {α : Type} (a0 : SV) (σ1 : Heap) (k : R α) : R α := bif kept 3 σ1 then (decN a0 <| k) else none
def p_bus_Bus_console_nil {α : Type}  (f : Nat → Int) (tm al : Int) (x1 : Int) (x2 : Int) (k : R α) : R α :=
  let b1 : Bool := (x2 != 1)
  cond b1 (
  k) (
  let b2 : Bool := (ltB x1 61696)
  cond b2 (
  k) (
  let t3 : Int := (IntKind.u64.wrap (x1 - 61696))
  let t4 : Int := (Int.tmod t3 256)
  let b5 : Bool := (t4 != 0)
  cond b5 (
  k) (
  let t6 : Int := (IntKind.u64.wrap (x1 - 61696))
  let t7 : Int := (IntKind.u64.wrap (Int.tdiv t6 256))
  let b8 : Bool := (leB 4 t7)
  cond b8 (
  k) (
  cond (decide (0 ≤ t7) && decide (t7 < 4)) (
  none) none))))
theorem le_bus_Bus_console_nil {α : Type} {F F' : Sg_bus_Bus_console_nil α} (h : ∀ f tm al x1 x2 k r, F' f tm al x1 x2 k = some r → F f tm al x1 x2 k = some r) {args : List SV} {σ : Heap} {k : SV → Heap → R α} {r : α} (hk : ad_bus_Bus_console_nil F' args σ k = some r) : ad_bus_Bus_console_nil F args σ k = some r := by
  unfold ad_bus_Bus_console_nil at hk
  split at hk <;> try (cases hk; done)
  obtain ⟨b, g, m, tm, al, b1, g0, g1, f, rfl, hb, hm, hb1, hne, hne2, hne3, hk0⟩ := withBus_spec hk
  obtain ⟨x1, rfl, hk1⟩ := decI_spec hk0
  obtain ⟨x2, rfl, hk2⟩ := decI_spec hk1
  have hkz := hk2
  unfold ad_bus_Bus_console_nil
  dsimp only
  rw [withBus_eq hb hm hb1 hne hne2 hne3]
  exact h f tm al x1 x2 _ _ hkz
abbrev Sg_mem_Memory_Read (α : Type) := (Nat → Int) → Int → Int → (Int → Int → R α) → R α
def ad_mem_Memory_Read {α : Type} (F : Sg_mem_Memory_Read α) : FF α := fun args σ k => match args with
  | [a0, a1, a2] => withMem σ a0 fun _ b1 _ g1 x0 => decI .u64 a1 fun x1 => decI .i64 a2 fun x2 => F x0 x1 x2 (fun r0 r1 => k (.tuple [(.int .u64 r0), (.int .i64 r1)]) σ)
  | _ => none
def dR_mem_Memory_Read {α : Type} (v : SV) (σ1 : Heap) (k : Int → Int → R α) : R α := bif kept 2 σ1 then (match v with | .tuple [a0, a1] => decI .u64 a0 fun r0 => decI .i64 a1 fun r1 => k r0 r1 | _ => none) else none
theorem le_mem_Memory_Read {α : Type} {F F' : Sg_mem_Memory_Read α} (h : ∀ x0 x1 x2 k r, F' x0 x1 x2 k = some r → F x0 x1 x2 k = some r) {args : List SV} {σ : Heap} {k : SV → Heap → R α} {r : α} (hk : ad_mem_Memory_Read F' args σ k = some r) : ad_mem_Memory_Read F args σ k = some r := by
  unfold ad_mem_Memory_Read at hk
  split at hk <;> try (cases hk; done)
  obtain ⟨b, b1, g0, g1, x0, rfl, h0, h1, hne, hk0⟩ := withMem_spec hk
  obtain ⟨x1, rfl, hk1⟩ := decI_spec hk0
  obtain ⟨x2, rfl, hk2⟩ := decI_spec hk1
  have hkz := hk2
  unfold ad_mem_Memory_Read
  dsimp only
  rw [withMem_eq h0 h1 hne]
  exact h x0 x1 x2 _ _ hkz
abbrev Sg_bus_Bus_Read_ok (α : Type) := (Nat → Int) → Int → Int → Int → Int → (Int → R α) → R α
noncomputable def ad_bus_Bus_Read_ok {α : Type} (F : Sg_bus_Bus_Read_ok α) : FF α := fun args σ k => match args with
  | [a0, a1, a2] => withBus σ a0 fun b1 g1 f tm al => decI .u64 a1 fun x1 => decI .i64 a2 fun x2 => F f tm al x1 x2 (fun r0 => k (.tuple [(.int .u64 r0), (.bool true)]) σ)
  | _ => none
def dR_bus_Bus_Read_ok {α : Type} (v : SV) (σ1 : Heap) (k : Int → R α) : R α := bif kept 3 σ1 then (match v with | .tuple [a0, a1] => (decI .u64 a0 fun r0 => decB a1 fun y1 => cond y1 (k r0) none) | _ => none) else none
noncomputable def p_bus_Bus_Read_ok {α : Type} (F_bus_Bus_console_nil : Sg_bus_Bus_console_nil α) (F_mem_Memory_Read : Sg_mem_Memory_Read α) (f : Nat → Int) (tm al : Int) (x1 : Int) (x2 : Int) (k : Int → R α) : R α :=
  let b1 : Bool := (x1 == 61440)
  cond b1 (
  let b2 : Bool := (x2 == 8)
  cond b2 (
  none) (
  let b3 : Bool := (x1 == 61448)
  cond b3 (
  let b4 : Bool := (x2 == 8)
  cond b4 (
  k al) (
  grd (freshP = freshP) (
  F_bus_Bus_console_nil f tm al x1 x2 (
  F_mem_Memory_Read f x1 x2 (fun r5 r6 =>
  let b7 : Bool := (r6 == 0)
  cond b7 (k r5) none))))) (
  grd (freshP = freshP) (
  F_bus_Bus_console_nil f tm al x1 x2 (
  F_mem_Memory_Read f x1 x2 (fun r8 r9 =>
  let b10 : Bool := (r9 == 0)
  cond b10 (k r8) none)))))) (
  let b11 : Bool := (x1 == 61448)
  cond b11 (
  let b12 : Bool := (x2 == 8)
  cond b12 (
  k al) (
  grd (freshP = freshP) (
  F_bus_Bus_console_nil f tm al x1 x2 (
  F_mem_Memory_Read f x1 x2 (fun r13 r14 =>
  let b15 : Bool := (r14 == 0)
  cond b15 (k r13) none))))) (
  grd (freshP = freshP) (
  F_bus_Bus_console_nil f tm al x1 x2 (
  F_mem_Memory_Read f x1 x2 (fun r16 r17 =>
  let b18 : Bool := (r17 == 0)
  cond b18 (k r16) none)))))
theorem le_bus_Bus_Read_ok {α : Type} {F F' : Sg_bus_Bus_Read_ok α} (h : ∀ f tm al x1 x2 k r, F' f tm al x1 x2 k = some r → F f tm al x1 x2 k = some r) {args : List SV} {σ : Heap} {k : SV → Heap → R α} {r : α} (hk : ad_bus_Bus_Read_ok F' args σ k = some r) : ad_bus_Bus_Read_ok F args σ k = some r := by
  unfold ad_bus_Bus_Read_ok at hk
  split at hk <;> try (cases hk; done)
  obtain ⟨b, g, m, tm, al, b1, g0, g1, f, rfl, hb, hm, hb1, hne, hne2, hne3, hk0⟩ := withBus_spec hk
  obtain ⟨x1, rfl, hk1⟩ := decI_spec hk0
  obtain ⟨x2, rfl, hk2⟩ := decI_spec hk1
  have hkz := hk2
  unfold ad_bus_Bus_Read_ok
  dsimp only
  rw [withBus_eq hb hm hb1 hne hne2 hne3]
  exact h f tm al x1 x2 _ _ hkz
abbrev Sg_bus_Bus_Write_ok (α : Type) := (Nat → Int) → Int → Int → Int → Int → Int → ((Nat → Int) → R α) → R α
noncomputable def ad_bus_Bus_Write_ok {α : Type} (F : Sg_bus_Bus_Write_ok α) : FF α := fun args σ k => match args with
  | [a0, a1, a2, a3] => withBus σ a0 fun b1 g1 f tm al => decI .u64 a1 fun x1 => decI .i64 a2 fun x2 => decI .u64 a3 fun x3 => F f tm al x1 x2 x3 (fun fm => k (.bool true) ⟨σ.next, [(b1, byO g1 fm)] ++ σ.blocks⟩)
  | _ => none
def dR_bus_Bus_Write_ok {α : Type} (a0 : SV) (σ1 : Heap) (k : Option Nat → (Nat → Int) → R α) : R α := bif keptX 3 2 σ1 then (nowAt σ1 2 fun g fm => decB a0 fun y0 => cond y0 (k g fm) none) else none
noncomputable def p_bus_Bus_Write_ok {α : Type} (F_bus_Bus_console_nil : Sg_bus_Bus_console_nil α) (F_mem_Memory_Write : Sg_mem_Memory_Write α) (f : Nat → Int) (tm al : Int) (x1 : Int) (x2 : Int) (x3 : Int) (k : (Nat → Int) → R α) : R α :=
  let b1 : Bool := (x1 == 61448)
  cond b1 (
  let b2 : Bool := (x2 == 8)
  cond b2 (
  none) (
  grd (freshP = freshP) (
  F_bus_Bus_console_nil f tm al x1 x2 (
  F_mem_Memory_Write f x1 x2 x3 (fun f3 r4 =>
  let b5 : Bool := (r4 == 0)
  cond b5 (k f3) none))))) (
  grd (freshP = freshP) (
  F_bus_Bus_console_nil f tm al x1 x2 (
  F_mem_Memory_Write f x1 x2 x3 (fun f6 r7 =>
  let b8 : Bool := (r7 == 0)
  cond b8 (k f6) none))))
theorem le_bus_Bus_Write_ok {α : Type} {F F' : Sg_bus_Bus_Write_ok α} (h : ∀ f tm al x1 x2 x3 k r, F' f tm al x1 x2 x3 k = some r → F f tm al x1 x2 x3 k = some r) {args : List SV} {σ : Heap} {k : SV → Heap → R α} {r : α} (hk : ad_bus_Bus_Write_ok F' args σ k = some r) : ad_bus_Bus_Write_ok F args σ k = some r := by
  unfold ad_bus_Bus_Write_ok at hk
  split at hk <;> try (cases hk; done)
  obtain ⟨b, g, m, tm, al, b1, g0, g1, f, rfl, hb, hm, hb1, hne, hne2, hne3, hk0⟩ := withBus_spec hk
  obtain ⟨x1, rfl, hk1⟩ := decI_spec hk0
  obtain ⟨x2, rfl, hk2⟩ := decI_spec hk1
  obtain ⟨x3, rfl, hk3⟩ := decI_spec hk2
  have hkz := hk3
  unfold ad_bus_Bus_Write_ok
  dsimp only
  rw [withBus_eq hb hm hb1 hne hne2 hne3]
  exact h f tm al x1 x2 x3 _ _ hkz
end Go.Sh
