/-
  The laws TwoTells and TwoKept (printed by wip/pr/pr.py): what the functions come to, told without the program.
-/
import Derived.Test.YtigomjcmpafeeaaSpB12
import Derived.Test.YtigomjcmpafeeaaSpR12d
set_option linter.unusedSimpArgs false
set_option linter.unusedVariables false
namespace Go.Sh
open Go
set_option linter.unusedVariables false


abbrev Sg_law12_known (α : Type) := (Bool → R α) → R α
def ad_law12_known {α : Type} (F : Sg_law12_known α) : FP α := fun args k => match args with
  | [] =>  F  (fun r0 => k (.bool r0))
  | _ => none
def dR_law12_known {α : Type} (a0 : SV) (k : Bool → R α) : R α := decB a0 fun x0 => k x0
theorem dR_law12_known_spec {α : Type} {v : SV} {k : Bool → R α} {r : α} (h : dR_law12_known v k = some r) : ∃ x0, v = (.bool x0) ∧ k x0 = some r := by
  unfold dR_law12_known at h
  obtain ⟨x0, rfl, h0⟩ := decB_spec h
  exact ⟨x0, rfl, h0⟩
theorem le_law12_known {α : Type} {F F' : Sg_law12_known α} (h : ∀  k r, F'  k = some r → F  k = some r) {args : List SV} {k : SV → R α} {r : α} (hk : ad_law12_known F' args k = some r) : ad_law12_known F args k = some r := by
  unfold ad_law12_known at hk
  split at hk <;> try (cases hk; done)
  have hkz := hk
  exact h  _ _ hkz
abbrev Sg_two_Translate (α : Type) := (Nat → Int) → GState → Int → Int → Int → Bool → (Int → GEntry → GFault → Bool → R α) → R α
def ad_two_Translate {α : Type} (F : Sg_two_Translate α) : FF α := fun args σ k => match args with
  | [a0, a1, a2, a3, a4, a5] => withMem σ a0 fun _ b1 _ g1 x0 => GState.dec a1 fun x1 => decI .u64 a2 fun x2 => decI .i64 a3 fun x3 => decI .i64 a4 fun x4 => decB a5 fun x5 => F x0 x1 x2 x3 x4 x5 (fun r0 r1 r2 r3 => k (.tuple [(.int .u64 r0), (GEntry.sv r1), (GFault.sv r2), (.bool r3)]) σ)
  | _ => none
def dR_two_Translate {α : Type} (v : SV) (σ1 : Heap) (k : Int → GEntry → GFault → Bool → R α) : R α := bif kept 2 σ1 then (match v with | .tuple [a0, a1, a2, a3] => decI .u64 a0 fun r0 => GEntry.dec a1 fun r1 => GFault.dec a2 fun r2 => decB a3 fun r3 => k r0 r1 r2 r3 | _ => none) else none
theorem le_two_Translate {α : Type} {F F' : Sg_two_Translate α} (h : ∀ x0 x1 x2 x3 x4 x5 k r, F' x0 x1 x2 x3 x4 x5 k = some r → F x0 x1 x2 x3 x4 x5 k = some r) {args : List SV} {σ : Heap} {k : SV → Heap → R α} {r : α} (hk : ad_two_Translate F' args σ k = some r) : ad_two_Translate F args σ k = some r := by
  unfold ad_two_Translate at hk
  split at hk <;> try (cases hk; done)
  obtain ⟨b, b1, g0, g1, x0, rfl, h0, h1, hne, hk0⟩ := withMem_spec hk
  obtain ⟨x1, rfl, hk1⟩ := GState.dec_spec hk0
  obtain ⟨x2, rfl, hk2⟩ := decI_spec hk1
  obtain ⟨x3, rfl, hk3⟩ := decI_spec hk2
  obtain ⟨x4, rfl, hk4⟩ := decI_spec hk3
  obtain ⟨x5, rfl, hk5⟩ := decB_spec hk4
  have hkz := hk5
  unfold ad_two_Translate
  dsimp only
  rw [withMem_eq h0 h1 hne]
  exact h x0 x1 x2 x3 x4 x5 _ _ hkz
abbrev Sg_two_Guest (α : Type) := (Nat → Int) → GState → Int → Int → (Int → Int → R α) → R α
def ad_two_Guest {α : Type} (F : Sg_two_Guest α) : FF α := fun args σ k => match args with
  | [a0, a1, a2, a3] => withMem σ a0 fun _ b1 _ g1 x0 => GState.dec a1 fun x1 => decI .u64 a2 fun x2 => decI .i64 a3 fun x3 => F x0 x1 x2 x3 (fun r0 r1 => k (.tuple [(.int .u64 r0), (.int .i64 r1)]) σ)
  | _ => none
def dR_two_Guest {α : Type} (v : SV) (σ1 : Heap) (k : Int → Int → R α) : R α := bif kept 2 σ1 then (match v with | .tuple [a0, a1] => decI .u64 a0 fun r0 => decI .i64 a1 fun r1 => k r0 r1 | _ => none) else none
theorem le_two_Guest {α : Type} {F F' : Sg_two_Guest α} (h : ∀ x0 x1 x2 x3 k r, F' x0 x1 x2 x3 k = some r → F x0 x1 x2 x3 k = some r) {args : List SV} {σ : Heap} {k : SV → Heap → R α} {r : α} (hk : ad_two_Guest F' args σ k = some r) : ad_two_Guest F args σ k = some r := by
  unfold ad_two_Guest at hk
  split at hk <;> try (cases hk; done)
  obtain ⟨b, b1, g0, g1, x0, rfl, h0, h1, hne, hk0⟩ := withMem_spec hk
  obtain ⟨x1, rfl, hk1⟩ := GState.dec_spec hk0
  obtain ⟨x2, rfl, hk2⟩ := decI_spec hk1
  obtain ⟨x3, rfl, hk3⟩ := decI_spec hk2
  have hkz := hk3
  unfold ad_two_Guest
  dsimp only
  rw [withMem_eq h0 h1 hne]
  exact h x0 x1 x2 x3 _ _ hkz
abbrev Sg_two_Ask (α : Type) := GState → Int → Bool → (GAsking → R α) → R α
def ad_two_Ask {α : Type} (F : Sg_two_Ask α) : FP α := fun args k => match args with
  | [a0, a1, a2] => GState.dec a0 fun x0 => decI .i64 a1 fun x1 => decB a2 fun x2 => F x0 x1 x2 (fun r0 => k (GAsking.sv r0))
  | _ => none
def dR_two_Ask {α : Type} (a0 : SV) (k : GAsking → R α) : R α := GAsking.dec a0 fun x0 => k x0
theorem dR_two_Ask_spec {α : Type} {v : SV} {k : GAsking → R α} {r : α} (h : dR_two_Ask v k = some r) : ∃ x0, v = (GAsking.sv x0) ∧ k x0 = some r := by
  unfold dR_two_Ask at h
  obtain ⟨x0, rfl, h0⟩ := GAsking.dec_spec h
  exact ⟨x0, rfl, h0⟩
theorem le_two_Ask {α : Type} {F F' : Sg_two_Ask α} (h : ∀ x0 x1 x2 k r, F' x0 x1 x2 k = some r → F x0 x1 x2 k = some r) {args : List SV} {k : SV → R α} {r : α} (hk : ad_two_Ask F' args k = some r) : ad_two_Ask F args k = some r := by
  unfold ad_two_Ask at hk
  split at hk <;> try (cases hk; done)
  obtain ⟨x0, rfl, hk0⟩ := GState.dec_spec hk
  obtain ⟨x1, rfl, hk1⟩ := decI_spec hk0
  obtain ⟨x2, rfl, hk2⟩ := decB_spec hk1
  have hkz := hk2
  exact h x0 x1 x2 _ _ hkz
abbrev Sg_law12_TwoTells (α : Type) := (Bool × Addr × Nat × Nat × (Nat → (Int × Int × Unit))) → GState → Int → Int → Bool → Bool → (Bool → R α) → R α
def ad_law12_TwoTells {α : Type} (F : Sg_law12_TwoTells α) : FP α := fun args k => match args with
  | [a0, a1, a2, a3, a4, a5] => decV_st_int_u64_int_u64 a0 fun x0 => GState.dec a1 fun x1 => decI .u64 a2 fun x2 => decI .u8 a3 fun x3 => decB a4 fun x4 => decB a5 fun x5 => F x0 x1 x2 x3 x4 x5 (fun r0 => k (.bool r0))
  | _ => none
def dR_law12_TwoTells {α : Type} (a0 : SV) (k : Bool → R α) : R α := decB a0 fun x0 => k x0
theorem dR_law12_TwoTells_spec {α : Type} {v : SV} {k : Bool → R α} {r : α} (h : dR_law12_TwoTells v k = some r) : ∃ x0, v = (.bool x0) ∧ k x0 = some r := by
  unfold dR_law12_TwoTells at h
  obtain ⟨x0, rfl, h0⟩ := decB_spec h
  exact ⟨x0, rfl, h0⟩
def p_law12_TwoTells {α : Type} (F_law12_known : Sg_law12_known α) (F_law12_few : Sg_law12_few α) (F_law12_both : Sg_law12_both α) (F_ref18_Clean : Sg_ref18_Clean α) (F_two_Translate : Sg_two_Translate α) (F_ref11_Translate : Sg_ref11_Translate α) (F_ref11_Ask : Sg_ref11_Ask α) (F_two_Guest : Sg_two_Guest α) (F_ref11_Guest : Sg_ref11_Guest α) (F_two_Ask : Sg_two_Ask α) (x0 : (Bool × Addr × Nat × Nat × (Nat → (Int × Int × Unit)))) (x1 : GState) (x2 : Int) (x3 : Int) (x4 : Bool) (x5 : Bool) (k : Bool → R α) : R α :=
  F_law12_known  (fun r1 =>
  let b2 : Bool := (!r1)
  cond b2 (
  k false) (
  F_law12_few x0 (fun r3 =>
  let b4 : Bool := (!r3)
  cond b4 (
  k true) (
  F_law12_both x0 (fun f5 f6 =>
  F_ref18_Clean x1 (fun r7 =>
  let t8 : Int := (Int.tmod x3 3)
  let t9 : Int := (IntKind.i64.wrap t8)
  cond x4 (
  F_two_Translate f5 r7 x2 t9 0 x5 (fun r10 r11 r12 r13 =>
  F_ref11_Translate f6 r7 x2 t9 0 x5 false (fun r14 r15 r16 r17 nl18 n19 tf20 =>
  cond nl18 (
  F_ref11_Ask r7 0 true (fun r21 =>
  F_two_Guest f5 r7 x2 t9 (fun r22 r23 =>
  F_ref11_Guest f6 r21 x2 t9 false (fun r24 r25 r26 nl27 n28 tf29 =>
  cond nl27 (
  let b30 : Bool := (r10 == r14)
  cond b30 (
  let b31 : Bool := ((r11.Valid == r15.Valid) && ((r11.V == r15.V) && ((r11.Page == r15.Page) && ((r11.Asid == r15.Asid) && ((r11.Vmid == r15.Vmid) && ((r11.Frame == r15.Frame) && ((r11.Bits == r15.Bits) && ((r11.Host == r15.Host) && ((r11.Guest == r15.Guest) && true)))))))))
  cond b31 (
  let b32 : Bool := ((r12.Cause == r16.Cause) && ((r12.Value == r16.Value) && ((r12.Place == r16.Place) && ((r12.GVA == r16.GVA) && true))))
  cond b32 (
  let b33 : Bool := (r13 == r17)
  cond b33 (
  F_two_Ask r7 0 x5 (fun r34 =>
  F_ref11_Ask r7 0 x5 (fun r35 =>
  let b36 : Bool := ((r34.First == r35.First) && ((r34.Second == r35.Second) && ((r34.Sum == r35.Sum) && ((r34.Mxr == r35.Mxr) && ((r34.Asid == r35.Asid) && ((r34.Vmid == r35.Vmid) && ((r34.Root == r35.Root) && ((r34.Host == r35.Host) && true))))))))
  cond b36 (
  F_two_Ask r7 3 x5 (fun r37 =>
  let b38 : Bool := ((r37.First == false) && ((r37.Second == false) && ((r37.Sum == false) && ((r37.Mxr == false) && ((r37.Asid == 0) && ((r37.Vmid == 0) && ((r37.Root == 0) && ((r37.Host == 0) && true))))))))
  cond b38 (
  let b39 : Bool := (r22 == r24)
  cond b39 (
  let b40 : Bool := (r23 == r26)
  k b40) (
  k false)) (
  k false))) (
  k false)))) (
  k false)) (
  k false)) (
  k false)) (
  k false)) (
  let b41 : Bool := (r10 == r14)
  cond b41 (
  let b42 : Bool := ((r11.Valid == r15.Valid) && ((r11.V == r15.V) && ((r11.Page == r15.Page) && ((r11.Asid == r15.Asid) && ((r11.Vmid == r15.Vmid) && ((r11.Frame == r15.Frame) && ((r11.Bits == r15.Bits) && ((r11.Host == r15.Host) && ((r11.Guest == r15.Guest) && true)))))))))
  cond b42 (
  let b43 : Bool := ((r12.Cause == r16.Cause) && ((r12.Value == r16.Value) && ((r12.Place == r16.Place) && ((r12.GVA == r16.GVA) && true))))
  cond b43 (
  let b44 : Bool := (r13 == r17)
  cond b44 (
  F_two_Ask r7 0 x5 (fun r45 =>
  F_ref11_Ask r7 0 x5 (fun r46 =>
  let b47 : Bool := ((r45.First == r46.First) && ((r45.Second == r46.Second) && ((r45.Sum == r46.Sum) && ((r45.Mxr == r46.Mxr) && ((r45.Asid == r46.Asid) && ((r45.Vmid == r46.Vmid) && ((r45.Root == r46.Root) && ((r45.Host == r46.Host) && true))))))))
  cond b47 (
  F_two_Ask r7 3 x5 (fun r48 =>
  let b49 : Bool := ((r48.First == false) && ((r48.Second == false) && ((r48.Sum == false) && ((r48.Mxr == false) && ((r48.Asid == 0) && ((r48.Vmid == 0) && ((r48.Root == 0) && ((r48.Host == 0) && true))))))))
  cond b49 (
  let b50 : Bool := (r22 == r24)
  cond b50 (
  let b51 : Bool := (r23 == r26)
  k b51) (
  k false)) (
  k false))) (
  k false)))) (
  k false)) (
  k false)) (
  k false)) (
  k false)))))) (
  F_ref11_Ask r7 0 true (fun r52 =>
  F_two_Guest f5 r7 x2 t9 (fun r53 r54 =>
  F_ref11_Guest f6 r52 x2 t9 false (fun r55 r56 r57 nl58 n59 tf60 =>
  cond nl58 (
  let b61 : Bool := (r10 == r14)
  cond b61 (
  let b62 : Bool := ((r11.Valid == r15.Valid) && ((r11.V == r15.V) && ((r11.Page == r15.Page) && ((r11.Asid == r15.Asid) && ((r11.Vmid == r15.Vmid) && ((r11.Frame == r15.Frame) && ((r11.Bits == r15.Bits) && ((r11.Host == r15.Host) && ((r11.Guest == r15.Guest) && true)))))))))
  cond b62 (
  let b63 : Bool := ((r12.Cause == r16.Cause) && ((r12.Value == r16.Value) && ((r12.Place == r16.Place) && ((r12.GVA == r16.GVA) && true))))
  cond b63 (
  let b64 : Bool := (r13 == r17)
  cond b64 (
  F_two_Ask r7 0 x5 (fun r65 =>
  F_ref11_Ask r7 0 x5 (fun r66 =>
  let b67 : Bool := ((r65.First == r66.First) && ((r65.Second == r66.Second) && ((r65.Sum == r66.Sum) && ((r65.Mxr == r66.Mxr) && ((r65.Asid == r66.Asid) && ((r65.Vmid == r66.Vmid) && ((r65.Root == r66.Root) && ((r65.Host == r66.Host) && true))))))))
  cond b67 (
  F_two_Ask r7 3 x5 (fun r68 =>
  let b69 : Bool := ((r68.First == false) && ((r68.Second == false) && ((r68.Sum == false) && ((r68.Mxr == false) && ((r68.Asid == 0) && ((r68.Vmid == 0) && ((r68.Root == 0) && ((r68.Host == 0) && true))))))))
  cond b69 (
  let b70 : Bool := (r53 == r55)
  cond b70 (
  let b71 : Bool := (r54 == r57)
  k b71) (
  k false)) (
  k false))) (
  k false)))) (
  k false)) (
  k false)) (
  k false)) (
  k false)) (
  let b72 : Bool := (r10 == r14)
  cond b72 (
  let b73 : Bool := ((r11.Valid == r15.Valid) && ((r11.V == r15.V) && ((r11.Page == r15.Page) && ((r11.Asid == r15.Asid) && ((r11.Vmid == r15.Vmid) && ((r11.Frame == r15.Frame) && ((r11.Bits == r15.Bits) && ((r11.Host == r15.Host) && ((r11.Guest == r15.Guest) && true)))))))))
  cond b73 (
  let b74 : Bool := ((r12.Cause == r16.Cause) && ((r12.Value == r16.Value) && ((r12.Place == r16.Place) && ((r12.GVA == r16.GVA) && true))))
  cond b74 (
  let b75 : Bool := (r13 == r17)
  cond b75 (
  F_two_Ask r7 0 x5 (fun r76 =>
  F_ref11_Ask r7 0 x5 (fun r77 =>
  let b78 : Bool := ((r76.First == r77.First) && ((r76.Second == r77.Second) && ((r76.Sum == r77.Sum) && ((r76.Mxr == r77.Mxr) && ((r76.Asid == r77.Asid) && ((r76.Vmid == r77.Vmid) && ((r76.Root == r77.Root) && ((r76.Host == r77.Host) && true))))))))
  cond b78 (
  F_two_Ask r7 3 x5 (fun r79 =>
  let b80 : Bool := ((r79.First == false) && ((r79.Second == false) && ((r79.Sum == false) && ((r79.Mxr == false) && ((r79.Asid == 0) && ((r79.Vmid == 0) && ((r79.Root == 0) && ((r79.Host == 0) && true))))))))
  cond b80 (
  let b81 : Bool := (r53 == r55)
  cond b81 (
  let b82 : Bool := (r54 == r57)
  k b82) (
  k false)) (
  k false))) (
  k false)))) (
  k false)) (
  k false)) (
  k false)) (
  k false))))))))) (
  F_two_Translate f5 r7 x2 t9 1 x5 (fun r83 r84 r85 r86 =>
  F_ref11_Translate f6 r7 x2 t9 1 x5 false (fun r87 r88 r89 r90 nl91 n92 tf93 =>
  cond nl91 (
  F_ref11_Ask r7 1 true (fun r94 =>
  F_two_Guest f5 r7 x2 t9 (fun r95 r96 =>
  F_ref11_Guest f6 r94 x2 t9 false (fun r97 r98 r99 nl100 n101 tf102 =>
  cond nl100 (
  let b103 : Bool := (r83 == r87)
  cond b103 (
  let b104 : Bool := ((r84.Valid == r88.Valid) && ((r84.V == r88.V) && ((r84.Page == r88.Page) && ((r84.Asid == r88.Asid) && ((r84.Vmid == r88.Vmid) && ((r84.Frame == r88.Frame) && ((r84.Bits == r88.Bits) && ((r84.Host == r88.Host) && ((r84.Guest == r88.Guest) && true)))))))))
  cond b104 (
  let b105 : Bool := ((r85.Cause == r89.Cause) && ((r85.Value == r89.Value) && ((r85.Place == r89.Place) && ((r85.GVA == r89.GVA) && true))))
  cond b105 (
  let b106 : Bool := (r86 == r90)
  cond b106 (
  F_two_Ask r7 1 x5 (fun r107 =>
  F_ref11_Ask r7 1 x5 (fun r108 =>
  let b109 : Bool := ((r107.First == r108.First) && ((r107.Second == r108.Second) && ((r107.Sum == r108.Sum) && ((r107.Mxr == r108.Mxr) && ((r107.Asid == r108.Asid) && ((r107.Vmid == r108.Vmid) && ((r107.Root == r108.Root) && ((r107.Host == r108.Host) && true))))))))
  cond b109 (
  F_two_Ask r7 3 x5 (fun r110 =>
  let b111 : Bool := ((r110.First == false) && ((r110.Second == false) && ((r110.Sum == false) && ((r110.Mxr == false) && ((r110.Asid == 0) && ((r110.Vmid == 0) && ((r110.Root == 0) && ((r110.Host == 0) && true))))))))
  cond b111 (
  let b112 : Bool := (r95 == r97)
  cond b112 (
  let b113 : Bool := (r96 == r99)
  k b113) (
  k false)) (
  k false))) (
  k false)))) (
  k false)) (
  k false)) (
  k false)) (
  k false)) (
  let b114 : Bool := (r83 == r87)
  cond b114 (
  let b115 : Bool := ((r84.Valid == r88.Valid) && ((r84.V == r88.V) && ((r84.Page == r88.Page) && ((r84.Asid == r88.Asid) && ((r84.Vmid == r88.Vmid) && ((r84.Frame == r88.Frame) && ((r84.Bits == r88.Bits) && ((r84.Host == r88.Host) && ((r84.Guest == r88.Guest) && true)))))))))
  cond b115 (
  let b116 : Bool := ((r85.Cause == r89.Cause) && ((r85.Value == r89.Value) && ((r85.Place == r89.Place) && ((r85.GVA == r89.GVA) && true))))
  cond b116 (
  let b117 : Bool := (r86 == r90)
  cond b117 (
  F_two_Ask r7 1 x5 (fun r118 =>
  F_ref11_Ask r7 1 x5 (fun r119 =>
  let b120 : Bool := ((r118.First == r119.First) && ((r118.Second == r119.Second) && ((r118.Sum == r119.Sum) && ((r118.Mxr == r119.Mxr) && ((r118.Asid == r119.Asid) && ((r118.Vmid == r119.Vmid) && ((r118.Root == r119.Root) && ((r118.Host == r119.Host) && true))))))))
  cond b120 (
  F_two_Ask r7 3 x5 (fun r121 =>
  let b122 : Bool := ((r121.First == false) && ((r121.Second == false) && ((r121.Sum == false) && ((r121.Mxr == false) && ((r121.Asid == 0) && ((r121.Vmid == 0) && ((r121.Root == 0) && ((r121.Host == 0) && true))))))))
  cond b122 (
  let b123 : Bool := (r95 == r97)
  cond b123 (
  let b124 : Bool := (r96 == r99)
  k b124) (
  k false)) (
  k false))) (
  k false)))) (
  k false)) (
  k false)) (
  k false)) (
  k false)))))) (
  F_ref11_Ask r7 1 true (fun r125 =>
  F_two_Guest f5 r7 x2 t9 (fun r126 r127 =>
  F_ref11_Guest f6 r125 x2 t9 false (fun r128 r129 r130 nl131 n132 tf133 =>
  cond nl131 (
  let b134 : Bool := (r83 == r87)
  cond b134 (
  let b135 : Bool := ((r84.Valid == r88.Valid) && ((r84.V == r88.V) && ((r84.Page == r88.Page) && ((r84.Asid == r88.Asid) && ((r84.Vmid == r88.Vmid) && ((r84.Frame == r88.Frame) && ((r84.Bits == r88.Bits) && ((r84.Host == r88.Host) && ((r84.Guest == r88.Guest) && true)))))))))
  cond b135 (
  let b136 : Bool := ((r85.Cause == r89.Cause) && ((r85.Value == r89.Value) && ((r85.Place == r89.Place) && ((r85.GVA == r89.GVA) && true))))
  cond b136 (
  let b137 : Bool := (r86 == r90)
  cond b137 (
  F_two_Ask r7 1 x5 (fun r138 =>
  F_ref11_Ask r7 1 x5 (fun r139 =>
  let b140 : Bool := ((r138.First == r139.First) && ((r138.Second == r139.Second) && ((r138.Sum == r139.Sum) && ((r138.Mxr == r139.Mxr) && ((r138.Asid == r139.Asid) && ((r138.Vmid == r139.Vmid) && ((r138.Root == r139.Root) && ((r138.Host == r139.Host) && true))))))))
  cond b140 (
  F_two_Ask r7 3 x5 (fun r141 =>
  let b142 : Bool := ((r141.First == false) && ((r141.Second == false) && ((r141.Sum == false) && ((r141.Mxr == false) && ((r141.Asid == 0) && ((r141.Vmid == 0) && ((r141.Root == 0) && ((r141.Host == 0) && true))))))))
  cond b142 (
  let b143 : Bool := (r126 == r128)
  cond b143 (
  let b144 : Bool := (r127 == r130)
  k b144) (
  k false)) (
  k false))) (
  k false)))) (
  k false)) (
  k false)) (
  k false)) (
  k false)) (
  let b145 : Bool := (r83 == r87)
  cond b145 (
  let b146 : Bool := ((r84.Valid == r88.Valid) && ((r84.V == r88.V) && ((r84.Page == r88.Page) && ((r84.Asid == r88.Asid) && ((r84.Vmid == r88.Vmid) && ((r84.Frame == r88.Frame) && ((r84.Bits == r88.Bits) && ((r84.Host == r88.Host) && ((r84.Guest == r88.Guest) && true)))))))))
  cond b146 (
  let b147 : Bool := ((r85.Cause == r89.Cause) && ((r85.Value == r89.Value) && ((r85.Place == r89.Place) && ((r85.GVA == r89.GVA) && true))))
  cond b147 (
  let b148 : Bool := (r86 == r90)
  cond b148 (
  F_two_Ask r7 1 x5 (fun r149 =>
  F_ref11_Ask r7 1 x5 (fun r150 =>
  let b151 : Bool := ((r149.First == r150.First) && ((r149.Second == r150.Second) && ((r149.Sum == r150.Sum) && ((r149.Mxr == r150.Mxr) && ((r149.Asid == r150.Asid) && ((r149.Vmid == r150.Vmid) && ((r149.Root == r150.Root) && ((r149.Host == r150.Host) && true))))))))
  cond b151 (
  F_two_Ask r7 3 x5 (fun r152 =>
  let b153 : Bool := ((r152.First == false) && ((r152.Second == false) && ((r152.Sum == false) && ((r152.Mxr == false) && ((r152.Asid == 0) && ((r152.Vmid == 0) && ((r152.Root == 0) && ((r152.Host == 0) && true))))))))
  cond b153 (
  let b154 : Bool := (r126 == r128)
  cond b154 (
  let b155 : Bool := (r127 == r130)
  k b155) (
  k false)) (
  k false))) (
  k false)))) (
  k false)) (
  k false)) (
  k false)) (
  k false)))))))))))))))
theorem le_law12_TwoTells {α : Type} {F F' : Sg_law12_TwoTells α} (h : ∀ x0 x1 x2 x3 x4 x5 k r, F' x0 x1 x2 x3 x4 x5 k = some r → F x0 x1 x2 x3 x4 x5 k = some r) {args : List SV} {k : SV → R α} {r : α} (hk : ad_law12_TwoTells F' args k = some r) : ad_law12_TwoTells F args k = some r := by
  unfold ad_law12_TwoTells at hk
  split at hk <;> try (cases hk; done)
  obtain ⟨x0, rfl, hk0⟩ := decV_st_int_u64_int_u64_spec hk
  obtain ⟨x1, rfl, hk1⟩ := GState.dec_spec hk0
  obtain ⟨x2, rfl, hk2⟩ := decI_spec hk1
  obtain ⟨x3, rfl, hk3⟩ := decI_spec hk2
  obtain ⟨x4, rfl, hk4⟩ := decB_spec hk3
  obtain ⟨x5, rfl, hk5⟩ := decB_spec hk4
  have hkz := hk5
  exact h x0 x1 x2 x3 x4 x5 _ _ hkz
abbrev Sg_two_Allowed (α : Type) := GState → GEntry → Int → Int → Int → Bool → (GFault → Bool → R α) → R α
def ad_two_Allowed {α : Type} (F : Sg_two_Allowed α) : FP α := fun args k => match args with
  | [a0, a1, a2, a3, a4, a5] => GState.dec a0 fun x0 => GEntry.dec a1 fun x1 => decI .u64 a2 fun x2 => decI .i64 a3 fun x3 => decI .i64 a4 fun x4 => decB a5 fun x5 => F x0 x1 x2 x3 x4 x5 (fun r0 r1 => k (.tuple [(GFault.sv r0), (.bool r1)]))
  | _ => none
def dR_two_Allowed {α : Type} (v : SV) (k : GFault → Bool → R α) : R α := match v with
  | .tuple [a0, a1] => GFault.dec a0 fun x0 => decB a1 fun x1 => k x0 x1
  | _ => none
theorem dR_two_Allowed_spec {α : Type} {v : SV} {k : GFault → Bool → R α} {r : α} (h : dR_two_Allowed v k = some r) : ∃ x0 x1, v = (.tuple [(GFault.sv x0), (.bool x1)]) ∧ k x0 x1 = some r := by
  unfold dR_two_Allowed at h
  split at h <;> try (cases h; done)
  obtain ⟨x0, rfl, h0⟩ := GFault.dec_spec h
  obtain ⟨x1, rfl, h1⟩ := decB_spec h0
  exact ⟨x0, x1, rfl, h1⟩
theorem le_two_Allowed {α : Type} {F F' : Sg_two_Allowed α} (h : ∀ x0 x1 x2 x3 x4 x5 k r, F' x0 x1 x2 x3 x4 x5 k = some r → F x0 x1 x2 x3 x4 x5 k = some r) {args : List SV} {k : SV → R α} {r : α} (hk : ad_two_Allowed F' args k = some r) : ad_two_Allowed F args k = some r := by
  unfold ad_two_Allowed at hk
  split at hk <;> try (cases hk; done)
  obtain ⟨x0, rfl, hk0⟩ := GState.dec_spec hk
  obtain ⟨x1, rfl, hk1⟩ := GEntry.dec_spec hk0
  obtain ⟨x2, rfl, hk2⟩ := decI_spec hk1
  obtain ⟨x3, rfl, hk3⟩ := decI_spec hk2
  obtain ⟨x4, rfl, hk4⟩ := decI_spec hk3
  obtain ⟨x5, rfl, hk5⟩ := decB_spec hk4
  have hkz := hk5
  exact h x0 x1 x2 x3 x4 x5 _ _ hkz
abbrev Sg_law12_TwoKept (α : Type) := (Bool × Addr × Nat × Nat × (Nat → (Int × Int × Unit))) → GState → Int → Int → Int → Int → Bool → Bool → (Bool → R α) → R α
def ad_law12_TwoKept {α : Type} (F : Sg_law12_TwoKept α) : FP α := fun args k => match args with
  | [a0, a1, a2, a3, a4, a5, a6, a7] => decV_st_int_u64_int_u64 a0 fun x0 => GState.dec a1 fun x1 => decI .u64 a2 fun x2 => decI .u64 a3 fun x3 => decI .u8 a4 fun x4 => decI .u8 a5 fun x5 => decB a6 fun x6 => decB a7 fun x7 => F x0 x1 x2 x3 x4 x5 x6 x7 (fun r0 => k (.bool r0))
  | _ => none
def dR_law12_TwoKept {α : Type} (a0 : SV) (k : Bool → R α) : R α := decB a0 fun x0 => k x0
theorem dR_law12_TwoKept_spec {α : Type} {v : SV} {k : Bool → R α} {r : α} (h : dR_law12_TwoKept v k = some r) : ∃ x0, v = (.bool x0) ∧ k x0 = some r := by
  unfold dR_law12_TwoKept at h
  obtain ⟨x0, rfl, h0⟩ := decB_spec h
  exact ⟨x0, rfl, h0⟩
def p_law12_TwoKept {α : Type} (F_law12_known : Sg_law12_known α) (F_law12_few : Sg_law12_few α) (F_law12_both : Sg_law12_both α) (F_ref18_Clean : Sg_ref18_Clean α) (F_two_Translate : Sg_two_Translate α) (F_two_Allowed : Sg_two_Allowed α) (F_law12_allowed : Sg_law12_allowed α) (F_ref11_Translate : Sg_ref11_Translate α) (x0 : (Bool × Addr × Nat × Nat × (Nat → (Int × Int × Unit)))) (x1 : GState) (x2 : Int) (x3 : Int) (x4 : Int) (x5 : Int) (x6 : Bool) (x7 : Bool) (k : Bool → R α) : R α :=
  F_law12_known  (fun r1 =>
  let b2 : Bool := (!r1)
  cond b2 (
  k false) (
  F_law12_few x0 (fun r3 =>
  let b4 : Bool := (!r3)
  cond b4 (
  k true) (
  F_law12_both x0 (fun f5 f6 =>
  F_ref18_Clean x1 (fun r7 =>
  let t8 : Int := (Int.tmod x4 3)
  let t9 : Int := (IntKind.i64.wrap t8)
  F_two_Translate f5 r7 x2 t9 1 x7 (fun r10 r11 r12 r13 =>
  let b14 : Bool := (!r13)
  cond b14 (
  let b15 : Bool := ((r11.Valid == false) && ((r11.V == false) && ((r11.Page == 0) && ((r11.Asid == 0) && ((r11.Vmid == 0) && ((r11.Frame == 0) && ((r11.Bits == 0) && ((r11.Host == 0) && ((r11.Guest == 0) && true)))))))))
  k b15) (
  let t16 : Int := (Int.tmod x5 3)
  let t17 : Int := (IntKind.i64.wrap t16)
  cond x6 (
  F_two_Allowed r7 r11 x2 t17 0 x7 (fun r18 r19 =>
  F_law12_allowed r7 r11 x2 t17 0 x7 (fun r20 r21 =>
  let b22 : Bool := (!((r18.Cause == r20.Cause) && ((r18.Value == r20.Value) && ((r18.Place == r20.Place) && ((r18.GVA == r20.GVA) && true)))))
  cond b22 (
  k false) (
  let b23 : Bool := (!(r19 == r21))
  cond b23 (
  k false) (
  let t24 : Int := (bitop .andNot .u64 x2 255)
  let t25 : Int := (bitop .and .u64 x3 255)
  let t26 : Int := (bitop .or .u64 t24 t25)
  F_ref11_Translate f6 r7 t26 t17 0 x7 false (fun r27 r28 r29 r30 nl31 n32 tf33 =>
  cond nl31 (
  F_two_Allowed r7 r11 t26 t17 0 x7 (fun r34 r35 =>
  let b36 : Bool := (r11.Bits == 255)
  cond b36 (
  let b37 : Bool := (r11.Host == 255)
  cond b37 (
  k r35) (
  let b38 : Bool := (r35 == r30)
  cond b38 (
  cond r35 (
  let b39 : Bool := ((r28.Valid == r11.Valid) && ((r28.V == r11.V) && ((r28.Page == r11.Page) && ((r28.Asid == r11.Asid) && ((r28.Vmid == r11.Vmid) && ((r28.Frame == r11.Frame) && ((r28.Bits == r11.Bits) && ((r28.Host == r11.Host) && ((r28.Guest == r11.Guest) && true)))))))))
  cond b39 (
  k true) (
  let b40 : Bool := (!r35)
  cond b40 (
  let b41 : Bool := ((r34.Cause == r29.Cause) && ((r34.Value == r29.Value) && ((r34.Place == r29.Place) && ((r34.GVA == r29.GVA) && true))))
  k b41) (
  k false))) (
  let b42 : Bool := (!r35)
  cond b42 (
  let b43 : Bool := ((r34.Cause == r29.Cause) && ((r34.Value == r29.Value) && ((r34.Place == r29.Place) && ((r34.GVA == r29.GVA) && true))))
  k b43) (
  k false))) (
  k false))) (
  let b44 : Bool := (r35 == r30)
  cond b44 (
  cond r35 (
  let b45 : Bool := ((r28.Valid == r11.Valid) && ((r28.V == r11.V) && ((r28.Page == r11.Page) && ((r28.Asid == r11.Asid) && ((r28.Vmid == r11.Vmid) && ((r28.Frame == r11.Frame) && ((r28.Bits == r11.Bits) && ((r28.Host == r11.Host) && ((r28.Guest == r11.Guest) && true)))))))))
  cond b45 (
  k true) (
  let b46 : Bool := (!r35)
  cond b46 (
  let b47 : Bool := ((r34.Cause == r29.Cause) && ((r34.Value == r29.Value) && ((r34.Place == r29.Place) && ((r34.GVA == r29.GVA) && true))))
  k b47) (
  k false))) (
  let b48 : Bool := (!r35)
  cond b48 (
  let b49 : Bool := ((r34.Cause == r29.Cause) && ((r34.Value == r29.Value) && ((r34.Place == r29.Place) && ((r34.GVA == r29.GVA) && true))))
  k b49) (
  k false))) (
  k false)))) (
  F_two_Allowed r7 r11 t26 t17 0 x7 (fun r50 r51 =>
  let b52 : Bool := (r11.Bits == 255)
  cond b52 (
  let b53 : Bool := (r11.Host == 255)
  cond b53 (
  k r51) (
  let b54 : Bool := (r51 == r30)
  cond b54 (
  cond r51 (
  let b55 : Bool := ((r28.Valid == r11.Valid) && ((r28.V == r11.V) && ((r28.Page == r11.Page) && ((r28.Asid == r11.Asid) && ((r28.Vmid == r11.Vmid) && ((r28.Frame == r11.Frame) && ((r28.Bits == r11.Bits) && ((r28.Host == r11.Host) && ((r28.Guest == r11.Guest) && true)))))))))
  cond b55 (
  k true) (
  let b56 : Bool := (!r51)
  cond b56 (
  let b57 : Bool := ((r50.Cause == r29.Cause) && ((r50.Value == r29.Value) && ((r50.Place == r29.Place) && ((r50.GVA == r29.GVA) && true))))
  k b57) (
  k false))) (
  let b58 : Bool := (!r51)
  cond b58 (
  let b59 : Bool := ((r50.Cause == r29.Cause) && ((r50.Value == r29.Value) && ((r50.Place == r29.Place) && ((r50.GVA == r29.GVA) && true))))
  k b59) (
  k false))) (
  k false))) (
  let b60 : Bool := (r51 == r30)
  cond b60 (
  cond r51 (
  let b61 : Bool := ((r28.Valid == r11.Valid) && ((r28.V == r11.V) && ((r28.Page == r11.Page) && ((r28.Asid == r11.Asid) && ((r28.Vmid == r11.Vmid) && ((r28.Frame == r11.Frame) && ((r28.Bits == r11.Bits) && ((r28.Host == r11.Host) && ((r28.Guest == r11.Guest) && true)))))))))
  cond b61 (
  k true) (
  let b62 : Bool := (!r51)
  cond b62 (
  let b63 : Bool := ((r50.Cause == r29.Cause) && ((r50.Value == r29.Value) && ((r50.Place == r29.Place) && ((r50.GVA == r29.GVA) && true))))
  k b63) (
  k false))) (
  let b64 : Bool := (!r51)
  cond b64 (
  let b65 : Bool := ((r50.Cause == r29.Cause) && ((r50.Value == r29.Value) && ((r50.Place == r29.Place) && ((r50.GVA == r29.GVA) && true))))
  k b65) (
  k false))) (
  k false)))))))))) (
  F_two_Allowed r7 r11 x2 t17 1 x7 (fun r66 r67 =>
  F_law12_allowed r7 r11 x2 t17 1 x7 (fun r68 r69 =>
  let b70 : Bool := (!((r66.Cause == r68.Cause) && ((r66.Value == r68.Value) && ((r66.Place == r68.Place) && ((r66.GVA == r68.GVA) && true)))))
  cond b70 (
  k false) (
  let b71 : Bool := (!(r67 == r69))
  cond b71 (
  k false) (
  let t72 : Int := (bitop .andNot .u64 x2 255)
  let t73 : Int := (bitop .and .u64 x3 255)
  let t74 : Int := (bitop .or .u64 t72 t73)
  F_ref11_Translate f6 r7 t74 t17 1 x7 false (fun r75 r76 r77 r78 nl79 n80 tf81 =>
  cond nl79 (
  F_two_Allowed r7 r11 t74 t17 1 x7 (fun r82 r83 =>
  let b84 : Bool := (r11.Bits == 255)
  cond b84 (
  let b85 : Bool := (r11.Host == 255)
  cond b85 (
  k r83) (
  let b86 : Bool := (r83 == r78)
  cond b86 (
  cond r83 (
  let b87 : Bool := ((r76.Valid == r11.Valid) && ((r76.V == r11.V) && ((r76.Page == r11.Page) && ((r76.Asid == r11.Asid) && ((r76.Vmid == r11.Vmid) && ((r76.Frame == r11.Frame) && ((r76.Bits == r11.Bits) && ((r76.Host == r11.Host) && ((r76.Guest == r11.Guest) && true)))))))))
  cond b87 (
  k true) (
  let b88 : Bool := (!r83)
  cond b88 (
  let b89 : Bool := ((r82.Cause == r77.Cause) && ((r82.Value == r77.Value) && ((r82.Place == r77.Place) && ((r82.GVA == r77.GVA) && true))))
  k b89) (
  k false))) (
  let b90 : Bool := (!r83)
  cond b90 (
  let b91 : Bool := ((r82.Cause == r77.Cause) && ((r82.Value == r77.Value) && ((r82.Place == r77.Place) && ((r82.GVA == r77.GVA) && true))))
  k b91) (
  k false))) (
  k false))) (
  let b92 : Bool := (r83 == r78)
  cond b92 (
  cond r83 (
  let b93 : Bool := ((r76.Valid == r11.Valid) && ((r76.V == r11.V) && ((r76.Page == r11.Page) && ((r76.Asid == r11.Asid) && ((r76.Vmid == r11.Vmid) && ((r76.Frame == r11.Frame) && ((r76.Bits == r11.Bits) && ((r76.Host == r11.Host) && ((r76.Guest == r11.Guest) && true)))))))))
  cond b93 (
  k true) (
  let b94 : Bool := (!r83)
  cond b94 (
  let b95 : Bool := ((r82.Cause == r77.Cause) && ((r82.Value == r77.Value) && ((r82.Place == r77.Place) && ((r82.GVA == r77.GVA) && true))))
  k b95) (
  k false))) (
  let b96 : Bool := (!r83)
  cond b96 (
  let b97 : Bool := ((r82.Cause == r77.Cause) && ((r82.Value == r77.Value) && ((r82.Place == r77.Place) && ((r82.GVA == r77.GVA) && true))))
  k b97) (
  k false))) (
  k false)))) (
  F_two_Allowed r7 r11 t74 t17 1 x7 (fun r98 r99 =>
  let b100 : Bool := (r11.Bits == 255)
  cond b100 (
  let b101 : Bool := (r11.Host == 255)
  cond b101 (
  k r99) (
  let b102 : Bool := (r99 == r78)
  cond b102 (
  cond r99 (
  let b103 : Bool := ((r76.Valid == r11.Valid) && ((r76.V == r11.V) && ((r76.Page == r11.Page) && ((r76.Asid == r11.Asid) && ((r76.Vmid == r11.Vmid) && ((r76.Frame == r11.Frame) && ((r76.Bits == r11.Bits) && ((r76.Host == r11.Host) && ((r76.Guest == r11.Guest) && true)))))))))
  cond b103 (
  k true) (
  let b104 : Bool := (!r99)
  cond b104 (
  let b105 : Bool := ((r98.Cause == r77.Cause) && ((r98.Value == r77.Value) && ((r98.Place == r77.Place) && ((r98.GVA == r77.GVA) && true))))
  k b105) (
  k false))) (
  let b106 : Bool := (!r99)
  cond b106 (
  let b107 : Bool := ((r98.Cause == r77.Cause) && ((r98.Value == r77.Value) && ((r98.Place == r77.Place) && ((r98.GVA == r77.GVA) && true))))
  k b107) (
  k false))) (
  k false))) (
  let b108 : Bool := (r99 == r78)
  cond b108 (
  cond r99 (
  let b109 : Bool := ((r76.Valid == r11.Valid) && ((r76.V == r11.V) && ((r76.Page == r11.Page) && ((r76.Asid == r11.Asid) && ((r76.Vmid == r11.Vmid) && ((r76.Frame == r11.Frame) && ((r76.Bits == r11.Bits) && ((r76.Host == r11.Host) && ((r76.Guest == r11.Guest) && true)))))))))
  cond b109 (
  k true) (
  let b110 : Bool := (!r99)
  cond b110 (
  let b111 : Bool := ((r98.Cause == r77.Cause) && ((r98.Value == r77.Value) && ((r98.Place == r77.Place) && ((r98.GVA == r77.GVA) && true))))
  k b111) (
  k false))) (
  let b112 : Bool := (!r99)
  cond b112 (
  let b113 : Bool := ((r98.Cause == r77.Cause) && ((r98.Value == r77.Value) && ((r98.Place == r77.Place) && ((r98.GVA == r77.GVA) && true))))
  k b113) (
  k false))) (
  k false))))))))))))))))))
theorem le_law12_TwoKept {α : Type} {F F' : Sg_law12_TwoKept α} (h : ∀ x0 x1 x2 x3 x4 x5 x6 x7 k r, F' x0 x1 x2 x3 x4 x5 x6 x7 k = some r → F x0 x1 x2 x3 x4 x5 x6 x7 k = some r) {args : List SV} {k : SV → R α} {r : α} (hk : ad_law12_TwoKept F' args k = some r) : ad_law12_TwoKept F args k = some r := by
  unfold ad_law12_TwoKept at hk
  split at hk <;> try (cases hk; done)
  obtain ⟨x0, rfl, hk0⟩ := decV_st_int_u64_int_u64_spec hk
  obtain ⟨x1, rfl, hk1⟩ := GState.dec_spec hk0
  obtain ⟨x2, rfl, hk2⟩ := decI_spec hk1
  obtain ⟨x3, rfl, hk3⟩ := decI_spec hk2
  obtain ⟨x4, rfl, hk4⟩ := decI_spec hk3
  obtain ⟨x5, rfl, hk5⟩ := decI_spec hk4
  obtain ⟨x6, rfl, hk6⟩ := decB_spec hk5
  obtain ⟨x7, rfl, hk7⟩ := decB_spec hk6
  have hkz := hk7
  exact h x0 x1 x2 x3 x4 x5 x6 x7 _ _ hkz
end Go.Sh
