/-
  That the operations that only look do what pval says.
-/
import Derived.Test.YtigomjcmpafeeaaSk3
set_option linter.unusedSimpArgs false
set_option linter.unusedVariables false
namespace Go.Sh
open Go

section
variable {α : Type} {P : Program} {I : Imm}

theorem ty_under {t : TypeId} {s : STy} (h : TyOk P t s) : ∃ d, P.underlying t = some d := by
  have := h.desc
  split at this
  · exact ⟨_, this.1⟩
  · obtain ⟨F, h1, _⟩ := this; exact ⟨_, h1⟩
  · exact ⟨_, this.1⟩

theorem ty_info {t : TypeId} {s : STy} (h : TyOk P t s) : ∃ i, P.info? t = some i ∧ i.size = s.size ∧ i.bytes = s.bytes ∧ ∀ ρ, i.zero = some (val ρ s.zero) := by
  have h0 := h.info
  cases hi : P.info? t with
  | none => have := h0 (fun _ => ⟨0, 0, 0⟩); simp [hi] at this
  | some i =>
    simp only [hi, Option.map_some, Option.some.injEq, Prod.mk.injEq] at h0
    exact ⟨i, rfl, (h0 (fun _ => ⟨0, 0, 0⟩)).2.1, (h0 (fun _ => ⟨0, 0, 0⟩)).2.2, fun ρ => (h0 ρ).1⟩

theorem run_underlying {t : TypeId} {d : TypeDesc} (h : P.underlying t = some d) (w : World) : (underlying t).run P w = .ok d w := by
  simp [underlying, h]
theorem run_sizeOf {t : TypeId} {s : STy} (h : TyOk P t s) (w : World) : (sizeOf t).run P w = .ok s.size w := by
  obtain ⟨i, h1, h2, _⟩ := ty_info h
  simp [sizeOf, typeInfo, h1, h2]
theorem run_isAgg {t : TypeId} {d : TypeDesc} (h : P.underlying t = some d) (w : World) : (isAgg t).run P w = .ok (aggDesc d) w := by
  cases d <;> simp [isAgg, run_underlying h, aggDesc]
theorem run_zeroValue {t : TypeId} {s : STy} (h : TyOk P t s) (ρ : Nat → Pl) (w : World) : (zeroValue t).run P w = .ok (val ρ s.zero) w := by
  obtain ⟨i, h1, h2, h3, h4⟩ := ty_info h
  simp [zeroValue, typeInfo, h1, h4 ρ]
theorem ty_agg {t : TypeId} {s : STy} (h : TyOk P t s) : ∃ d, P.underlying t = some d ∧ aggDesc d = (match s.sd with | .sc _ => false | _ => true) := by
  have := h.desc
  split at this
  · rename_i hs; exact ⟨_, this.1, by rw [hs]; exact this.2⟩
  · rename_i hs; obtain ⟨F, h1, _⟩ := this; exact ⟨_, h1, by rw [hs]; rfl⟩
  · rename_i hs; exact ⟨_, this.1, by rw [hs]; rfl⟩

/-- A cell of a shadow block. -/
theorem HRel.cell {ρ : Nat → Pl} {n : Nat → Prop} {e : HF} {w : World} (h : HRel I ρ n e w) {b : Nat} {g : Option Nat} {v u : SV} {o j : Nat} (hb : e b = some (.cells g v)) (hl : Lies v o u) (hj : j < u.size) :
    w.cell? ⟨(ρ b).blk, (ρ b).base + o + j, none⟩ = (cells ρ u)[j]? := by
  obtain ⟨c, T, fz, h1, h2, _⟩ := h.obj b _ hb
  have := hl.1
  simp only [World.cell?, h1, Option.isSome_none, Bool.false_eq_true, if_false]
  rw [← hl.2 ρ j hj, ← h2 (o + j) (by omega)]
  congr 1; omega

theorem VOk.cell {ρ : Nat → Pl} {n : Nat → Prop} {e : HF} {w : World} (h : HRel I ρ n e w) {a : Addr} {v : SV} (hv : VOk I a v) {j : Nat} (hj : j < v.size) : w.cell? ⟨a.block, a.off + j, none⟩ = (cells ρ v)[j]? := by
  obtain ⟨_, c, T, fz, h1, h2⟩ := hv
  simp only [World.cell?, h.imm _ _ h1, Option.isSome_none, Bool.false_eq_true, if_false]
  exact h2 ρ j hj

theorem addr_add {a : Addr} (h : a.spot = none) (j : Nat) : a.add j = ⟨a.block, a.off + j, none⟩ := by
  cases a; simp only at h; subst h; unfold Addr.add; split <;> simp_all

theorem VOk.sub {a : Addr} {v u : SV} (h : VOk I a v) {o : Nat} (hl : Lies v o u) : VOk I (a.add o) u := by
  obtain ⟨h0, c, T, fz, h1, h2⟩ := h
  rw [addr_add h0]
  refine ⟨rfl, c, T, fz, h1, fun ρ j hj => ?_⟩
  have := hl.1
  rw [← hl.2 ρ j hj, ← h2 ρ (o + j) (by omega)]
  simp only [Nat.add_assoc]

theorem run_loadVar_of {t : TypeId} {s : STy} (ht : TyOk P t s) {a : Addr} (ha : a.spot = none) {ρ : Nat → Pl} {u : SV} {w : World} (hc : ∀ j, j < u.size → w.cell? ⟨a.block, a.off + j, none⟩ = (cells ρ u)[j]?)
    (hu : okLoad s u = true) : (loadVar t a).run P w = .ok (val ρ u) w := by
  obtain ⟨d, h1, h2⟩ := ty_agg ht
  simp only [okLoad, Bool.and_eq_true] at hu
  have hs : u.size = s.size := by simpa using hu.2
  have hlen := cells_length ρ u
  unfold loadVar
  simp only [Sem.run_bind, run_isAgg h1, Result.andThen_ok, h2]
  cases hsd : s.sd with
  | sc d' =>
    rw [hsd] at hu
    simp at hu
    have hv := val_scalar ρ hu.1.2 hu.1.1
    rw [hv] at hlen
    have := hc 0 (by rw [← hlen]; simp)
    rw [hv] at this
    simp at this
    cases a; simp only at ha; subst ha
    simp at this
    simp [this]
  | st fs =>
    rw [hsd] at hu
    have e := run_loadCells_list (P := P) w a (cells ρ u) (fun j v hj => by
      have hjl := (List.getElem?_eq_some_iff.1 hj).1
      rw [addr_add ha, hc j (by omega), hj])
    rw [hlen, hs] at e
    simp [run_sizeOf ht, e, val_agg ρ hu.1]
  | ar n e' es ea =>
    rw [hsd] at hu
    have e := run_loadCells_list (P := P) w a (cells ρ u) (fun j v hj => by
      have hjl := (List.getElem?_eq_some_iff.1 hj).1
      rw [addr_add ha, hc j (by omega), hj])
    rw [hlen, hs] at e
    simp [run_sizeOf ht, e, val_agg ρ hu.1]

theorem run_part_of {e : TypeId} {d : TypeDesc} {n : Nat} {g : Bool} (h1 : P.underlying e = some d) (hn : (P.info? e).map (·.size) = some n) (hg : aggDesc d = g) {ρ : Nat → Pl} {v u : SV} {o : Nat} (hl : Lies v o u)
    (hu : okPart g n u = true) (w : World) : (part e (cells ρ v).toArray o).run P w = .ok (val ρ u) w := by
  simp only [okPart, Bool.and_eq_true] at hu
  have hs : u.size = n := by simpa using hu.2
  have hlen := cells_length ρ u
  have hvl := cells_length ρ v
  have hle := hl.1
  cases hi : P.info? e with
  | none => simp [hi] at hn
  | some i =>
    simp [hi] at hn
    unfold part
    simp only [Sem.run_bind, run_isAgg h1, Result.andThen_ok, hg]
    cases g with
    | true =>
      simp at hu
      simp only [if_true, Sem.run_bind, sizeOf, typeInfo, run_program, hi, Sem.run_pure, Result.andThen_ok, hn, val_agg ρ hu.1]
      congr 2
      apply Array.toList_inj.1
      apply List.ext_getElem?
      intro j
      simp only [Array.toList_extract, List.getElem?_take, List.getElem?_drop, List.extract]
      by_cases hj : j < u.size
      · rw [if_pos (by omega)]; exact hl.2 ρ j hj
      · rw [if_neg (by omega), List.getElem?_eq_none (by omega)]
    | false =>
      simp at hu
      have hv := val_scalar ρ hu.1.2 hu.1.1
      have h0 := hl.2 ρ 0 (by rw [← hlen, hv]; simp)
      rw [hv] at h0
      simp only [Nat.add_zero, List.getElem?_cons_zero] at h0
      simp [h0]

theorem val_int (ρ : Nat → Pl) (kd : IntKind) (n : Int) : val ρ (.int kd n) = .int kd n := rfl
theorem val_bool (ρ : Nat → Pl) (b : Bool) : val ρ (.bool b) = .bool b := rfl
theorem val_str (ρ : Nat → Pl) (s : ByteArray) : val ρ (.str s) = .string s := rfl
theorem val_ptr (ρ : Nat → Pl) (b : Nat) (p : Path) : val ρ (.ptr b p) = .pointer (some ⟨(ρ b).blk, (ρ b).base + offOf p, none⟩) := rfl
theorem val_vptr (ρ : Nat → Pl) (a : Addr) (v : SV) : val ρ (.vptr a v) = .pointer (some a) := rfl

theorem offOf_append (p q : Path) : offOf (p ++ q) = offOf p + offOf q := by
  induction p with
  | nil => simp [offOf]
  | cons s p ih => simp [offOf, ih]; omega

theorem intop_spec {op : BinOp} {kd : IntKind} {x y : Int} {k : SV → R α} {r : α} (h : intop op kd x y k = some r) (hs1 : op ≠ .shl) (hs2 : op ≠ .shr) :
    ∃ v, k v = some r ∧ (∀ I n, Wf I n v) ∧ ∀ ρ t (w : World), (binOp op t (.int kd x) (.int kd y)).run P w = .ok (val ρ v) w := by
  cases op <;> simp only [intop] at h
  case shl => exact absurd rfl hs1
  case shr => exact absurd rfl hs2
  case quo =>
    cases hy : decide (y = 0) <;> rw [hy] at h <;> simp at h
    have : ¬ y = 0 := of_decide_eq_false hy
    exact ⟨_, h, by simp [Wf], fun ρ t w => by simp [binOp, Op.intDiv, this, val_int]⟩
  case rem =>
    cases hy : decide (y = 0) <;> rw [hy] at h <;> simp at h
    have : ¬ y = 0 := of_decide_eq_false hy
    exact ⟨_, h, by simp [Wf], fun ρ t w => by simp [binOp, Op.intDiv, this, val_int]⟩
  all_goals first
    | exact ⟨_, h, by simp [Wf], fun ρ t w => by simp [binOp, Op.intArith, Op.intBits, Op.intCmp, val_int, val_bool, bitop, ltB, leB]⟩
    | simp at h

theorem strop_spec {op : BinOp} {x y : ByteArray} {k : SV → R α} {r : α} (h : strop op x y k = some r) :
    ∃ v, k v = some r ∧ (∀ I n, Wf I n v) ∧ ∀ ρ t (w : World), (binOp op t (.string x) (.string y)).run P w = .ok (val ρ v) w := by
  cases op <;> simp only [strop] at h
  case add =>
    obtain ⟨h1, h2⟩ := bif_some h
    have h1 := of_decide_eq_true h1
    have h3 : ¬ ((x.size + y.size : Nat) : Int) > IntKind.i64.max := by omega
    exact ⟨_, h2, by simp [Wf], fun ρ t w => by simp only [binOp, Op.stringOp, if_neg h3]; rfl⟩
  case eql => exact ⟨_, h, by simp [Wf], fun ρ t w => by simp [binOp, Op.stringOp, val_bool]⟩
  case neq => exact ⟨_, h, by simp [Wf], fun ρ t w => by simp [binOp, Op.stringOp, val_bool]⟩
  all_goals simp at h

theorem run_equalIn_nil {t : TypeId} {s : STy} (ht : TyOk P t s) {a b : SV} {c : Bool} (hb : nilness s.sd b = some true) (hc : nilness s.sd a = some c) (ρ : Nat → Pl) (w : World) (d : Nat) :
    (Op.equalIn (d + 1) t (val ρ a) (val ρ b)).run P w = .ok c w ∧ (Op.equalIn (d + 1) t (val ρ b) (val ρ a)).run P w = .ok c w := by
  have hd := ht.desc
  cases hsd : s.sd with
  | sc d =>
    rw [hsd] at hd hc hb
    simp only at hd
    cases d <;> simp only [aggDesc] at hd
    case pointer e =>
      cases a <;> simp [nilness, isPtrSD, isSliceSD, isFuncSD] at hc <;> cases b <;> simp [nilness, isPtrSD, isSliceSD, isFuncSD] at hb <;> subst hc <;>
        (constructor <;> simp [Op.equalIn, run_underlying hd.1, val, pack, SV.isAgg, cells])
    case slice e =>
      have hn : ∀ x, nilness (.sc (.slice e)) x = some true → val ρ x = .slice none 0 0 := fun x hx => by
        cases x <;> simp [nilness, isPtrSD, isSliceSD, isFuncSD] at hx
        · rfl
        · subst hx; rfl
      have hf : ∀ x, nilness (.sc (.slice e)) x = some false → ∃ ad n c, val ρ x = .slice (some ad) n c := fun x hx => by
        cases x <;> simp [nilness, isPtrSD, isSliceSD, isFuncSD] at hx
        · exact ⟨_, _, _, rfl⟩
        · subst hx; exact ⟨_, _, _, rfl⟩
      have e1 := hn b hb
      cases c
      · obtain ⟨ad, n, cc, e2⟩ := hf a hc
        rw [e1, e2]
        constructor <;> simp [Op.equalIn, run_underlying hd.1]
      · have e2 := hn a hc
        rw [e1, e2]
        constructor <;> simp [Op.equalIn, run_underlying hd.1]
    case func x y z =>
      cases a <;> simp [nilness, isPtrSD, isSliceSD, isFuncSD] at hc <;> cases b <;> simp [nilness, isPtrSD, isSliceSD, isFuncSD] at hb <;> subst hc <;>
        (constructor <;> simp [Op.equalIn, run_underlying hd.1, val, pack, SV.isAgg, cells])
    all_goals (cases a <;> simp [nilness, isPtrSD, isSliceSD, isFuncSD] at hc)
  | st fs =>
    rw [hsd] at hc
    cases a <;> simp [nilness, isPtrSD, isSliceSD, isFuncSD] at hc
  | ar n e es ea =>
    rw [hsd] at hc
    cases a <;> simp [nilness, isPtrSD, isSliceSD, isFuncSD] at hc
end
end Go.Sh
