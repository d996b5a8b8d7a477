/-
  Shadow values: structured data that stand for the model's values and cells; places by paths; reading and writing through a path.
-/
import Derived.Test.YtigomjcmpafeeaaSk0
set_option linter.unusedSimpArgs false
set_option linter.unusedVariables false
namespace Go.Sh
open Go

/-- A step of a path: a field (its number, its offset in cells), an element (its index, an element's cells). -/
inductive Step where
  | fld (i off : Nat)
  | idx (i size : Nat)

abbrev Path := List Step
def Step.off : Step → Nat
  | .fld _ o => o
  | .idx i s => i * s
def offOf : Path → Nat
  | [] => 0
  | s :: p => s.off + offOf p

inductive SV where
  | bool (b : Bool)
  | int (k : IntKind) (n : Int)
  | str (s : ByteArray)
  | ptr (b : Nat) (p : Path)
  | nilp
  | slc (b : Nat) (p : Path) (size off len : Nat) (cap : Option Nat)
  | nils
  | vptr (a : Addr) (v : SV)
  | vslc (d : TD) (nl : Bool) (a : Addr) (len cap : Nat) (f : Nat → d.Val)
  | fn (f : Fn) (first captured : List SV)
  | nilfn
  | map (b : Nat)
  | nilmap
  | nilifc
  | ints (k : IntKind) (n : Nat) (f : Nat → Int)
  | bools (n : Nat) (f : Nat → Bool)
  | arr (size n : Nat) (f : Nat → SV)
  | agg (l : List SV)
  | tuple (l : List SV)

def SV.isAgg : SV → Bool
  | .ints .. | .bools .. | .arr .. | .agg .. => true
  | _ => false
def SV.isTuple : SV → Bool
  | .tuple _ => true
  | _ => false

mutual
def SV.size : SV → Nat
  | .ints _ n _ => n
  | .bools n _ => n
  | .arr s n _ => n * s
  | .agg l => sizes l
  | .tuple _ => 0
  | _ => 1
def sizes : List SV → Nat
  | [] => 0
  | v :: l => v.size + sizes l
end

/-- Where a shadow block lies: the block, the cell at which it begins, its capacity in elements. -/
structure Pl where
  blk : Nat
  base : Nat
  cap : Nat

theorem beq_ne {i j : Nat} (h : j ≠ i) : Nat.beq j i = false := by
  cases e : Nat.beq j i
  · rfl
  · exact absurd (Nat.eq_of_beq_eq_true e) h

def fit (s : Nat) (l : List Value) : List Value := (l ++ List.replicate s (Value.bool false)).take s
def pack (g : Bool) (cs : List Value) : Value := bif g then .agg cs.toArray else cs.headD undef

mutual
def cells (ρ : Nat → Pl) : SV → List Value
  | .bool b => [.bool b]
  | .int k n => [.int k n]
  | .str s => [.string s]
  | .ptr b p => [.pointer (some ⟨(ρ b).blk, (ρ b).base + offOf p, none⟩)]
  | .nilp => [.pointer none]
  | .slc b p s o n c => [.slice (some ⟨(ρ b).blk, (ρ b).base + (offOf p + o * s), none⟩) n (match c with | some c => c | none => (ρ b).cap - o)]
  | .nils => [.slice none 0 0]
  | .vptr a _ => [.pointer (some a)]
  | .vslc _ nl a n c _ => [bif nl then .slice none 0 0 else .slice (some a) n c]
  | .fn f a c => [.func f (vals ρ a).toArray (vals ρ c).toArray]
  | .nilfn => [.nilFunc]
  | .map b => [.map (some (ρ b).blk)]
  | .nilmap => [.map none]
  | .nilifc => [.nilIface]
  | .ints k n f => (List.range n).map fun i => .int k (f i)
  | .bools n f => (List.range n).map fun i => .bool (f i)
  | .arr s n f => (List.range n).flatMap fun i => fit s (cells ρ (f i))
  | .agg l => cellss ρ l
  | .tuple _ => []
def cellss (ρ : Nat → Pl) : List SV → List Value
  | [] => []
  | v :: l => cells ρ v ++ cellss ρ l
def vals (ρ : Nat → Pl) : List SV → List Value
  | [] => []
  | .tuple l :: r => .tuple (vals ρ l).toArray :: vals ρ r
  | v :: l => pack v.isAgg (cells ρ v) :: vals ρ l
end

def val (ρ : Nat → Pl) : SV → Value
  | .tuple l => .tuple (vals ρ l).toArray
  | v => pack v.isAgg (cells ρ v)

theorem vals_eq (ρ : Nat → Pl) : ∀ l, vals ρ l = l.map (val ρ)
  | [] => by simp [vals]
  | v :: l => by cases v <;> simp [vals, val, vals_eq ρ l]

theorem fit_length (s : Nat) (l : List Value) : (fit s l).length = s := by simp [fit]
theorem fit_same (s : Nat) (l : List Value) (h : l.length = s) : fit s l = l := by
  subst h; simp [fit]

mutual
theorem cells_length (ρ : Nat → Pl) : ∀ v : SV, (cells ρ v).length = v.size
  | .bool _ | .int .. | .str _ | .ptr .. | .nilp | .slc .. | .nils | .vptr .. | .vslc .. | .nilfn | .map _ | .nilmap | .nilifc => by simp [cells, SV.size]
  | .fn .. => by simp [cells, SV.size]
  | .ints .. => by simp [cells, SV.size]
  | .bools .. => by simp [cells, SV.size]
  | .arr s n f => by
    simp only [cells, SV.size]
    induction n with
    | zero => simp
    | succ n ih => simp only [List.range_succ, List.flatMap_append, List.length_append, ih, List.flatMap_cons, List.flatMap_nil, List.append_nil, fit_length]; rw [Nat.succ_mul]
  | .agg l => by simp only [cells, SV.size]; exact cellss_length ρ l
  | .tuple _ => by simp [cells, SV.size]
theorem cellss_length (ρ : Nat → Pl) : ∀ l : List SV, (cellss ρ l).length = sizes l
  | [] => by simp [cellss, sizes]
  | v :: l => by simp [cellss, sizes, cells_length ρ v, cellss_length ρ l]
end

theorem val_cells (ρ : Nat → Pl) {v : SV} (h : v.isTuple = false) : (val ρ v).cells = (cells ρ v).toArray := by
  cases v
  case vslc _ nl _ _ _ _ => cases nl <;> rfl
  all_goals simp [val, pack, SV.isAgg, SV.isTuple, cells, Value.cells] at *

theorem val_scalar (ρ : Nat → Pl) {v : SV} (h : v.isTuple = false) (g : v.isAgg = false) : cells ρ v = [val ρ v] := by
  cases v <;> simp [val, pack, SV.isAgg, SV.isTuple, cells] at *

theorem val_agg (ρ : Nat → Pl) {v : SV} (g : v.isAgg = true) : val ρ v = .agg (cells ρ v).toArray := by
  cases v <;> simp [val, pack, SV.isAgg] at *

/-- A value of one cell. -/
def flatV : Value → Bool
  | .agg _ | .tuple _ => false
  | _ => true

mutual
theorem cells_flat (ρ : Nat → Pl) : ∀ (v : SV) (x : Value), x ∈ cells ρ v → flatV x = true
  | .bool _, x, h | .int .., x, h | .str _, x, h | .ptr .., x, h | .nilp, x, h | .slc .., x, h | .nils, x, h | .vptr .., x, h | .nilfn, x, h | .map _, x, h | .nilmap, x, h | .nilifc, x, h => by
    simp [cells] at h; subst h; simp [flatV]
  | .vslc _ nl .., x, h => by simp only [cells, List.mem_singleton] at h; subst h; cases nl <;> rfl
  | .fn .., x, h => by simp [cells] at h; subst h; simp [flatV]
  | .ints .., x, h => by simp [cells] at h; obtain ⟨_, _, rfl⟩ := h; simp [flatV]
  | .bools .., x, h => by simp [cells] at h; obtain ⟨_, _, rfl⟩ := h; simp [flatV]
  | .arr s n f, x, h => by
    simp only [cells, List.mem_flatMap] at h
    obtain ⟨i, _, h⟩ := h
    have := List.mem_of_mem_take h
    rcases List.mem_append.1 this with h | h
    · exact cells_flat ρ (f i) x h
    · rw [List.eq_of_mem_replicate h]; rfl
  | .agg l, x, h => by simp only [cells] at h; exact cellss_flat ρ l x h
  | .tuple _, x, h => by simp [cells] at h
theorem cellss_flat (ρ : Nat → Pl) : ∀ (l : List SV) (x : Value), x ∈ cellss ρ l → flatV x = true
  | [], x, h => by simp [cellss] at h
  | v :: l, x, h => by
    simp only [cellss, List.mem_append] at h
    rcases h with h | h
    · exact cells_flat ρ v x h
    · exact cellss_flat ρ l x h
end

/-! ### Elements of a flat row -/
theorem flat_get (s n : Nat) (g : Nat → List Value) (hg : ∀ i, (g i).length = s) (i j : Nat) (hi : i < n) (hj : j < s) :
    ((List.range n).flatMap g)[i * s + j]? = (g i)[j]? := by
  induction n with
  | zero => omega
  | succ n ih =>
    have hlen : ((List.range n).flatMap g).length = n * s := by
      clear ih hi
      induction n with
      | zero => simp
      | succ n ih => simp only [List.range_succ, List.flatMap_append, List.length_append, ih, List.flatMap_cons, List.flatMap_nil, List.append_nil, hg]; rw [Nat.succ_mul]
    simp only [List.range_succ, List.flatMap_append, List.flatMap_cons, List.flatMap_nil, List.append_nil]
    by_cases hin : i < n
    · rw [List.getElem?_append_left (by rw [hlen]; have := Nat.mul_le_mul_right s (Nat.succ_le_of_lt hin); rw [Nat.succ_mul] at this; omega)]
      exact ih hin
    · have : i = n := by omega
      subst this
      rw [List.getElem?_append_right (by rw [hlen]; omega), hlen]
      congr 1; omega

/-! ### What may stand in a value: ids below n; what lies in memory that is never written reads as it says -/
abbrev Imm := Nat → Option Obj

def VOk (I : Imm) (a : Addr) (v : SV) : Prop :=
  a.spot = none ∧ ∃ c T fz, I a.block = some (.cells c T fz) ∧ ∀ ρ j, j < v.size → c[a.off + j]? = (cells ρ v)[j]?

mutual
/-- .. as shadow values. -/
def TD.sv : (d : TD) → d.Val → SV
  | .int k, n => .int k n
  | .bool, b => .bool b
  | .str, s => .str s
  | .st l, vs => .agg (tdSvs l vs)
  | .ints n k, f => .ints k n f
  | .sl e, (nl, a, len, cap, f) => .vslc e nl a len cap f
def tdSvs : (l : List TD) → tdVals l → List SV
  | [], _ => []
  | d :: l, (v, vs) => d.sv v :: tdSvs l vs
end
mutual
theorem sv_size : ∀ (d : TD) (x : d.Val), (d.sv x).size = d.size
  | .int _, _ => rfl
  | .bool, _ => rfl
  | .str, _ => rfl
  | .st l, vs => by simp only [TD.sv, SV.size, TD.size]; exact svs_size l vs
  | .ints _ _, _ => rfl
  | .sl _, (_, _, _, _, _) => rfl
theorem svs_size : ∀ (l : List TD) (vs : tdVals l), sizes (tdSvs l vs) = tdSizes l
  | [], _ => rfl
  | d :: l, (v, vs) => by simp only [tdSvs, sizes, tdSizes, sv_size d v, svs_size l vs]
end
mutual
/-- What a value of a shape says of memory that is never written. -/
def VW (I : Imm) : (d : TD) → d.Val → Prop
  | .int _, _ => True
  | .bool, _ => True
  | .str, _ => True
  | .st l, vs => VWs I l vs
  | .ints _ _, _ => True
  | .sl e, (nl, a, len, cap, f) => (nl = true → len = 0 ∧ cap = 0) ∧ len ≤ cap ∧ (0 < cap → a.spot = none) ∧ ∀ i, i < len → VOk I ⟨a.block, a.off + i * e.size, none⟩ (e.sv (f i)) ∧ VW I e (f i)
def VWs (I : Imm) : (l : List TD) → tdVals l → Prop
  | [], _ => True
  | d :: l, (v, vs) => VW I d v ∧ VWs I l vs
end

mutual
def Wf (I : Imm) : (Nat → Prop) → SV → Prop
  | n, .ptr b _ => n b
  | n, .slc b _ _ _ _ _ => n b
  | n, .map b => n b
  | _, .vptr a v => VOk I a v ∧ Wf I (fun _ => False) v
  | _, .vslc d nl a len cap f => VW I (.sl d) (nl, a, len, cap, f)
  | n, .fn _ a c => Wfs I n a ∧ Wfs I n c
  | n, .arr _ m f => ∀ i, i < m → Wf I n (f i)
  | n, .agg l => Wfs I n l
  | n, .tuple l => Wfs I n l
  | _, _ => True
def Wfs (I : Imm) : (Nat → Prop) → List SV → Prop
  | _, [] => True
  | n, v :: l => Wf I n v ∧ Wfs I n l
end

mutual
theorem wf_sv {I : Imm} {n : Nat → Prop} : ∀ (d : TD) (x : d.Val), Wf I n (d.sv x) ↔ VW I d x
  | .int _, _ => by simp [TD.sv, Wf, VW]
  | .bool, _ => by simp [TD.sv, Wf, VW]
  | .str, _ => by simp [TD.sv, Wf, VW]
  | .st l, vs => by simp only [TD.sv, Wf, VW]; exact wfs_svs l vs
  | .ints _ _, _ => by simp [TD.sv, Wf, VW]
  | .sl _, (_, _, _, _, _) => by simp only [TD.sv, Wf]
theorem wfs_svs {I : Imm} {n : Nat → Prop} : ∀ (l : List TD) (vs : tdVals l), Wfs I n (tdSvs l vs) ↔ VWs I l vs
  | [], _ => by simp [tdSvs, Wfs, VWs]
  | d :: l, (v, vs) => by simp only [tdSvs, Wfs, VWs, wf_sv d v, wfs_svs l vs]
end

theorem wfs_iff {I : Imm} {n : Nat → Prop} : ∀ {l : List SV}, Wfs I n l ↔ ∀ v ∈ l, Wf I n v
  | [] => by simp [Wfs]
  | v :: l => by simp [Wfs, wfs_iff (l := l)]

mutual
theorem Wf.mono {I : Imm} {n m : Nat → Prop} (h : ∀ b, n b → m b) : ∀ {v : SV}, Wf I n v → Wf I m v
  | .bool _, _ | .int .., _ | .str _, _ | .nilp, _ | .nils, _ | .nilfn, _ | .nilmap, _ | .nilifc, _ | .ints .., _ | .bools .., _ => by simp [Wf]
  | .ptr .., g => by simp only [Wf] at *; exact h _ g
  | .slc .., g => by simp only [Wf] at *; exact h _ g
  | .map _, g => by simp only [Wf] at *; exact h _ g
  | .vptr a v, g => by simp only [Wf] at *; exact g
  | .vslc d nl a len cap f, g => by simp only [Wf] at *; exact g
  | .fn _ a c, g => by simp only [Wf] at *; exact ⟨Wfs.mono h g.1, Wfs.mono h g.2⟩
  | .arr _ _ f, g => by simp only [Wf] at *; exact fun i hi => Wf.mono h (g i hi)
  | .agg l, g => by simp only [Wf] at *; exact Wfs.mono h g
  | .tuple l, g => by simp only [Wf] at *; exact Wfs.mono h g
theorem Wfs.mono {I : Imm} {n m : Nat → Prop} (h : ∀ b, n b → m b) : ∀ {l : List SV}, Wfs I n l → Wfs I m l
  | [], _ => by simp [Wfs]
  | v :: l, g => by simp only [Wfs] at *; exact ⟨Wf.mono h g.1, Wfs.mono h g.2⟩
end

mutual
theorem cells_congr {I : Imm} {n : Nat → Prop} {ρ ρ' : Nat → Pl} (h : ∀ b, n b → ρ' b = ρ b) : ∀ {v : SV}, Wf I n v → cells ρ' v = cells ρ v
  | .bool _, _ | .int .., _ | .str _, _ | .nilp, _ | .nils, _ | .nilfn, _ | .nilmap, _ | .nilifc, _ | .ints .., _ | .bools .., _ | .vptr .., _ | .vslc .., _ | .tuple _, _ => by simp [cells]
  | .ptr .., g => by simp only [Wf] at g; simp [cells, h _ g]
  | .slc .., g => by simp only [Wf] at g; simp [cells, h _ g]
  | .map _, g => by simp only [Wf] at g; simp [cells, h _ g]
  | .fn _ a c, g => by simp only [Wf] at g; simp only [cells, vals_congr h g.1, vals_congr h g.2]
  | .arr s n' f, g => by
    simp only [Wf] at g
    simp only [cells, List.flatMap_def]
    congr 1
    apply List.map_congr_left
    intro i hi
    rw [cells_congr h (g i (List.mem_range.1 hi))]
  | .agg l, g => by simp only [Wf] at g; simp only [cells]; exact cellss_congr h g
theorem cellss_congr {I : Imm} {n : Nat → Prop} {ρ ρ' : Nat → Pl} (h : ∀ b, n b → ρ' b = ρ b) : ∀ {l : List SV}, Wfs I n l → cellss ρ' l = cellss ρ l
  | [], _ => by simp [cellss]
  | v :: l, g => by simp only [Wfs] at g; simp only [cellss, cells_congr h g.1, cellss_congr h g.2]
theorem vals_congr {I : Imm} {n : Nat → Prop} {ρ ρ' : Nat → Pl} (h : ∀ b, n b → ρ' b = ρ b) : ∀ {l : List SV}, Wfs I n l → vals ρ' l = vals ρ l
  | [], _ => by simp [vals]
  | .tuple l :: r, g => by simp only [Wfs, Wf] at g; simp only [vals, vals_congr h g.1, vals_congr h g.2]
  | .bool _ :: r, g | .int .. :: r, g | .str _ :: r, g | .ptr .. :: r, g | .nilp :: r, g | .slc .. :: r, g | .nils :: r, g | .vptr .. :: r, g | .vslc .. :: r, g | .nilfn :: r, g | .map _ :: r, g | .nilmap :: r, g | .nilifc :: r, g | .ints .. :: r, g | .bools .. :: r, g | .arr .. :: r, g | .agg _ :: r, g | .fn .. :: r, g => by
    simp only [Wfs] at g
    simp only [vals, vals_congr h g.2, cells_congr h g.1]
end

theorem val_congr {I : Imm} {n : Nat → Prop} {ρ ρ' : Nat → Pl} (h : ∀ b, n b → ρ' b = ρ b) {v : SV} (g : Wf I n v) : val ρ' v = val ρ v := by
  have := vals_congr (I := I) h (l := [v]) (by simp [Wfs, g])
  simpa [vals_eq] using this

/-! ### Going down a path -/
abbrev R (α : Type) := Option α

def nth {α β : Type} : List α → Nat → (α → R β) → R β
  | [], _, _ => none
  | v :: _, 0, k => k v
  | _ :: l, i + 1, k => nth l i k

def preLen : List SV → Nat → Nat
  | _, 0 => 0
  | [], _ => 0
  | v :: l, i + 1 => v.size + preLen l i

/-- What lies at the end of a path. -/
def sub {α : Type} : SV → Path → (SV → R α) → R α
  | v, [], k => k v
  | .agg l, .fld i o :: p, k => bif Nat.beq (preLen l i) o then nth l i fun v => sub v p k else none
  | .ints kd n f, [.idx i s], k => bif Nat.beq s 1 then bif decide (i < n) then k (.int kd (f i)) else none else none
  | .bools n f, [.idx i s], k => bif Nat.beq s 1 then bif decide (i < n) then k (.bool (f i)) else none else none
  | .arr s' n f, .idx i s :: p, k => bif Nat.beq s s' then bif Nat.beq (f i).size s then bif decide (i < n) then sub (f i) p k else none else none else none
  | _, _, _ => none

theorem bif_some {α : Type} {b : Bool} {x : R α} {r : α} (h : (bif b then x else none) = some r) : b = true ∧ x = some r := by
  cases b
  · simp at h
  · exact ⟨rfl, h⟩

theorem nth_spec {α β : Type} {k : α → R β} {r : β} : ∀ {l : List α} {i : Nat}, nth l i k = some r → ∃ v, l[i]? = some v ∧ k v = some r
  | [], i, h => by simp [nth] at h
  | v :: l, 0, h => ⟨v, by simp, by simpa [nth] using h⟩
  | v :: l, i + 1, h => by
    obtain ⟨u, h1, h2⟩ := nth_spec (l := l) (i := i) (by simpa [nth] using h)
    exact ⟨u, by simpa using h1, h2⟩

theorem cellss_at (ρ : Nat → Pl) : ∀ {l : List SV} {i : Nat} {v : SV}, l[i]? = some v → preLen l i + v.size ≤ sizes l ∧ ∀ j, j < v.size → (cellss ρ l)[preLen l i + j]? = (cells ρ v)[j]?
  | [], i, v, h => by simp at h
  | u :: l, 0, v, h => by
    simp at h; subst h
    refine ⟨by simp [preLen, sizes], fun j hj => ?_⟩
    simp only [preLen, cellss, Nat.zero_add]
    rw [List.getElem?_append_left (by rw [cells_length]; exact hj)]
  | u :: l, i + 1, v, h => by
    obtain ⟨h1, h2⟩ := cellss_at ρ (l := l) (i := i) (v := v) (by simpa using h)
    refine ⟨by simp only [preLen, sizes]; omega, fun j hj => ?_⟩
    simp only [preLen, cellss]
    rw [List.getElem?_append_right (by rw [cells_length]; omega), cells_length, ← h2 j hj]
    congr 1; omega

/-- v's cells from o on are u's. -/
def Lies (v : SV) (o : Nat) (u : SV) : Prop := o + u.size ≤ v.size ∧ ∀ ρ j, j < u.size → (cells ρ v)[o + j]? = (cells ρ u)[j]?

theorem Lies.refl (v : SV) : Lies v 0 v := ⟨by simp, fun ρ j _ => by simp⟩
theorem Lies.trans {v u x : SV} {o q : Nat} (h : Lies v o u) (g : Lies u q x) : Lies v (o + q) x :=
  ⟨by have := h.1; have := g.1; omega, fun ρ j hj => by
    have := g.1
    rw [← g.2 ρ j hj, ← h.2 ρ (q + j) (by omega)]; congr 1; omega⟩

theorem lies_fld {l : List SV} {i : Nat} {v : SV} (h : l[i]? = some v) : Lies (.agg l) (preLen l i) v :=
  ⟨by simp only [SV.size]; exact (cellss_at (fun _ => ⟨0, 0, 0⟩) h).1, fun ρ j hj => by simp only [cells]; exact (cellss_at ρ h).2 j hj⟩
theorem lies_ints {kd : IntKind} {n i : Nat} {f : Nat → Int} (h : i < n) : Lies (.ints kd n f) i (.int kd (f i)) :=
  ⟨by simp [SV.size]; omega, fun ρ j hj => by
    simp only [SV.size] at hj
    have : j = 0 := by omega
    subst this
    simp [cells, h]⟩
theorem lies_bools {n i : Nat} {f : Nat → Bool} (h : i < n) : Lies (.bools n f) i (.bool (f i)) :=
  ⟨by simp [SV.size]; omega, fun ρ j hj => by
    simp only [SV.size] at hj
    have : j = 0 := by omega
    subst this
    simp [cells, h]⟩
theorem lies_arr {s n i : Nat} {f : Nat → SV} (h : i < n) (hs : (f i).size = s) : Lies (.arr s n f) (i * s) (f i) := by
  refine ⟨?_, fun ρ j hj => ?_⟩
  · simp only [SV.size, hs]
    have := Nat.mul_le_mul_right s (Nat.succ_le_of_lt h); rw [Nat.succ_mul] at this; omega
  · simp only [cells]
    rw [flat_get s n _ (fun i => fit_length _ _) i j h (by omega), fit_same s _ (by rw [cells_length, hs])]

theorem sub_spec {α : Type} {k : SV → R α} {r : α} : ∀ {p : Path} {v : SV}, sub v p k = some r → ∃ u, k u = some r ∧ Lies v (offOf p) u ∧ ∀ I n, Wf I n v → Wf I n u
  | [], v, h => ⟨v, by cases v <;> simpa [sub] using h, .refl v, fun _ _ h => h⟩
  | .fld i o :: p, v, h => by
    cases v <;> simp only [sub] at h <;> try (simp at h; done)
    rename_i l
    obtain ⟨h1, h2⟩ := bif_some h
    obtain ⟨u, hu, h3⟩ := nth_spec h2
    obtain ⟨x, hx, h4, h5⟩ := sub_spec (p := p) h3
    have : preLen l i = o := by simpa using h1
    subst this
    exact ⟨x, hx, (lies_fld hu).trans h4, fun I n hw => h5 I n (wfs_iff.1 (by simpa only [Wf] using hw) _ (List.mem_of_getElem? hu))⟩
  | .idx i s :: p, v, h => by
    cases v
    case ints kd n f =>
      cases p
      · simp only [sub] at h
        obtain ⟨h1, h2⟩ := bif_some h
        obtain ⟨h3, h4⟩ := bif_some h2
        have : s = 1 := by simpa using h1
        subst this
        refine ⟨_, h4, ?_, fun _ _ _ => by simp [Wf]⟩
        have := lies_ints (kd := kd) (f := f) (of_decide_eq_true h3)
        simpa [offOf, Step.off] using this
      · simp [sub] at h
    case bools n f =>
      cases p
      · simp only [sub] at h
        obtain ⟨h1, h2⟩ := bif_some h
        obtain ⟨h3, h4⟩ := bif_some h2
        have : s = 1 := by simpa using h1
        subst this
        refine ⟨_, h4, ?_, fun _ _ _ => by simp [Wf]⟩
        have := lies_bools (f := f) (of_decide_eq_true h3)
        simpa [offOf, Step.off] using this
      · simp [sub] at h
    case arr s' n f =>
      have h' : (bif Nat.beq s s' then bif Nat.beq (f i).size s then bif decide (i < n) then sub (f i) p k else none else none else none) = some r := by
        cases p <;> simpa only [sub] using h
      obtain ⟨h1, h2⟩ := bif_some h'
      obtain ⟨h3, h4⟩ := bif_some h2
      obtain ⟨h5, h6⟩ := bif_some h4
      obtain ⟨x, hx, h7, h8⟩ := sub_spec h6
      have e2 : s = s' := by simpa using h1
      have e3 : (f i).size = s := by simpa using h3
      subst e2
      exact ⟨x, hx, (lies_arr (of_decide_eq_true h5) e3).trans h7, fun I n hw => h8 I n ((by simpa only [Wf] using hw : ∀ i, i < _ → Wf I n (f i)) i (of_decide_eq_true h5))⟩
    all_goals (cases p <;> simp [sub] at h)

/-! ### Writing at the end of a path -/
def upd {β : Type} (f : Nat → β) (i : Nat) (x : β) : Nat → β := fun j => bif Nat.beq j i then x else f j

def setNth {α : Type} : List SV → Nat → (SV → (SV → R α) → R α) → (List SV → R α) → R α
  | [], _, _, _ => none
  | v :: l, 0, g, k => g v fun v => k (v :: l)
  | v :: l, i + 1, g, k => setNth l i g fun l => k (v :: l)

def setSub {α : Type} : SV → Path → SV → (SV → R α) → R α
  | v, [], x, k => bif Nat.beq v.size x.size && !x.isTuple then k x else none
  | .agg l, .fld i o :: p, x, k => bif Nat.beq (preLen l i) o then setNth l i (fun v k => setSub v p x k) fun l => k (.agg l) else none
  | .ints kd n f, [.idx i s], .int kd' x, k => bif Nat.beq s 1 && decide (kd = kd') then bif decide (i < n) then k (.ints kd n (upd f i x)) else none else none
  | .bools n f, [.idx i s], .bool x, k => bif Nat.beq s 1 then bif decide (i < n) then k (.bools n (upd f i x)) else none else none
  | .arr s' n f, .idx i s :: p, x, k => bif Nat.beq s s' then bif Nat.beq (f i).size s then bif decide (i < n) then setSub (f i) p x fun y => k (.arr s n (upd f i y)) else none else none else none
  | _, _, _, _ => none

/-- u is v but for the cells from o on, which are x's. -/
structure Written (v : SV) (o : Nat) (x u : SV) : Prop where
  size : u.size = v.size
  room : o + x.size ≤ v.size
  new : ∀ ρ j, j < x.size → (cells ρ u)[o + j]? = (cells ρ x)[j]?
  old : ∀ ρ j, j < o ∨ o + x.size ≤ j → (cells ρ u)[j]? = (cells ρ v)[j]?

theorem Written.whole {v x : SV} (h : v.size = x.size) : Written v 0 x x :=
  ⟨h.symm, by omega, fun ρ j _ => by simp, fun ρ j hj => by
    rw [List.getElem?_eq_none (by rw [cells_length]; omega), List.getElem?_eq_none (by rw [cells_length]; omega)]⟩

theorem cellss_set (ρ : Nat → Pl) : ∀ {l : List SV} {i : Nat} {v u : SV}, l[i]? = some v → u.size = v.size →
    sizes (l.set i u) = sizes l ∧ preLen (l.set i u) i = preLen l i ∧ (∀ j, j < preLen l i ∨ preLen l i + v.size ≤ j → (cellss ρ (l.set i u))[j]? = (cellss ρ l)[j]?)
  | [], i, v, u, h, _ => by simp at h
  | y :: l, 0, v, u, h, hs => by
    simp at h; subst h
    refine ⟨by simp [sizes, hs], rfl, fun j hj => ?_⟩
    simp only [preLen] at hj
    simp only [List.set_cons_zero, cellss]
    rw [List.getElem?_append_right (by rw [cells_length]; omega), List.getElem?_append_right (by rw [cells_length]; omega), cells_length, cells_length, hs]
  | y :: l, i + 1, v, u, h, hs => by
    obtain ⟨h1, h2, h3⟩ := cellss_set ρ (l := l) (i := i) (v := v) (u := u) (by simpa using h) hs
    refine ⟨by simp [sizes, h1], by simp [preLen, h2], fun j hj => ?_⟩
    simp only [preLen] at hj
    simp only [List.set_cons_succ, cellss]
    by_cases hj' : j < y.size
    · rw [List.getElem?_append_left (by rw [cells_length]; omega), List.getElem?_append_left (by rw [cells_length]; omega)]
    · rw [List.getElem?_append_right (by rw [cells_length]; omega), List.getElem?_append_right (by rw [cells_length]; omega), cells_length, h3 _ (by omega)]

theorem setNth_spec {α : Type} {g : SV → (SV → R α) → R α} {k : List SV → R α} {r : α} : ∀ {l : List SV} {i : Nat}, setNth l i g k = some r →
    ∃ (v : SV) (k' : SV → R α), l[i]? = some v ∧ g v k' = some r ∧ ∀ u, k' u = k (l.set i u)
  | [], i, h => by simp [setNth] at h
  | v :: l, 0, h => ⟨v, _, by simp, by simpa [setNth] using h, fun u => by simp⟩
  | v :: l, i + 1, h => by
    obtain ⟨u, k', h1, h2, h3⟩ := setNth_spec (l := l) (i := i) (by simpa [setNth] using h)
    exact ⟨u, k', by simpa using h1, h2, fun y => by simpa using h3 y⟩

theorem written_fld {l : List SV} {i o : Nat} {v x u : SV} (h : l[i]? = some v) (hw : Written v o x u) : Written (.agg l) (preLen l i + o) x (.agg (l.set i u)) := by
  have hl := lies_fld h
  have hi : i < l.length := (List.getElem?_eq_some_iff.1 h).1
  have hu : (l.set i u)[i]? = some u := by simp [hi]
  have hl' := lies_fld hu
  have e0 := fun ρ => cellss_set ρ h hw.size
  have e2 := (e0 (fun _ => ⟨0, 0, 0⟩)).2.1
  rw [e2] at hl'
  refine ⟨by simp only [SV.size]; exact (e0 (fun _ => ⟨0, 0, 0⟩)).1, by have := hl.1; have := hw.room; omega, fun ρ j hj => ?_, fun ρ j hj => ?_⟩
  · rw [← hw.new ρ j hj, ← hl'.2 ρ (o + j) (by have := hw.room; have := hw.size; omega)]
    congr 1; omega
  · by_cases hc : j < preLen l i ∨ preLen l i + v.size ≤ j
    · simp only [cells]; exact (e0 ρ).2.2 j hc
    · have hj2 : preLen l i + (j - preLen l i) = j := by omega
      have h1 := hl'.2 ρ (j - preLen l i) (by have := hw.size; omega)
      have h2 := hl.2 ρ (j - preLen l i) (by omega)
      rw [hj2] at h1 h2
      rw [h1, h2]
      exact hw.old ρ _ (by omega)

theorem written_ints {kd : IntKind} {n i : Nat} {f : Nat → Int} {x : Int} (h : i < n) : Written (.ints kd n f) i (.int kd x) (.ints kd n (upd f i x)) := by
  refine ⟨by simp [SV.size], by simp [SV.size]; omega, fun ρ j hj => ?_, fun ρ j hj => ?_⟩
  · simp only [SV.size] at hj
    have : j = 0 := by omega
    subst this
    simp [cells, h, upd]
  · simp only [SV.size] at hj
    have hne : j ≠ i := by omega
    rcases Nat.lt_or_ge j n with h' | h' <;> simp [cells, upd, beq_ne hne, h']
theorem written_bools {n i : Nat} {f : Nat → Bool} {x : Bool} (h : i < n) : Written (.bools n f) i (.bool x) (.bools n (upd f i x)) := by
  refine ⟨by simp [SV.size], by simp [SV.size]; omega, fun ρ j hj => ?_, fun ρ j hj => ?_⟩
  · simp only [SV.size] at hj
    have : j = 0 := by omega
    subst this
    simp [cells, h, upd]
  · simp only [SV.size] at hj
    have hne : j ≠ i := by omega
    rcases Nat.lt_or_ge j n with h' | h' <;> simp [cells, upd, beq_ne hne, h']

theorem written_arr {s n i o : Nat} {f : Nat → SV} {x u : SV} (h : i < n) (hs : (f i).size = s) (hw : Written (f i) o x u) : Written (.arr s n f) (i * s + o) x (.arr s n (upd f i u)) := by
  have hus : upd f i u i = u := by simp [upd]
  have hl := lies_arr (f := f) h hs
  have hl' := lies_arr (f := upd f i u) (s := s) h (by rw [hus, hw.size, hs])
  rw [hus] at hl'
  have hm := Nat.mul_le_mul_right s (Nat.succ_le_of_lt h)
  rw [Nat.succ_mul] at hm
  refine ⟨by simp [SV.size], by have := hw.room; simp only [SV.size]; omega, fun ρ j hj => ?_, fun ρ j hj => ?_⟩
  · rw [← hw.new ρ j hj, ← hl'.2 ρ (o + j) (by have := hw.room; have := hw.size; omega)]
    congr 1; omega
  · by_cases hc : i * s ≤ j ∧ j < i * s + s
    · have hj2 : i * s + (j - i * s) = j := by omega
      have h1 := hl'.2 ρ (j - i * s) (by have := hw.size; omega)
      have h2 := hl.2 ρ (j - i * s) (by omega)
      rw [hj2] at h1 h2
      rw [h1, h2]
      exact hw.old ρ _ (by omega)
    · rcases Nat.eq_zero_or_pos s with hz | hz
      · subst hz
        have e : ∀ g : Nat → SV, cells ρ (.arr 0 n g) = [] := fun g => by simp [cells, fit]
        rw [e, e]
      · by_cases hj' : j < n * s
        · have hq : j / s < n := by rw [Nat.div_lt_iff_lt_mul hz]; exact hj'
          have hr : j % s < s := Nat.mod_lt _ hz
          have hd : j = j / s * s + j % s := by rw [Nat.mul_comm]; exact (Nat.div_add_mod j s).symm
          have a1 := flat_get s n (fun i' => fit s (cells ρ (upd f i u i'))) (fun i => fit_length _ _) (j / s) (j % s) hq hr
          have a2 := flat_get s n (fun i' => fit s (cells ρ (f i'))) (fun i => fit_length _ _) (j / s) (j % s) hq hr
          rw [← hd] at a1 a2
          simp only [cells]
          rw [a1, a2]
          have hji : j / s ≠ i := fun e => by rw [e] at hd; omega
          have hu : upd f i u (j / s) = f (j / s) := by simp [upd, beq_ne hji]
          rw [hu]
        · rw [List.getElem?_eq_none (by rw [cells_length]; simp only [SV.size]; omega), List.getElem?_eq_none (by rw [cells_length]; simp only [SV.size]; omega)]

theorem setSub_spec {α : Type} {x : SV} : ∀ {p : Path} {v : SV} {k : SV → R α} {r : α}, setSub v p x k = some r → ∃ u, k u = some r ∧ x.isTuple = false ∧ Written v (offOf p) x u ∧ ∀ I n, Wf I n v → Wf I n x → Wf I n u
  | [], v, k, r, h => by
    have h' : (bif Nat.beq v.size x.size && !x.isTuple then k x else none) = some r := by cases v <;> simpa only [setSub] using h
    obtain ⟨h1, h2⟩ := bif_some h'
    simp at h1
    exact ⟨x, h2, h1.2, Written.whole h1.1, fun _ _ _ h => h⟩
  | .fld i o :: p, v, k, r, h => by
    cases v <;> simp only [setSub] at h <;> try (simp at h; done)
    rename_i l
    obtain ⟨h1, h2⟩ := bif_some h
    obtain ⟨y, k', hy, h3, h4⟩ := setNth_spec h2
    obtain ⟨u, hu, h5, h6, h7⟩ := setSub_spec h3
    have : preLen l i = o := by simpa using h1
    subst this
    refine ⟨_, by rw [← h4]; exact hu, h5, written_fld hy h6, fun I n hw hx => ?_⟩
    simp only [Wf] at hw ⊢
    rw [wfs_iff] at hw ⊢
    intro z hz
    rcases List.mem_or_eq_of_mem_set hz with hz | rfl
    · exact hw z hz
    · exact h7 I n (hw _ (List.mem_of_getElem? hy)) hx
  | .idx i s :: p, v, k, r, h => by
    cases v
    case ints kd n f =>
      cases p
      · cases x <;> simp only [setSub] at h <;> try (simp at h; done)
        obtain ⟨h1, h2⟩ := bif_some h
        obtain ⟨h3, h4⟩ := bif_some h2
        simp at h1
        obtain ⟨e1, e2⟩ := h1
        subst e1; subst e2
        refine ⟨_, h4, rfl, ?_, fun _ _ _ _ => by simp [Wf]⟩
        have := written_ints (kd := kd) (f := f) (x := by assumption) (of_decide_eq_true h3)
        simpa [offOf, Step.off] using this
      · simp [setSub] at h
    case bools n f =>
      cases p
      · cases x <;> simp only [setSub] at h <;> try (simp at h; done)
        obtain ⟨h1, h2⟩ := bif_some h
        obtain ⟨h3, h4⟩ := bif_some h2
        simp at h1
        subst h1
        refine ⟨_, h4, rfl, ?_, fun _ _ _ _ => by simp [Wf]⟩
        have := written_bools (f := f) (x := by assumption) (of_decide_eq_true h3)
        simpa [offOf, Step.off] using this
      · simp [setSub] at h
    case arr s' n f =>
      have h' : (bif Nat.beq s s' then bif Nat.beq (f i).size s then bif decide (i < n) then setSub (f i) p x fun y => k (.arr s n (upd f i y)) else none else none else none) = some r := by
        cases p <;> simpa only [setSub] using h
      obtain ⟨h1, h2⟩ := bif_some h'
      obtain ⟨h3, h4⟩ := bif_some h2
      obtain ⟨h5, h6⟩ := bif_some h4
      obtain ⟨u, hu, h7, h8, h9⟩ := setSub_spec h6
      have e2 : s = s' := by simpa using h1
      have e3 : (f i).size = s := by simpa using h3
      subst e2
      refine ⟨_, hu, h7, written_arr (of_decide_eq_true h5) e3 h8, fun I n hw hx => ?_⟩
      simp only [Wf] at hw ⊢
      intro j hj
      by_cases hji : j = i
      · subst hji; simp [upd]; exact h9 I n (hw j hj) hx
      · simp only [upd, beq_ne hji, cond_false]; exact hw j hj
    all_goals (cases p <;> simp [setSub] at h)
end Go.Sh
