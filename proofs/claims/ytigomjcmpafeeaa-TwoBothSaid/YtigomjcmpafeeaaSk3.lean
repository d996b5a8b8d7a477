/-
  The operations that only look into memory, on shadow values (pval), and that the model's operation yields just that value in the world that it got.
-/
import Derived.Test.YtigomjcmpafeeaaSk2
import Derived.WalkKit
import Derived.Laws.CopyRow
import Derived.Laws.Small
import Derived.Laws.BytesArg
set_option linter.unusedSimpArgs false
set_option linter.unusedVariables false
namespace Go.Sh
open Go

section
variable {α : Type}

def bitop (op : BinOp) (kd : IntKind) (x y : Int) : Int :=
  kd.wrap (match op with
    | .and => BitVec.ofInt kd.bits x &&& BitVec.ofInt kd.bits y
    | .or => BitVec.ofInt kd.bits x ||| BitVec.ofInt kd.bits y
    | .xor => BitVec.ofInt kd.bits x ^^^ BitVec.ofInt kd.bits y
    | _ => BitVec.ofInt kd.bits x &&& ~~~ BitVec.ofInt kd.bits y).toNat
def gshl (kd : IntKind) (x y : Int) : Int := kd.wrap (x * 2 ^ (min y.toNat kd.bits))
def gshr (kd : IntKind) (x y : Int) : Int := x.fdiv (2 ^ (min y.toNat kd.bits))

/-- Comparisons (without an instance in the term). -/
def ltB (x y : Int) : Bool := decide (x < y)
def leB (x y : Int) : Bool := decide (x ≤ y)
theorem ltB_true {x y : Int} : (ltB x y = true) = (x < y) := by simp [ltB]
theorem ltB_false {x y : Int} : (ltB x y = false) = ¬ x < y := by simp [ltB]
theorem leB_true {x y : Int} : (leB x y = true) = (x ≤ y) := by simp [leB]
theorem leB_false {x y : Int} : (leB x y = false) = ¬ x ≤ y := by simp [leB]
def intop (op : BinOp) (kd : IntKind) (x y : Int) (k : SV → R α) : R α :=
  match op with
  | .add => k (.int kd (kd.wrap (x + y)))
  | .sub => k (.int kd (kd.wrap (x - y)))
  | .mul => k (.int kd (kd.wrap (x * y)))
  | .quo => bif decide (y = 0) then none else k (.int kd (kd.wrap (x.tdiv y)))
  | .rem => bif decide (y = 0) then none else k (.int kd (x.tmod y))
  | .and => k (.int kd (bitop .and kd x y))
  | .or => k (.int kd (bitop .or kd x y))
  | .xor => k (.int kd (bitop .xor kd x y))
  | .andNot => k (.int kd (bitop .andNot kd x y))
  | .eql => k (.bool (x == y))
  | .neq => k (.bool (x != y))
  | .lss => k (.bool (ltB x y))
  | .leq => k (.bool (leB x y))
  | .gtr => k (.bool (ltB y x))
  | .geq => k (.bool (leB y x))
  | _ => none

def strop (op : BinOp) (x y : ByteArray) (k : SV → R α) : R α :=
  match op with
  | .add => bif decide (((x.size + y.size : Nat) : Int) ≤ IntKind.i64.max) then k (.str (x ++ y)) else none
  | .eql => k (.bool (x.toList == y.toList))
  | .neq => k (.bool (!(x.toList == y.toList)))
  | _ => none

def isBoolSD : SD → Bool
  | .sc .bool => true
  | _ => false
def isPtrSD : SD → Bool
  | .sc (.pointer _) => true
  | _ => false
def isSliceSD : SD → Bool
  | .sc (.slice _) => true
  | _ => false
def isFuncSD : SD → Bool
  | .sc (.func ..) => true
  | _ => false

/-- Is the value nil? (of a pointer, a slice, a function value) -/
def nilness (sd : SD) : SV → Option Bool
  | .nilp => if isPtrSD sd then some true else none
  | .ptr .. | .vptr .. => if isPtrSD sd then some false else none
  | .nils => if isSliceSD sd then some true else none
  | .slc .. => if isSliceSD sd then some false else none
  | .vslc _ nl .. => if isSliceSD sd then some nl else none
  | .nilfn => if isFuncSD sd then some true else none
  | .fn .. => if isFuncSD sd then some false else none
  | _ => none

def okPart (g : Bool) (n : Nat) (u : SV) : Bool := (bif g then u.isAgg else !u.isAgg && !u.isTuple) && Nat.beq u.size n

def seqF (q : Shape → SV → SV → (Bool → R α) → R α) (a b : SV) : Nat → List (Nat × Nat × Bool × Shape) → (Bool → R α) → R α
  | _, [], k => k true
  | i, (o, sz, g, s) :: fs, k => sub a [.fld i o] fun x => bif okPart g sz x then sub b [.fld i o] fun y => bif okPart g sz y then
      q s x y fun c => seqF q a b (i + 1) fs fun c' => k (c && c') else none else none
/-- Are two values the same, part by part? -/
def seqB : Nat → Shape → SV → SV → (Bool → R α) → R α
  | 0, _, _, _, _ => none
  | d + 1, s, a, b, k => match s with
    | .bl => match a, b with
      | .bool x, .bool y => k (x == y)
      | _, _ => none
    | .it kd => match a, b with
      | .int j x, .int j' y => bif decide (j = kd) && decide (j' = kd) then k (x == y) else none
      | _, _ => none
    | .sr => match a, b with
      | .str x, .str y => k (x.toList == y.toList)
      | _, _ => none
    | .st fs => bif a.isAgg && b.isAgg then seqF (seqB d) a b 0 fs k else none
    | .ar n es s => match a, b, s with
      | .ints j m f, .ints j' m' g, .it kd => bif decide (j = kd) && decide (j' = kd) && (Nat.beq es 1 && (Nat.beq n m && Nat.beq n m')) then k ((List.range n).all fun i => f i == g i) else none
      | _, _, _ => none

def eqop (te : TE) (t : TypeId) (a b : SV) (k : Bool → R α) : R α :=
  match a, b with
  | .bool x, .bool y => tlook te t fun s => bif isBoolSD s.sd then k (x == y) else none
  | a, b => tlook te t fun s => match s.eqs with
    | some sh => bif a.isAgg && b.isAgg then seqB 8 sh a b k else none
    | none => match nilness s.sd a, nilness s.sd b with
      | some c, some true => k c
      | some true, some c => k c
      | _, _ => none

def intop2 (op : BinOp) (kd : IntKind) (x : Int) (kd' : IntKind) (y : Int) (k : SV → R α) : R α :=
  match op with
  | .shl => bif decide (y < 0) then none else k (.int kd (gshl kd x y))
  | .shr => bif decide (y < 0) then none else k (.int kd (gshr kd x y))
  | op => bif decide (kd = kd') then intop op kd x y k else none

def cmpop (te : TE) (op : BinOp) (t : TypeId) (a b : SV) (k : SV → R α) : R α :=
  match op with
  | .eql => eqop te t a b fun c => k (.bool c)
  | .neq => eqop te t a b fun c => k (.bool (!c))
  | _ => none

def binop (te : TE) (op : BinOp) (t : TypeId) (a b : SV) (k : SV → R α) : R α :=
  match a, b with
  | .int kd x, .int kd' y => intop2 op kd x kd' y k
  | .str x, .str y => strop op x y k
  | a, b => cmpop te op t a b k

def unop (op : UnOp) (a : SV) (k : SV → R α) : R α :=
  match op, a with
  | .neg, .int kd x => k (.int kd (kd.wrap (0 - x)))
  | .xor, .int kd x => k (.int kd (bitop .xor kd (if kd.signed then -1 else kd.max) x))
  | .not, .bool b => k (.bool (!b))
  | _, _ => none

def conv (d : SD) (a : SV) (k : SV → R α) : R α :=
  match d, a with
  | .sc (.int kd), .int _ x => k (.int kd (kd.wrap x))
  | .sc .string, .str s => k (.str s)
  | _, _ => none

def okLoad (s : STy) (u : SV) : Bool :=
  (match s.sd with | .sc _ => !u.isAgg && !u.isTuple | _ => u.isAgg) && Nat.beq u.size s.size

def bytesAt (s : ByteArray) (i : Nat) : Int := ((s[i]?.getD 0).toNat : Int)

/-- The elements from lo on, up to hi. -/
def slcop (te : TE) (t : TypeId) (x : SV) (lo : Int) (hi : Option Int) (k : SV → R α) : R α :=
  match x with
  | .str s => tlook te t fun d => match d.sd with
    | .sc .string =>
      let h : Int := hi.getD s.size
      bif decide (0 ≤ h) && decide (h ≤ s.size) then bif decide (0 ≤ lo) && decide (lo ≤ h) then k (.str (s.extract lo.toNat h.toNat)) else none else none
    | _ => none
  | .slc b p sz off len (some cap) => tlook te t fun d => match d.sd with
    | .sc (.slice e) => tlook te e fun es =>
      let h : Int := hi.getD len
      bif Nat.beq sz es.size then bif decide (0 ≤ h) && decide (h ≤ cap) then bif decide (0 ≤ lo) && decide (lo ≤ h) then
        k (.slc b p sz (if cap = lo.toNat then off else off + lo.toNat) (h.toNat - lo.toNat) (some (cap - lo.toNat))) else none else none else none
    | _ => none
  | .vslc td nl a len cap f => tlook te t fun d => match d.sd with
    | .sc (.slice e) => tlook te e fun es =>
      let h : Int := hi.getD len
      bif Nat.beq td.size es.size then bif decide (0 ≤ h) && decide (h ≤ len) then bif decide (0 ≤ lo) && decide (lo ≤ h) then
        k (.vslc td nl (if cap = lo.toNat then a else a.add (lo.toNat * td.size)) (h.toNat - lo.toNat) (cap - lo.toNat) (fun i => f (lo.toNat + i))) else none else none else none
    | _ => none
  | .ptr b p => tlook te t fun d => match d.sd with
    | .ar n _ es _ =>
      let h : Int := hi.getD n
      bif decide (0 ≤ h) && decide (h ≤ n) then bif decide (0 ≤ lo) && decide (lo ≤ h) then
        k (.slc b p es (if n = lo.toNat then 0 else lo.toNat) (h.toNat - lo.toNat) (some (n - lo.toNat))) else none else none
    | _ => none
  | .nils => tlook te t fun d => match d.sd with
    | .sc (.slice e) => tlook te e fun _ => bif decide (lo = 0) && decide (hi.getD 0 = 0) then k .nils else none
    | _ => none
  | _ => none

def gdK (o : Option Int) (d : Int) (k : Int → R α) : R α :=
  match o with
  | some x => k x
  | none => k d
/-- The same, its numbers reckoned as they come (nothing is left open in the value). -/
def slcop2 (te : TE) (t : TypeId) (x : SV) (lo hi : Option Int) (k : SV → R α) : R α :=
  match x with
  | .str s => tlook te t fun d => match d.sd with
    | .sc .string =>
      gdK hi s.size fun h => gdK lo 0 fun lo =>
      bif decide (0 ≤ h) && decide (h ≤ s.size) then bif decide (0 ≤ lo) && decide (lo ≤ h) then k (.str (s.extract lo.toNat h.toNat)) else none else none
    | _ => none
  | .slc b p sz off len (some cap) => tlook te t fun d => match d.sd with
    | .sc (.slice e) => tlook te e fun es =>
      gdK hi len fun h => gdK lo 0 fun lo =>
      bif Nat.beq sz es.size then bif decide (0 ≤ h) && decide (h ≤ cap) then bif decide (0 ≤ lo) && decide (lo ≤ h) then
        cond (Nat.beq cap lo.toNat) (k (.slc b p sz off (h.toNat - lo.toNat) (some (cap - lo.toNat)))) (k (.slc b p sz (off + lo.toNat) (h.toNat - lo.toNat) (some (cap - lo.toNat)))) else none else none else none
    | _ => none
  | .vslc td nl a len cap f => tlook te t fun d => match d.sd with
    | .sc (.slice e) => tlook te e fun es =>
      gdK hi len fun h => gdK lo 0 fun lo =>
      bif Nat.beq td.size es.size then bif decide (0 ≤ h) && decide (h ≤ len) then bif decide (0 ≤ lo) && decide (lo ≤ h) then
        cond (Nat.beq cap lo.toNat) (k (.vslc td nl a (h.toNat - lo.toNat) (cap - lo.toNat) (fun i => f (lo.toNat + i)))) (k (.vslc td nl (a.add (lo.toNat * td.size)) (h.toNat - lo.toNat) (cap - lo.toNat) (fun i => f (lo.toNat + i)))) else none else none else none
    | _ => none
  | .ptr b p => tlook te t fun d => match d.sd with
    | .ar n _ es _ =>
      gdK hi n fun h => gdK lo 0 fun lo =>
      bif decide (0 ≤ h) && decide (h ≤ n) then bif decide (0 ≤ lo) && decide (lo ≤ h) then
        cond (Nat.beq n lo.toNat) (k (.slc b p es 0 (h.toNat - lo.toNat) (some (n - lo.toNat)))) (k (.slc b p es lo.toNat (h.toNat - lo.toNat) (some (n - lo.toNat)))) else none else none
    | _ => none
  | .nils => tlook te t fun d => match d.sd with
    | .sc (.slice e) => tlook te e fun _ => gdK lo 0 fun lo => gdK hi 0 fun hi => bif decide (lo = 0) && decide (hi = 0) then k .nils else none
    | _ => none
  | _ => none
theorem gdK_eq (o : Option Int) (d : Int) (k : Int → R α) : gdK o d k = k (o.getD d) := by cases o <;> rfl
theorem cond_nb {β : Type} (a b : Nat) (k : β → R α) (x y : β) : cond (Nat.beq a b) (k x) (k y) = k (if a = b then x else y) := by
  cases h : Nat.beq a b
  · have : a ≠ b := fun e => by subst e; rw [Nat.beq_refl] at h; cases h
    rw [if_neg this]; rfl
  · rw [if_pos (Nat.eq_of_beq_eq_true h)]; rfl
theorem slcop2_eq (te : TE) (t : TypeId) (x : SV) (lo hi : Option Int) (k : SV → R α) : slcop2 te t x lo hi k = slcop te t x (lo.getD 0) hi k := by
  have e1 : ∀ b p sz off (h lo cap : Nat), cond (Nat.beq cap lo) (k (.slc b p sz off (h - lo) (some (cap - lo)))) (k (.slc b p sz (off + lo) (h - lo) (some (cap - lo)))) = k (.slc b p sz (if cap = lo then off else off + lo) (h - lo) (some (cap - lo))) := fun b p sz off h lo cap => by
    rw [cond_nb]; split <;> rfl
  have e2 : ∀ b p es (h lo n : Nat), cond (Nat.beq n lo) (k (.slc b p es 0 (h - lo) (some (n - lo)))) (k (.slc b p es lo (h - lo) (some (n - lo)))) = k (.slc b p es (if n = lo then 0 else lo) (h - lo) (some (n - lo))) := fun b p es h lo n => by
    rw [cond_nb]; split <;> rfl
  have e3 : ∀ (td : TD) (nl : Bool) (a : Addr) (h lo cap : Nat) (f : Nat → td.Val), cond (Nat.beq cap lo) (k (.vslc td nl a (h - lo) (cap - lo) f)) (k (.vslc td nl (a.add (lo * td.size)) (h - lo) (cap - lo) f)) = k (.vslc td nl (if cap = lo then a else a.add (lo * td.size)) (h - lo) (cap - lo) f) := fun td nl a h lo cap f => by
    rw [cond_nb]; split <;> rfl
  unfold slcop2 slcop
  simp only [gdK_eq, e1, e2, e3]

def optInt (g : EF) : Option Operand → (Option Int → R α) → R α
  | none, k => k none
  | some x, k => ev g x fun
    | .int _ n => k (some n)
    | _ => none

def buildGo (g : EF) (place : Nat → (Nat → Nat → Path → R α) → R α) : List (Nat × Operand) → SV → (SV → R α) → R α
  | [], acc, k => k acc
  | (i, x) :: l, acc, k => ev g x fun v => place i fun _ size p => bif Nat.beq v.size size then setSub acc p v fun acc => buildGo g place l acc k else none

def stPlace (fs : List (Nat × Nat × Bool)) (i : Nat) (k : Nat → Nat → Path → R α) : R α := nth fs i fun f => k f.1 f.2.1 [.fld i f.1]
def arPlace (es : Nat) (i : Nat) (k : Nat → Nat → Path → R α) : R α := k (i * es) es [.idx i es]

def pickmx (mx : Bool) (x y : Int) : Int := match mx with
  | true => if x < y then y else x
  | false => if y < x then y else x

def mnmx (mx : Bool) (g : EF) : SV → List Operand → (SV → R α) → R α
  | acc, [], k => k acc
  | .int kd x, y :: l, k => ev g y fun
    | .int _ y => mnmx mx g (.int kd (pickmx mx x y)) l k
    | _ => none
  | _, _ :: _, _ => none

/-- A string of bytes told as numbers. -/
def strOf (f : Nat → Int) (n : Nat) : ByteArray := strOfNums ((List.range n).map f)

/-- Conversions; bytes to a string looks into memory. -/
def convH (te : TE) (s d : SD) (h : HF) (a : SV) (k : SV → R α) : R α :=
  match a with
  | .slc b p sz off len _ => match s, d with
    | .sc (.slice e), .sc .string => tlook te e fun es => match es.sd with
      | .sc (.int .u8) => match h b with
        | some (.cells _ v) => sub v p fun
          | .ints .u8 m f => bif Nat.beq sz 1 && decide (off + len ≤ m) then k (.str (strOf (fun i => f (off + i)) len)) else none
          | _ => none
        | _ => none
      | _ => none
    | _, _ => none
  | .nils => match s, d with
    | .sc (.slice e), .sc .string => tlook te e fun es => match es.sd with
      | .sc (.int .u8) => k (.str .empty)
      | _ => none
    | _, _ => none
  | a => conv d a k

/-- The operations that only look. -/
def pval (te : TE) (op : Op) (g : EF) (h : HF) (k : SV → R α) : R α :=
  match op with
  | .move x => ev g x k
  | .assign x => ev g x k
  | .pick c a b => ev g c fun
    | .bool true => ev g a k
    | .bool false => ev g b k
    | _ => none
  | .load t a => tlook te t fun s => ev g a fun
    | .ptr b p => match h b with
      | some (.cells _ v) => sub v p fun u => bif okLoad s u then k u else none
      | _ => none
    | .vptr _ v => bif okLoad s v then k v else none
    | _ => none
  | .nilCheck x => ev g x fun
    | .ptr b p => k (.ptr b p)
    | .vptr a v => k (.vptr a v)
    | .fn (.func f) a c => k (.fn (.func f) a c)
    | _ => none
  | .binOp op t x y _ => ev g x fun a => ev g y fun b => binop te op t a b k
  | .unOp op _ x => ev g x fun a => unop op a k
  | .convert src dst x => tlook te src fun s => tlook te dst fun d => ev g x fun a => convH te s.sd d.sd h a k
  | .fieldAddr t x i => tlook te t fun s => match s.sd with
    | .st fs => nth fs i fun f => bif Nat.beq f.2.1 0 then none else ev g x fun
      | .ptr b p => k (.ptr b (p ++ [.fld i f.1]))
      | .vptr a v => sub v [.fld i f.1] fun u => k (.vptr (a.add f.1) u)
      | _ => none
    | _ => none
  | .field t x i => tlook te t fun s => match s.sd with
    | .st fs => nth fs i fun f => ev g x fun
      | .agg l => sub (.agg l) [.fld i f.1] fun u => bif okPart f.2.2 f.2.1 u then k u else none
      | _ => none
    | _ => none
  | .indexAddr t x ix => tlook te t fun s => ev g x fun x => ev g ix fun
    | .int _ i => match s.sd, x with
      | .ar n _ es _, .ptr b p => bif decide (0 ≤ i) && decide (i < (n : Int)) then k (.ptr b (p ++ [.idx i.toNat es])) else none
      | .ar n _ es _, .vptr a v => bif decide (0 ≤ i) && decide (i < (n : Int)) then sub v [.idx i.toNat es] fun u => k (.vptr (a.add (i.toNat * es)) u) else none
      | .sc (.slice e), .slc b p sz off len _ => tlook te e fun es => bif Nat.beq sz es.size then bif decide (0 ≤ i) && decide (i < (len : Int)) then k (.ptr b (p ++ [.idx (off + i.toNat) sz])) else none else none
      | .sc (.slice e), .vslc td _ a len _ f => tlook te e fun es => bif Nat.beq td.size es.size then bif decide (0 ≤ i) && decide (i < (len : Int)) then k (.vptr (a.add (i.toNat * td.size)) (td.sv (f i.toNat))) else none else none
      | _, _ => none
    | _ => none
  | .index t x ix => tlook te t fun s => ev g x fun x => ev g ix fun
    | .int _ i => match s.sd, x with
      | .ar n _ es ea, x => bif x.isAgg then bif decide (0 ≤ i) && decide (i < (n : Int)) then sub x [.idx i.toNat es] fun u => bif okPart ea es u then k u else none else none else none
      | .sc .string, .str z => bif decide (0 ≤ i) && decide (i < (z.size : Int)) then k (.int .u8 (bytesAt z i.toNat)) else none
      | _, _ => none
    | _ => none
  | .build t ps => tlook te t fun s => match s.sd with
    | .st fs => buildGo g (stPlace fs) ps.toList s.zero fun u => bif u.isAgg then k u else none
    | .ar _ _ es _ => buildGo g (arPlace es) ps.toList s.zero fun u => bif u.isAgg then k u else none
    | _ => none
  | .slice t x lo hi mx => match mx with
    | some _ => none
    | none => ev g x fun x => optInt g lo fun lo => optInt g hi fun hi => slcop2 te t x lo hi k
  | .extract x i => ev g x fun
    | .tuple l => nth l i k
    | _ => none
  | .makeFunc f fs cs => evs g fs.toList fun fs => evs g cs.toList fun cs => k (.fn f fs cs)
  | .call c => match c.callee with
    | .builtin .len => match c.args.toList, c.argTypes.toList with
      | [x], [t] => tlook te t fun s => ev g x fun x => match s.sd, x with
        | .sc .string, .str z => k (.int .i64 z.size)
        | .sc (.slice _), .slc _ _ _ _ n _ => k (.int .i64 n)
        | .sc (.slice _), .vslc _ _ _ n _ _ => k (.int .i64 n)
        | .sc (.slice _), .nils => k (.int .i64 0)
        | .ar n _ _ _, _ => k (.int .i64 n)
        | _, _ => none
      | _, _ => none
    | .builtin .max => match c.args.toList with
      | x :: l => ev g x fun x => match x with | .int _ _ => mnmx true g x l k | _ => none
      | _ => none
    | .builtin .min => match c.args.toList with
      | x :: l => ev g x fun x => match x with | .int _ _ => mnmx false g x l k | _ => none
      | _ => none
    | _ => none
  | _ => none
end
end Go.Sh
