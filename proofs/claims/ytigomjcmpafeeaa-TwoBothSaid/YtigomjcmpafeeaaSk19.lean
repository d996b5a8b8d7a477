/-
  Words of 64 bits as whole numbers: and, or, exclusive or, shifts; and the end of a law of plain values.
-/
import Derived.Test.YtigomjcmpafeeaaSk18
import Derived.ChangeSame
import Derived.OpenShut
set_option linter.unusedSimpArgs false
set_option linter.unusedVariables false
namespace Go.Sh
open Go Go.RowKit

theorem ofInt_toNat {m : Int} (h0 : 0 ≤ m) (h1 : m < 18446744073709551616) : (BitVec.ofInt 64 m).toNat = m.toNat := by
  rw [BitVec.toNat_ofInt]
  congr 1
  omega

theorem bitop_and {m n : Int} (h0 : 0 ≤ m) (h1 : m < 18446744073709551616) (h2 : 0 ≤ n) (h3 : n < 18446744073709551616) : bitop .and .u64 m n = ((m.toNat &&& n.toNat : Nat) : Int) := by
  have e : bitop .and .u64 m n = IntKind.u64.wrap ((BitVec.ofInt 64 m &&& BitVec.ofInt 64 n).toNat : Int) := rfl
  have hlt := (BitVec.ofInt 64 m &&& BitVec.ofInt 64 n).isLt
  rw [e, wrap_u64 (by omega) (by omega), BitVec.toNat_and, ofInt_toNat h0 h1, ofInt_toNat h2 h3]
theorem bitop_or {m n : Int} (h0 : 0 ≤ m) (h1 : m < 18446744073709551616) (h2 : 0 ≤ n) (h3 : n < 18446744073709551616) : bitop .or .u64 m n = ((m.toNat ||| n.toNat : Nat) : Int) := by
  have e : bitop .or .u64 m n = IntKind.u64.wrap ((BitVec.ofInt 64 m ||| BitVec.ofInt 64 n).toNat : Int) := rfl
  have hlt := (BitVec.ofInt 64 m ||| BitVec.ofInt 64 n).isLt
  rw [e, wrap_u64 (by omega) (by omega), BitVec.toNat_or, ofInt_toNat h0 h1, ofInt_toNat h2 h3]
theorem bitop_xor {m n : Int} (h0 : 0 ≤ m) (h1 : m < 18446744073709551616) (h2 : 0 ≤ n) (h3 : n < 18446744073709551616) : bitop .xor .u64 m n = ((m.toNat ^^^ n.toNat : Nat) : Int) := by
  have e : bitop .xor .u64 m n = IntKind.u64.wrap ((BitVec.ofInt 64 m ^^^ BitVec.ofInt 64 n).toNat : Int) := rfl
  have hlt := (BitVec.ofInt 64 m ^^^ BitVec.ofInt 64 n).isLt
  rw [e, wrap_u64 (by omega) (by omega), BitVec.toNat_xor, ofInt_toNat h0 h1, ofInt_toNat h2 h3]
theorem bitop_andNot {m n : Int} (h0 : 0 ≤ m) (h1 : m < 18446744073709551616) (h2 : 0 ≤ n) (h3 : n < 18446744073709551616) : bitop .andNot .u64 m n = ((m.toNat &&& (18446744073709551615 - n.toNat) : Nat) : Int) := by
  have e : bitop .andNot .u64 m n = IntKind.u64.wrap ((BitVec.ofInt 64 m &&& ~~~BitVec.ofInt 64 n).toNat : Int) := rfl
  have hlt := (BitVec.ofInt 64 m &&& ~~~BitVec.ofInt 64 n).isLt
  rw [e, wrap_u64 (by omega) (by omega), BitVec.toNat_and, BitVec.toNat_not, ofInt_toNat h0 h1, ofInt_toNat h2 h3]

/-- The bits below place k. -/
theorem and_mask {m : Int} {k : Nat} (h0 : 0 ≤ m) (h1 : m < 18446744073709551616) (hk : k ≤ 64) : bitop .and .u64 m (2 ^ k - 1) = m % 2 ^ k := by
  have hp : (2 : Int) ^ k = ((2 ^ k : Nat) : Int) := by simp
  have hp1 : 1 ≤ 2 ^ k := Nat.one_le_two_pow
  have hp2 : 2 ^ k ≤ 2 ^ 64 := Nat.pow_le_pow_right (by omega) hk
  rw [hp, bitop_and h0 h1 (by omega) (by omega)]
  have e : (((2 ^ k : Nat) : Int) - 1).toNat = 2 ^ k - 1 := by omega
  rw [e, Nat.and_two_pow_sub_one_eq_mod]
  obtain ⟨n, rfl⟩ := Int.eq_ofNat_of_zero_le h0
  simp

/-- High bits set above a number of k bits. -/
theorem or_high {x : Int} {k : Nat} (h0 : 0 ≤ x) (h1 : x < 2 ^ k) (hk : k ≤ 64) : bitop .or .u64 x (18446744073709551616 - 2 ^ k) = x + (18446744073709551616 - 2 ^ k) := by
  have hp : (2 : Int) ^ k = ((2 ^ k : Nat) : Int) := by simp
  have hp1 : 1 ≤ 2 ^ k := Nat.one_le_two_pow
  have hp2 : 2 ^ k ≤ 2 ^ 64 := Nat.pow_le_pow_right (by omega) hk
  rw [hp] at h1 ⊢
  rw [bitop_or h0 (by omega) (by omega) (by omega)]
  obtain ⟨n, rfl⟩ := Int.eq_ofNat_of_zero_le h0
  have e : (18446744073709551616 - ((2 ^ k : Nat) : Int)).toNat = 2 ^ k * (2 ^ (64 - k) - 1) := by
    have : 2 ^ k * 2 ^ (64 - k) = 2 ^ 64 := by rw [← Nat.pow_add]; congr 1; omega
    rw [Nat.mul_sub, this]
    omega
  have hlt : n < 2 ^ k := by omega
  have h2 := Nat.two_pow_add_eq_or_of_lt hlt (2 ^ (64 - k) - 1)
  rw [e, Int.toNat_natCast, Nat.or_comm, ← h2]
  have e2 : ((2 ^ k * (2 ^ (64 - k) - 1) : Nat) : Int) = 18446744073709551616 - ((2 ^ k : Nat) : Int) := by rw [← e]; omega
  rw [Int.natCast_add, e2]
  omega

section
variable {H : Type} {enc : TypeId × Value → H} {P : Program}
open Go.WideShapes Go.ChangeShapes
/-- The end of a law: what was there is as it was. (After the guide's lemma for worlds of which 'Below' alone is known.) -/
theorem post_below {f : Func} {s : ChangeSpec} {apart fresh handsOn again : Bool} {W W' : World} {args : Array Value} {v : Value} {ds gs : List (DataW H)} {before pa pv : List MemPlace}
    (hW : DataW.Whole enc P f.params.toList s.vars apart W args.toList ds gs before)
    (hres : ∀ (b : Nat) (sp : Nat → Bool) (hd : Bool), DataW.TrodAll enc P W' b sp hd f.resultTypes.toList (v.resultList f.resultTypes.size) (s.fn H (ds ++ gs)).results [])
    (hargs : ∀ sp : Nat → Bool, (∀ p ∈ before, sp p.block = true) → DataW.TrodAll enc P W' 0 sp true f.params.toList args.toList (s.fn H (ds ++ gs)).args pa)
    (hvars : ∀ sp : Nat → Bool, (∀ p ∈ before, sp p.block = true) → DataW.TrodVars enc P W' sp s.vars (s.fn H (ds ++ gs)).vars pv)
    (hps : before = pa ++ pv) (hb : Below W.heap.size W W')
    (hok : ∀ (j : Nat) (t : TypeId) (r : Value), f.resultTypes[j]? = some t → (v.resultList f.resultTypes.size)[j]? = some r → Value.okWide P W' .any 0 t r) :
    s.post enc P f apart fresh handsOn again W args v W' := by
  have hlt : ∀ p ∈ before, p.block < W.heap.size := fun p hp => hW.lt p hp
  have hold : ∀ p ∈ before, (fun b => decide (b < W.heap.size)) p.block = true := fun p hp => by simpa using hlt p hp
  refine ⟨ds, gs, before, [], pa, pv, hW, hres _ _ _, hargs _ hold, hvars _ hold, World.keptBut_mono (fun p hp => ⟨hp, ?_⟩) (hb.frame (· ∈ before)), fun _ => ?_⟩
  · rw [hps, List.mem_append] at hp
    exact Or.inr hp
  · obtain ⟨_, _, _, _, _, hz, hn⟩ := hW
    refine ⟨hok, _, _, ([] ++ pa) ++ pv, ⟨[] ++ pa, pv, trodAll_append (hargs _ (fun _ _ => rfl)) (hres _ _ _), hvars _ (fun _ _ => rfl), rfl, ?_, ?_⟩, ?_⟩
    · intro b off hp
      have hin : MemPlace.cell b off ∈ before := by rw [hps]; simpa using hp
      rw [hb.frozen (hlt _ hin)]
      exact hz b off hin
    · intro ha
      have := hn ha
      rw [hps] at this
      simpa using this
    · intro p hp _
      rw [hps]
      simpa using hp
end

def noPl : Nat → Pl := fun _ => ⟨0, 0, 0⟩
/-- A law's call, from its contract. -/
theorem law_calls {P : Program} {f : FuncId} {args : List SV} {v : SV} (h : ∀ I, SPure P I f args v) (w : World) (hw : ∀ x ∈ args, Wf (fun i => w.heap[i]?) (fun _ => False) x) :
    Calls P f (args.map (val noPl)).toArray w fun e w' => e = .returned (val noPl v) ∧ Below w.heap.size w w' := by
  have hr : HRel (fun i => w.heap[i]?) noPl (fun _ => False) (fun _ => none) w := ⟨⟨fun b o hb => (nomatch hb)⟩, fun b o hb => (nomatch hb), fun b o b' o' hb => (nomatch hb), fun i o hi => hi, fun b o hb => (nomatch hb)⟩
  refine ((h _ _ hw) noPl _ w hr).mono ?_
  rintro e w' ⟨he, _, hx, _⟩
  exact ⟨he, ⟨hx.os, hx.tape, hx.output, hx.size, fun i hi => hx.frame i hi fun b o hb => (nomatch hb)⟩⟩
/-- A law's call, from the contract of its function. -/
theorem law_of {P : Program} {f : FuncId} {F : FP SV} {args : List SV} {v : SV} (c : ∀ I, OrcOk (α := SV) P I f (.pure F)) (hF : F args (fun x => some x) = some v) (w : World) (hw : ∀ x ∈ args, Wf (fun i => w.heap[i]?) (fun _ => False) x) :
    Calls P f (args.map (val noPl)).toArray w fun e w' => e = .returned (val noPl v) ∧ Below w.heap.size w w' := by
  refine law_calls (fun I => ?_) w hw
  obtain ⟨v', h1, h2⟩ := (c I).2 args (fun x => some x) v hF
  simp only [Option.some.injEq] at h1
  subst h1
  exact h2
end Go.Sh
