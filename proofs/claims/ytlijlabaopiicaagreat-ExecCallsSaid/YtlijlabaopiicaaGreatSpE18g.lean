/-
  The law ExecCalls, plainly.
-/
import Derived.Test.YtlijlabaopiicaaGreatSpE18e
namespace Go.Sh
open Go
set_option linter.unusedSimpArgs false
set_option linter.unusedVariables false
abbrev b0 : GBus := (GBus.mk (fun _ => 0) 0 18446744073709551615 (upd (upd (upd (fun _ => (GPort.mk (Row.mk 0 fun _ => 0) (Row.mk 0 fun _ => 0) 0)) 1 (GPort.mk (Row.mk 0 fun _ => 0) (Row.mk 0 fun _ => 0) 0)) 2 (GPort.mk (Row.mk 0 fun _ => 0) (Row.mk 0 fun _ => 0) 0)) 3 (GPort.mk (Row.mk 0 fun _ => 0) (Row.mk 0 fun _ => 0) 0)))
def outS (x : R GState) : GState := match x with | some u => u | none => ⟨fun _ => 0, 0, 0, false, fun _ => 0, 0⟩
abbrev st0 (P T L : Int) (V : Bool) : GState := ⟨fun _ => 0, P, L, V, upd (fun _ => 0) 4 T, 0⟩
structure Cleaned (P T L : Int) (V : Bool) (u : GState) : Prop where
  pc : u.PC = bitop .andNot .u64 P 3
  lv : u.Level = L
  v : u.V = V
  c0 : u.C 0 = 0
  c1 : u.C 1 = 0
  c4 : u.C 4 = bitop .and .u64 T 18446744073709551612
theorem clean_0f (P T : Int) : ∃ u, (∀ {α : Type} (k : GState → R α), s_ref18_Clean (st0 P T 0 false) k = k u) ∧ Cleaned P T 0 false u :=
  ⟨outS (s_ref18_Clean (st0 P T 0 false) some), fun k => by kernel_rfl, by kernel_rfl, by kernel_rfl, by kernel_rfl, by kernel_rfl, by kernel_rfl, by kernel_rfl⟩
theorem clean_0t (P T : Int) : ∃ u, (∀ {α : Type} (k : GState → R α), s_ref18_Clean (st0 P T 0 true) k = k u) ∧ Cleaned P T 0 true u :=
  ⟨outS (s_ref18_Clean (st0 P T 0 true) some), fun k => by kernel_rfl, by kernel_rfl, by kernel_rfl, by kernel_rfl, by kernel_rfl, by kernel_rfl, by kernel_rfl⟩
theorem clean_1f (P T : Int) : ∃ u, (∀ {α : Type} (k : GState → R α), s_ref18_Clean (st0 P T 1 false) k = k u) ∧ Cleaned P T 1 false u :=
  ⟨outS (s_ref18_Clean (st0 P T 1 false) some), fun k => by kernel_rfl, by kernel_rfl, by kernel_rfl, by kernel_rfl, by kernel_rfl, by kernel_rfl, by kernel_rfl⟩
theorem clean_1t (P T : Int) : ∃ u, (∀ {α : Type} (k : GState → R α), s_ref18_Clean (st0 P T 1 true) k = k u) ∧ Cleaned P T 1 true u :=
  ⟨outS (s_ref18_Clean (st0 P T 1 true) some), fun k => by kernel_rfl, by kernel_rfl, by kernel_rfl, by kernel_rfl, by kernel_rfl, by kernel_rfl, by kernel_rfl⟩
theorem clean_any (P T : Int) {L : Int} (h : L = 0 ∨ L = 1) (V : Bool) : ∃ u, (∀ {α : Type} (k : GState → R α), s_ref18_Clean (st0 P T L V) k = k u) ∧ Cleaned P T L V u := by
  rcases h with rfl | rfl <;> cases V
  · exact clean_0f P T
  · exact clean_0t P T
  · exact clean_1f P T
  · exact clean_1t P T
def stM (c L : Int) (V g : Bool) : Int :=
  let c3 := setS (setS (setS c 11 2 (IntKind.u64.wrap L)) 39 1 (bif V then 1 else 0)) 38 1 (bif g then 1 else 0)
  setS (setS c3 7 1 (bif bitsS c3 3 1 == 1 then 1 else 0)) 3 1 0
theorem entMC_0 (s : GState) (f : GFault) : entMC s f 0 = stM (s.C 0) s.Level s.V f.GVA := by
  simp only [entMC, enterC, putC, toldM, stM, bitS]
  rfl
theorem entMC_far (s : GState) (f : GFault) {i : Nat} (h : i ≠ 0) : entMC s f i = toldM s f i := by
  unfold entMC enterC
  show putC (putC (putC (putC (upd (toldM s f) 0 _) 0 39 s.V) 0 38 f.GVA) 0 7 _) 0 3 false i = _
  rw [putC_far h, putC_far h, putC_far h, putC_far h, upd_ne _ _ h]
theorem back_level {L : Int} (h : L = 0 ∨ L = 1) (V : Bool) : IntKind.i64.wrap (bitsS (stM 0 L V false) 11 2) = L ∧ (bif bitsS (stM 0 L V false) 39 1 == 1 then IntKind.i64.wrap (bitsS (stM 0 L V false) 11 2) != 3 else false) = V := by
  rcases h with rfl | rfl <;> cases V <;> exact ⟨by kernel_rfl, by kernel_rfl⟩
theorem andNot3 (x : Int) : bitop .and .u64 x 18446744073709551612 = bitop .andNot .u64 x 3 := by
  have e1 : bitop .and .u64 x 18446744073709551612 = IntKind.u64.wrap ((BitVec.ofInt 64 x &&& BitVec.ofInt 64 18446744073709551612).toNat : Int) := rfl
  have e2 : bitop .andNot .u64 x 3 = IntKind.u64.wrap ((BitVec.ofInt 64 x &&& ~~~ BitVec.ofInt 64 3).toNat : Int) := rfl
  have e3 : ~~~ BitVec.ofInt 64 3 = BitVec.ofInt 64 18446744073709551612 := rfl
  rw [e1, e2, e3]
theorem calls_core {α : Type} {Fk : Sg_z13 α} {Fc : Sg_z12 α} {Fd : Sg_z3 α} {x0 x1 x3 L q : Int} {x2 : Bool} {u s1 s2 : GState} {b1 b2 : GBus} (hk : ∀ k' : Bool → R α, Fk k' = k' true)
    (hL : IntKind.i64.wrap (Int.tmod x1 2) = L) (hL2 : L = 0 ∨ L = 1)
    (hc : ∀ k' : GState → R α, Fc (st0 (IntKind.u64.wrap x0) (IntKind.u64.wrap x3) L x2) k' = k' u)
    (hq : q = if L = 0 then 8 else if x2 then 10 else 9)
    (h1 : ∀ k' : GBus → GState → GRetire → R α, Fd b0 u 115 k' = k' b1 s1 ⟨u.PC, 115, 0, 0, true, ⟨q, 0, 0, false⟩, 3, false, false⟩)
    (h2 : ∀ k' : GBus → GState → GRetire → R α, Fd b0 s1 807403635 k' = k' b2 s2 ⟨s1.PC, 807403635, 0, 0, false, noF, 0, false, false⟩)
    (p1 : s1.PC = bitop .andNot .u64 (IntKind.u64.wrap x3) 3) (p2 : s1.C 6 = u.PC) (p3 : s2.PC = u.PC) (p4 : s2.Level = u.Level) (p5 : s2.V = u.V) (p6 : s2.Done = IntKind.u64.wrap (u.Done + 1)) (k : Bool → R α) : p_z25 Fk Fc Fd x0 x1 x2 x3 k = k true := by
  unfold p_z25
  simp only [hk, Bool.not_true, cond_false, hL]
  have hc' := hc
  simp only [st0] at hc'
  simp only [hc', h1, h2, GN_eq]
  simp only [p1, p2, p3, p4, p5, p6]
  have z (x : Int) : (x == x) = true := beqS rfl
  have zb (x : Bool) : (x == x) = true := by cases x <;> rfl
  subst hq
  rcases hL2 with rfl | rfl <;> cases x2 <;> simp only [z, zb, cond_true, cond_false, Bool.not_false] <;> rfl
noncomputable def sCalls {α : Type} : Sg_z25 α := fun pc lv v tv k => gX ((0 ≤ pc ∧ pc < 4294967296) ∧ (0 ≤ lv ∧ lv < 256) ∧ (0 ≤ tv ∧ tv < 4294967296)) (k true)
theorem calls_eq {α : Type} {x0 x1 x3 : Int} {x2 : Bool} (h : (0 ≤ x0 ∧ x0 < 4294967296) ∧ (0 ≤ x1 ∧ x1 < 256) ∧ (0 ≤ x3 ∧ x3 < 4294967296)) (k : Bool → R α) : p_z25 s_law18_known s_ref18_Clean s_exec_Do x0 x1 x2 x3 k = k true := by
  obtain ⟨h0, h1, h3⟩ := h
  obtain ⟨L, hL, hL2⟩ : ∃ L, IntKind.i64.wrap (Int.tmod x1 2) = L ∧ (L = 0 ∨ L = 1) := by
    refine ⟨_, rfl, ?_⟩
    rw [Int.tmod_eq_emod_of_nonneg h1.1, wrap_i64 (by omega) (by omega)]
    omega
  obtain ⟨u, hu, hcl⟩ := clean_any (IntKind.u64.wrap x0) (IntKind.u64.wrap x3) hL2 x2
  have hl : u.Level = 0 ∨ u.Level = 1 := by rw [hcl.lv]; exact hL2
  have hcall : callC u = if L = 0 then 8 else if x2 then 10 else 9 := by unfold callC; rw [hcl.lv, hcl.v]
  have e0 : entMC u ⟨callC u, 0, 0, false⟩ 0 = stM 0 L x2 false := by rw [entMC_0, hcl.c0, hcl.lv, hcl.v]
  have b := back_level hL2 x2
  have h1' := fun (k' : GBus → GState → GRetire → R α) => do_ecall hl hcl.c1 b0 k'
  have h2' := fun (k' : GBus → GState → GRetire → R α) => do_mret (s := entM u ⟨callC u, 0, 0, false⟩) rfl b0 k'
  have hk' := fun (k' : Bool → R α) => known18_eq k'
  have hc' := fun (k' : GState → R α) => hu k'
  have q1 : (entM u ⟨callC u, 0, 0, false⟩).PC = bitop .andNot .u64 (IntKind.u64.wrap x3) 3 := by
    show u.C 4 = _
    rw [hcl.c4, andNot3]
  have q2 : (entM u ⟨callC u, 0, 0, false⟩).C 6 = u.PC := by
    show entMC u ⟨callC u, 0, 0, false⟩ 6 = _
    rw [entMC_far _ _ (by decide)]; rfl
  have q3 : mretC (entM u ⟨callC u, 0, 0, false⟩) 6 = u.PC := by
    rw [mretC_far _ (by decide)]
    exact q2
  have q4 : mretL (entM u ⟨callC u, 0, 0, false⟩) = u.Level := by
    show IntKind.i64.wrap (bitsS (entMC u ⟨callC u, 0, 0, false⟩ 0) 11 2) = _
    rw [e0, b.1, hcl.lv]
  have q5 : (mretS (entM u ⟨callC u, 0, 0, false⟩)).V = u.V := by
    show (bif bitsS (entMC u ⟨callC u, 0, 0, false⟩ 0) 39 1 == 1 then IntKind.i64.wrap (bitsS (entMC u ⟨callC u, 0, 0, false⟩ 0) 11 2) != 3 else false) = _
    rw [e0, b.2, hcl.v]
  have q6 : IntKind.u64.wrap ((entM u ⟨callC u, 0, 0, false⟩).Done + 1) = IntKind.u64.wrap (u.Done + 1) := rfl
  generalize @s_exec_Do α = Fd at h1' h2' ⊢
  generalize @s_ref18_Clean α = Fc at hc' ⊢
  generalize @s_law18_known α = Fk at hk' ⊢
  generalize entM u ⟨callC u, 0, 0, false⟩ = s1 at *
  exact calls_core hk' hL hL2 hc' hcall h1' h2' q1 q2 q3 q4 q5 q6 k
end Go.Sh
