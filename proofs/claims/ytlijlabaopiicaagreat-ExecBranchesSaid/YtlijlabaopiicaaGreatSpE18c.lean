/-
  One instruction, done: what comes of it where it may be done.
-/
import Derived.Test.YtlijlabaopiicaaGreatSpE18b
namespace Go.Sh
open Go
set_option linter.unusedSimpArgs false
set_option linter.unusedVariables false
theorem known18_eq {α : Type} (k : Bool → R α) : s_law18_known k = k true := by kernel_rfl
abbrev noF : GFault := GFault.mk 0 0 0 false
theorem do_no' {α : Type} {Fd : Sg_z1g α} {Ff : Sg_z1b α} {Fl : Sg_zj α} {Fo : Sg_z13 α} {Fw : Sg_z1j α} {b : GBus} {s : GState} {w : Int} {i : GInsn} {r : GExec_result} (hd : ∀ k' : GInsn → Int → R α, Fd w k' = k' i 0) (hl : ∀ k' : Int → Bool → R α, Fl s i k' = k' 0 true)
    (hdo : ∀ (b' : GBus) (k' : GBus → GExec_result → R α), Fo b' s i k' = k' (NB b') r) (hr : r.ok = true) (hw : ∀ k' : Int → R α, Fw i k' = k' 0) (k : GBus → GState → GRetire → R α) :
    p_z3 Fd Ff Fl Fo Fw b s w k = k (NB (NB (NB b))) ⟨r.s.X, r.s.PC, r.s.Level, r.s.V, r.s.C, IntKind.u64.wrap (r.s.Done + 1)⟩ ⟨s.PC, w, 0, 0, false, noF, 0, false, false⟩ := by
  unfold p_z3
  have e0 : ((0 : Int) != 0) = false := rfl
  simp only [hd, hl, hdo, hw, hr, GN_eq, e0, Bool.not_true, cond_true, cond_false]
theorem do_no {α : Type} {b : GBus} {s : GState} {w : Int} {i : GInsn} {r : GExec_result} (hd : ∀ k' : GInsn → Int → R α, s_decode_Decode w k' = k' i 0) (hl : ∀ k' : Int → Bool → R α, s_legal_Insn s i k' = k' 0 true)
    (hdo : ∀ (b' : GBus) (k' : GBus → GExec_result → R α), s_exec_does b' s i k' = k' (NB b') r) (hr : r.ok = true) (hw : ∀ k' : Int → R α, s_insn_Writes i k' = k' 0) (k : GBus → GState → GRetire → R α) :
    s_exec_Do b s w k = k (NB (NB (NB b))) ⟨r.s.X, r.s.PC, r.s.Level, r.s.V, r.s.C, IntKind.u64.wrap (r.s.Done + 1)⟩ ⟨s.PC, w, 0, 0, false, noF, 0, false, false⟩ := do_no' hd hl hdo hr hw k
theorem do_trap' {α : Type} {Fd : Sg_z1g α} {Ff : Sg_z1b α} {Fl : Sg_zj α} {Fo : Sg_z13 α} {Fw : Sg_z1j α} {b : GBus} {s : GState} {w : Int} {i : GInsn} {r : GExec_result} (hd : ∀ k' : GInsn → Int → R α, Fd w k' = k' i 0) (hl : ∀ k' : Int → Bool → R α, Fl s i k' = k' 0 true)
    (hdo : ∀ (b' : GBus) (k' : GBus → GExec_result → R α), Fo b' s i k' = k' (NB b') r) (hr : r.ok = false) (k : GBus → GState → GRetire → R α) :
    p_z3 Fd Ff Fl Fo Fw b s w k = Ff s r.f w (fun u q => k (NB (NB (NB b))) u q) := by
  unfold p_z3
  have e0 : ((0 : Int) != 0) = false := rfl
  simp only [hd, hl, hdo, hr, GN_eq, e0, Bool.not_true, Bool.not_false, cond_true, cond_false]
theorem do_trap {α : Type} {b : GBus} {s : GState} {w : Int} {i : GInsn} {r : GExec_result} (hd : ∀ k' : GInsn → Int → R α, s_decode_Decode w k' = k' i 0) (hl : ∀ k' : Int → Bool → R α, s_legal_Insn s i k' = k' 0 true)
    (hdo : ∀ (b' : GBus) (k' : GBus → GExec_result → R α), s_exec_does b' s i k' = k' (NB b') r) (hr : r.ok = false) (k : GBus → GState → GRetire → R α) :
    s_exec_Do b s w k = s_exec_Fault s r.f w (fun u q => k (NB (NB (NB b))) u q) := do_trap' hd hl hdo hr k
theorem writes_eq {α : Type} {i : GInsn} (h : ∀ k' : Bool → R α, s_insn_Is i k' = k' true) (k : Int → R α) : s_insn_Writes i k = k i.Rd := by
  unfold s_insn_Writes p_z1j
  simp only [h, Bool.not_true, cond_false]
theorem does2' {α : Type} {Fc : Sg_z6 α} {Fj : Sg_z1e α} {Fa : Sg_z1m α} {Fn : Sg_zc α} {Fk : Sg_z1t α} {Ff : Sg_zt α} {Ft : Sg_z1u α} {Fr : Sg_z1v α} {b : GBus} {s : GState} {i : GInsn} (hc : ∀ k' : Int → R α, Fc i.Op k' = k' 2) (k : GBus → GExec_result → R α) : p_z13 Fc Fj Fa Fn Fk Ff Ft Fr b s i k = Fj s i (fun r => k (NB b) r) := by
  unfold p_z13
  rw [hc]
  simp only [GN_eq]
  rfl
end Go.Sh
