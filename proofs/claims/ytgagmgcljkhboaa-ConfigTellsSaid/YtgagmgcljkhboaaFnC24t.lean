/-
  Partitions: ConfigTells (printed by wip/pr/pr.py): the functions come to just that.
-/
import Derived.Test.YtgagmgcljkhboaaFnC24
import Derived.Test.YtgagmgcljkhboaaSpC24t
namespace Go.Proofs.Ytgagmgcljkhboaa
open Go Go.Sh Go.Proofs
set_option linter.unusedVariables false
set_option linter.unusedSimpArgs false
abbrev PT_ref26_isFrame : TE := [(3, ⟨.int .i64 0, 1, 8, .sc (.int .i64), none⟩)]
theorem PT_ref26_isFrame_ok : Prg Try.prog PT_ref26_isFrame := ⟨(.cons pe_3 (TEok.nil _)), by kernel_rfl⟩

noncomputable abbrev PO_ref26_isFrame {α : Type}  : ORC α := []
set_option maxRecDepth 100000 in
theorem ok_ref26_isFrame {α : Type}  (x0 : Int) (k : Bool → R α) : bodyL PT_ref26_isFrame (PO_ref26_isFrame ) [] ⟨1, []⟩ Try.f18 [(.int .i64 x0)] emp (fun v _ => dR_ref26_isFrame v k) = p_ref26_isFrame  x0 k := by kernel_rfl
theorem mk_ref26_isFrame {α : Type} {I : Imm}  : OrcOk (α := α) Try.prog I 18 (.pure (ad_ref26_isFrame (p_ref26_isFrame ))) := by
  refine orc_pureK PT_ref26_isFrame_ok (O := PO_ref26_isFrame ) (OOk.nil) (L := []) ⟨1, []⟩ Try.func18 (by kernel_rfl) (by kernel_rfl) (by kernel_rfl) FLOk.nil ?_
  intro args k r hk
  unfold ad_ref26_isFrame at hk
  split at hk <;> try (cases hk; done)
  obtain ⟨x0, rfl, hk0⟩ := decI_spec hk
  have hkz := hk0
  refine ⟨by simp [Ids, Idss], fun v => dR_ref26_isFrame v (fun r0 => k (.bool r0)), ?_, fun v hv => ?_⟩
  · rw [ok_ref26_isFrame]; exact hkz
  · obtain ⟨r0, rfl, hv1⟩ := dR_ref26_isFrame_spec hv; exact ⟨hv1, by simp [Ids, Idss]⟩
abbrev PT_ref26_in : TE := [(3, ⟨.int .i64 0, 1, 8, .sc (.int .i64), none⟩), (23, ⟨.nils, 1, 24, .sc (.slice 3), none⟩)]
theorem PT_ref26_in_ok : Prg Try.prog PT_ref26_in := ⟨(.cons pe_3 (.cons pe_23 (TEok.nil _))), by kernel_rfl⟩

noncomputable abbrev PO_lp_ref26_in_2 {α : Type}  : ORC α := []
set_option maxRecDepth 100000 in
theorem okb_ref26_in_2 {α : Type}  (s : S_ref26_in_2) (kn : S_ref26_in_2 → R α) (k0 : X_ref26_in_2_0 → R α) (k1 : X_ref26_in_2_1 → R α) : seval PT_ref26_in (PO_lp_ref26_in_2 ) [] Try.f19.ntmps ⟨1, []⟩ (loopNo Try.f19 0) (E_ref26_in_2 s) (hp (OS_ref26_in_2 s)) (dL_ref26_in_2 kn k0 k1) = b_ref26_in_2  s kn k0 k1 := by kernel_rfl
theorem snd_ref26_in_2 {α : Type} {I : Imm}  {L : SgL_ref26_in_2 α} (hL : LoopOk (α := α) (fun (s : S_ref26_in_2) => b_ref26_in_2  s (fun s => some (.inl s)) (fun x => some (.inr (.inl x))) (fun x => some (.inr (.inr x)))) (fun (s : S_ref26_in_2) (k : X_ref26_in_2 → R α) => L s (fun x => k (.inl x)) (fun x => k (.inr x)))) : SoundC Try.prog I Try.f19.ntmps (.loop (loopNo Try.f19 0)) (Lf_ref26_in_2 L) := by
  have run := fun (s : S_ref26_in_2) (z : (S_ref26_in_2 ⊕ X_ref26_in_2)) (h : (fun (s : S_ref26_in_2) => b_ref26_in_2  s (fun s => some (.inl s)) (fun x => some (.inr (.inl x))) (fun x => some (.inr (.inr x)))) s = some z) => seval_spec (α := (S_ref26_in_2 ⊕ X_ref26_in_2)) (I := I) PT_ref26_in_ok.te PT_ref26_in_ok.mix (O := PO_lp_ref26_in_2 ) (OOk.nil) (L := []) (N := Try.f19.ntmps) (n := ⟨1, []⟩) (loopNo Try.f19 0) (by kernel_rfl) (LOk.nil) (E_ref26_in_2 s) (hp (OS_ref26_in_2 s)) _ z ((okb_ref26_in_2  s (fun s => some (.inl s)) (fun x => some (.inr (.inl x))) (fun x => some (.inr (.inr x)))).trans h)
  refine loop_law_same (stp := fun (s : S_ref26_in_2) => b_ref26_in_2  s (fun s => some (.inl s)) (fun x => some (.inr (.inl x))) (fun x => some (.inr (.inr x)))) (E := E_ref26_in_2) (os := OS_ref26_in_2) (EX := EX_ref26_in_2) (osX := OX_ref26_in_2) (xx := xx_ref26_in_2) (fun s o ho => ?_) (fun x o ho => ?_) (fun x => ?_) (fun s s1 hs => ?_) (fun s x hs => ?_) (fun env σ k r h => ?_)
  · simp only [OS_ref26_in_2, List.mem_cons, List.not_mem_nil, or_false] at ho
  · rcases x with x | x <;> simp only [OX_ref26_in_2, OX_ref26_in_2_0, OX_ref26_in_2_1, List.mem_cons, List.not_mem_nil, or_false] at ho
  · rcases x with x | x <;> simp [xx_ref26_in_2]
  · obtain ⟨x, env1, σ1, h1, h2, h3⟩ := run s _ hs
    rcases dL_ref26_in_2_spec h1 with ⟨rfl, s2, e1, e2, e3⟩ | ⟨rfl, s2, e1, e2, e3⟩ | ⟨rfl, s2, e1, e2, e3⟩
    · simp only [Option.some.injEq, Sum.inl.injEq] at e3
      subst e3
      exact ⟨rfl, env1, σ1, h3, e1, e2, (fun o ho => by simp only [OS_ref26_in_2, List.mem_cons, List.not_mem_nil, or_false] at ho)⟩
    · simp at e3
    · simp at e3
  · obtain ⟨x1, env1, σ1, h1, h2, h3⟩ := run s _ hs
    rcases dL_ref26_in_2_spec h1 with ⟨rfl, s2, e1, e2, e3⟩ | ⟨rfl, s2, e1, e2, e3⟩ | ⟨rfl, s2, e1, e2, e3⟩
    · simp at e3
    · simp only [Option.some.injEq, Sum.inr.injEq] at e3
      subst e3
      exact ⟨rfl, env1, σ1, h3, e1, e2, (fun o ho => by simp only [OX_ref26_in_2, OX_ref26_in_2_0, List.mem_cons, List.not_mem_nil, or_false] at ho)⟩
    · simp only [Option.some.injEq, Sum.inr.injEq] at e3
      subst e3
      exact ⟨rfl, env1, σ1, h3, e1, e2, (fun o ho => by simp only [OX_ref26_in_2, OX_ref26_in_2_1, List.mem_cons, List.not_mem_nil, or_false] at ho)⟩
  · skip
    unfold Lf_ref26_in_2 at h
    obtain ⟨hlt, h0⟩ := bif_some h
    obtain ⟨w1, w2, w3⟩ := decT_spec h0
    obtain ⟨v0, rfl, w4⟩ := decV_int_i64_spec w3
    obtain ⟨w5, w6, w7⟩ := decT_spec w4
    obtain ⟨v1, rfl, w8⟩ := decI_spec w7
    obtain ⟨w9, w10, w11⟩ := decT_spec w8
    obtain ⟨v2, rfl, w12⟩ := decI_spec w11
    obtain ⟨n, x, hn, hk⟩ := hL _ (fun x => k (xx_ref26_in_2 x) (envOf [] (EX_ref26_in_2 x)) (heapOf [] (OX_ref26_in_2 x) σ)) r (show (fun (s : S_ref26_in_2) (k : X_ref26_in_2 → R α) => L s (fun x => k (.inl x)) (fun x => k (.inr x))) ⟨v0, v1, v2⟩ (fun x => k (xx_ref26_in_2 x) (envOf [] (EX_ref26_in_2 x)) (heapOf [] (OX_ref26_in_2 x) σ)) = some r from w12)
    refine ⟨n, ⟨v0, v1, v2⟩, x, [], hn, ⟨rfl, by decide, env_ren ⟨⟨by simp [Ids, Idss, OS_ref26_in_2], w2⟩, ⟨by simp [Ids, Idss, OS_ref26_in_2], w6⟩, ⟨by simp [Ids, Idss, OS_ref26_in_2], w10⟩, trivial⟩, enum_all trivial, (fun o ho => by simp only [OS_ref26_in_2, List.mem_cons, List.not_mem_nil, or_false] at ho), fun i hi => ?_⟩, hk⟩
    exact Nat.le_of_ble_eq_true (allB_iff.1 hlt i hi)
noncomputable abbrev PO_ref26_in {α : Type} (L_ref26_in_2 : SgL_ref26_in_2 α) : ORC α := []
set_option maxRecDepth 100000 in
theorem ok_ref26_in {α : Type} (L_ref26_in_2 : SgL_ref26_in_2 α) (x0 : (Bool × Addr × Nat × Nat × (Nat → Int))) (x1 : Int) (k : Bool → R α) : bodyL PT_ref26_in (PO_ref26_in L_ref26_in_2) [(2, Lf_ref26_in_2 L_ref26_in_2)] ⟨1, []⟩ Try.f19 [(.vslc (.int .i64) x0.1 x0.2.1 x0.2.2.1 x0.2.2.2.1 x0.2.2.2.2), (.int .i64 x1)] emp (fun v _ => dR_ref26_in v k) = p_ref26_in L_ref26_in_2 x0 x1 k := by kernel_rfl
theorem mk_ref26_in {α : Type} {I : Imm} {L_ref26_in_2 : SgL_ref26_in_2 α} (h_L_ref26_in_2 : SoundC (α := α) Try.prog I Try.f19.ntmps (.loop (loopNo Try.f19 0)) (Lf_ref26_in_2 L_ref26_in_2)) : OrcOk (α := α) Try.prog I 19 (.pure (ad_ref26_in (p_ref26_in L_ref26_in_2))) := by
  refine orc_pureK PT_ref26_in_ok (O := PO_ref26_in L_ref26_in_2) (OOk.nil) (L := [(2, Lf_ref26_in_2 L_ref26_in_2)]) ⟨1, []⟩ Try.func19 (by kernel_rfl) (by kernel_rfl) (by kernel_rfl) (flok_of (l := [loopNo Try.f19 0]) (by kernel_rfl) ⟨lk_yes (by kernel_rfl) h_L_ref26_in_2, trivial⟩) ?_
  intro args k r hk
  unfold ad_ref26_in at hk
  split at hk <;> try (cases hk; done)
  obtain ⟨x0, rfl, hk0⟩ := decV_int_i64_spec hk
  obtain ⟨x1, rfl, hk1⟩ := decI_spec hk0
  have hkz := hk1
  refine ⟨by simp [Ids, Idss], fun v => dR_ref26_in v (fun r0 => k (.bool r0)), ?_, fun v hv => ?_⟩
  · rw [ok_ref26_in]; exact hkz
  · obtain ⟨r0, rfl, hv1⟩ := dR_ref26_in_spec hv; exact ⟨hv1, by simp [Ids, Idss]⟩
abbrev PT_ref26_frames : TE := [(3, ⟨.int .i64 0, 1, 8, .sc (.int .i64), none⟩), (22, ⟨.nils, 1, 24, .sc (.slice 35), none⟩), (23, ⟨.nils, 1, 24, .sc (.slice 3), none⟩), (25, ⟨.agg [.nils, .int .i64 0, .nils], 3, 56, .st [(0, 1, false), (1, 1, false), (2, 1, false)], none⟩), (35, ⟨.agg [.nils, .str .empty, .int .u64 0, .str .empty], 4, 64, .st [(0, 1, false), (1, 1, false), (2, 1, false), (3, 1, false)], none⟩)]
theorem PT_ref26_frames_ok : Prg Try.prog PT_ref26_frames := ⟨(.cons pe_3 (.cons pe_22 (.cons pe_23 (.cons pe_25 (.cons pe_35 (TEok.nil _)))))), by kernel_rfl⟩

noncomputable abbrev PO_lp_ref26_frames_8 {α : Type} (F_ref26_in : Sg_ref26_in α) : ORC α := [(19, .pure (ad_ref26_in F_ref26_in))]
set_option maxRecDepth 100000 in
theorem okb_ref26_frames_8 {α : Type} (F_ref26_in : Sg_ref26_in α) (s : S_ref26_frames_8) (kn : S_ref26_frames_8 → R α) (k0 : X_ref26_frames_8_0 → R α) (k1 : X_ref26_frames_8_1 → R α) : seval PT_ref26_frames (PO_lp_ref26_frames_8 F_ref26_in) [] Try.f17.ntmps ⟨1, []⟩ (loopNo Try.f17 1) (E_ref26_frames_8 s) (hp (OS_ref26_frames_8 s)) (dL_ref26_frames_8 kn k0 k1) = b_ref26_frames_8 F_ref26_in s kn k0 k1 := by kernel_rfl
theorem snd_ref26_frames_8 {α : Type} {I : Imm} {F_ref26_in : Sg_ref26_in (S_ref26_frames_8 ⊕ X_ref26_frames_8)} (h_ref26_in : OrcOk (α := (S_ref26_frames_8 ⊕ X_ref26_frames_8)) Try.prog I 19 (.pure (ad_ref26_in F_ref26_in))) {L : SgL_ref26_frames_8 α} (hL : LoopOk (α := α) (fun (s : S_ref26_frames_8) => b_ref26_frames_8 F_ref26_in s (fun s => some (.inl s)) (fun x => some (.inr (.inl x))) (fun x => some (.inr (.inr x)))) (fun (s : S_ref26_frames_8) (k : X_ref26_frames_8 → R α) => L s (fun x => k (.inl x)) (fun x => k (.inr x)))) : SoundC Try.prog I Try.f17.ntmps (.loop (loopNo Try.f17 1)) (Lf_ref26_frames_8 L) := by
  have run := fun (s : S_ref26_frames_8) (z : (S_ref26_frames_8 ⊕ X_ref26_frames_8)) (h : (fun (s : S_ref26_frames_8) => b_ref26_frames_8 F_ref26_in s (fun s => some (.inl s)) (fun x => some (.inr (.inl x))) (fun x => some (.inr (.inr x)))) s = some z) => seval_spec (α := (S_ref26_frames_8 ⊕ X_ref26_frames_8)) (I := I) PT_ref26_frames_ok.te PT_ref26_frames_ok.mix (O := PO_lp_ref26_frames_8 F_ref26_in) (OOk.cons h_ref26_in (OOk.nil)) (L := []) (N := Try.f17.ntmps) (n := ⟨1, []⟩) (loopNo Try.f17 1) (by kernel_rfl) (LOk.nil) (E_ref26_frames_8 s) (hp (OS_ref26_frames_8 s)) _ z ((okb_ref26_frames_8 F_ref26_in s (fun s => some (.inl s)) (fun x => some (.inr (.inl x))) (fun x => some (.inr (.inr x)))).trans h)
  refine loop_law_same (stp := fun (s : S_ref26_frames_8) => b_ref26_frames_8 F_ref26_in s (fun s => some (.inl s)) (fun x => some (.inr (.inl x))) (fun x => some (.inr (.inr x)))) (E := E_ref26_frames_8) (os := OS_ref26_frames_8) (EX := EX_ref26_frames_8) (osX := OX_ref26_frames_8) (xx := xx_ref26_frames_8) (fun s o ho => ?_) (fun x o ho => ?_) (fun x => ?_) (fun s s1 hs => ?_) (fun s x hs => ?_) (fun env σ k r h => ?_)
  · simp only [OS_ref26_frames_8, List.mem_cons, List.not_mem_nil, or_false] at ho
    subst ho; rfl
  · rcases x with x | x <;> simp only [OX_ref26_frames_8, OX_ref26_frames_8_0, OX_ref26_frames_8_1, List.mem_cons, List.not_mem_nil, or_false] at ho
    all_goals (subst ho; rfl)
  · rcases x with x | x <;> simp [xx_ref26_frames_8]
  · obtain ⟨x, env1, σ1, h1, h2, h3⟩ := run s _ hs
    rcases dL_ref26_frames_8_spec h1 with ⟨rfl, s2, e1, e2, e3⟩ | ⟨rfl, s2, e1, e2, e3⟩ | ⟨rfl, s2, e1, e2, e3⟩
    · simp only [Option.some.injEq, Sum.inl.injEq] at e3
      subst e3
      exact ⟨rfl, env1, σ1, h3, e1, e2, (fun o ho => by simp only [OS_ref26_frames_8, List.mem_cons, List.not_mem_nil, or_false] at ho; subst ho; simp [OIds, Ids, Idss, OS_ref26_frames_8])⟩
    · simp at e3
    · simp at e3
  · obtain ⟨x1, env1, σ1, h1, h2, h3⟩ := run s _ hs
    rcases dL_ref26_frames_8_spec h1 with ⟨rfl, s2, e1, e2, e3⟩ | ⟨rfl, s2, e1, e2, e3⟩ | ⟨rfl, s2, e1, e2, e3⟩
    · simp at e3
    · simp only [Option.some.injEq, Sum.inr.injEq] at e3
      subst e3
      exact ⟨rfl, env1, σ1, h3, e1, e2, (fun o ho => by simp only [OX_ref26_frames_8, OX_ref26_frames_8_0, List.mem_cons, List.not_mem_nil, or_false] at ho; subst ho; simp [OIds, Ids, Idss, OS_ref26_frames_8])⟩
    · simp only [Option.some.injEq, Sum.inr.injEq] at e3
      subst e3
      exact ⟨rfl, env1, σ1, h3, e1, e2, (fun o ho => by simp only [OX_ref26_frames_8, OX_ref26_frames_8_1, List.mem_cons, List.not_mem_nil, or_false] at ho; subst ho; simp [OIds, Ids, Idss, OS_ref26_frames_8])⟩
  · skip
    unfold Lf_ref26_frames_8 at h
    obtain ⟨hlt, h0⟩ := bif_some h
    obtain ⟨w1, w2, w3⟩ := decT_spec h0
    obtain ⟨v0, rfl, w4⟩ := decI_spec w3
    obtain ⟨w5, w6, w7⟩ := decT_spec w4
    obtain ⟨rfl, w8⟩ := decP_spec w7
    obtain ⟨w9, w10, w11⟩ := decT_spec w8
    obtain ⟨v1, rfl, w12⟩ := decV_int_i64_spec w11
    obtain ⟨w13, w14, w15⟩ := decT_spec w12
    obtain ⟨v2, rfl, w16⟩ := decI_spec w15
    obtain ⟨w17, w18, w19⟩ := decT_spec w16
    obtain ⟨v3, rfl, w20⟩ := decI_spec w19
    obtain ⟨w21, w22, w23⟩ := decO_spec w20
    split at w23 <;> try (cases w23; done)
    obtain ⟨v4, rfl, w24⟩ := decV_st_sl_int_i64_str_int_u64_str_spec w23
    obtain ⟨v5, rfl, w25⟩ := decI_spec w24
    obtain ⟨v6, rfl, w26⟩ := decV_int_i64_spec w25
    obtain ⟨n, x, hn, hk⟩ := hL _ (fun x => k (xx_ref26_frames_8 x) (envOf [0] (EX_ref26_frames_8 x)) (heapOf [0] (OX_ref26_frames_8 x) σ)) r (show (fun (s : S_ref26_frames_8) (k : X_ref26_frames_8 → R α) => L s (fun x => k (.inl x)) (fun x => k (.inr x))) ⟨v0, v1, v2, v3, v4, v5, v6⟩ (fun x => k (xx_ref26_frames_8 x) (envOf [0] (EX_ref26_frames_8 x)) (heapOf [0] (OX_ref26_frames_8 x) σ)) = some r from w26)
    refine ⟨n, ⟨v0, v1, v2, v3, v4, v5, v6⟩, x, [0], hn, ⟨rfl, by decide, env_ren ⟨⟨by simp [Ids, Idss, OS_ref26_frames_8], w2⟩, ⟨by simp [Ids, Idss, OS_ref26_frames_8], w6⟩, ⟨by simp [Ids, Idss, OS_ref26_frames_8], w10⟩, ⟨by simp [Ids, Idss, OS_ref26_frames_8], w14⟩, ⟨by simp [Ids, Idss, OS_ref26_frames_8], w18⟩, trivial⟩, enum_all ⟨w22, trivial⟩, (fun o ho => by simp only [OS_ref26_frames_8, List.mem_cons, List.not_mem_nil, or_false] at ho; subst ho; simp [OIds, Ids, Idss, OS_ref26_frames_8]), fun i hi => ?_⟩, hk⟩
    exact Nat.le_of_ble_eq_true (allB_iff.1 hlt i hi)
noncomputable abbrev PO_lp_ref26_frames_3 {α : Type} (F_ref26_isFrame : Sg_ref26_isFrame α) (F_ref26_in : Sg_ref26_in α) (L_ref26_frames_8 : SgL_ref26_frames_8 α) : ORC α := [(18, .pure (ad_ref26_isFrame F_ref26_isFrame)), (19, .pure (ad_ref26_in F_ref26_in))]
set_option maxRecDepth 100000 in
theorem okb_ref26_frames_3 {α : Type} (F_ref26_isFrame : Sg_ref26_isFrame α) (F_ref26_in : Sg_ref26_in α) (L_ref26_frames_8 : SgL_ref26_frames_8 α) (s : S_ref26_frames_3) (kn : S_ref26_frames_3 → R α) (k0 : X_ref26_frames_3_0 → R α) (k1 : X_ref26_frames_3_1 → R α) : seval PT_ref26_frames (PO_lp_ref26_frames_3 F_ref26_isFrame F_ref26_in L_ref26_frames_8) [(8, Lf_ref26_frames_8 L_ref26_frames_8)] Try.f17.ntmps ⟨1, []⟩ (loopNo Try.f17 0) (E_ref26_frames_3 s) (hp (OS_ref26_frames_3 s)) (dL_ref26_frames_3 kn k0 k1) = b_ref26_frames_3 F_ref26_isFrame F_ref26_in L_ref26_frames_8 s kn k0 k1 := by kernel_rfl
theorem snd_ref26_frames_3 {α : Type} {I : Imm} {F_ref26_isFrame : Sg_ref26_isFrame (S_ref26_frames_3 ⊕ X_ref26_frames_3)} {F_ref26_in : Sg_ref26_in (S_ref26_frames_3 ⊕ X_ref26_frames_3)} (h_ref26_isFrame : OrcOk (α := (S_ref26_frames_3 ⊕ X_ref26_frames_3)) Try.prog I 18 (.pure (ad_ref26_isFrame F_ref26_isFrame))) (h_ref26_in : OrcOk (α := (S_ref26_frames_3 ⊕ X_ref26_frames_3)) Try.prog I 19 (.pure (ad_ref26_in F_ref26_in))) {L_ref26_frames_8 : SgL_ref26_frames_8 (S_ref26_frames_3 ⊕ X_ref26_frames_3)} (h_L_ref26_frames_8 : SoundC (α := (S_ref26_frames_3 ⊕ X_ref26_frames_3)) Try.prog I Try.f17.ntmps (.loop (loopNo Try.f17 1)) (Lf_ref26_frames_8 L_ref26_frames_8)) {L : SgL_ref26_frames_3 α} (hL : LoopOk (α := α) (fun (s : S_ref26_frames_3) => b_ref26_frames_3 F_ref26_isFrame F_ref26_in L_ref26_frames_8 s (fun s => some (.inl s)) (fun x => some (.inr (.inl x))) (fun x => some (.inr (.inr x)))) (fun (s : S_ref26_frames_3) (k : X_ref26_frames_3 → R α) => L s (fun x => k (.inl x)) (fun x => k (.inr x)))) : SoundC Try.prog I Try.f17.ntmps (.loop (loopNo Try.f17 0)) (Lf_ref26_frames_3 L) := by
  have run := fun (s : S_ref26_frames_3) (z : (S_ref26_frames_3 ⊕ X_ref26_frames_3)) (h : (fun (s : S_ref26_frames_3) => b_ref26_frames_3 F_ref26_isFrame F_ref26_in L_ref26_frames_8 s (fun s => some (.inl s)) (fun x => some (.inr (.inl x))) (fun x => some (.inr (.inr x)))) s = some z) => seval_spec (α := (S_ref26_frames_3 ⊕ X_ref26_frames_3)) (I := I) PT_ref26_frames_ok.te PT_ref26_frames_ok.mix (O := PO_lp_ref26_frames_3 F_ref26_isFrame F_ref26_in L_ref26_frames_8) (OOk.cons h_ref26_isFrame (OOk.cons h_ref26_in (OOk.nil))) (L := [(8, Lf_ref26_frames_8 L_ref26_frames_8)]) (N := Try.f17.ntmps) (n := ⟨1, []⟩) (loopNo Try.f17 0) (by kernel_rfl) ((lok_of (l := [loopNo Try.f17 1]) (by kernel_rfl) ⟨lk_yes (by kernel_rfl) h_L_ref26_frames_8, trivial⟩)) (E_ref26_frames_3 s) (hp (OS_ref26_frames_3 s)) _ z ((okb_ref26_frames_3 F_ref26_isFrame F_ref26_in L_ref26_frames_8 s (fun s => some (.inl s)) (fun x => some (.inr (.inl x))) (fun x => some (.inr (.inr x)))).trans h)
  refine loop_law_same (stp := fun (s : S_ref26_frames_3) => b_ref26_frames_3 F_ref26_isFrame F_ref26_in L_ref26_frames_8 s (fun s => some (.inl s)) (fun x => some (.inr (.inl x))) (fun x => some (.inr (.inr x)))) (E := E_ref26_frames_3) (os := OS_ref26_frames_3) (EX := EX_ref26_frames_3) (osX := OX_ref26_frames_3) (xx := xx_ref26_frames_3) (fun s o ho => ?_) (fun x o ho => ?_) (fun x => ?_) (fun s s1 hs => ?_) (fun s x hs => ?_) (fun env σ k r h => ?_)
  · simp only [OS_ref26_frames_3, List.mem_cons, List.not_mem_nil, or_false] at ho
    subst ho; rfl
  · rcases x with x | x <;> simp only [OX_ref26_frames_3, OX_ref26_frames_3_0, OX_ref26_frames_3_1, List.mem_cons, List.not_mem_nil, or_false] at ho
    all_goals (subst ho; rfl)
  · rcases x with x | x <;> simp [xx_ref26_frames_3]
  · obtain ⟨x, env1, σ1, h1, h2, h3⟩ := run s _ hs
    rcases dL_ref26_frames_3_spec h1 with ⟨rfl, s2, e1, e2, e3⟩ | ⟨rfl, s2, e1, e2, e3⟩ | ⟨rfl, s2, e1, e2, e3⟩
    · simp only [Option.some.injEq, Sum.inl.injEq] at e3
      subst e3
      exact ⟨rfl, env1, σ1, h3, e1, e2, (fun o ho => by simp only [OS_ref26_frames_3, List.mem_cons, List.not_mem_nil, or_false] at ho; subst ho; simp [OIds, Ids, Idss, OS_ref26_frames_3])⟩
    · simp at e3
    · simp at e3
  · obtain ⟨x1, env1, σ1, h1, h2, h3⟩ := run s _ hs
    rcases dL_ref26_frames_3_spec h1 with ⟨rfl, s2, e1, e2, e3⟩ | ⟨rfl, s2, e1, e2, e3⟩ | ⟨rfl, s2, e1, e2, e3⟩
    · simp at e3
    · simp only [Option.some.injEq, Sum.inr.injEq] at e3
      subst e3
      exact ⟨rfl, env1, σ1, h3, e1, e2, (fun o ho => by simp only [OX_ref26_frames_3, OX_ref26_frames_3_0, List.mem_cons, List.not_mem_nil, or_false] at ho; subst ho; simp [OIds, Ids, Idss, OS_ref26_frames_3])⟩
    · simp only [Option.some.injEq, Sum.inr.injEq] at e3
      subst e3
      exact ⟨rfl, env1, σ1, h3, e1, e2, (fun o ho => by simp only [OX_ref26_frames_3, OX_ref26_frames_3_1, List.mem_cons, List.not_mem_nil, or_false] at ho; subst ho; simp [OIds, Ids, Idss, OS_ref26_frames_3])⟩
  · skip
    unfold Lf_ref26_frames_3 at h
    obtain ⟨hlt, h0⟩ := bif_some h
    obtain ⟨w1, w2, w3⟩ := decT_spec h0
    obtain ⟨v0, rfl, w4⟩ := decI_spec w3
    obtain ⟨w5, w6, w7⟩ := decT_spec w4
    obtain ⟨rfl, w8⟩ := decP_spec w7
    obtain ⟨w9, w10, w11⟩ := decT_spec w8
    obtain ⟨v1, rfl, w12⟩ := decV_int_i64_spec w11
    obtain ⟨w13, w14, w15⟩ := decT_spec w12
    obtain ⟨v2, rfl, w16⟩ := decI_spec w15
    obtain ⟨w17, w18, w19⟩ := decO_spec w16
    split at w19 <;> try (cases w19; done)
    obtain ⟨v3, rfl, w20⟩ := decV_st_sl_int_i64_str_int_u64_str_spec w19
    obtain ⟨v4, rfl, w21⟩ := decI_spec w20
    obtain ⟨v5, rfl, w22⟩ := decV_int_i64_spec w21
    obtain ⟨n, x, hn, hk⟩ := hL _ (fun x => k (xx_ref26_frames_3 x) (envOf [0] (EX_ref26_frames_3 x)) (heapOf [0] (OX_ref26_frames_3 x) σ)) r (show (fun (s : S_ref26_frames_3) (k : X_ref26_frames_3 → R α) => L s (fun x => k (.inl x)) (fun x => k (.inr x))) ⟨v0, v1, v2, v3, v4, v5⟩ (fun x => k (xx_ref26_frames_3 x) (envOf [0] (EX_ref26_frames_3 x)) (heapOf [0] (OX_ref26_frames_3 x) σ)) = some r from w22)
    refine ⟨n, ⟨v0, v1, v2, v3, v4, v5⟩, x, [0], hn, ⟨rfl, by decide, env_ren ⟨⟨by simp [Ids, Idss, OS_ref26_frames_3], w2⟩, ⟨by simp [Ids, Idss, OS_ref26_frames_3], w6⟩, ⟨by simp [Ids, Idss, OS_ref26_frames_3], w10⟩, ⟨by simp [Ids, Idss, OS_ref26_frames_3], w14⟩, trivial⟩, enum_all ⟨w18, trivial⟩, (fun o ho => by simp only [OS_ref26_frames_3, List.mem_cons, List.not_mem_nil, or_false] at ho; subst ho; simp [OIds, Ids, Idss, OS_ref26_frames_3]), fun i hi => ?_⟩, hk⟩
    exact Nat.le_of_ble_eq_true (allB_iff.1 hlt i hi)
noncomputable abbrev PO_ref26_frames {α : Type} (L_ref26_frames_3 : SgL_ref26_frames_3 α) : ORC α := []
set_option maxRecDepth 100000 in
theorem ok_ref26_frames {α : Type} (L_ref26_frames_3 : SgL_ref26_frames_3 α) (x0 : GConfig) (x1 : Int) (k : Bool → R α) : bodyL PT_ref26_frames (PO_ref26_frames L_ref26_frames_3) [(3, Lf_ref26_frames_3 L_ref26_frames_3)] ⟨1, []⟩ Try.f17 [(GConfig.sv x0), (.int .i64 x1)] emp (fun v _ => dR_ref26_frames v k) = p_ref26_frames L_ref26_frames_3 x0 x1 k := by kernel_rfl
theorem mk_ref26_frames {α : Type} {I : Imm} {L_ref26_frames_3 : SgL_ref26_frames_3 α} (h_L_ref26_frames_3 : SoundC (α := α) Try.prog I Try.f17.ntmps (.loop (loopNo Try.f17 0)) (Lf_ref26_frames_3 L_ref26_frames_3)) : OrcOk (α := α) Try.prog I 17 (.pure (ad_ref26_frames (p_ref26_frames L_ref26_frames_3))) := by
  refine orc_pureK PT_ref26_frames_ok (O := PO_ref26_frames L_ref26_frames_3) (OOk.nil) (L := [(3, Lf_ref26_frames_3 L_ref26_frames_3)]) ⟨1, []⟩ Try.func17 (by kernel_rfl) (by kernel_rfl) (by kernel_rfl) (flok_of (l := [loopNo Try.f17 0, loopNo Try.f17 1]) (by kernel_rfl) ⟨lk_yes (by kernel_rfl) h_L_ref26_frames_3, lk_no (by kernel_rfl), trivial⟩) ?_
  intro args k r hk
  unfold ad_ref26_frames at hk
  split at hk <;> try (cases hk; done)
  obtain ⟨x0, rfl, hk0⟩ := GConfig.dec_spec hk
  obtain ⟨x1, rfl, hk1⟩ := decI_spec hk0
  have hkz := hk1
  refine ⟨by simp [Ids, Idss], fun v => dR_ref26_frames v (fun r0 => k (.bool r0)), ?_, fun v hv => ?_⟩
  · rw [ok_ref26_frames]; exact hkz
  · obtain ⟨r0, rfl, hv1⟩ := dR_ref26_frames_spec hv; exact ⟨hv1, by simp [Ids, Idss]⟩
abbrev PT_ref26_Window : TE := [(3, ⟨.int .i64 0, 1, 8, .sc (.int .i64), none⟩), (23, ⟨.nils, 1, 24, .sc (.slice 3), none⟩), (35, ⟨.agg [.nils, .str .empty, .int .u64 0, .str .empty], 4, 64, .st [(0, 1, false), (1, 1, false), (2, 1, false), (3, 1, false)], none⟩)]
theorem PT_ref26_Window_ok : Prg Try.prog PT_ref26_Window := ⟨(.cons pe_3 (.cons pe_23 (.cons pe_35 (TEok.nil _)))), by kernel_rfl⟩

noncomputable abbrev PO_ref26_Window {α : Type}  : ORC α := []
set_option maxRecDepth 100000 in
theorem ok_ref26_Window {α : Type}  (x0 : GGuest) (k : Int → R α) : bodyL PT_ref26_Window (PO_ref26_Window ) [] ⟨1, []⟩ Try.f20 [(GGuest.sv x0)] emp (fun v _ => dR_ref26_Window v k) = p_ref26_Window  x0 k := by kernel_rfl
theorem mk_ref26_Window {α : Type} {I : Imm}  : OrcOk (α := α) Try.prog I 20 (.pure (ad_ref26_Window (p_ref26_Window ))) := by
  refine orc_pureK PT_ref26_Window_ok (O := PO_ref26_Window ) (OOk.nil) (L := []) ⟨1, []⟩ Try.func20 (by kernel_rfl) (by kernel_rfl) (by kernel_rfl) FLOk.nil ?_
  intro args k r hk
  unfold ad_ref26_Window at hk
  split at hk <;> try (cases hk; done)
  obtain ⟨x0, rfl, hk0⟩ := GGuest.dec_spec hk
  have hkz := hk0
  refine ⟨by simp [Ids, Idss], fun v => dR_ref26_Window v (fun r0 => k (.int .i64 r0)), ?_, fun v hv => ?_⟩
  · rw [ok_ref26_Window]; exact hkz
  · obtain ⟨r0, rfl, hv1⟩ := dR_ref26_Window_spec hv; exact ⟨hv1, by simp [Ids, Idss]⟩
abbrev PT_ref26_Check : TE := [(3, ⟨.int .i64 0, 1, 8, .sc (.int .i64), none⟩), (9, ⟨.str .empty, 1, 16, .sc (.string), none⟩), (22, ⟨.nils, 1, 24, .sc (.slice 35), none⟩), (23, ⟨.nils, 1, 24, .sc (.slice 3), none⟩), (25, ⟨.agg [.nils, .int .i64 0, .nils], 3, 56, .st [(0, 1, false), (1, 1, false), (2, 1, false)], none⟩), (33, ⟨.int .u64 0, 1, 8, .sc (.int .u64), none⟩), (35, ⟨.agg [.nils, .str .empty, .int .u64 0, .str .empty], 4, 64, .st [(0, 1, false), (1, 1, false), (2, 1, false), (3, 1, false)], none⟩)]
theorem PT_ref26_Check_ok : Prg Try.prog PT_ref26_Check := ⟨(.cons pe_3 (.cons pe_9 (.cons pe_22 (.cons pe_23 (.cons pe_25 (.cons pe_33 (.cons pe_35 (TEok.nil _)))))))), by kernel_rfl⟩

noncomputable abbrev PO_lp_ref26_Check_5 {α : Type}  : ORC α := []
set_option maxRecDepth 100000 in
theorem okb_ref26_Check_5 {α : Type}  (s : S_ref26_Check_5) (kn : S_ref26_Check_5 → R α) (k0 : X_ref26_Check_5_0 → R α) (k1 : X_ref26_Check_5_1 → R α) : seval PT_ref26_Check (PO_lp_ref26_Check_5 ) [] Try.f10.ntmps ⟨1, []⟩ (loopNo Try.f10 0) (E_ref26_Check_5 s) (hp (OS_ref26_Check_5 s)) (dL_ref26_Check_5 kn k0 k1) = b_ref26_Check_5  s kn k0 k1 := by kernel_rfl
theorem snd_ref26_Check_5 {α : Type} {I : Imm}  {L : SgL_ref26_Check_5 α} (hL : LoopOk (α := α) (fun (s : S_ref26_Check_5) => b_ref26_Check_5  s (fun s => some (.inl s)) (fun x => some (.inr (.inl x))) (fun x => some (.inr (.inr x)))) (fun (s : S_ref26_Check_5) (k : X_ref26_Check_5 → R α) => L s (fun x => k (.inl x)) (fun x => k (.inr x)))) : SoundC Try.prog I Try.f10.ntmps (.loop (loopNo Try.f10 0)) (Lf_ref26_Check_5 L) := by
  have run := fun (s : S_ref26_Check_5) (z : (S_ref26_Check_5 ⊕ X_ref26_Check_5)) (h : (fun (s : S_ref26_Check_5) => b_ref26_Check_5  s (fun s => some (.inl s)) (fun x => some (.inr (.inl x))) (fun x => some (.inr (.inr x)))) s = some z) => seval_spec (α := (S_ref26_Check_5 ⊕ X_ref26_Check_5)) (I := I) PT_ref26_Check_ok.te PT_ref26_Check_ok.mix (O := PO_lp_ref26_Check_5 ) (OOk.nil) (L := []) (N := Try.f10.ntmps) (n := ⟨1, []⟩) (loopNo Try.f10 0) (by kernel_rfl) (LOk.nil) (E_ref26_Check_5 s) (hp (OS_ref26_Check_5 s)) _ z ((okb_ref26_Check_5  s (fun s => some (.inl s)) (fun x => some (.inr (.inl x))) (fun x => some (.inr (.inr x)))).trans h)
  refine loop_law_same (stp := fun (s : S_ref26_Check_5) => b_ref26_Check_5  s (fun s => some (.inl s)) (fun x => some (.inr (.inl x))) (fun x => some (.inr (.inr x)))) (E := E_ref26_Check_5) (os := OS_ref26_Check_5) (EX := EX_ref26_Check_5) (osX := OX_ref26_Check_5) (xx := xx_ref26_Check_5) (fun s o ho => ?_) (fun x o ho => ?_) (fun x => ?_) (fun s s1 hs => ?_) (fun s x hs => ?_) (fun env σ k r h => ?_)
  · simp only [OS_ref26_Check_5, List.mem_cons, List.not_mem_nil, or_false] at ho
    subst ho; rfl
  · rcases x with x | x <;> simp only [OX_ref26_Check_5, OX_ref26_Check_5_0, OX_ref26_Check_5_1, List.mem_cons, List.not_mem_nil, or_false] at ho
    all_goals (subst ho; rfl)
  · rcases x with x | x <;> simp [xx_ref26_Check_5]
  · obtain ⟨x, env1, σ1, h1, h2, h3⟩ := run s _ hs
    rcases dL_ref26_Check_5_spec h1 with ⟨rfl, s2, e1, e2, e3⟩ | ⟨rfl, s2, e1, e2, e3⟩ | ⟨rfl, s2, e1, e2, e3⟩
    · simp only [Option.some.injEq, Sum.inl.injEq] at e3
      subst e3
      exact ⟨rfl, env1, σ1, h3, e1, e2, (fun o ho => by simp only [OS_ref26_Check_5, List.mem_cons, List.not_mem_nil, or_false] at ho; subst ho; simp [OIds, Ids, Idss, OS_ref26_Check_5])⟩
    · simp at e3
    · simp at e3
  · obtain ⟨x1, env1, σ1, h1, h2, h3⟩ := run s _ hs
    rcases dL_ref26_Check_5_spec h1 with ⟨rfl, s2, e1, e2, e3⟩ | ⟨rfl, s2, e1, e2, e3⟩ | ⟨rfl, s2, e1, e2, e3⟩
    · simp at e3
    · simp only [Option.some.injEq, Sum.inr.injEq] at e3
      subst e3
      exact ⟨rfl, env1, σ1, h3, e1, e2, (fun o ho => by simp only [OX_ref26_Check_5, OX_ref26_Check_5_0, List.mem_cons, List.not_mem_nil, or_false] at ho; subst ho; simp [OIds, Ids, Idss, OS_ref26_Check_5])⟩
    · simp only [Option.some.injEq, Sum.inr.injEq] at e3
      subst e3
      exact ⟨rfl, env1, σ1, h3, e1, e2, (fun o ho => by simp only [OX_ref26_Check_5, OX_ref26_Check_5_1, List.mem_cons, List.not_mem_nil, or_false] at ho; subst ho; simp [OIds, Ids, Idss, OS_ref26_Check_5])⟩
  · skip
    unfold Lf_ref26_Check_5 at h
    obtain ⟨hlt, h0⟩ := bif_some h
    obtain ⟨w1, w2, w3⟩ := decT_spec h0
    obtain ⟨rfl, w4⟩ := decP_spec w3
    obtain ⟨w5, w6, w7⟩ := decT_spec w4
    obtain ⟨v0, rfl, w8⟩ := decI_spec w7
    obtain ⟨w9, w10, w11⟩ := decT_spec w8
    obtain ⟨v1, rfl, w12⟩ := decI_spec w11
    obtain ⟨w13, w14, w15⟩ := decO_spec w12
    split at w15 <;> try (cases w15; done)
    obtain ⟨v2, rfl, w16⟩ := decV_st_sl_int_i64_str_int_u64_str_spec w15
    obtain ⟨v3, rfl, w17⟩ := decI_spec w16
    obtain ⟨v4, rfl, w18⟩ := decV_int_i64_spec w17
    obtain ⟨n, x, hn, hk⟩ := hL _ (fun x => k (xx_ref26_Check_5 x) (envOf [0] (EX_ref26_Check_5 x)) (heapOf [0] (OX_ref26_Check_5 x) σ)) r (show (fun (s : S_ref26_Check_5) (k : X_ref26_Check_5 → R α) => L s (fun x => k (.inl x)) (fun x => k (.inr x))) ⟨v0, v1, v2, v3, v4⟩ (fun x => k (xx_ref26_Check_5 x) (envOf [0] (EX_ref26_Check_5 x)) (heapOf [0] (OX_ref26_Check_5 x) σ)) = some r from w18)
    refine ⟨n, ⟨v0, v1, v2, v3, v4⟩, x, [0], hn, ⟨rfl, by decide, env_ren ⟨⟨by simp [Ids, Idss, OS_ref26_Check_5], w2⟩, ⟨by simp [Ids, Idss, OS_ref26_Check_5], w6⟩, ⟨by simp [Ids, Idss, OS_ref26_Check_5], w10⟩, trivial⟩, enum_all ⟨w14, trivial⟩, (fun o ho => by simp only [OS_ref26_Check_5, List.mem_cons, List.not_mem_nil, or_false] at ho; subst ho; simp [OIds, Ids, Idss, OS_ref26_Check_5]), fun i hi => ?_⟩, hk⟩
    exact Nat.le_of_ble_eq_true (allB_iff.1 hlt i hi)
noncomputable abbrev PO_lp_ref26_Check_12 {α : Type} (F_ref26_frames : Sg_ref26_frames α) : ORC α := [(17, .pure (ad_ref26_frames F_ref26_frames))]
set_option maxRecDepth 100000 in
theorem okb_ref26_Check_12 {α : Type} (F_ref26_frames : Sg_ref26_frames α) (s : S_ref26_Check_12) (kn : S_ref26_Check_12 → R α) (k0 : X_ref26_Check_12_0 → R α) (k1 : X_ref26_Check_12_1 → R α) : seval PT_ref26_Check (PO_lp_ref26_Check_12 F_ref26_frames) [] Try.f10.ntmps ⟨1, []⟩ (loopNo Try.f10 1) (E_ref26_Check_12 s) (hp (OS_ref26_Check_12 s)) (dL_ref26_Check_12 kn k0 k1) = b_ref26_Check_12 F_ref26_frames s kn k0 k1 := by kernel_rfl
theorem snd_ref26_Check_12 {α : Type} {I : Imm} {F_ref26_frames : Sg_ref26_frames (S_ref26_Check_12 ⊕ X_ref26_Check_12)} (h_ref26_frames : OrcOk (α := (S_ref26_Check_12 ⊕ X_ref26_Check_12)) Try.prog I 17 (.pure (ad_ref26_frames F_ref26_frames))) {L : SgL_ref26_Check_12 α} (hL : LoopOk (α := α) (fun (s : S_ref26_Check_12) => b_ref26_Check_12 F_ref26_frames s (fun s => some (.inl s)) (fun x => some (.inr (.inl x))) (fun x => some (.inr (.inr x)))) (fun (s : S_ref26_Check_12) (k : X_ref26_Check_12 → R α) => L s (fun x => k (.inl x)) (fun x => k (.inr x)))) : SoundC Try.prog I Try.f10.ntmps (.loop (loopNo Try.f10 1)) (Lf_ref26_Check_12 L) := by
  have run := fun (s : S_ref26_Check_12) (z : (S_ref26_Check_12 ⊕ X_ref26_Check_12)) (h : (fun (s : S_ref26_Check_12) => b_ref26_Check_12 F_ref26_frames s (fun s => some (.inl s)) (fun x => some (.inr (.inl x))) (fun x => some (.inr (.inr x)))) s = some z) => seval_spec (α := (S_ref26_Check_12 ⊕ X_ref26_Check_12)) (I := I) PT_ref26_Check_ok.te PT_ref26_Check_ok.mix (O := PO_lp_ref26_Check_12 F_ref26_frames) (OOk.cons h_ref26_frames (OOk.nil)) (L := []) (N := Try.f10.ntmps) (n := ⟨1, []⟩) (loopNo Try.f10 1) (by kernel_rfl) (LOk.nil) (E_ref26_Check_12 s) (hp (OS_ref26_Check_12 s)) _ z ((okb_ref26_Check_12 F_ref26_frames s (fun s => some (.inl s)) (fun x => some (.inr (.inl x))) (fun x => some (.inr (.inr x)))).trans h)
  refine loop_law_same (stp := fun (s : S_ref26_Check_12) => b_ref26_Check_12 F_ref26_frames s (fun s => some (.inl s)) (fun x => some (.inr (.inl x))) (fun x => some (.inr (.inr x)))) (E := E_ref26_Check_12) (os := OS_ref26_Check_12) (EX := EX_ref26_Check_12) (osX := OX_ref26_Check_12) (xx := xx_ref26_Check_12) (fun s o ho => ?_) (fun x o ho => ?_) (fun x => ?_) (fun s s1 hs => ?_) (fun s x hs => ?_) (fun env σ k r h => ?_)
  · simp only [OS_ref26_Check_12, List.mem_cons, List.not_mem_nil, or_false] at ho
    subst ho; rfl
  · rcases x with x | x <;> simp only [OX_ref26_Check_12, OX_ref26_Check_12_0, OX_ref26_Check_12_1, List.mem_cons, List.not_mem_nil, or_false] at ho
    all_goals (subst ho; rfl)
  · rcases x with x | x <;> simp [xx_ref26_Check_12]
  · obtain ⟨x, env1, σ1, h1, h2, h3⟩ := run s _ hs
    rcases dL_ref26_Check_12_spec h1 with ⟨rfl, s2, e1, e2, e3⟩ | ⟨rfl, s2, e1, e2, e3⟩ | ⟨rfl, s2, e1, e2, e3⟩
    · simp only [Option.some.injEq, Sum.inl.injEq] at e3
      subst e3
      exact ⟨rfl, env1, σ1, h3, e1, e2, (fun o ho => by simp only [OS_ref26_Check_12, List.mem_cons, List.not_mem_nil, or_false] at ho; subst ho; simp [OIds, Ids, Idss, OS_ref26_Check_12])⟩
    · simp at e3
    · simp at e3
  · obtain ⟨x1, env1, σ1, h1, h2, h3⟩ := run s _ hs
    rcases dL_ref26_Check_12_spec h1 with ⟨rfl, s2, e1, e2, e3⟩ | ⟨rfl, s2, e1, e2, e3⟩ | ⟨rfl, s2, e1, e2, e3⟩
    · simp at e3
    · simp only [Option.some.injEq, Sum.inr.injEq] at e3
      subst e3
      exact ⟨rfl, env1, σ1, h3, e1, e2, (fun o ho => by simp only [OX_ref26_Check_12, OX_ref26_Check_12_0, List.mem_cons, List.not_mem_nil, or_false] at ho; subst ho; simp [OIds, Ids, Idss, OS_ref26_Check_12])⟩
    · simp only [Option.some.injEq, Sum.inr.injEq] at e3
      subst e3
      exact ⟨rfl, env1, σ1, h3, e1, e2, (fun o ho => by simp only [OX_ref26_Check_12, OX_ref26_Check_12_1, List.mem_cons, List.not_mem_nil, or_false] at ho; subst ho; simp [OIds, Ids, Idss, OS_ref26_Check_12])⟩
  · skip
    unfold Lf_ref26_Check_12 at h
    obtain ⟨hlt, h0⟩ := bif_some h
    obtain ⟨w1, w2, w3⟩ := decT_spec h0
    obtain ⟨rfl, w4⟩ := decP_spec w3
    obtain ⟨w5, w6, w7⟩ := decT_spec w4
    obtain ⟨v0, rfl, w8⟩ := decI_spec w7
    obtain ⟨w9, w10, w11⟩ := decT_spec w8
    obtain ⟨v1, rfl, w12⟩ := decI_spec w11
    obtain ⟨w13, w14, w15⟩ := decO_spec w12
    split at w15 <;> try (cases w15; done)
    obtain ⟨v2, rfl, w16⟩ := decV_st_sl_int_i64_str_int_u64_str_spec w15
    obtain ⟨v3, rfl, w17⟩ := decI_spec w16
    obtain ⟨v4, rfl, w18⟩ := decV_int_i64_spec w17
    obtain ⟨n, x, hn, hk⟩ := hL _ (fun x => k (xx_ref26_Check_12 x) (envOf [0] (EX_ref26_Check_12 x)) (heapOf [0] (OX_ref26_Check_12 x) σ)) r (show (fun (s : S_ref26_Check_12) (k : X_ref26_Check_12 → R α) => L s (fun x => k (.inl x)) (fun x => k (.inr x))) ⟨v0, v1, v2, v3, v4⟩ (fun x => k (xx_ref26_Check_12 x) (envOf [0] (EX_ref26_Check_12 x)) (heapOf [0] (OX_ref26_Check_12 x) σ)) = some r from w18)
    refine ⟨n, ⟨v0, v1, v2, v3, v4⟩, x, [0], hn, ⟨rfl, by decide, env_ren ⟨⟨by simp [Ids, Idss, OS_ref26_Check_12], w2⟩, ⟨by simp [Ids, Idss, OS_ref26_Check_12], w6⟩, ⟨by simp [Ids, Idss, OS_ref26_Check_12], w10⟩, trivial⟩, enum_all ⟨w14, trivial⟩, (fun o ho => by simp only [OS_ref26_Check_12, List.mem_cons, List.not_mem_nil, or_false] at ho; subst ho; simp [OIds, Ids, Idss, OS_ref26_Check_12]), fun i hi => ?_⟩, hk⟩
    exact Nat.le_of_ble_eq_true (allB_iff.1 hlt i hi)
noncomputable abbrev PO_lp_ref26_Check_17 {α : Type} (F_ref26_isFrame : Sg_ref26_isFrame α) (F_ref26_in : Sg_ref26_in α) : ORC α := [(18, .pure (ad_ref26_isFrame F_ref26_isFrame)), (19, .pure (ad_ref26_in F_ref26_in))]
set_option maxRecDepth 100000 in
theorem okb_ref26_Check_17 {α : Type} (F_ref26_isFrame : Sg_ref26_isFrame α) (F_ref26_in : Sg_ref26_in α) (s : S_ref26_Check_17) (kn : S_ref26_Check_17 → R α) (k0 : X_ref26_Check_17_0 → R α) (k1 : X_ref26_Check_17_1 → R α) : seval PT_ref26_Check (PO_lp_ref26_Check_17 F_ref26_isFrame F_ref26_in) [] Try.f10.ntmps ⟨1, []⟩ (loopNo Try.f10 2) (E_ref26_Check_17 s) (hp (OS_ref26_Check_17 s)) (dL_ref26_Check_17 kn k0 k1) = b_ref26_Check_17 F_ref26_isFrame F_ref26_in s kn k0 k1 := by kernel_rfl
theorem snd_ref26_Check_17 {α : Type} {I : Imm} {F_ref26_isFrame : Sg_ref26_isFrame (S_ref26_Check_17 ⊕ X_ref26_Check_17)} {F_ref26_in : Sg_ref26_in (S_ref26_Check_17 ⊕ X_ref26_Check_17)} (h_ref26_isFrame : OrcOk (α := (S_ref26_Check_17 ⊕ X_ref26_Check_17)) Try.prog I 18 (.pure (ad_ref26_isFrame F_ref26_isFrame))) (h_ref26_in : OrcOk (α := (S_ref26_Check_17 ⊕ X_ref26_Check_17)) Try.prog I 19 (.pure (ad_ref26_in F_ref26_in))) {L : SgL_ref26_Check_17 α} (hL : LoopOk (α := α) (fun (s : S_ref26_Check_17) => b_ref26_Check_17 F_ref26_isFrame F_ref26_in s (fun s => some (.inl s)) (fun x => some (.inr (.inl x))) (fun x => some (.inr (.inr x)))) (fun (s : S_ref26_Check_17) (k : X_ref26_Check_17 → R α) => L s (fun x => k (.inl x)) (fun x => k (.inr x)))) : SoundC Try.prog I Try.f10.ntmps (.loop (loopNo Try.f10 2)) (Lf_ref26_Check_17 L) := by
  have run := fun (s : S_ref26_Check_17) (z : (S_ref26_Check_17 ⊕ X_ref26_Check_17)) (h : (fun (s : S_ref26_Check_17) => b_ref26_Check_17 F_ref26_isFrame F_ref26_in s (fun s => some (.inl s)) (fun x => some (.inr (.inl x))) (fun x => some (.inr (.inr x)))) s = some z) => seval_spec (α := (S_ref26_Check_17 ⊕ X_ref26_Check_17)) (I := I) PT_ref26_Check_ok.te PT_ref26_Check_ok.mix (O := PO_lp_ref26_Check_17 F_ref26_isFrame F_ref26_in) (OOk.cons h_ref26_isFrame (OOk.cons h_ref26_in (OOk.nil))) (L := []) (N := Try.f10.ntmps) (n := ⟨1, []⟩) (loopNo Try.f10 2) (by kernel_rfl) (LOk.nil) (E_ref26_Check_17 s) (hp (OS_ref26_Check_17 s)) _ z ((okb_ref26_Check_17 F_ref26_isFrame F_ref26_in s (fun s => some (.inl s)) (fun x => some (.inr (.inl x))) (fun x => some (.inr (.inr x)))).trans h)
  refine loop_law_same (stp := fun (s : S_ref26_Check_17) => b_ref26_Check_17 F_ref26_isFrame F_ref26_in s (fun s => some (.inl s)) (fun x => some (.inr (.inl x))) (fun x => some (.inr (.inr x)))) (E := E_ref26_Check_17) (os := OS_ref26_Check_17) (EX := EX_ref26_Check_17) (osX := OX_ref26_Check_17) (xx := xx_ref26_Check_17) (fun s o ho => ?_) (fun x o ho => ?_) (fun x => ?_) (fun s s1 hs => ?_) (fun s x hs => ?_) (fun env σ k r h => ?_)
  · simp only [OS_ref26_Check_17, List.mem_cons, List.not_mem_nil, or_false] at ho
    subst ho; rfl
  · rcases x with x | x <;> simp only [OX_ref26_Check_17, OX_ref26_Check_17_0, OX_ref26_Check_17_1, List.mem_cons, List.not_mem_nil, or_false] at ho
    all_goals (subst ho; rfl)
  · rcases x with x | x <;> simp [xx_ref26_Check_17]
  · obtain ⟨x, env1, σ1, h1, h2, h3⟩ := run s _ hs
    rcases dL_ref26_Check_17_spec h1 with ⟨rfl, s2, e1, e2, e3⟩ | ⟨rfl, s2, e1, e2, e3⟩ | ⟨rfl, s2, e1, e2, e3⟩
    · simp only [Option.some.injEq, Sum.inl.injEq] at e3
      subst e3
      exact ⟨rfl, env1, σ1, h3, e1, e2, (fun o ho => by simp only [OS_ref26_Check_17, List.mem_cons, List.not_mem_nil, or_false] at ho; subst ho; simp [OIds, Ids, Idss, OS_ref26_Check_17])⟩
    · simp at e3
    · simp at e3
  · obtain ⟨x1, env1, σ1, h1, h2, h3⟩ := run s _ hs
    rcases dL_ref26_Check_17_spec h1 with ⟨rfl, s2, e1, e2, e3⟩ | ⟨rfl, s2, e1, e2, e3⟩ | ⟨rfl, s2, e1, e2, e3⟩
    · simp at e3
    · simp only [Option.some.injEq, Sum.inr.injEq] at e3
      subst e3
      exact ⟨rfl, env1, σ1, h3, e1, e2, (fun o ho => by simp only [OX_ref26_Check_17, OX_ref26_Check_17_0, List.mem_cons, List.not_mem_nil, or_false] at ho; subst ho; simp [OIds, Ids, Idss, OS_ref26_Check_17])⟩
    · simp only [Option.some.injEq, Sum.inr.injEq] at e3
      subst e3
      exact ⟨rfl, env1, σ1, h3, e1, e2, (fun o ho => by simp only [OX_ref26_Check_17, OX_ref26_Check_17_1, List.mem_cons, List.not_mem_nil, or_false] at ho; subst ho; simp [OIds, Ids, Idss, OS_ref26_Check_17])⟩
  · skip
    unfold Lf_ref26_Check_17 at h
    obtain ⟨hlt, h0⟩ := bif_some h
    obtain ⟨w1, w2, w3⟩ := decT_spec h0
    obtain ⟨rfl, w4⟩ := decP_spec w3
    obtain ⟨w5, w6, w7⟩ := decT_spec w4
    obtain ⟨v0, rfl, w8⟩ := decI_spec w7
    obtain ⟨w9, w10, w11⟩ := decT_spec w8
    obtain ⟨v1, rfl, w12⟩ := decI_spec w11
    obtain ⟨w13, w14, w15⟩ := decO_spec w12
    split at w15 <;> try (cases w15; done)
    obtain ⟨v2, rfl, w16⟩ := decV_st_sl_int_i64_str_int_u64_str_spec w15
    obtain ⟨v3, rfl, w17⟩ := decI_spec w16
    obtain ⟨v4, rfl, w18⟩ := decV_int_i64_spec w17
    obtain ⟨n, x, hn, hk⟩ := hL _ (fun x => k (xx_ref26_Check_17 x) (envOf [0] (EX_ref26_Check_17 x)) (heapOf [0] (OX_ref26_Check_17 x) σ)) r (show (fun (s : S_ref26_Check_17) (k : X_ref26_Check_17 → R α) => L s (fun x => k (.inl x)) (fun x => k (.inr x))) ⟨v0, v1, v2, v3, v4⟩ (fun x => k (xx_ref26_Check_17 x) (envOf [0] (EX_ref26_Check_17 x)) (heapOf [0] (OX_ref26_Check_17 x) σ)) = some r from w18)
    refine ⟨n, ⟨v0, v1, v2, v3, v4⟩, x, [0], hn, ⟨rfl, by decide, env_ren ⟨⟨by simp [Ids, Idss, OS_ref26_Check_17], w2⟩, ⟨by simp [Ids, Idss, OS_ref26_Check_17], w6⟩, ⟨by simp [Ids, Idss, OS_ref26_Check_17], w10⟩, trivial⟩, enum_all ⟨w14, trivial⟩, (fun o ho => by simp only [OS_ref26_Check_17, List.mem_cons, List.not_mem_nil, or_false] at ho; subst ho; simp [OIds, Ids, Idss, OS_ref26_Check_17]), fun i hi => ?_⟩, hk⟩
    exact Nat.le_of_ble_eq_true (allB_iff.1 hlt i hi)
noncomputable abbrev PO_lp_ref26_Check_22 {α : Type} (F_ref26_Window : Sg_ref26_Window α) : ORC α := [(20, .pure (ad_ref26_Window F_ref26_Window))]
set_option maxRecDepth 100000 in
theorem okb_ref26_Check_22 {α : Type} (F_ref26_Window : Sg_ref26_Window α) (s : S_ref26_Check_22) (kn : S_ref26_Check_22 → R α) (k0 : X_ref26_Check_22_0 → R α) (k1 : X_ref26_Check_22_1 → R α) : seval PT_ref26_Check (PO_lp_ref26_Check_22 F_ref26_Window) [] Try.f10.ntmps ⟨1, []⟩ (loopNo Try.f10 3) (E_ref26_Check_22 s) (hp (OS_ref26_Check_22 s)) (dL_ref26_Check_22 kn k0 k1) = b_ref26_Check_22 F_ref26_Window s kn k0 k1 := by kernel_rfl
theorem snd_ref26_Check_22 {α : Type} {I : Imm} {F_ref26_Window : Sg_ref26_Window (S_ref26_Check_22 ⊕ X_ref26_Check_22)} (h_ref26_Window : OrcOk (α := (S_ref26_Check_22 ⊕ X_ref26_Check_22)) Try.prog I 20 (.pure (ad_ref26_Window F_ref26_Window))) {L : SgL_ref26_Check_22 α} (hL : LoopOk (α := α) (fun (s : S_ref26_Check_22) => b_ref26_Check_22 F_ref26_Window s (fun s => some (.inl s)) (fun x => some (.inr (.inl x))) (fun x => some (.inr (.inr x)))) (fun (s : S_ref26_Check_22) (k : X_ref26_Check_22 → R α) => L s (fun x => k (.inl x)) (fun x => k (.inr x)))) : SoundC Try.prog I Try.f10.ntmps (.loop (loopNo Try.f10 3)) (Lf_ref26_Check_22 L) := by
  have run := fun (s : S_ref26_Check_22) (z : (S_ref26_Check_22 ⊕ X_ref26_Check_22)) (h : (fun (s : S_ref26_Check_22) => b_ref26_Check_22 F_ref26_Window s (fun s => some (.inl s)) (fun x => some (.inr (.inl x))) (fun x => some (.inr (.inr x)))) s = some z) => seval_spec (α := (S_ref26_Check_22 ⊕ X_ref26_Check_22)) (I := I) PT_ref26_Check_ok.te PT_ref26_Check_ok.mix (O := PO_lp_ref26_Check_22 F_ref26_Window) (OOk.cons h_ref26_Window (OOk.nil)) (L := []) (N := Try.f10.ntmps) (n := ⟨1, []⟩) (loopNo Try.f10 3) (by kernel_rfl) (LOk.nil) (E_ref26_Check_22 s) (hp (OS_ref26_Check_22 s)) _ z ((okb_ref26_Check_22 F_ref26_Window s (fun s => some (.inl s)) (fun x => some (.inr (.inl x))) (fun x => some (.inr (.inr x)))).trans h)
  refine loop_law_same (stp := fun (s : S_ref26_Check_22) => b_ref26_Check_22 F_ref26_Window s (fun s => some (.inl s)) (fun x => some (.inr (.inl x))) (fun x => some (.inr (.inr x)))) (E := E_ref26_Check_22) (os := OS_ref26_Check_22) (EX := EX_ref26_Check_22) (osX := OX_ref26_Check_22) (xx := xx_ref26_Check_22) (fun s o ho => ?_) (fun x o ho => ?_) (fun x => ?_) (fun s s1 hs => ?_) (fun s x hs => ?_) (fun env σ k r h => ?_)
  · simp only [OS_ref26_Check_22, List.mem_cons, List.not_mem_nil, or_false] at ho
    subst ho; rfl
  · rcases x with x | x <;> simp only [OX_ref26_Check_22, OX_ref26_Check_22_0, OX_ref26_Check_22_1, List.mem_cons, List.not_mem_nil, or_false] at ho
    all_goals (subst ho; rfl)
  · rcases x with x | x <;> simp [xx_ref26_Check_22]
  · obtain ⟨x, env1, σ1, h1, h2, h3⟩ := run s _ hs
    rcases dL_ref26_Check_22_spec h1 with ⟨rfl, s2, e1, e2, e3⟩ | ⟨rfl, s2, e1, e2, e3⟩ | ⟨rfl, s2, e1, e2, e3⟩
    · simp only [Option.some.injEq, Sum.inl.injEq] at e3
      subst e3
      exact ⟨rfl, env1, σ1, h3, e1, e2, (fun o ho => by simp only [OS_ref26_Check_22, List.mem_cons, List.not_mem_nil, or_false] at ho; subst ho; simp [OIds, Ids, Idss, OS_ref26_Check_22])⟩
    · simp at e3
    · simp at e3
  · obtain ⟨x1, env1, σ1, h1, h2, h3⟩ := run s _ hs
    rcases dL_ref26_Check_22_spec h1 with ⟨rfl, s2, e1, e2, e3⟩ | ⟨rfl, s2, e1, e2, e3⟩ | ⟨rfl, s2, e1, e2, e3⟩
    · simp at e3
    · simp only [Option.some.injEq, Sum.inr.injEq] at e3
      subst e3
      exact ⟨rfl, env1, σ1, h3, e1, e2, (fun o ho => by simp only [OX_ref26_Check_22, OX_ref26_Check_22_0, List.mem_cons, List.not_mem_nil, or_false] at ho; subst ho; simp [OIds, Ids, Idss, OS_ref26_Check_22])⟩
    · simp only [Option.some.injEq, Sum.inr.injEq] at e3
      subst e3
      exact ⟨rfl, env1, σ1, h3, e1, e2, (fun o ho => by simp only [OX_ref26_Check_22, OX_ref26_Check_22_1, List.mem_cons, List.not_mem_nil, or_false] at ho; subst ho; simp [OIds, Ids, Idss, OS_ref26_Check_22])⟩
  · skip
    unfold Lf_ref26_Check_22 at h
    obtain ⟨hlt, h0⟩ := bif_some h
    obtain ⟨w1, w2, w3⟩ := decT_spec h0
    obtain ⟨rfl, w4⟩ := decP_spec w3
    obtain ⟨w5, w6, w7⟩ := decT_spec w4
    obtain ⟨v0, rfl, w8⟩ := decI_spec w7
    obtain ⟨w9, w10, w11⟩ := decT_spec w8
    obtain ⟨v1, rfl, w12⟩ := decI_spec w11
    obtain ⟨w13, w14, w15⟩ := decO_spec w12
    split at w15 <;> try (cases w15; done)
    obtain ⟨v2, rfl, w16⟩ := decV_st_sl_int_i64_str_int_u64_str_spec w15
    obtain ⟨v3, rfl, w17⟩ := decI_spec w16
    obtain ⟨v4, rfl, w18⟩ := decV_int_i64_spec w17
    obtain ⟨n, x, hn, hk⟩ := hL _ (fun x => k (xx_ref26_Check_22 x) (envOf [0] (EX_ref26_Check_22 x)) (heapOf [0] (OX_ref26_Check_22 x) σ)) r (show (fun (s : S_ref26_Check_22) (k : X_ref26_Check_22 → R α) => L s (fun x => k (.inl x)) (fun x => k (.inr x))) ⟨v0, v1, v2, v3, v4⟩ (fun x => k (xx_ref26_Check_22 x) (envOf [0] (EX_ref26_Check_22 x)) (heapOf [0] (OX_ref26_Check_22 x) σ)) = some r from w18)
    refine ⟨n, ⟨v0, v1, v2, v3, v4⟩, x, [0], hn, ⟨rfl, by decide, env_ren ⟨⟨by simp [Ids, Idss, OS_ref26_Check_22], w2⟩, ⟨by simp [Ids, Idss, OS_ref26_Check_22], w6⟩, ⟨by simp [Ids, Idss, OS_ref26_Check_22], w10⟩, trivial⟩, enum_all ⟨w14, trivial⟩, (fun o ho => by simp only [OS_ref26_Check_22, List.mem_cons, List.not_mem_nil, or_false] at ho; subst ho; simp [OIds, Ids, Idss, OS_ref26_Check_22]), fun i hi => ?_⟩, hk⟩
    exact Nat.le_of_ble_eq_true (allB_iff.1 hlt i hi)
noncomputable abbrev PO_ref26_Check {α : Type} (L_ref26_Check_5 : SgL_ref26_Check_5 α) (L_ref26_Check_12 : SgL_ref26_Check_12 α) (L_ref26_Check_17 : SgL_ref26_Check_17 α) (L_ref26_Check_22 : SgL_ref26_Check_22 α) : ORC α := []
set_option maxRecDepth 100000 in
theorem ok_ref26_Check {α : Type} (L_ref26_Check_5 : SgL_ref26_Check_5 α) (L_ref26_Check_12 : SgL_ref26_Check_12 α) (L_ref26_Check_17 : SgL_ref26_Check_17 α) (L_ref26_Check_22 : SgL_ref26_Check_22 α) (x0 : GConfig) (k : Int → Int → R α) : bodyL PT_ref26_Check (PO_ref26_Check L_ref26_Check_5 L_ref26_Check_12 L_ref26_Check_17 L_ref26_Check_22) [(5, Lf_ref26_Check_5 L_ref26_Check_5), (12, Lf_ref26_Check_12 L_ref26_Check_12), (17, Lf_ref26_Check_17 L_ref26_Check_17), (22, Lf_ref26_Check_22 L_ref26_Check_22)] ⟨1, []⟩ Try.f10 [(GConfig.sv x0)] emp (fun v _ => dR_ref26_Check v k) = p_ref26_Check L_ref26_Check_5 L_ref26_Check_12 L_ref26_Check_17 L_ref26_Check_22 x0 k := by kernel_rfl
theorem mk_ref26_Check {α : Type} {I : Imm} {L_ref26_Check_5 : SgL_ref26_Check_5 α} {L_ref26_Check_12 : SgL_ref26_Check_12 α} {L_ref26_Check_17 : SgL_ref26_Check_17 α} {L_ref26_Check_22 : SgL_ref26_Check_22 α} (h_L_ref26_Check_5 : SoundC (α := α) Try.prog I Try.f10.ntmps (.loop (loopNo Try.f10 0)) (Lf_ref26_Check_5 L_ref26_Check_5)) (h_L_ref26_Check_12 : SoundC (α := α) Try.prog I Try.f10.ntmps (.loop (loopNo Try.f10 1)) (Lf_ref26_Check_12 L_ref26_Check_12)) (h_L_ref26_Check_17 : SoundC (α := α) Try.prog I Try.f10.ntmps (.loop (loopNo Try.f10 2)) (Lf_ref26_Check_17 L_ref26_Check_17)) (h_L_ref26_Check_22 : SoundC (α := α) Try.prog I Try.f10.ntmps (.loop (loopNo Try.f10 3)) (Lf_ref26_Check_22 L_ref26_Check_22)) : OrcOk (α := α) Try.prog I 10 (.pure (ad_ref26_Check (p_ref26_Check L_ref26_Check_5 L_ref26_Check_12 L_ref26_Check_17 L_ref26_Check_22))) := by
  refine orc_pureK PT_ref26_Check_ok (O := PO_ref26_Check L_ref26_Check_5 L_ref26_Check_12 L_ref26_Check_17 L_ref26_Check_22) (OOk.nil) (L := [(5, Lf_ref26_Check_5 L_ref26_Check_5), (12, Lf_ref26_Check_12 L_ref26_Check_12), (17, Lf_ref26_Check_17 L_ref26_Check_17), (22, Lf_ref26_Check_22 L_ref26_Check_22)]) ⟨1, []⟩ Try.func10 (by kernel_rfl) (by kernel_rfl) (by kernel_rfl) (flok_of (l := [loopNo Try.f10 0, loopNo Try.f10 1, loopNo Try.f10 2, loopNo Try.f10 3]) (by kernel_rfl) ⟨lk_yes (by kernel_rfl) h_L_ref26_Check_5, lk_yes (by kernel_rfl) h_L_ref26_Check_12, lk_yes (by kernel_rfl) h_L_ref26_Check_17, lk_yes (by kernel_rfl) h_L_ref26_Check_22, trivial⟩) ?_
  intro args k r hk
  unfold ad_ref26_Check at hk
  split at hk <;> try (cases hk; done)
  obtain ⟨x0, rfl, hk0⟩ := GConfig.dec_spec hk
  have hkz := hk0
  refine ⟨by simp [Ids, Idss], fun v => dR_ref26_Check v (fun r0 r1 => k (.tuple [(.int .i64 r0), (.int .i64 r1)])), ?_, fun v hv => ?_⟩
  · rw [ok_ref26_Check]; exact hkz
  · obtain ⟨r0, r1, rfl, hv1⟩ := dR_ref26_Check_spec hv; exact ⟨hv1, by simp [Ids, Idss]⟩
abbrev PT_slices_IndexFuncGuests : TE := [(3, ⟨.int .i64 0, 1, 8, .sc (.int .i64), none⟩), (22, ⟨.nils, 1, 24, .sc (.slice 35), none⟩), (35, ⟨.agg [.nils, .str .empty, .int .u64 0, .str .empty], 4, 64, .st [(0, 1, false), (1, 1, false), (2, 1, false), (3, 1, false)], none⟩)]
theorem PT_slices_IndexFuncGuests_ok : Prg Try.prog PT_slices_IndexFuncGuests := ⟨(.cons pe_3 (.cons pe_22 (.cons pe_35 (TEok.nil _)))), by kernel_rfl⟩

abbrev PT_config_Owner_1 : TE := [(3, ⟨.int .i64 0, 1, 8, .sc (.int .i64), none⟩), (23, ⟨.nils, 1, 24, .sc (.slice 3), none⟩), (35, ⟨.agg [.nils, .str .empty, .int .u64 0, .str .empty], 4, 64, .st [(0, 1, false), (1, 1, false), (2, 1, false), (3, 1, false)], none⟩)]
theorem PT_config_Owner_1_ok : Prg Try.prog PT_config_Owner_1 := ⟨(.cons pe_3 (.cons pe_23 (.cons pe_35 (TEok.nil _)))), by kernel_rfl⟩
noncomputable abbrev B_lp_slices_IndexFuncGuests_2_config_Owner_1 {α : Type} (F_slices_ContainsInts : Sg_slices_ContainsInts α) : FF α := byBody PT_config_Owner_1 [(23, .pure (ad_slices_ContainsInts F_slices_ContainsInts))] ⟨1, []⟩ Try.f22
theorem cB_lp_slices_IndexFuncGuests_2_config_Owner_1 {α : Type} {I : Imm} {F_slices_ContainsInts : Sg_slices_ContainsInts α} (h_slices_ContainsInts : OrcOk (α := α) Try.prog I 23 (.pure (ad_slices_ContainsInts F_slices_ContainsInts))) : OrcOk (α := α) Try.prog I 22 (.full (B_lp_slices_IndexFuncGuests_2_config_Owner_1 F_slices_ContainsInts)) := orc_body PT_config_Owner_1_ok (OOk.cons h_slices_ContainsInts (OOk.nil)) ⟨1, []⟩ Try.func22 (by kernel_rfl) (by kernel_rfl) (by kernel_rfl)
noncomputable abbrev PO_lp_slices_IndexFuncGuests_2 {α : Type} (F_slices_ContainsInts : Sg_slices_ContainsInts α) : ORC α := [(22, .full (B_lp_slices_IndexFuncGuests_2_config_Owner_1 F_slices_ContainsInts))]
set_option maxRecDepth 100000 in
theorem okb_slices_IndexFuncGuests_2 {α : Type} (F_slices_ContainsInts : Sg_slices_ContainsInts α) (s : S_slices_IndexFuncGuests_2) (kn : S_slices_IndexFuncGuests_2 → R α) (k0 : X_slices_IndexFuncGuests_2_0 → R α) (k1 : X_slices_IndexFuncGuests_2_1 → R α) : seval PT_slices_IndexFuncGuests (PO_lp_slices_IndexFuncGuests_2 F_slices_ContainsInts) [] Try.f21.ntmps ⟨1, []⟩ (loopNo Try.f21 0) (E_slices_IndexFuncGuests_2 s) (hp (OS_slices_IndexFuncGuests_2 s)) (dL_slices_IndexFuncGuests_2 kn k0 k1) = b_slices_IndexFuncGuests_2 F_slices_ContainsInts s kn k0 k1 := by kernel_rfl
theorem snd_slices_IndexFuncGuests_2 {α : Type} {I : Imm} {F_slices_ContainsInts : Sg_slices_ContainsInts (S_slices_IndexFuncGuests_2 ⊕ X_slices_IndexFuncGuests_2)} (h_slices_ContainsInts : OrcOk (α := (S_slices_IndexFuncGuests_2 ⊕ X_slices_IndexFuncGuests_2)) Try.prog I 23 (.pure (ad_slices_ContainsInts F_slices_ContainsInts))) {L : SgL_slices_IndexFuncGuests_2 α} (hL : LoopOk (α := α) (fun (s : S_slices_IndexFuncGuests_2) => b_slices_IndexFuncGuests_2 F_slices_ContainsInts s (fun s => some (.inl s)) (fun x => some (.inr (.inl x))) (fun x => some (.inr (.inr x)))) (fun (s : S_slices_IndexFuncGuests_2) (k : X_slices_IndexFuncGuests_2 → R α) => L s (fun x => k (.inl x)) (fun x => k (.inr x)))) : SoundC Try.prog I Try.f21.ntmps (.loop (loopNo Try.f21 0)) (Lf_slices_IndexFuncGuests_2 L) := by
  have run := fun (s : S_slices_IndexFuncGuests_2) (z : (S_slices_IndexFuncGuests_2 ⊕ X_slices_IndexFuncGuests_2)) (h : (fun (s : S_slices_IndexFuncGuests_2) => b_slices_IndexFuncGuests_2 F_slices_ContainsInts s (fun s => some (.inl s)) (fun x => some (.inr (.inl x))) (fun x => some (.inr (.inr x)))) s = some z) => seval_spec (α := (S_slices_IndexFuncGuests_2 ⊕ X_slices_IndexFuncGuests_2)) (I := I) PT_slices_IndexFuncGuests_ok.te PT_slices_IndexFuncGuests_ok.mix (O := PO_lp_slices_IndexFuncGuests_2 F_slices_ContainsInts) (OOk.cons (cB_lp_slices_IndexFuncGuests_2_config_Owner_1 h_slices_ContainsInts) (OOk.nil)) (L := []) (N := Try.f21.ntmps) (n := ⟨1, []⟩) (loopNo Try.f21 0) (by kernel_rfl) (LOk.nil) (E_slices_IndexFuncGuests_2 s) (hp (OS_slices_IndexFuncGuests_2 s)) _ z ((okb_slices_IndexFuncGuests_2 F_slices_ContainsInts s (fun s => some (.inl s)) (fun x => some (.inr (.inl x))) (fun x => some (.inr (.inr x)))).trans h)
  refine loop_law_same (stp := fun (s : S_slices_IndexFuncGuests_2) => b_slices_IndexFuncGuests_2 F_slices_ContainsInts s (fun s => some (.inl s)) (fun x => some (.inr (.inl x))) (fun x => some (.inr (.inr x)))) (E := E_slices_IndexFuncGuests_2) (os := OS_slices_IndexFuncGuests_2) (EX := EX_slices_IndexFuncGuests_2) (osX := OX_slices_IndexFuncGuests_2) (xx := xx_slices_IndexFuncGuests_2) (fun s o ho => ?_) (fun x o ho => ?_) (fun x => ?_) (fun s s1 hs => ?_) (fun s x hs => ?_) (fun env σ k r h => ?_)
  · simp only [OS_slices_IndexFuncGuests_2, List.mem_cons, List.not_mem_nil, or_false] at ho
    subst ho; rfl
  · rcases x with x | x <;> simp only [OX_slices_IndexFuncGuests_2, OX_slices_IndexFuncGuests_2_0, OX_slices_IndexFuncGuests_2_1, List.mem_cons, List.not_mem_nil, or_false] at ho
    all_goals (subst ho; rfl)
  · rcases x with x | x <;> simp [xx_slices_IndexFuncGuests_2]
  · obtain ⟨x, env1, σ1, h1, h2, h3⟩ := run s _ hs
    rcases dL_slices_IndexFuncGuests_2_spec h1 with ⟨rfl, s2, e1, e2, e3⟩ | ⟨rfl, s2, e1, e2, e3⟩ | ⟨rfl, s2, e1, e2, e3⟩
    · simp only [Option.some.injEq, Sum.inl.injEq] at e3
      subst e3
      exact ⟨rfl, env1, σ1, h3, e1, e2, (fun o ho => by simp only [OS_slices_IndexFuncGuests_2, List.mem_cons, List.not_mem_nil, or_false] at ho; subst ho; simp [OIds, Ids, Idss, OS_slices_IndexFuncGuests_2])⟩
    · simp at e3
    · simp at e3
  · obtain ⟨x1, env1, σ1, h1, h2, h3⟩ := run s _ hs
    rcases dL_slices_IndexFuncGuests_2_spec h1 with ⟨rfl, s2, e1, e2, e3⟩ | ⟨rfl, s2, e1, e2, e3⟩ | ⟨rfl, s2, e1, e2, e3⟩
    · simp at e3
    · simp only [Option.some.injEq, Sum.inr.injEq] at e3
      subst e3
      exact ⟨rfl, env1, σ1, h3, e1, e2, (fun o ho => by simp only [OX_slices_IndexFuncGuests_2, OX_slices_IndexFuncGuests_2_0, List.mem_cons, List.not_mem_nil, or_false] at ho; subst ho; simp [OIds, Ids, Idss, OS_slices_IndexFuncGuests_2])⟩
    · simp only [Option.some.injEq, Sum.inr.injEq] at e3
      subst e3
      exact ⟨rfl, env1, σ1, h3, e1, e2, (fun o ho => by simp only [OX_slices_IndexFuncGuests_2, OX_slices_IndexFuncGuests_2_1, List.mem_cons, List.not_mem_nil, or_false] at ho; subst ho; simp [OIds, Ids, Idss, OS_slices_IndexFuncGuests_2])⟩
  · skip
    unfold Lf_slices_IndexFuncGuests_2 at h
    obtain ⟨hlt, h0⟩ := bif_some h
    obtain ⟨w1, w2, w3⟩ := decT_spec h0
    obtain ⟨v0, rfl, w4⟩ := decV_st_sl_int_i64_str_int_u64_str_spec w3
    obtain ⟨w5, w6, w7⟩ := decT_spec w4
    obtain ⟨rfl, w8⟩ := decFn_spec w7
    obtain ⟨w9, w10, w11⟩ := decT_spec w8
    obtain ⟨v1, rfl, w12⟩ := decI_spec w11
    obtain ⟨w13, w14, w15⟩ := decT_spec w12
    obtain ⟨v2, rfl, w16⟩ := decI_spec w15
    obtain ⟨w17, w18, w19⟩ := decO_spec w16
    obtain ⟨v3, rfl, w20⟩ := decI_spec w19
    obtain ⟨n, x, hn, hk⟩ := hL _ (fun x => k (xx_slices_IndexFuncGuests_2 x) (envOf [0] (EX_slices_IndexFuncGuests_2 x)) (heapOf [0] (OX_slices_IndexFuncGuests_2 x) σ)) r (show (fun (s : S_slices_IndexFuncGuests_2) (k : X_slices_IndexFuncGuests_2 → R α) => L s (fun x => k (.inl x)) (fun x => k (.inr x))) ⟨v0, v1, v2, v3⟩ (fun x => k (xx_slices_IndexFuncGuests_2 x) (envOf [0] (EX_slices_IndexFuncGuests_2 x)) (heapOf [0] (OX_slices_IndexFuncGuests_2 x) σ)) = some r from w20)
    refine ⟨n, ⟨v0, v1, v2, v3⟩, x, [0], hn, ⟨rfl, by decide, env_ren ⟨⟨by simp [Ids, Idss, OS_slices_IndexFuncGuests_2], w2⟩, ⟨by simp [Ids, Idss, OS_slices_IndexFuncGuests_2], w6⟩, ⟨by simp [Ids, Idss, OS_slices_IndexFuncGuests_2], w10⟩, ⟨by simp [Ids, Idss, OS_slices_IndexFuncGuests_2], w14⟩, trivial⟩, enum_all ⟨w18, trivial⟩, (fun o ho => by simp only [OS_slices_IndexFuncGuests_2, List.mem_cons, List.not_mem_nil, or_false] at ho; subst ho; simp [OIds, Ids, Idss, OS_slices_IndexFuncGuests_2]), fun i hi => ?_⟩, hk⟩
    exact Nat.le_of_ble_eq_true (allB_iff.1 hlt i hi)
noncomputable abbrev PO_slices_IndexFuncGuests {α : Type} (L_slices_IndexFuncGuests_2 : SgL_slices_IndexFuncGuests_2 α) : ORC α := []
set_option maxRecDepth 100000 in
theorem ok_slices_IndexFuncGuests {α : Type} (L_slices_IndexFuncGuests_2 : SgL_slices_IndexFuncGuests_2 α) (x0 : (Bool × Addr × Nat × Nat × (Nat → ((Bool × Addr × Nat × Nat × (Nat → Int)) × ByteArray × Int × ByteArray × Unit)))) (x1 : Int) (k : Option Nat → Int → Int → R α) : bodyL PT_slices_IndexFuncGuests (PO_slices_IndexFuncGuests L_slices_IndexFuncGuests_2) [(2, Lf_slices_IndexFuncGuests_2 L_slices_IndexFuncGuests_2)] ⟨1, []⟩ Try.f21 [.vslc (.st [(.sl (.int .i64)), .str, (.int .u64), .str]) x0.1 x0.2.1 x0.2.2.1 x0.2.2.2.1 x0.2.2.2.2, .fn (.func 22) [] [.ptr 0 []]] (hp [.cells none (.int .i64 x1)]) (fun v σ1 => dR_slices_IndexFuncGuests v σ1 k) = p_slices_IndexFuncGuests L_slices_IndexFuncGuests_2 x0 x1 (k none) := by kernel_rfl
theorem mk_slices_IndexFuncGuests {α : Type} {I : Imm} {L_slices_IndexFuncGuests_2 : SgL_slices_IndexFuncGuests_2 α} (h_L_slices_IndexFuncGuests_2 : SoundC (α := α) Try.prog I Try.f21.ntmps (.loop (loopNo Try.f21 0)) (Lf_slices_IndexFuncGuests_2 L_slices_IndexFuncGuests_2)) : OrcOk (α := α) Try.prog I 21 (.full (ad_slices_IndexFuncGuests (p_slices_IndexFuncGuests L_slices_IndexFuncGuests_2))) := by
  refine orc_canonK PT_slices_IndexFuncGuests_ok (O := PO_slices_IndexFuncGuests L_slices_IndexFuncGuests_2) (OOk.nil) (L := [(2, Lf_slices_IndexFuncGuests_2 L_slices_IndexFuncGuests_2)]) ⟨1, []⟩ Try.func21 (by kernel_rfl) (by kernel_rfl) (by kernel_rfl) (flok_of (l := [loopNo Try.f21 0]) (by kernel_rfl) ⟨lk_yes (by kernel_rfl) h_L_slices_IndexFuncGuests_2, trivial⟩) ?_
  intro args σ k r hk
  unfold ad_slices_IndexFuncGuests at hk
  split at hk <;> try (cases hk; done)
  rename_i a0 b
  split at hk <;> try (cases hk; done)
  rename_i x1 hx
  obtain ⟨x0, rfl, hk0⟩ := decV_st_sl_int_i64_str_int_u64_str_spec hk
  refine ⟨[b], [.cells none (.int .i64 x1)], [.vslc (.st [(.sl (.int .i64)), .str, (.int .u64), .str]) x0.1 x0.2.1 x0.2.2.1 x0.2.2.2.1 x0.2.2.2.2, .fn (.func 22) [] [.ptr 0 []]], lay_mk rfl (by simp) rfl ⟨hx, trivial⟩ (by simp [AllL, Ids, Idss]) (by simp [AllL, OIds, Ids, Idss]), fun v σ1 => dR_slices_IndexFuncGuests v σ1 (fun g r0 r1 => k (.int .i64 r0) ⟨σ.next, [(b, .cells g (.int .i64 r1))] ++ σ.blocks⟩), ?_, fun v σ1 hg hv => ?_⟩
  · rw [ok_slices_IndexFuncGuests]; exact hk0
  · unfold dR_slices_IndexFuncGuests at hv
    obtain ⟨hc, hv0⟩ := bif_some hv
    obtain ⟨r0, rfl, w0⟩ := decI_spec hv0
    obtain ⟨g, u, hnow, w1⟩ := nowCell_spec w0
    obtain ⟨r1, rfl, w2⟩ := decI_spec w1
    exact ⟨[], _, pub_cell hg (by simp [SObj.live]) hc (by simp) hnow (by simp [Ids, Idss]) (by simp [Ids, Idss]), w2⟩
abbrev PT_config_Owner : TE := [(3, ⟨.int .i64 0, 1, 8, .sc (.int .i64), none⟩), (22, ⟨.nils, 1, 24, .sc (.slice 35), none⟩), (25, ⟨.agg [.nils, .int .i64 0, .nils], 3, 56, .st [(0, 1, false), (1, 1, false), (2, 1, false)], none⟩), (35, ⟨.agg [.nils, .str .empty, .int .u64 0, .str .empty], 4, 64, .st [(0, 1, false), (1, 1, false), (2, 1, false), (3, 1, false)], none⟩)]
theorem PT_config_Owner_ok : Prg Try.prog PT_config_Owner := ⟨(.cons pe_3 (.cons pe_22 (.cons pe_25 (.cons pe_35 (TEok.nil _))))), by kernel_rfl⟩

noncomputable abbrev PO_config_Owner {α : Type} (F_slices_IndexFuncGuests : Sg_slices_IndexFuncGuests α) : ORC α := [(21, .full (ad_slices_IndexFuncGuests F_slices_IndexFuncGuests))]
set_option maxRecDepth 100000 in
theorem ok_config_Owner {α : Type} (F_slices_IndexFuncGuests : Sg_slices_IndexFuncGuests α) (x0 : GConfig) (x1 : Int) (k : Int → R α) : bodyL PT_config_Owner (PO_config_Owner F_slices_IndexFuncGuests) [] ⟨1, []⟩ Try.f12 [(GConfig.sv x0), (.int .i64 x1)] emp (fun v _ => dR_config_Owner v k) = p_config_Owner F_slices_IndexFuncGuests x0 x1 k := by kernel_rfl
theorem mk_config_Owner {α : Type} {I : Imm} {F_slices_IndexFuncGuests : Sg_slices_IndexFuncGuests α} (h_slices_IndexFuncGuests : OrcOk (α := α) Try.prog I 21 (.full (ad_slices_IndexFuncGuests F_slices_IndexFuncGuests))) : OrcOk (α := α) Try.prog I 12 (.pure (ad_config_Owner (p_config_Owner F_slices_IndexFuncGuests))) := by
  refine orc_pureK PT_config_Owner_ok (O := PO_config_Owner F_slices_IndexFuncGuests) (OOk.cons h_slices_IndexFuncGuests (OOk.nil)) (L := []) ⟨1, []⟩ Try.func12 (by kernel_rfl) (by kernel_rfl) (by kernel_rfl) FLOk.nil ?_
  intro args k r hk
  unfold ad_config_Owner at hk
  split at hk <;> try (cases hk; done)
  obtain ⟨x0, rfl, hk0⟩ := GConfig.dec_spec hk
  obtain ⟨x1, rfl, hk1⟩ := decI_spec hk0
  have hkz := hk1
  refine ⟨by simp [Ids, Idss], fun v => dR_config_Owner v (fun r0 => k (.int .i64 r0)), ?_, fun v hv => ?_⟩
  · rw [ok_config_Owner]; exact hkz
  · obtain ⟨r0, rfl, hv1⟩ := dR_config_Owner_spec hv; exact ⟨hv1, by simp [Ids, Idss]⟩
abbrev PT_law24_ConfigTells : TE := [(3, ⟨.int .i64 0, 1, 8, .sc (.int .i64), none⟩), (22, ⟨.nils, 1, 24, .sc (.slice 35), none⟩), (23, ⟨.nils, 1, 24, .sc (.slice 3), none⟩), (25, ⟨.agg [.nils, .int .i64 0, .nils], 3, 56, .st [(0, 1, false), (1, 1, false), (2, 1, false)], none⟩), (35, ⟨.agg [.nils, .str .empty, .int .u64 0, .str .empty], 4, 64, .st [(0, 1, false), (1, 1, false), (2, 1, false), (3, 1, false)], none⟩)]
theorem PT_law24_ConfigTells_ok : Prg Try.prog PT_law24_ConfigTells := ⟨(.cons pe_3 (.cons pe_22 (.cons pe_23 (.cons pe_25 (.cons pe_35 (TEok.nil _)))))), by kernel_rfl⟩

noncomputable abbrev PO_lp_law24_ConfigTells_12 {α : Type}  : ORC α := []
set_option maxRecDepth 100000 in
theorem okb_law24_ConfigTells_12 {α : Type}  (s : S_law24_ConfigTells_12) (kn : S_law24_ConfigTells_12 → R α) (k0 : X_law24_ConfigTells_12_0 → R α) : seval PT_law24_ConfigTells (PO_lp_law24_ConfigTells_12 ) [] Try.f3.ntmps ⟨1, []⟩ (loopNo Try.f3 1) (E_law24_ConfigTells_12 s) (hp (OS_law24_ConfigTells_12 s)) (dL_law24_ConfigTells_12 kn k0) = b_law24_ConfigTells_12  s kn k0 := by kernel_rfl
theorem snd_law24_ConfigTells_12 {α : Type} {I : Imm}  {L : SgL_law24_ConfigTells_12 α} (hL : LoopOk (α := α) (fun (s : S_law24_ConfigTells_12) => b_law24_ConfigTells_12  s (fun s => some (.inl s)) (fun x => some (.inr x))) (fun (s : S_law24_ConfigTells_12) (k : X_law24_ConfigTells_12 → R α) => L s (fun x => k x))) : SoundC Try.prog I Try.f3.ntmps (.loop (loopNo Try.f3 1)) (Lf_law24_ConfigTells_12 L) := by
  have run := fun (s : S_law24_ConfigTells_12) (z : (S_law24_ConfigTells_12 ⊕ X_law24_ConfigTells_12)) (h : (fun (s : S_law24_ConfigTells_12) => b_law24_ConfigTells_12  s (fun s => some (.inl s)) (fun x => some (.inr x))) s = some z) => seval_spec (α := (S_law24_ConfigTells_12 ⊕ X_law24_ConfigTells_12)) (I := I) PT_law24_ConfigTells_ok.te PT_law24_ConfigTells_ok.mix (O := PO_lp_law24_ConfigTells_12 ) (OOk.nil) (L := []) (N := Try.f3.ntmps) (n := ⟨1, []⟩) (loopNo Try.f3 1) (by kernel_rfl) (LOk.nil) (E_law24_ConfigTells_12 s) (hp (OS_law24_ConfigTells_12 s)) _ z ((okb_law24_ConfigTells_12  s (fun s => some (.inl s)) (fun x => some (.inr x))).trans h)
  refine loop_law_same (stp := fun (s : S_law24_ConfigTells_12) => b_law24_ConfigTells_12  s (fun s => some (.inl s)) (fun x => some (.inr x))) (E := E_law24_ConfigTells_12) (os := OS_law24_ConfigTells_12) (EX := EX_law24_ConfigTells_12) (osX := OX_law24_ConfigTells_12) (xx := xx_law24_ConfigTells_12) (fun s o ho => ?_) (fun x o ho => ?_) (fun x => ?_) (fun s s1 hs => ?_) (fun s x hs => ?_) (fun env σ k r h => ?_)
  · simp only [OS_law24_ConfigTells_12, List.mem_cons, List.not_mem_nil, or_false] at ho
    subst ho; rfl
  · simp only [OX_law24_ConfigTells_12, OX_law24_ConfigTells_12_0, List.mem_cons, List.not_mem_nil, or_false] at ho
    subst ho; rfl
  · simp [xx_law24_ConfigTells_12]
  · obtain ⟨x, env1, σ1, h1, h2, h3⟩ := run s _ hs
    rcases dL_law24_ConfigTells_12_spec h1 with ⟨rfl, s2, e1, e2, e3⟩ | ⟨rfl, s2, e1, e2, e3⟩
    · simp only [Option.some.injEq, Sum.inl.injEq] at e3
      subst e3
      exact ⟨rfl, env1, σ1, h3, e1, e2, (fun o ho => by simp only [OS_law24_ConfigTells_12, List.mem_cons, List.not_mem_nil, or_false] at ho; subst ho; simp [OIds, Ids, Idss, OS_law24_ConfigTells_12])⟩
    · simp at e3
  · obtain ⟨x1, env1, σ1, h1, h2, h3⟩ := run s _ hs
    rcases dL_law24_ConfigTells_12_spec h1 with ⟨rfl, s2, e1, e2, e3⟩ | ⟨rfl, s2, e1, e2, e3⟩
    · simp at e3
    · simp only [Option.some.injEq, Sum.inr.injEq] at e3
      subst e3
      exact ⟨rfl, env1, σ1, h3, e1, e2, (fun o ho => by simp only [OX_law24_ConfigTells_12, OX_law24_ConfigTells_12_0, List.mem_cons, List.not_mem_nil, or_false] at ho; subst ho; simp [OIds, Ids, Idss, OS_law24_ConfigTells_12])⟩
  · skip
    unfold Lf_law24_ConfigTells_12 at h
    obtain ⟨hlt, h0⟩ := bif_some h
    obtain ⟨w1, w2, w3⟩ := decT_spec h0
    obtain ⟨v0, rfl, w4⟩ := decI_spec w3
    obtain ⟨w5, w6, w7⟩ := decT_spec w4
    obtain ⟨rfl, w8⟩ := decP_spec w7
    obtain ⟨w9, w10, w11⟩ := decT_spec w8
    obtain ⟨v1, rfl, w12⟩ := decI_spec w11
    obtain ⟨w13, w14, w15⟩ := decT_spec w12
    obtain ⟨v2, rfl, w16⟩ := decI_spec w15
    obtain ⟨w17, w18, w19⟩ := decT_spec w16
    obtain ⟨v3, rfl, w20⟩ := decI_spec w19
    obtain ⟨w21, w22, w23⟩ := decT_spec w20
    obtain ⟨v4, rfl, w24⟩ := decI_spec w23
    obtain ⟨w25, w26, w27⟩ := decT_spec w24
    obtain ⟨v5, rfl, w28⟩ := decI_spec w27
    obtain ⟨w29, w30, w31⟩ := decT_spec w28
    obtain ⟨v6, rfl, w32⟩ := decI_spec w31
    obtain ⟨w33, w34, w35⟩ := decT_spec w32
    obtain ⟨v7, rfl, w36⟩ := decI_spec w35
    obtain ⟨w37, w38, w39⟩ := decO_spec w36
    split at w39 <;> try (cases w39; done)
    obtain ⟨v8, rfl, w40⟩ := decV_st_sl_int_i64_str_int_u64_str_spec w39
    obtain ⟨v9, rfl, w41⟩ := decI_spec w40
    obtain ⟨v10, rfl, w42⟩ := decV_int_i64_spec w41
    obtain ⟨n, x, hn, hk⟩ := hL _ (fun x => k (xx_law24_ConfigTells_12 x) (envOf [0] (EX_law24_ConfigTells_12 x)) (heapOf [0] (OX_law24_ConfigTells_12 x) σ)) r (show (fun (s : S_law24_ConfigTells_12) (k : X_law24_ConfigTells_12 → R α) => L s (fun x => k x)) ⟨v0, v1, v2, v3, v4, v5, v6, v7, v8, v9, v10⟩ (fun x => k (xx_law24_ConfigTells_12 x) (envOf [0] (EX_law24_ConfigTells_12 x)) (heapOf [0] (OX_law24_ConfigTells_12 x) σ)) = some r from w42)
    refine ⟨n, ⟨v0, v1, v2, v3, v4, v5, v6, v7, v8, v9, v10⟩, x, [0], hn, ⟨rfl, by decide, env_ren ⟨⟨by simp [Ids, Idss, OS_law24_ConfigTells_12], w2⟩, ⟨by simp [Ids, Idss, OS_law24_ConfigTells_12], w6⟩, ⟨by simp [Ids, Idss, OS_law24_ConfigTells_12], w10⟩, ⟨by simp [Ids, Idss, OS_law24_ConfigTells_12], w14⟩, ⟨by simp [Ids, Idss, OS_law24_ConfigTells_12], w18⟩, ⟨by simp [Ids, Idss, OS_law24_ConfigTells_12], w22⟩, ⟨by simp [Ids, Idss, OS_law24_ConfigTells_12], w26⟩, ⟨by simp [Ids, Idss, OS_law24_ConfigTells_12], w30⟩, ⟨by simp [Ids, Idss, OS_law24_ConfigTells_12], w34⟩, trivial⟩, enum_all ⟨w38, trivial⟩, (fun o ho => by simp only [OS_law24_ConfigTells_12, List.mem_cons, List.not_mem_nil, or_false] at ho; subst ho; simp [OIds, Ids, Idss, OS_law24_ConfigTells_12]), fun i hi => ?_⟩, hk⟩
    exact Nat.le_of_ble_eq_true (allB_iff.1 hlt i hi)
noncomputable abbrev PO_lp_law24_ConfigTells_9 {α : Type} (F_config_Window : Sg_config_Window α) (L_law24_ConfigTells_12 : SgL_law24_ConfigTells_12 α) : ORC α := [(11, .pure (ad_config_Window F_config_Window))]
set_option maxRecDepth 100000 in
theorem okb_law24_ConfigTells_9 {α : Type} (F_config_Window : Sg_config_Window α) (L_law24_ConfigTells_12 : SgL_law24_ConfigTells_12 α) (s : S_law24_ConfigTells_9) (kn : S_law24_ConfigTells_9 → R α) (k0 : X_law24_ConfigTells_9_0 → R α) (k1 : X_law24_ConfigTells_9_1 → R α) : seval PT_law24_ConfigTells (PO_lp_law24_ConfigTells_9 F_config_Window L_law24_ConfigTells_12) [(12, Lf_law24_ConfigTells_12 L_law24_ConfigTells_12)] Try.f3.ntmps ⟨1, []⟩ (loopNo Try.f3 0) (E_law24_ConfigTells_9 s) (hp (OS_law24_ConfigTells_9 s)) (dL_law24_ConfigTells_9 kn k0 k1) = b_law24_ConfigTells_9 F_config_Window L_law24_ConfigTells_12 s kn k0 k1 := by kernel_rfl
theorem snd_law24_ConfigTells_9 {α : Type} {I : Imm} {F_config_Window : Sg_config_Window (S_law24_ConfigTells_9 ⊕ X_law24_ConfigTells_9)} (h_config_Window : OrcOk (α := (S_law24_ConfigTells_9 ⊕ X_law24_ConfigTells_9)) Try.prog I 11 (.pure (ad_config_Window F_config_Window))) {L_law24_ConfigTells_12 : SgL_law24_ConfigTells_12 (S_law24_ConfigTells_9 ⊕ X_law24_ConfigTells_9)} (h_L_law24_ConfigTells_12 : SoundC (α := (S_law24_ConfigTells_9 ⊕ X_law24_ConfigTells_9)) Try.prog I Try.f3.ntmps (.loop (loopNo Try.f3 1)) (Lf_law24_ConfigTells_12 L_law24_ConfigTells_12)) {L : SgL_law24_ConfigTells_9 α} (hL : LoopOk (α := α) (fun (s : S_law24_ConfigTells_9) => b_law24_ConfigTells_9 F_config_Window L_law24_ConfigTells_12 s (fun s => some (.inl s)) (fun x => some (.inr (.inl x))) (fun x => some (.inr (.inr x)))) (fun (s : S_law24_ConfigTells_9) (k : X_law24_ConfigTells_9 → R α) => L s (fun x => k (.inl x)) (fun x => k (.inr x)))) : SoundC Try.prog I Try.f3.ntmps (.loop (loopNo Try.f3 0)) (Lf_law24_ConfigTells_9 L) := by
  have run := fun (s : S_law24_ConfigTells_9) (z : (S_law24_ConfigTells_9 ⊕ X_law24_ConfigTells_9)) (h : (fun (s : S_law24_ConfigTells_9) => b_law24_ConfigTells_9 F_config_Window L_law24_ConfigTells_12 s (fun s => some (.inl s)) (fun x => some (.inr (.inl x))) (fun x => some (.inr (.inr x)))) s = some z) => seval_spec (α := (S_law24_ConfigTells_9 ⊕ X_law24_ConfigTells_9)) (I := I) PT_law24_ConfigTells_ok.te PT_law24_ConfigTells_ok.mix (O := PO_lp_law24_ConfigTells_9 F_config_Window L_law24_ConfigTells_12) (OOk.cons h_config_Window (OOk.nil)) (L := [(12, Lf_law24_ConfigTells_12 L_law24_ConfigTells_12)]) (N := Try.f3.ntmps) (n := ⟨1, []⟩) (loopNo Try.f3 0) (by kernel_rfl) ((lok_of (l := [loopNo Try.f3 1]) (by kernel_rfl) ⟨lk_yes (by kernel_rfl) h_L_law24_ConfigTells_12, trivial⟩)) (E_law24_ConfigTells_9 s) (hp (OS_law24_ConfigTells_9 s)) _ z ((okb_law24_ConfigTells_9 F_config_Window L_law24_ConfigTells_12 s (fun s => some (.inl s)) (fun x => some (.inr (.inl x))) (fun x => some (.inr (.inr x)))).trans h)
  refine loop_law_same (stp := fun (s : S_law24_ConfigTells_9) => b_law24_ConfigTells_9 F_config_Window L_law24_ConfigTells_12 s (fun s => some (.inl s)) (fun x => some (.inr (.inl x))) (fun x => some (.inr (.inr x)))) (E := E_law24_ConfigTells_9) (os := OS_law24_ConfigTells_9) (EX := EX_law24_ConfigTells_9) (osX := OX_law24_ConfigTells_9) (xx := xx_law24_ConfigTells_9) (fun s o ho => ?_) (fun x o ho => ?_) (fun x => ?_) (fun s s1 hs => ?_) (fun s x hs => ?_) (fun env σ k r h => ?_)
  · simp only [OS_law24_ConfigTells_9, List.mem_cons, List.not_mem_nil, or_false] at ho
    subst ho; rfl
  · rcases x with x | x <;> simp only [OX_law24_ConfigTells_9, OX_law24_ConfigTells_9_0, OX_law24_ConfigTells_9_1, List.mem_cons, List.not_mem_nil, or_false] at ho
    all_goals (subst ho; rfl)
  · rcases x with x | x <;> simp [xx_law24_ConfigTells_9]
  · obtain ⟨x, env1, σ1, h1, h2, h3⟩ := run s _ hs
    rcases dL_law24_ConfigTells_9_spec h1 with ⟨rfl, s2, e1, e2, e3⟩ | ⟨rfl, s2, e1, e2, e3⟩ | ⟨rfl, s2, e1, e2, e3⟩
    · simp only [Option.some.injEq, Sum.inl.injEq] at e3
      subst e3
      exact ⟨rfl, env1, σ1, h3, e1, e2, (fun o ho => by simp only [OS_law24_ConfigTells_9, List.mem_cons, List.not_mem_nil, or_false] at ho; subst ho; simp [OIds, Ids, Idss, OS_law24_ConfigTells_9])⟩
    · simp at e3
    · simp at e3
  · obtain ⟨x1, env1, σ1, h1, h2, h3⟩ := run s _ hs
    rcases dL_law24_ConfigTells_9_spec h1 with ⟨rfl, s2, e1, e2, e3⟩ | ⟨rfl, s2, e1, e2, e3⟩ | ⟨rfl, s2, e1, e2, e3⟩
    · simp at e3
    · simp only [Option.some.injEq, Sum.inr.injEq] at e3
      subst e3
      exact ⟨rfl, env1, σ1, h3, e1, e2, (fun o ho => by simp only [OX_law24_ConfigTells_9, OX_law24_ConfigTells_9_0, List.mem_cons, List.not_mem_nil, or_false] at ho; subst ho; simp [OIds, Ids, Idss, OS_law24_ConfigTells_9])⟩
    · simp only [Option.some.injEq, Sum.inr.injEq] at e3
      subst e3
      exact ⟨rfl, env1, σ1, h3, e1, e2, (fun o ho => by simp only [OX_law24_ConfigTells_9, OX_law24_ConfigTells_9_1, List.mem_cons, List.not_mem_nil, or_false] at ho; subst ho; simp [OIds, Ids, Idss, OS_law24_ConfigTells_9])⟩
  · skip
    unfold Lf_law24_ConfigTells_9 at h
    obtain ⟨hlt, h0⟩ := bif_some h
    obtain ⟨w1, w2, w3⟩ := decT_spec h0
    obtain ⟨v0, rfl, w4⟩ := decI_spec w3
    obtain ⟨w5, w6, w7⟩ := decT_spec w4
    obtain ⟨rfl, w8⟩ := decP_spec w7
    obtain ⟨w9, w10, w11⟩ := decT_spec w8
    obtain ⟨v1, rfl, w12⟩ := decI_spec w11
    obtain ⟨w13, w14, w15⟩ := decT_spec w12
    obtain ⟨v2, rfl, w16⟩ := decI_spec w15
    obtain ⟨w17, w18, w19⟩ := decT_spec w16
    obtain ⟨v3, rfl, w20⟩ := decI_spec w19
    obtain ⟨w21, w22, w23⟩ := decT_spec w20
    obtain ⟨v4, rfl, w24⟩ := decI_spec w23
    obtain ⟨w25, w26, w27⟩ := decT_spec w24
    obtain ⟨v5, rfl, w28⟩ := decI_spec w27
    obtain ⟨w29, w30, w31⟩ := decT_spec w28
    obtain ⟨v6, rfl, w32⟩ := decI_spec w31
    obtain ⟨w33, w34, w35⟩ := decO_spec w32
    split at w35 <;> try (cases w35; done)
    obtain ⟨v7, rfl, w36⟩ := decV_st_sl_int_i64_str_int_u64_str_spec w35
    obtain ⟨v8, rfl, w37⟩ := decI_spec w36
    obtain ⟨v9, rfl, w38⟩ := decV_int_i64_spec w37
    obtain ⟨n, x, hn, hk⟩ := hL _ (fun x => k (xx_law24_ConfigTells_9 x) (envOf [0] (EX_law24_ConfigTells_9 x)) (heapOf [0] (OX_law24_ConfigTells_9 x) σ)) r (show (fun (s : S_law24_ConfigTells_9) (k : X_law24_ConfigTells_9 → R α) => L s (fun x => k (.inl x)) (fun x => k (.inr x))) ⟨v0, v1, v2, v3, v4, v5, v6, v7, v8, v9⟩ (fun x => k (xx_law24_ConfigTells_9 x) (envOf [0] (EX_law24_ConfigTells_9 x)) (heapOf [0] (OX_law24_ConfigTells_9 x) σ)) = some r from w38)
    refine ⟨n, ⟨v0, v1, v2, v3, v4, v5, v6, v7, v8, v9⟩, x, [0], hn, ⟨rfl, by decide, env_ren ⟨⟨by simp [Ids, Idss, OS_law24_ConfigTells_9], w2⟩, ⟨by simp [Ids, Idss, OS_law24_ConfigTells_9], w6⟩, ⟨by simp [Ids, Idss, OS_law24_ConfigTells_9], w10⟩, ⟨by simp [Ids, Idss, OS_law24_ConfigTells_9], w14⟩, ⟨by simp [Ids, Idss, OS_law24_ConfigTells_9], w18⟩, ⟨by simp [Ids, Idss, OS_law24_ConfigTells_9], w22⟩, ⟨by simp [Ids, Idss, OS_law24_ConfigTells_9], w26⟩, ⟨by simp [Ids, Idss, OS_law24_ConfigTells_9], w30⟩, trivial⟩, enum_all ⟨w34, trivial⟩, (fun o ho => by simp only [OS_law24_ConfigTells_9, List.mem_cons, List.not_mem_nil, or_false] at ho; subst ho; simp [OIds, Ids, Idss, OS_law24_ConfigTells_9]), fun i hi => ?_⟩, hk⟩
    exact Nat.le_of_ble_eq_true (allB_iff.1 hlt i hi)
noncomputable abbrev PO_law24_ConfigTells {α : Type} (F_law24_known : Sg_law24_known α) (F_law24_few : Sg_law24_few α) (F_config_Check : Sg_config_Check α) (F_ref26_Check : Sg_ref26_Check α) (F_config_Owner : Sg_config_Owner α) (L_law24_ConfigTells_9 : SgL_law24_ConfigTells_9 α) : ORC α := [(7, .pure (ad_law24_known F_law24_known)), (8, .pure (ad_law24_few F_law24_few)), (9, .pure (ad_config_Check F_config_Check)), (10, .pure (ad_ref26_Check F_ref26_Check)), (12, .pure (ad_config_Owner F_config_Owner))]
set_option maxRecDepth 100000 in
theorem ok_law24_ConfigTells {α : Type} (F_law24_known : Sg_law24_known α) (F_law24_few : Sg_law24_few α) (F_config_Check : Sg_config_Check α) (F_ref26_Check : Sg_ref26_Check α) (F_config_Owner : Sg_config_Owner α) (L_law24_ConfigTells_9 : SgL_law24_ConfigTells_9 α) (x0 : GConfig) (x1 : Int) (k : Bool → R α) : bodyL PT_law24_ConfigTells (PO_law24_ConfigTells F_law24_known F_law24_few F_config_Check F_ref26_Check F_config_Owner L_law24_ConfigTells_9) [(9, Lf_law24_ConfigTells_9 L_law24_ConfigTells_9)] ⟨1, []⟩ Try.f3 [(GConfig.sv x0), (.int .i64 x1)] emp (fun v _ => dR_law24_ConfigTells v k) = p_law24_ConfigTells F_law24_known F_law24_few F_config_Check F_ref26_Check F_config_Owner L_law24_ConfigTells_9 x0 x1 k := by kernel_rfl
theorem mk_law24_ConfigTells {α : Type} {I : Imm} {F_law24_known : Sg_law24_known α} {F_law24_few : Sg_law24_few α} {F_config_Check : Sg_config_Check α} {F_ref26_Check : Sg_ref26_Check α} {F_config_Owner : Sg_config_Owner α} (h_law24_known : OrcOk (α := α) Try.prog I 7 (.pure (ad_law24_known F_law24_known))) (h_law24_few : OrcOk (α := α) Try.prog I 8 (.pure (ad_law24_few F_law24_few))) (h_config_Check : OrcOk (α := α) Try.prog I 9 (.pure (ad_config_Check F_config_Check))) (h_ref26_Check : OrcOk (α := α) Try.prog I 10 (.pure (ad_ref26_Check F_ref26_Check))) (h_config_Owner : OrcOk (α := α) Try.prog I 12 (.pure (ad_config_Owner F_config_Owner))) {L_law24_ConfigTells_9 : SgL_law24_ConfigTells_9 α} (h_L_law24_ConfigTells_9 : SoundC (α := α) Try.prog I Try.f3.ntmps (.loop (loopNo Try.f3 0)) (Lf_law24_ConfigTells_9 L_law24_ConfigTells_9)) : OrcOk (α := α) Try.prog I 3 (.pure (ad_law24_ConfigTells (p_law24_ConfigTells F_law24_known F_law24_few F_config_Check F_ref26_Check F_config_Owner L_law24_ConfigTells_9))) := by
  refine orc_pureK PT_law24_ConfigTells_ok (O := PO_law24_ConfigTells F_law24_known F_law24_few F_config_Check F_ref26_Check F_config_Owner L_law24_ConfigTells_9) (OOk.cons h_law24_known (OOk.cons h_law24_few (OOk.cons h_config_Check (OOk.cons h_ref26_Check (OOk.cons h_config_Owner (OOk.nil)))))) (L := [(9, Lf_law24_ConfigTells_9 L_law24_ConfigTells_9)]) ⟨1, []⟩ Try.func3 (by kernel_rfl) (by kernel_rfl) (by kernel_rfl) (flok_of (l := [loopNo Try.f3 0, loopNo Try.f3 1]) (by kernel_rfl) ⟨lk_yes (by kernel_rfl) h_L_law24_ConfigTells_9, lk_no (by kernel_rfl), trivial⟩) ?_
  intro args k r hk
  unfold ad_law24_ConfigTells at hk
  split at hk <;> try (cases hk; done)
  obtain ⟨x0, rfl, hk0⟩ := GConfig.dec_spec hk
  obtain ⟨x1, rfl, hk1⟩ := decI_spec hk0
  have hkz := hk1
  refine ⟨by simp [Ids, Idss], fun v => dR_law24_ConfigTells v (fun r0 => k (.bool r0)), ?_, fun v hv => ?_⟩
  · rw [ok_law24_ConfigTells]; exact hkz
  · obtain ⟨r0, rfl, hv1⟩ := dR_law24_ConfigTells_spec hv; exact ⟨hv1, by simp [Ids, Idss]⟩
end Go.Proofs.Ytgagmgcljkhboaa
