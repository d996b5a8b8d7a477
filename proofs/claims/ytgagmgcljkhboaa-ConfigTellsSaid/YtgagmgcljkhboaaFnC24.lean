/-
  Partitions (printed by wip/pr/pr.py): the functions come to just that.
-/
import Derived.Test.YtgagmgcljkhboaaProg
import Derived.Test.YtgagmgcljkhboaaSpC24
namespace Go.Proofs.Ytgagmgcljkhboaa
open Go Go.Sh Go.Proofs
set_option linter.unusedVariables false
set_option linter.unusedSimpArgs false
theorem pe_3 : TyOk Try.prog 3 ⟨.int .i64 0, 1, 8, .sc (.int .i64), none⟩ := ⟨fun _ => by kernel_rfl, ⟨rfl, rfl, fun _ _ => by simp [Wf, Wfs]⟩, ⟨Try.underlying3, rfl⟩, fun _ h => by cases h⟩
theorem pe_9 : TyOk Try.prog 9 ⟨.str .empty, 1, 16, .sc (.string), none⟩ := ⟨fun _ => by kernel_rfl, ⟨rfl, rfl, fun _ _ => by simp [Wf, Wfs]⟩, ⟨Try.underlying9, rfl⟩, fun _ h => by cases h⟩
theorem pe_22 : TyOk Try.prog 22 ⟨.nils, 1, 24, .sc (.slice 35), none⟩ := ⟨fun _ => by kernel_rfl, ⟨rfl, rfl, fun _ _ => by simp [Wf, Wfs]⟩, ⟨Try.underlying22, rfl⟩, fun _ h => by cases h⟩
theorem pe_23 : TyOk Try.prog 23 ⟨.nils, 1, 24, .sc (.slice 3), none⟩ := ⟨fun _ => by kernel_rfl, ⟨rfl, rfl, fun _ _ => by simp [Wf, Wfs]⟩, ⟨Try.underlying23, rfl⟩, fun _ h => by cases h⟩
theorem pe_25 : TyOk Try.prog 25 ⟨.agg [.nils, .int .i64 0, .nils], 3, 56, .st [(0, 1, false), (1, 1, false), (2, 1, false)], none⟩ := ⟨fun _ => by kernel_rfl, ⟨rfl, rfl, fun _ _ => by simp [Wf, Wfs]⟩, ⟨_, Try.underlying25, by kernel_rfl⟩, fun _ h => by cases h⟩
theorem pe_35 : TyOk Try.prog 35 ⟨.agg [.nils, .str .empty, .int .u64 0, .str .empty], 4, 64, .st [(0, 1, false), (1, 1, false), (2, 1, false), (3, 1, false)], none⟩ := ⟨fun _ => by kernel_rfl, ⟨rfl, rfl, fun _ _ => by simp [Wf, Wfs]⟩, ⟨_, Try.underlying35, by kernel_rfl⟩, fun _ h => by cases h⟩
abbrev PT_law24_few : TE := [(3, ⟨.int .i64 0, 1, 8, .sc (.int .i64), none⟩), (9, ⟨.str .empty, 1, 16, .sc (.string), none⟩), (22, ⟨.nils, 1, 24, .sc (.slice 35), none⟩), (23, ⟨.nils, 1, 24, .sc (.slice 3), none⟩), (25, ⟨.agg [.nils, .int .i64 0, .nils], 3, 56, .st [(0, 1, false), (1, 1, false), (2, 1, false)], none⟩), (35, ⟨.agg [.nils, .str .empty, .int .u64 0, .str .empty], 4, 64, .st [(0, 1, false), (1, 1, false), (2, 1, false), (3, 1, false)], none⟩)]
theorem PT_law24_few_ok : Prg Try.prog PT_law24_few := ⟨(.cons pe_3 (.cons pe_9 (.cons pe_22 (.cons pe_23 (.cons pe_25 (.cons pe_35 (TEok.nil _))))))), by kernel_rfl⟩

noncomputable abbrev PO_lp_law24_few_2 {α : Type}  : ORC α := []
set_option maxRecDepth 100000 in
theorem okb_law24_few_2 {α : Type}  (s : S_law24_few_2) (kn : S_law24_few_2 → R α) (k0 : X_law24_few_2_0 → R α) (k1 : X_law24_few_2_1 → R α) : seval PT_law24_few (PO_lp_law24_few_2 ) [] Try.f8.ntmps ⟨1, []⟩ (loopNo Try.f8 0) (E_law24_few_2 s) (hp (OS_law24_few_2 s)) (dL_law24_few_2 kn k0 k1) = b_law24_few_2  s kn k0 k1 := by kernel_rfl
theorem snd_law24_few_2 {α : Type} {I : Imm}  {L : SgL_law24_few_2 α} (hL : LoopOk (α := α) (fun (s : S_law24_few_2) => b_law24_few_2  s (fun s => some (.inl s)) (fun x => some (.inr (.inl x))) (fun x => some (.inr (.inr x)))) (fun (s : S_law24_few_2) (k : X_law24_few_2 → R α) => L s (fun x => k (.inl x)) (fun x => k (.inr x)))) : SoundC Try.prog I Try.f8.ntmps (.loop (loopNo Try.f8 0)) (Lf_law24_few_2 L) := by
  have run := fun (s : S_law24_few_2) (z : (S_law24_few_2 ⊕ X_law24_few_2)) (h : (fun (s : S_law24_few_2) => b_law24_few_2  s (fun s => some (.inl s)) (fun x => some (.inr (.inl x))) (fun x => some (.inr (.inr x)))) s = some z) => seval_spec (α := (S_law24_few_2 ⊕ X_law24_few_2)) (I := I) PT_law24_few_ok.te PT_law24_few_ok.mix (O := PO_lp_law24_few_2 ) (OOk.nil) (L := []) (N := Try.f8.ntmps) (n := ⟨1, []⟩) (loopNo Try.f8 0) (by kernel_rfl) (LOk.nil) (E_law24_few_2 s) (hp (OS_law24_few_2 s)) _ z ((okb_law24_few_2  s (fun s => some (.inl s)) (fun x => some (.inr (.inl x))) (fun x => some (.inr (.inr x)))).trans h)
  refine loop_law_same (stp := fun (s : S_law24_few_2) => b_law24_few_2  s (fun s => some (.inl s)) (fun x => some (.inr (.inl x))) (fun x => some (.inr (.inr x)))) (E := E_law24_few_2) (os := OS_law24_few_2) (EX := EX_law24_few_2) (osX := OX_law24_few_2) (xx := xx_law24_few_2) (fun s o ho => ?_) (fun x o ho => ?_) (fun x => ?_) (fun s s1 hs => ?_) (fun s x hs => ?_) (fun env σ k r h => ?_)
  · simp only [OS_law24_few_2, List.mem_cons, List.not_mem_nil, or_false] at ho
    subst ho; rfl
  · rcases x with x | x <;> simp only [OX_law24_few_2, OX_law24_few_2_0, OX_law24_few_2_1, List.mem_cons, List.not_mem_nil, or_false] at ho
    all_goals (subst ho; rfl)
  · rcases x with x | x <;> simp [xx_law24_few_2]
  · obtain ⟨x, env1, σ1, h1, h2, h3⟩ := run s _ hs
    rcases dL_law24_few_2_spec h1 with ⟨rfl, s2, e1, e2, e3⟩ | ⟨rfl, s2, e1, e2, e3⟩ | ⟨rfl, s2, e1, e2, e3⟩
    · simp only [Option.some.injEq, Sum.inl.injEq] at e3
      subst e3
      exact ⟨rfl, env1, σ1, h3, e1, e2, (fun o ho => by simp only [OS_law24_few_2, List.mem_cons, List.not_mem_nil, or_false] at ho; subst ho; simp [OIds, Ids, Idss, OS_law24_few_2])⟩
    · simp at e3
    · simp at e3
  · obtain ⟨x1, env1, σ1, h1, h2, h3⟩ := run s _ hs
    rcases dL_law24_few_2_spec h1 with ⟨rfl, s2, e1, e2, e3⟩ | ⟨rfl, s2, e1, e2, e3⟩ | ⟨rfl, s2, e1, e2, e3⟩
    · simp at e3
    · simp only [Option.some.injEq, Sum.inr.injEq] at e3
      subst e3
      exact ⟨rfl, env1, σ1, h3, e1, e2, (fun o ho => by simp only [OX_law24_few_2, OX_law24_few_2_0, List.mem_cons, List.not_mem_nil, or_false] at ho; subst ho; simp [OIds, Ids, Idss, OS_law24_few_2])⟩
    · simp only [Option.some.injEq, Sum.inr.injEq] at e3
      subst e3
      exact ⟨rfl, env1, σ1, h3, e1, e2, (fun o ho => by simp only [OX_law24_few_2, OX_law24_few_2_1, List.mem_cons, List.not_mem_nil, or_false] at ho; subst ho; simp [OIds, Ids, Idss, OS_law24_few_2])⟩
  · skip
    unfold Lf_law24_few_2 at h
    obtain ⟨hlt, h0⟩ := bif_some h
    obtain ⟨w1, w2, w3⟩ := decT_spec h0
    obtain ⟨rfl, w4⟩ := decP_spec w3
    obtain ⟨w5, w6, w7⟩ := decT_spec w4
    obtain ⟨v0, rfl, w8⟩ := decI_spec w7
    obtain ⟨w9, w10, w11⟩ := decO_spec w8
    split at w11 <;> try (cases w11; done)
    obtain ⟨v1, rfl, w12⟩ := decV_st_sl_int_i64_str_int_u64_str_spec w11
    obtain ⟨v2, rfl, w13⟩ := decI_spec w12
    obtain ⟨v3, rfl, w14⟩ := decV_int_i64_spec w13
    obtain ⟨n, x, hn, hk⟩ := hL _ (fun x => k (xx_law24_few_2 x) (envOf [0] (EX_law24_few_2 x)) (heapOf [0] (OX_law24_few_2 x) σ)) r (show (fun (s : S_law24_few_2) (k : X_law24_few_2 → R α) => L s (fun x => k (.inl x)) (fun x => k (.inr x))) ⟨v0, v1, v2, v3⟩ (fun x => k (xx_law24_few_2 x) (envOf [0] (EX_law24_few_2 x)) (heapOf [0] (OX_law24_few_2 x) σ)) = some r from w14)
    refine ⟨n, ⟨v0, v1, v2, v3⟩, x, [0], hn, ⟨rfl, by decide, env_ren ⟨⟨by simp [Ids, Idss, OS_law24_few_2], w2⟩, ⟨by simp [Ids, Idss, OS_law24_few_2], w6⟩, trivial⟩, enum_all ⟨w10, trivial⟩, (fun o ho => by simp only [OS_law24_few_2, List.mem_cons, List.not_mem_nil, or_false] at ho; subst ho; simp [OIds, Ids, Idss, OS_law24_few_2]), fun i hi => ?_⟩, hk⟩
    exact Nat.le_of_ble_eq_true (allB_iff.1 hlt i hi)
noncomputable abbrev PO_law24_few {α : Type} (L_law24_few_2 : SgL_law24_few_2 α) : ORC α := []
set_option maxRecDepth 100000 in
theorem ok_law24_few {α : Type} (L_law24_few_2 : SgL_law24_few_2 α) (x0 : GConfig) (k : Bool → R α) : bodyL PT_law24_few (PO_law24_few L_law24_few_2) [(2, Lf_law24_few_2 L_law24_few_2)] ⟨1, []⟩ Try.f8 [(GConfig.sv x0)] emp (fun v _ => dR_law24_few v k) = p_law24_few L_law24_few_2 x0 k := by kernel_rfl
theorem mk_law24_few {α : Type} {I : Imm} {L_law24_few_2 : SgL_law24_few_2 α} (h_L_law24_few_2 : SoundC (α := α) Try.prog I Try.f8.ntmps (.loop (loopNo Try.f8 0)) (Lf_law24_few_2 L_law24_few_2)) : OrcOk (α := α) Try.prog I 8 (.pure (ad_law24_few (p_law24_few L_law24_few_2))) := by
  refine orc_pureK PT_law24_few_ok (O := PO_law24_few L_law24_few_2) (OOk.nil) (L := [(2, Lf_law24_few_2 L_law24_few_2)]) ⟨1, []⟩ Try.func8 (by kernel_rfl) (by kernel_rfl) (by kernel_rfl) (flok_of (l := [loopNo Try.f8 0]) (by kernel_rfl) ⟨lk_yes (by kernel_rfl) h_L_law24_few_2, trivial⟩) ?_
  intro args k r hk
  unfold ad_law24_few at hk
  split at hk <;> try (cases hk; done)
  obtain ⟨x0, rfl, hk0⟩ := GConfig.dec_spec hk
  have hkz := hk0
  refine ⟨by simp [Ids, Idss], fun v => dR_law24_few v (fun r0 => k (.bool r0)), ?_, fun v hv => ?_⟩
  · rw [ok_law24_few]; exact hkz
  · obtain ⟨r0, rfl, hv1⟩ := dR_law24_few_spec hv; exact ⟨hv1, by simp [Ids, Idss]⟩
abbrev PT_config_within : TE := [(3, ⟨.int .i64 0, 1, 8, .sc (.int .i64), none⟩)]
theorem PT_config_within_ok : Prg Try.prog PT_config_within := ⟨(.cons pe_3 (TEok.nil _)), by kernel_rfl⟩

noncomputable abbrev PO_config_within {α : Type}  : ORC α := []
set_option maxRecDepth 100000 in
theorem ok_config_within {α : Type}  (x0 : Int) (x1 : Int) (x2 : Int) (k : Bool → R α) : bodyL PT_config_within (PO_config_within ) [] ⟨1, []⟩ Try.f15 [(.int .i64 x0), (.int .i64 x1), (.int .i64 x2)] emp (fun v _ => dR_config_within v k) = p_config_within  x0 x1 x2 k := by kernel_rfl
theorem mk_config_within {α : Type} {I : Imm}  : OrcOk (α := α) Try.prog I 15 (.pure (ad_config_within (p_config_within ))) := by
  refine orc_pureK PT_config_within_ok (O := PO_config_within ) (OOk.nil) (L := []) ⟨1, []⟩ Try.func15 (by kernel_rfl) (by kernel_rfl) (by kernel_rfl) FLOk.nil ?_
  intro args k r hk
  unfold ad_config_within at hk
  split at hk <;> try (cases hk; done)
  obtain ⟨x0, rfl, hk0⟩ := decI_spec hk
  obtain ⟨x1, rfl, hk1⟩ := decI_spec hk0
  obtain ⟨x2, rfl, hk2⟩ := decI_spec hk1
  have hkz := hk2
  refine ⟨by simp [Ids, Idss], fun v => dR_config_within v (fun r0 => k (.bool r0)), ?_, fun v hv => ?_⟩
  · rw [ok_config_within]; exact hkz
  · obtain ⟨r0, rfl, hv1⟩ := dR_config_within_spec hv; exact ⟨hv1, by simp [Ids, Idss]⟩
abbrev PT_slices_IndexInts : TE := [(3, ⟨.int .i64 0, 1, 8, .sc (.int .i64), none⟩), (23, ⟨.nils, 1, 24, .sc (.slice 3), none⟩)]
theorem PT_slices_IndexInts_ok : Prg Try.prog PT_slices_IndexInts := ⟨(.cons pe_3 (.cons pe_23 (TEok.nil _))), by kernel_rfl⟩

noncomputable abbrev PO_lp_slices_IndexInts_2 {α : Type}  : ORC α := []
set_option maxRecDepth 100000 in
theorem okb_slices_IndexInts_2 {α : Type}  (s : S_slices_IndexInts_2) (kn : S_slices_IndexInts_2 → R α) (k0 : X_slices_IndexInts_2_0 → R α) (k1 : X_slices_IndexInts_2_1 → R α) : seval PT_slices_IndexInts (PO_lp_slices_IndexInts_2 ) [] Try.f27.ntmps ⟨1, []⟩ (loopNo Try.f27 0) (E_slices_IndexInts_2 s) (hp (OS_slices_IndexInts_2 s)) (dL_slices_IndexInts_2 kn k0 k1) = b_slices_IndexInts_2  s kn k0 k1 := by kernel_rfl
theorem snd_slices_IndexInts_2 {α : Type} {I : Imm}  {L : SgL_slices_IndexInts_2 α} (hL : LoopOk (α := α) (fun (s : S_slices_IndexInts_2) => b_slices_IndexInts_2  s (fun s => some (.inl s)) (fun x => some (.inr (.inl x))) (fun x => some (.inr (.inr x)))) (fun (s : S_slices_IndexInts_2) (k : X_slices_IndexInts_2 → R α) => L s (fun x => k (.inl x)) (fun x => k (.inr x)))) : SoundC Try.prog I Try.f27.ntmps (.loop (loopNo Try.f27 0)) (Lf_slices_IndexInts_2 L) := by
  have run := fun (s : S_slices_IndexInts_2) (z : (S_slices_IndexInts_2 ⊕ X_slices_IndexInts_2)) (h : (fun (s : S_slices_IndexInts_2) => b_slices_IndexInts_2  s (fun s => some (.inl s)) (fun x => some (.inr (.inl x))) (fun x => some (.inr (.inr x)))) s = some z) => seval_spec (α := (S_slices_IndexInts_2 ⊕ X_slices_IndexInts_2)) (I := I) PT_slices_IndexInts_ok.te PT_slices_IndexInts_ok.mix (O := PO_lp_slices_IndexInts_2 ) (OOk.nil) (L := []) (N := Try.f27.ntmps) (n := ⟨1, []⟩) (loopNo Try.f27 0) (by kernel_rfl) (LOk.nil) (E_slices_IndexInts_2 s) (hp (OS_slices_IndexInts_2 s)) _ z ((okb_slices_IndexInts_2  s (fun s => some (.inl s)) (fun x => some (.inr (.inl x))) (fun x => some (.inr (.inr x)))).trans h)
  refine loop_law_same (stp := fun (s : S_slices_IndexInts_2) => b_slices_IndexInts_2  s (fun s => some (.inl s)) (fun x => some (.inr (.inl x))) (fun x => some (.inr (.inr x)))) (E := E_slices_IndexInts_2) (os := OS_slices_IndexInts_2) (EX := EX_slices_IndexInts_2) (osX := OX_slices_IndexInts_2) (xx := xx_slices_IndexInts_2) (fun s o ho => ?_) (fun x o ho => ?_) (fun x => ?_) (fun s s1 hs => ?_) (fun s x hs => ?_) (fun env σ k r h => ?_)
  · simp only [OS_slices_IndexInts_2, List.mem_cons, List.not_mem_nil, or_false] at ho
  · rcases x with x | x <;> simp only [OX_slices_IndexInts_2, OX_slices_IndexInts_2_0, OX_slices_IndexInts_2_1, List.mem_cons, List.not_mem_nil, or_false] at ho
  · rcases x with x | x <;> simp [xx_slices_IndexInts_2]
  · obtain ⟨x, env1, σ1, h1, h2, h3⟩ := run s _ hs
    rcases dL_slices_IndexInts_2_spec h1 with ⟨rfl, s2, e1, e2, e3⟩ | ⟨rfl, s2, e1, e2, e3⟩ | ⟨rfl, s2, e1, e2, e3⟩
    · simp only [Option.some.injEq, Sum.inl.injEq] at e3
      subst e3
      exact ⟨rfl, env1, σ1, h3, e1, e2, (fun o ho => by simp only [OS_slices_IndexInts_2, List.mem_cons, List.not_mem_nil, or_false] at ho)⟩
    · simp at e3
    · simp at e3
  · obtain ⟨x1, env1, σ1, h1, h2, h3⟩ := run s _ hs
    rcases dL_slices_IndexInts_2_spec h1 with ⟨rfl, s2, e1, e2, e3⟩ | ⟨rfl, s2, e1, e2, e3⟩ | ⟨rfl, s2, e1, e2, e3⟩
    · simp at e3
    · simp only [Option.some.injEq, Sum.inr.injEq] at e3
      subst e3
      exact ⟨rfl, env1, σ1, h3, e1, e2, (fun o ho => by simp only [OX_slices_IndexInts_2, OX_slices_IndexInts_2_0, List.mem_cons, List.not_mem_nil, or_false] at ho)⟩
    · simp only [Option.some.injEq, Sum.inr.injEq] at e3
      subst e3
      exact ⟨rfl, env1, σ1, h3, e1, e2, (fun o ho => by simp only [OX_slices_IndexInts_2, OX_slices_IndexInts_2_1, List.mem_cons, List.not_mem_nil, or_false] at ho)⟩
  · skip
    unfold Lf_slices_IndexInts_2 at h
    obtain ⟨hlt, h0⟩ := bif_some h
    obtain ⟨w1, w2, w3⟩ := decT_spec h0
    obtain ⟨v0, rfl, w4⟩ := decV_int_i64_spec w3
    obtain ⟨w5, w6, w7⟩ := decT_spec w4
    obtain ⟨v1, rfl, w8⟩ := decI_spec w7
    obtain ⟨w9, w10, w11⟩ := decT_spec w8
    obtain ⟨v2, rfl, w12⟩ := decI_spec w11
    obtain ⟨w13, w14, w15⟩ := decT_spec w12
    obtain ⟨v3, rfl, w16⟩ := decI_spec w15
    obtain ⟨n, x, hn, hk⟩ := hL _ (fun x => k (xx_slices_IndexInts_2 x) (envOf [] (EX_slices_IndexInts_2 x)) (heapOf [] (OX_slices_IndexInts_2 x) σ)) r (show (fun (s : S_slices_IndexInts_2) (k : X_slices_IndexInts_2 → R α) => L s (fun x => k (.inl x)) (fun x => k (.inr x))) ⟨v0, v1, v2, v3⟩ (fun x => k (xx_slices_IndexInts_2 x) (envOf [] (EX_slices_IndexInts_2 x)) (heapOf [] (OX_slices_IndexInts_2 x) σ)) = some r from w16)
    refine ⟨n, ⟨v0, v1, v2, v3⟩, x, [], hn, ⟨rfl, by decide, env_ren ⟨⟨by simp [Ids, Idss, OS_slices_IndexInts_2], w2⟩, ⟨by simp [Ids, Idss, OS_slices_IndexInts_2], w6⟩, ⟨by simp [Ids, Idss, OS_slices_IndexInts_2], w10⟩, ⟨by simp [Ids, Idss, OS_slices_IndexInts_2], w14⟩, trivial⟩, enum_all trivial, (fun o ho => by simp only [OS_slices_IndexInts_2, List.mem_cons, List.not_mem_nil, or_false] at ho), fun i hi => ?_⟩, hk⟩
    exact Nat.le_of_ble_eq_true (allB_iff.1 hlt i hi)
noncomputable abbrev PO_slices_IndexInts {α : Type} (L_slices_IndexInts_2 : SgL_slices_IndexInts_2 α) : ORC α := []
set_option maxRecDepth 100000 in
theorem ok_slices_IndexInts {α : Type} (L_slices_IndexInts_2 : SgL_slices_IndexInts_2 α) (x0 : (Bool × Addr × Nat × Nat × (Nat → Int))) (x1 : Int) (k : Int → R α) : bodyL PT_slices_IndexInts (PO_slices_IndexInts L_slices_IndexInts_2) [(2, Lf_slices_IndexInts_2 L_slices_IndexInts_2)] ⟨1, []⟩ Try.f27 [(.vslc (.int .i64) x0.1 x0.2.1 x0.2.2.1 x0.2.2.2.1 x0.2.2.2.2), (.int .i64 x1)] emp (fun v _ => dR_slices_IndexInts v k) = p_slices_IndexInts L_slices_IndexInts_2 x0 x1 k := by kernel_rfl
theorem mk_slices_IndexInts {α : Type} {I : Imm} {L_slices_IndexInts_2 : SgL_slices_IndexInts_2 α} (h_L_slices_IndexInts_2 : SoundC (α := α) Try.prog I Try.f27.ntmps (.loop (loopNo Try.f27 0)) (Lf_slices_IndexInts_2 L_slices_IndexInts_2)) : OrcOk (α := α) Try.prog I 27 (.pure (ad_slices_IndexInts (p_slices_IndexInts L_slices_IndexInts_2))) := by
  refine orc_pureK PT_slices_IndexInts_ok (O := PO_slices_IndexInts L_slices_IndexInts_2) (OOk.nil) (L := [(2, Lf_slices_IndexInts_2 L_slices_IndexInts_2)]) ⟨1, []⟩ Try.func27 (by kernel_rfl) (by kernel_rfl) (by kernel_rfl) (flok_of (l := [loopNo Try.f27 0]) (by kernel_rfl) ⟨lk_yes (by kernel_rfl) h_L_slices_IndexInts_2, trivial⟩) ?_
  intro args k r hk
  unfold ad_slices_IndexInts at hk
  split at hk <;> try (cases hk; done)
  obtain ⟨x0, rfl, hk0⟩ := decV_int_i64_spec hk
  obtain ⟨x1, rfl, hk1⟩ := decI_spec hk0
  have hkz := hk1
  refine ⟨by simp [Ids, Idss], fun v => dR_slices_IndexInts v (fun r0 => k (.int .i64 r0)), ?_, fun v hv => ?_⟩
  · rw [ok_slices_IndexInts]; exact hkz
  · obtain ⟨r0, rfl, hv1⟩ := dR_slices_IndexInts_spec hv; exact ⟨hv1, by simp [Ids, Idss]⟩
abbrev PT_slices_ContainsInts : TE := [(3, ⟨.int .i64 0, 1, 8, .sc (.int .i64), none⟩)]
theorem PT_slices_ContainsInts_ok : Prg Try.prog PT_slices_ContainsInts := ⟨(.cons pe_3 (TEok.nil _)), by kernel_rfl⟩

noncomputable abbrev PO_slices_ContainsInts {α : Type} (F_slices_IndexInts : Sg_slices_IndexInts α) : ORC α := [(27, .pure (ad_slices_IndexInts F_slices_IndexInts))]
set_option maxRecDepth 100000 in
theorem ok_slices_ContainsInts {α : Type} (F_slices_IndexInts : Sg_slices_IndexInts α) (x0 : (Bool × Addr × Nat × Nat × (Nat → Int))) (x1 : Int) (k : Bool → R α) : bodyL PT_slices_ContainsInts (PO_slices_ContainsInts F_slices_IndexInts) [] ⟨1, []⟩ Try.f23 [(.vslc (.int .i64) x0.1 x0.2.1 x0.2.2.1 x0.2.2.2.1 x0.2.2.2.2), (.int .i64 x1)] emp (fun v _ => dR_slices_ContainsInts v k) = p_slices_ContainsInts F_slices_IndexInts x0 x1 k := by kernel_rfl
theorem mk_slices_ContainsInts {α : Type} {I : Imm} {F_slices_IndexInts : Sg_slices_IndexInts α} (h_slices_IndexInts : OrcOk (α := α) Try.prog I 27 (.pure (ad_slices_IndexInts F_slices_IndexInts))) : OrcOk (α := α) Try.prog I 23 (.pure (ad_slices_ContainsInts (p_slices_ContainsInts F_slices_IndexInts))) := by
  refine orc_pureK PT_slices_ContainsInts_ok (O := PO_slices_ContainsInts F_slices_IndexInts) (OOk.cons h_slices_IndexInts (OOk.nil)) (L := []) ⟨1, []⟩ Try.func23 (by kernel_rfl) (by kernel_rfl) (by kernel_rfl) FLOk.nil ?_
  intro args k r hk
  unfold ad_slices_ContainsInts at hk
  split at hk <;> try (cases hk; done)
  obtain ⟨x0, rfl, hk0⟩ := decV_int_i64_spec hk
  obtain ⟨x1, rfl, hk1⟩ := decI_spec hk0
  have hkz := hk1
  refine ⟨by simp [Ids, Idss], fun v => dR_slices_ContainsInts v (fun r0 => k (.bool r0)), ?_, fun v hv => ?_⟩
  · rw [ok_slices_ContainsInts]; exact hkz
  · obtain ⟨r0, rfl, hv1⟩ := dR_slices_ContainsInts_spec hv; exact ⟨hv1, by simp [Ids, Idss]⟩
theorem pe_52 : TyOk Try.prog 52 ⟨.bools 128 (fun _ => false), 128, 128, .ar 128 4 1 false, none⟩ := ⟨fun _ => by kernel_rfl, ⟨rfl, rfl, fun _ _ => by simp [Wf, Wfs]⟩, ⟨Try.underlying52, by kernel_rfl, by kernel_rfl⟩, fun _ h => by cases h⟩
abbrev PT_config_frames : TE := [(3, ⟨.int .i64 0, 1, 8, .sc (.int .i64), none⟩), (22, ⟨.nils, 1, 24, .sc (.slice 35), none⟩), (23, ⟨.nils, 1, 24, .sc (.slice 3), none⟩), (25, ⟨.agg [.nils, .int .i64 0, .nils], 3, 56, .st [(0, 1, false), (1, 1, false), (2, 1, false)], none⟩), (35, ⟨.agg [.nils, .str .empty, .int .u64 0, .str .empty], 4, 64, .st [(0, 1, false), (1, 1, false), (2, 1, false), (3, 1, false)], none⟩), (52, ⟨.bools 128 (fun _ => false), 128, 128, .ar 128 4 1 false, none⟩)]
theorem PT_config_frames_ok : Prg Try.prog PT_config_frames := ⟨(.cons pe_3 (.cons pe_22 (.cons pe_23 (.cons pe_25 (.cons pe_35 (.cons pe_52 (TEok.nil _))))))), by kernel_rfl⟩

theorem pe_4 : TyOk Try.prog 4 ⟨.bool false, 1, 1, .sc (.bool), none⟩ := ⟨fun _ => by kernel_rfl, ⟨rfl, rfl, fun _ _ => by simp [Wf, Wfs]⟩, ⟨Try.underlying4, rfl⟩, fun _ h => by cases h⟩
abbrev PT_config_frames_1 : TE := [(4, ⟨.bool false, 1, 1, .sc (.bool), none⟩), (52, ⟨.bools 128 (fun _ => false), 128, 128, .ar 128 4 1 false, none⟩)]
theorem PT_config_frames_1_ok : Prg Try.prog PT_config_frames_1 := ⟨(.cons pe_4 (.cons pe_52 (TEok.nil _))), by kernel_rfl⟩
noncomputable abbrev B_lp_config_frames_7_config_frames_1 {α : Type} (F_slices_ContainsInts : Sg_slices_ContainsInts α) (F_config_within : Sg_config_within α) : FF α := byBody PT_config_frames_1 [(15, .pure (ad_config_within F_config_within))] ⟨1, []⟩ Try.f26
theorem cB_lp_config_frames_7_config_frames_1 {α : Type} {I : Imm} {F_slices_ContainsInts : Sg_slices_ContainsInts α} {F_config_within : Sg_config_within α} (h_slices_ContainsInts : OrcOk (α := α) Try.prog I 23 (.pure (ad_slices_ContainsInts F_slices_ContainsInts))) (h_config_within : OrcOk (α := α) Try.prog I 15 (.pure (ad_config_within F_config_within))) : OrcOk (α := α) Try.prog I 26 (.full (B_lp_config_frames_7_config_frames_1 F_slices_ContainsInts F_config_within)) := orc_body PT_config_frames_1_ok (OOk.cons h_config_within (OOk.nil)) ⟨1, []⟩ Try.func26 (by kernel_rfl) (by kernel_rfl) (by kernel_rfl)
noncomputable abbrev PO_lp_config_frames_7 {α : Type} (F_slices_ContainsInts : Sg_slices_ContainsInts α) (F_config_within : Sg_config_within α) : ORC α := [(23, .pure (ad_slices_ContainsInts F_slices_ContainsInts)), (26, .full (B_lp_config_frames_7_config_frames_1 F_slices_ContainsInts F_config_within))]
set_option maxRecDepth 100000 in
theorem okb_config_frames_7 {α : Type} (F_slices_ContainsInts : Sg_slices_ContainsInts α) (F_config_within : Sg_config_within α) (s : S_config_frames_7) (kn : S_config_frames_7 → R α) (k0 : X_config_frames_7_0 → R α) (k1 : X_config_frames_7_1 → R α) (k2 : X_config_frames_7_2 → R α) : seval PT_config_frames (PO_lp_config_frames_7 F_slices_ContainsInts F_config_within) [] Try.f16.ntmps ⟨1, []⟩ (loopNo Try.f16 1) (E_config_frames_7 s) (hp (OS_config_frames_7 s)) (dL_config_frames_7 kn k0 k1 k2) = b_config_frames_7 F_slices_ContainsInts F_config_within s kn k0 k1 k2 := by kernel_rfl
theorem snd_config_frames_7 {α : Type} {I : Imm} {F_slices_ContainsInts : Sg_slices_ContainsInts (S_config_frames_7 ⊕ X_config_frames_7)} {F_config_within : Sg_config_within (S_config_frames_7 ⊕ X_config_frames_7)} (h_slices_ContainsInts : OrcOk (α := (S_config_frames_7 ⊕ X_config_frames_7)) Try.prog I 23 (.pure (ad_slices_ContainsInts F_slices_ContainsInts))) (h_config_within : OrcOk (α := (S_config_frames_7 ⊕ X_config_frames_7)) Try.prog I 15 (.pure (ad_config_within F_config_within))) {L : SgL_config_frames_7 α} (hL : LoopOk (α := α) (fun (s : S_config_frames_7) => b_config_frames_7 F_slices_ContainsInts F_config_within s (fun s => some (.inl s)) (fun x => some (.inr (.inl x))) (fun x => some (.inr (.inr (.inl x)))) (fun x => some (.inr (.inr (.inr x))))) (fun (s : S_config_frames_7) (k : X_config_frames_7 → R α) => L s (fun x => k (.inl x)) (fun x => k (.inr (.inl x))) (fun x => k (.inr (.inr x))))) : SoundC Try.prog I Try.f16.ntmps (.loop (loopNo Try.f16 1)) (Lf_config_frames_7 L) := by
  have run := fun (s : S_config_frames_7) (z : (S_config_frames_7 ⊕ X_config_frames_7)) (h : (fun (s : S_config_frames_7) => b_config_frames_7 F_slices_ContainsInts F_config_within s (fun s => some (.inl s)) (fun x => some (.inr (.inl x))) (fun x => some (.inr (.inr (.inl x)))) (fun x => some (.inr (.inr (.inr x))))) s = some z) => seval_spec (α := (S_config_frames_7 ⊕ X_config_frames_7)) (I := I) PT_config_frames_ok.te PT_config_frames_ok.mix (O := PO_lp_config_frames_7 F_slices_ContainsInts F_config_within) (OOk.cons h_slices_ContainsInts (OOk.cons (cB_lp_config_frames_7_config_frames_1 h_slices_ContainsInts h_config_within) (OOk.nil))) (L := []) (N := Try.f16.ntmps) (n := ⟨1, []⟩) (loopNo Try.f16 1) (by kernel_rfl) (LOk.nil) (E_config_frames_7 s) (hp (OS_config_frames_7 s)) _ z ((okb_config_frames_7 F_slices_ContainsInts F_config_within s (fun s => some (.inl s)) (fun x => some (.inr (.inl x))) (fun x => some (.inr (.inr (.inl x)))) (fun x => some (.inr (.inr (.inr x))))).trans h)
  refine loop_law_same (stp := fun (s : S_config_frames_7) => b_config_frames_7 F_slices_ContainsInts F_config_within s (fun s => some (.inl s)) (fun x => some (.inr (.inl x))) (fun x => some (.inr (.inr (.inl x)))) (fun x => some (.inr (.inr (.inr x))))) (E := E_config_frames_7) (os := OS_config_frames_7) (EX := EX_config_frames_7) (osX := OX_config_frames_7) (xx := xx_config_frames_7) (fun s o ho => ?_) (fun x o ho => ?_) (fun x => ?_) (fun s s1 hs => ?_) (fun s x hs => ?_) (fun env σ k r h => ?_)
  · simp only [OS_config_frames_7, List.mem_cons, List.not_mem_nil, or_false] at ho
    rcases ho with rfl | rfl | rfl <;> rfl
  · rcases x with x | x | x <;> simp only [OX_config_frames_7, OX_config_frames_7_0, OX_config_frames_7_1, OX_config_frames_7_2, List.mem_cons, List.not_mem_nil, or_false] at ho
    all_goals (rcases ho with rfl | rfl | rfl <;> rfl)
  · rcases x with x | x | x <;> simp [xx_config_frames_7]
  · obtain ⟨x, env1, σ1, h1, h2, h3⟩ := run s _ hs
    rcases dL_config_frames_7_spec h1 with ⟨rfl, s2, e1, e2, e3⟩ | ⟨rfl, s2, e1, e2, e3⟩ | ⟨rfl, s2, e1, e2, e3⟩ | ⟨rfl, s2, e1, e2, e3⟩
    · simp only [Option.some.injEq, Sum.inl.injEq] at e3
      subst e3
      exact ⟨rfl, env1, σ1, h3, e1, e2, (fun o ho => by simp only [OS_config_frames_7, List.mem_cons, List.not_mem_nil, or_false] at ho; rcases ho with rfl | rfl | rfl <;> simp [OIds, Ids, Idss, OS_config_frames_7])⟩
    · simp at e3
    · simp at e3
    · simp at e3
  · obtain ⟨x1, env1, σ1, h1, h2, h3⟩ := run s _ hs
    rcases dL_config_frames_7_spec h1 with ⟨rfl, s2, e1, e2, e3⟩ | ⟨rfl, s2, e1, e2, e3⟩ | ⟨rfl, s2, e1, e2, e3⟩ | ⟨rfl, s2, e1, e2, e3⟩
    · simp at e3
    · simp only [Option.some.injEq, Sum.inr.injEq] at e3
      subst e3
      exact ⟨rfl, env1, σ1, h3, e1, e2, (fun o ho => by simp only [OX_config_frames_7, OX_config_frames_7_0, List.mem_cons, List.not_mem_nil, or_false] at ho; rcases ho with rfl | rfl | rfl <;> simp [OIds, Ids, Idss, OS_config_frames_7])⟩
    · simp only [Option.some.injEq, Sum.inr.injEq] at e3
      subst e3
      exact ⟨rfl, env1, σ1, h3, e1, e2, (fun o ho => by simp only [OX_config_frames_7, OX_config_frames_7_1, List.mem_cons, List.not_mem_nil, or_false] at ho; rcases ho with rfl | rfl | rfl <;> simp [OIds, Ids, Idss, OS_config_frames_7])⟩
    · simp only [Option.some.injEq, Sum.inr.injEq] at e3
      subst e3
      exact ⟨rfl, env1, σ1, h3, e1, e2, (fun o ho => by simp only [OX_config_frames_7, OX_config_frames_7_2, List.mem_cons, List.not_mem_nil, or_false] at ho; rcases ho with rfl | rfl | rfl <;> simp [OIds, Ids, Idss, OS_config_frames_7])⟩
  · skip
    unfold Lf_config_frames_7 at h
    obtain ⟨hlt, h0⟩ := bif_some h
    obtain ⟨w1, w2, w3⟩ := decT_spec h0
    obtain ⟨rfl, w4⟩ := decP_spec w3
    obtain ⟨w5, w6, w7⟩ := decT_spec w4
    obtain ⟨rfl, w8⟩ := decFn_spec w7
    obtain ⟨w9, w10, w11⟩ := decT_spec w8
    obtain ⟨v0, rfl, w12⟩ := decI_spec w11
    obtain ⟨w13, w14, w15⟩ := decT_spec w12
    obtain ⟨rfl, w16⟩ := decP_spec w15
    obtain ⟨w17, w18, w19⟩ := decT_spec w16
    obtain ⟨v1, rfl, w20⟩ := decV_st_sl_int_i64_str_int_u64_str_spec w19
    obtain ⟨w21, w22, w23⟩ := decT_spec w20
    obtain ⟨v2, rfl, w24⟩ := decI_spec w23
    obtain ⟨w25, w26, w27⟩ := decT_spec w24
    obtain ⟨v3, rfl, w28⟩ := decI_spec w27
    obtain ⟨w29, w30, w31⟩ := decT_spec w28
    obtain ⟨v4, rfl, w32⟩ := decV_int_i64_spec w31
    obtain ⟨w33, w34, w35⟩ := decT_spec w32
    obtain ⟨v5, rfl, w36⟩ := decI_spec w35
    obtain ⟨w37, w38, w39⟩ := decT_spec w36
    obtain ⟨v6, rfl, w40⟩ := decI_spec w39
    obtain ⟨w41, w42, w43⟩ := decO_spec w40
    split at w43 <;> try (cases w43; done)
    obtain ⟨v7, rfl, w44⟩ := decV_st_sl_int_i64_str_int_u64_str_spec w43
    obtain ⟨v8, rfl, w45⟩ := decI_spec w44
    obtain ⟨v9, rfl, w46⟩ := decV_int_i64_spec w45
    obtain ⟨w47, w48, w49⟩ := decO_spec w46
    obtain ⟨v10, rfl, w50⟩ := decAB_spec w49
    obtain ⟨w51, w52, w53⟩ := decO_spec w50
    split at w53 <;> try (cases w53; done)
    obtain ⟨v11, rfl, w54⟩ := decV_int_i64_spec w53
    obtain ⟨v12, rfl, w55⟩ := decS_spec w54
    obtain ⟨v13, rfl, w56⟩ := decI_spec w55
    obtain ⟨v14, rfl, w57⟩ := decS_spec w56
    obtain ⟨n, x, hn, hk⟩ := hL _ (fun x => k (xx_config_frames_7 x) (envOf [0, 1, 2] (EX_config_frames_7 x)) (heapOf [0, 1, 2] (OX_config_frames_7 x) σ)) r (show (fun (s : S_config_frames_7) (k : X_config_frames_7 → R α) => L s (fun x => k (.inl x)) (fun x => k (.inr (.inl x))) (fun x => k (.inr (.inr x)))) ⟨v0, v1, v2, v3, v4, v5, v6, v7, v8, v9, v10, v11, v12, v13, v14⟩ (fun x => k (xx_config_frames_7 x) (envOf [0, 1, 2] (EX_config_frames_7 x)) (heapOf [0, 1, 2] (OX_config_frames_7 x) σ)) = some r from w57)
    refine ⟨n, ⟨v0, v1, v2, v3, v4, v5, v6, v7, v8, v9, v10, v11, v12, v13, v14⟩, x, [0, 1, 2], hn, ⟨rfl, by decide, env_ren ⟨⟨by simp [Ids, Idss, OS_config_frames_7], w2⟩, ⟨by simp [Ids, Idss, OS_config_frames_7], w6⟩, ⟨by simp [Ids, Idss, OS_config_frames_7], w10⟩, ⟨by simp [Ids, Idss, OS_config_frames_7], w14⟩, ⟨by simp [Ids, Idss, OS_config_frames_7], w18⟩, ⟨by simp [Ids, Idss, OS_config_frames_7], w22⟩, ⟨by simp [Ids, Idss, OS_config_frames_7], w26⟩, ⟨by simp [Ids, Idss, OS_config_frames_7], w30⟩, ⟨by simp [Ids, Idss, OS_config_frames_7], w34⟩, ⟨by simp [Ids, Idss, OS_config_frames_7], w38⟩, trivial⟩, enum_all ⟨w42, w48, w52, trivial⟩, (fun o ho => by simp only [OS_config_frames_7, List.mem_cons, List.not_mem_nil, or_false] at ho; rcases ho with rfl | rfl | rfl <;> simp [OIds, Ids, Idss, OS_config_frames_7]), fun i hi => ?_⟩, hk⟩
    exact Nat.le_of_ble_eq_true (allB_iff.1 hlt i hi)
noncomputable abbrev PO_lp_config_frames_4 {α : Type} (L_config_frames_7 : SgL_config_frames_7 α) : ORC α := []
set_option maxRecDepth 100000 in
theorem okb_config_frames_4 {α : Type} (L_config_frames_7 : SgL_config_frames_7 α) (s : S_config_frames_4) (kn : S_config_frames_4 → R α) (k0 : X_config_frames_4_0 → R α) (k1 : X_config_frames_4_1 → R α) : seval PT_config_frames (PO_lp_config_frames_4 L_config_frames_7) [(7, Lf_config_frames_7 L_config_frames_7)] Try.f16.ntmps ⟨1, []⟩ (loopNo Try.f16 0) (E_config_frames_4 s) (hp (OS_config_frames_4 s)) (dL_config_frames_4 kn k0 k1) = b_config_frames_4 L_config_frames_7 s kn k0 k1 := by kernel_rfl
theorem snd_config_frames_4 {α : Type} {I : Imm} {L_config_frames_7 : SgL_config_frames_7 (S_config_frames_4 ⊕ X_config_frames_4)} (h_L_config_frames_7 : SoundC (α := (S_config_frames_4 ⊕ X_config_frames_4)) Try.prog I Try.f16.ntmps (.loop (loopNo Try.f16 1)) (Lf_config_frames_7 L_config_frames_7)) {L : SgL_config_frames_4 α} (hL : LoopOk (α := α) (fun (s : S_config_frames_4) => b_config_frames_4 L_config_frames_7 s (fun s => some (.inl s)) (fun x => some (.inr (.inl x))) (fun x => some (.inr (.inr x)))) (fun (s : S_config_frames_4) (k : X_config_frames_4 → R α) => L s (fun x => k (.inl x)) (fun x => k (.inr x)))) : SoundC Try.prog I Try.f16.ntmps (.loop (loopNo Try.f16 0)) (Lf_config_frames_4 L) := by
  have run := fun (s : S_config_frames_4) (z : (S_config_frames_4 ⊕ X_config_frames_4)) (h : (fun (s : S_config_frames_4) => b_config_frames_4 L_config_frames_7 s (fun s => some (.inl s)) (fun x => some (.inr (.inl x))) (fun x => some (.inr (.inr x)))) s = some z) => seval_spec (α := (S_config_frames_4 ⊕ X_config_frames_4)) (I := I) PT_config_frames_ok.te PT_config_frames_ok.mix (O := PO_lp_config_frames_4 L_config_frames_7) (OOk.nil) (L := [(7, Lf_config_frames_7 L_config_frames_7)]) (N := Try.f16.ntmps) (n := ⟨1, []⟩) (loopNo Try.f16 0) (by kernel_rfl) ((lok_of (l := [loopNo Try.f16 1]) (by kernel_rfl) ⟨lk_yes (by kernel_rfl) h_L_config_frames_7, trivial⟩)) (E_config_frames_4 s) (hp (OS_config_frames_4 s)) _ z ((okb_config_frames_4 L_config_frames_7 s (fun s => some (.inl s)) (fun x => some (.inr (.inl x))) (fun x => some (.inr (.inr x)))).trans h)
  refine loop_law_same (stp := fun (s : S_config_frames_4) => b_config_frames_4 L_config_frames_7 s (fun s => some (.inl s)) (fun x => some (.inr (.inl x))) (fun x => some (.inr (.inr x)))) (E := E_config_frames_4) (os := OS_config_frames_4) (EX := EX_config_frames_4) (osX := OX_config_frames_4) (xx := xx_config_frames_4) (fun s o ho => ?_) (fun x o ho => ?_) (fun x => ?_) (fun s s1 hs => ?_) (fun s x hs => ?_) (fun env σ k r h => ?_)
  · simp only [OS_config_frames_4, List.mem_cons, List.not_mem_nil, or_false] at ho
    rcases ho with rfl | rfl <;> rfl
  · rcases x with x | x <;> simp only [OX_config_frames_4, OX_config_frames_4_0, OX_config_frames_4_1, List.mem_cons, List.not_mem_nil, or_false] at ho
    all_goals (rcases ho with rfl | rfl <;> rfl)
  · rcases x with x | x <;> simp [xx_config_frames_4]
  · obtain ⟨x, env1, σ1, h1, h2, h3⟩ := run s _ hs
    rcases dL_config_frames_4_spec h1 with ⟨rfl, s2, e1, e2, e3⟩ | ⟨rfl, s2, e1, e2, e3⟩ | ⟨rfl, s2, e1, e2, e3⟩
    · simp only [Option.some.injEq, Sum.inl.injEq] at e3
      subst e3
      exact ⟨rfl, env1, σ1, h3, e1, e2, (fun o ho => by simp only [OS_config_frames_4, List.mem_cons, List.not_mem_nil, or_false] at ho; rcases ho with rfl | rfl <;> simp [OIds, Ids, Idss, OS_config_frames_4])⟩
    · simp at e3
    · simp at e3
  · obtain ⟨x1, env1, σ1, h1, h2, h3⟩ := run s _ hs
    rcases dL_config_frames_4_spec h1 with ⟨rfl, s2, e1, e2, e3⟩ | ⟨rfl, s2, e1, e2, e3⟩ | ⟨rfl, s2, e1, e2, e3⟩
    · simp at e3
    · simp only [Option.some.injEq, Sum.inr.injEq] at e3
      subst e3
      exact ⟨rfl, env1, σ1, h3, e1, e2, (fun o ho => by simp only [OX_config_frames_4, OX_config_frames_4_0, List.mem_cons, List.not_mem_nil, or_false] at ho; rcases ho with rfl | rfl <;> simp [OIds, Ids, Idss, OS_config_frames_4])⟩
    · simp only [Option.some.injEq, Sum.inr.injEq] at e3
      subst e3
      exact ⟨rfl, env1, σ1, h3, e1, e2, (fun o ho => by simp only [OX_config_frames_4, OX_config_frames_4_1, List.mem_cons, List.not_mem_nil, or_false] at ho; rcases ho with rfl | rfl <;> simp [OIds, Ids, Idss, OS_config_frames_4])⟩
  · skip
    unfold Lf_config_frames_4 at h
    obtain ⟨hlt, h0⟩ := bif_some h
    obtain ⟨w1, w2, w3⟩ := decT_spec h0
    obtain ⟨rfl, w4⟩ := decP_spec w3
    obtain ⟨w5, w6, w7⟩ := decT_spec w4
    obtain ⟨rfl, w8⟩ := decFn_spec w7
    obtain ⟨w9, w10, w11⟩ := decT_spec w8
    obtain ⟨v0, rfl, w12⟩ := decV_st_sl_int_i64_str_int_u64_str_spec w11
    obtain ⟨w13, w14, w15⟩ := decT_spec w12
    obtain ⟨v1, rfl, w16⟩ := decI_spec w15
    obtain ⟨w17, w18, w19⟩ := decT_spec w16
    obtain ⟨v2, rfl, w20⟩ := decI_spec w19
    obtain ⟨w21, w22, w23⟩ := decO_spec w20
    split at w23 <;> try (cases w23; done)
    obtain ⟨v3, rfl, w24⟩ := decV_st_sl_int_i64_str_int_u64_str_spec w23
    obtain ⟨v4, rfl, w25⟩ := decI_spec w24
    obtain ⟨v5, rfl, w26⟩ := decV_int_i64_spec w25
    obtain ⟨w27, w28, w29⟩ := decO_spec w26
    obtain ⟨v6, rfl, w30⟩ := decAB_spec w29
    obtain ⟨n, x, hn, hk⟩ := hL _ (fun x => k (xx_config_frames_4 x) (envOf [0, 1] (EX_config_frames_4 x)) (heapOf [0, 1] (OX_config_frames_4 x) σ)) r (show (fun (s : S_config_frames_4) (k : X_config_frames_4 → R α) => L s (fun x => k (.inl x)) (fun x => k (.inr x))) ⟨v0, v1, v2, v3, v4, v5, v6⟩ (fun x => k (xx_config_frames_4 x) (envOf [0, 1] (EX_config_frames_4 x)) (heapOf [0, 1] (OX_config_frames_4 x) σ)) = some r from w30)
    refine ⟨n, ⟨v0, v1, v2, v3, v4, v5, v6⟩, x, [0, 1], hn, ⟨rfl, by decide, env_ren ⟨⟨by simp [Ids, Idss, OS_config_frames_4], w2⟩, ⟨by simp [Ids, Idss, OS_config_frames_4], w6⟩, ⟨by simp [Ids, Idss, OS_config_frames_4], w10⟩, ⟨by simp [Ids, Idss, OS_config_frames_4], w14⟩, ⟨by simp [Ids, Idss, OS_config_frames_4], w18⟩, trivial⟩, enum_all ⟨w22, w28, trivial⟩, (fun o ho => by simp only [OS_config_frames_4, List.mem_cons, List.not_mem_nil, or_false] at ho; rcases ho with rfl | rfl <;> simp [OIds, Ids, Idss, OS_config_frames_4]), fun i hi => ?_⟩, hk⟩
    exact Nat.le_of_ble_eq_true (allB_iff.1 hlt i hi)
noncomputable abbrev B_lp_config_frames_15_config_frames_1 {α : Type} (F_config_within : Sg_config_within α) : FF α := byBody PT_config_frames_1 [(15, .pure (ad_config_within F_config_within))] ⟨1, []⟩ Try.f26
theorem cB_lp_config_frames_15_config_frames_1 {α : Type} {I : Imm} {F_config_within : Sg_config_within α} (h_config_within : OrcOk (α := α) Try.prog I 15 (.pure (ad_config_within F_config_within))) : OrcOk (α := α) Try.prog I 26 (.full (B_lp_config_frames_15_config_frames_1 F_config_within)) := orc_body PT_config_frames_1_ok (OOk.cons h_config_within (OOk.nil)) ⟨1, []⟩ Try.func26 (by kernel_rfl) (by kernel_rfl) (by kernel_rfl)
noncomputable abbrev PO_lp_config_frames_15 {α : Type} (F_config_within : Sg_config_within α) : ORC α := [(26, .full (B_lp_config_frames_15_config_frames_1 F_config_within))]
set_option maxRecDepth 100000 in
theorem okb_config_frames_15 {α : Type} (F_config_within : Sg_config_within α) (s : S_config_frames_15) (kn : S_config_frames_15 → R α) (k0 : X_config_frames_15_0 → R α) (k1 : X_config_frames_15_1 → R α) : seval PT_config_frames (PO_lp_config_frames_15 F_config_within) [] Try.f16.ntmps ⟨1, []⟩ (loopNo Try.f16 2) (E_config_frames_15 s) (hp (OS_config_frames_15 s)) (dL_config_frames_15 kn k0 k1) = b_config_frames_15 F_config_within s kn k0 k1 := by kernel_rfl
theorem snd_config_frames_15 {α : Type} {I : Imm} {F_config_within : Sg_config_within (S_config_frames_15 ⊕ X_config_frames_15)} (h_config_within : OrcOk (α := (S_config_frames_15 ⊕ X_config_frames_15)) Try.prog I 15 (.pure (ad_config_within F_config_within))) {L : SgL_config_frames_15 α} (hL : LoopOk (α := α) (fun (s : S_config_frames_15) => b_config_frames_15 F_config_within s (fun s => some (.inl s)) (fun x => some (.inr (.inl x))) (fun x => some (.inr (.inr x)))) (fun (s : S_config_frames_15) (k : X_config_frames_15 → R α) => L s (fun x => k (.inl x)) (fun x => k (.inr x)))) : SoundC Try.prog I Try.f16.ntmps (.loop (loopNo Try.f16 2)) (Lf_config_frames_15 L) := by
  have run := fun (s : S_config_frames_15) (z : (S_config_frames_15 ⊕ X_config_frames_15)) (h : (fun (s : S_config_frames_15) => b_config_frames_15 F_config_within s (fun s => some (.inl s)) (fun x => some (.inr (.inl x))) (fun x => some (.inr (.inr x)))) s = some z) => seval_spec (α := (S_config_frames_15 ⊕ X_config_frames_15)) (I := I) PT_config_frames_ok.te PT_config_frames_ok.mix (O := PO_lp_config_frames_15 F_config_within) (OOk.cons (cB_lp_config_frames_15_config_frames_1 h_config_within) (OOk.nil)) (L := []) (N := Try.f16.ntmps) (n := ⟨1, []⟩) (loopNo Try.f16 2) (by kernel_rfl) (LOk.nil) (E_config_frames_15 s) (hp (OS_config_frames_15 s)) _ z ((okb_config_frames_15 F_config_within s (fun s => some (.inl s)) (fun x => some (.inr (.inl x))) (fun x => some (.inr (.inr x)))).trans h)
  refine loop_law_same (stp := fun (s : S_config_frames_15) => b_config_frames_15 F_config_within s (fun s => some (.inl s)) (fun x => some (.inr (.inl x))) (fun x => some (.inr (.inr x)))) (E := E_config_frames_15) (os := OS_config_frames_15) (EX := EX_config_frames_15) (osX := OX_config_frames_15) (xx := xx_config_frames_15) (fun s o ho => ?_) (fun x o ho => ?_) (fun x => ?_) (fun s s1 hs => ?_) (fun s x hs => ?_) (fun env σ k r h => ?_)
  · simp only [OS_config_frames_15, List.mem_cons, List.not_mem_nil, or_false] at ho
    subst ho; rfl
  · rcases x with x | x <;> simp only [OX_config_frames_15, OX_config_frames_15_0, OX_config_frames_15_1, List.mem_cons, List.not_mem_nil, or_false] at ho
    all_goals (subst ho; rfl)
  · rcases x with x | x <;> simp [xx_config_frames_15]
  · obtain ⟨x, env1, σ1, h1, h2, h3⟩ := run s _ hs
    rcases dL_config_frames_15_spec h1 with ⟨rfl, s2, e1, e2, e3⟩ | ⟨rfl, s2, e1, e2, e3⟩ | ⟨rfl, s2, e1, e2, e3⟩
    · simp only [Option.some.injEq, Sum.inl.injEq] at e3
      subst e3
      exact ⟨rfl, env1, σ1, h3, e1, e2, (fun o ho => by simp only [OS_config_frames_15, List.mem_cons, List.not_mem_nil, or_false] at ho; subst ho; simp [OIds, Ids, Idss, OS_config_frames_15])⟩
    · simp at e3
    · simp at e3
  · obtain ⟨x1, env1, σ1, h1, h2, h3⟩ := run s _ hs
    rcases dL_config_frames_15_spec h1 with ⟨rfl, s2, e1, e2, e3⟩ | ⟨rfl, s2, e1, e2, e3⟩ | ⟨rfl, s2, e1, e2, e3⟩
    · simp at e3
    · simp only [Option.some.injEq, Sum.inr.injEq] at e3
      subst e3
      exact ⟨rfl, env1, σ1, h3, e1, e2, (fun o ho => by simp only [OX_config_frames_15, OX_config_frames_15_0, List.mem_cons, List.not_mem_nil, or_false] at ho; subst ho; simp [OIds, Ids, Idss, OS_config_frames_15])⟩
    · simp only [Option.some.injEq, Sum.inr.injEq] at e3
      subst e3
      exact ⟨rfl, env1, σ1, h3, e1, e2, (fun o ho => by simp only [OX_config_frames_15, OX_config_frames_15_1, List.mem_cons, List.not_mem_nil, or_false] at ho; subst ho; simp [OIds, Ids, Idss, OS_config_frames_15])⟩
  · skip
    unfold Lf_config_frames_15 at h
    obtain ⟨hlt, h0⟩ := bif_some h
    obtain ⟨w1, w2, w3⟩ := decT_spec h0
    obtain ⟨rfl, w4⟩ := decFn_spec w3
    obtain ⟨w5, w6, w7⟩ := decT_spec w4
    obtain ⟨v0, rfl, w8⟩ := decV_int_i64_spec w7
    obtain ⟨w9, w10, w11⟩ := decT_spec w8
    obtain ⟨v1, rfl, w12⟩ := decI_spec w11
    obtain ⟨w13, w14, w15⟩ := decT_spec w12
    obtain ⟨v2, rfl, w16⟩ := decI_spec w15
    obtain ⟨w17, w18, w19⟩ := decO_spec w16
    obtain ⟨v3, rfl, w20⟩ := decAB_spec w19
    obtain ⟨n, x, hn, hk⟩ := hL _ (fun x => k (xx_config_frames_15 x) (envOf [1] (EX_config_frames_15 x)) (heapOf [1] (OX_config_frames_15 x) σ)) r (show (fun (s : S_config_frames_15) (k : X_config_frames_15 → R α) => L s (fun x => k (.inl x)) (fun x => k (.inr x))) ⟨v0, v1, v2, v3⟩ (fun x => k (xx_config_frames_15 x) (envOf [1] (EX_config_frames_15 x)) (heapOf [1] (OX_config_frames_15 x) σ)) = some r from w20)
    refine ⟨n, ⟨v0, v1, v2, v3⟩, x, [1], hn, ⟨rfl, by decide, env_ren ⟨⟨by simp [Ids, Idss, OS_config_frames_15], w2⟩, ⟨by simp [Ids, Idss, OS_config_frames_15], w6⟩, ⟨by simp [Ids, Idss, OS_config_frames_15], w10⟩, ⟨by simp [Ids, Idss, OS_config_frames_15], w14⟩, trivial⟩, enum_all ⟨w18, trivial⟩, (fun o ho => by simp only [OS_config_frames_15, List.mem_cons, List.not_mem_nil, or_false] at ho; subst ho; simp [OIds, Ids, Idss, OS_config_frames_15]), fun i hi => ?_⟩, hk⟩
    exact Nat.le_of_ble_eq_true (allB_iff.1 hlt i hi)
noncomputable abbrev PO_config_frames {α : Type} (L_config_frames_4 : SgL_config_frames_4 α) (L_config_frames_15 : SgL_config_frames_15 α) : ORC α := []
set_option maxRecDepth 100000 in
theorem ok_config_frames {α : Type} (L_config_frames_4 : SgL_config_frames_4 α) (L_config_frames_15 : SgL_config_frames_15 α) (x0 : GConfig) (k : Int → Bool → R α) : bodyL PT_config_frames (PO_config_frames L_config_frames_4 L_config_frames_15) [(4, Lf_config_frames_4 L_config_frames_4), (15, Lf_config_frames_15 L_config_frames_15)] ⟨1, []⟩ Try.f16 [(GConfig.sv x0)] emp (fun v _ => dR_config_frames v k) = p_config_frames L_config_frames_4 L_config_frames_15 x0 k := by kernel_rfl
theorem mk_config_frames {α : Type} {I : Imm} {L_config_frames_4 : SgL_config_frames_4 α} {L_config_frames_15 : SgL_config_frames_15 α} (h_L_config_frames_4 : SoundC (α := α) Try.prog I Try.f16.ntmps (.loop (loopNo Try.f16 0)) (Lf_config_frames_4 L_config_frames_4)) (h_L_config_frames_15 : SoundC (α := α) Try.prog I Try.f16.ntmps (.loop (loopNo Try.f16 2)) (Lf_config_frames_15 L_config_frames_15)) : OrcOk (α := α) Try.prog I 16 (.pure (ad_config_frames (p_config_frames L_config_frames_4 L_config_frames_15))) := by
  refine orc_pureK PT_config_frames_ok (O := PO_config_frames L_config_frames_4 L_config_frames_15) (OOk.nil) (L := [(4, Lf_config_frames_4 L_config_frames_4), (15, Lf_config_frames_15 L_config_frames_15)]) ⟨1, []⟩ Try.func16 (by kernel_rfl) (by kernel_rfl) (by kernel_rfl) (flok_of (l := [loopNo Try.f16 0, loopNo Try.f16 1, loopNo Try.f16 2]) (by kernel_rfl) ⟨lk_yes (by kernel_rfl) h_L_config_frames_4, lk_no (by kernel_rfl), lk_yes (by kernel_rfl) h_L_config_frames_15, trivial⟩) ?_
  intro args k r hk
  unfold ad_config_frames at hk
  split at hk <;> try (cases hk; done)
  obtain ⟨x0, rfl, hk0⟩ := GConfig.dec_spec hk
  have hkz := hk0
  refine ⟨by simp [Ids, Idss], fun v => dR_config_frames v (fun r0 r1 => k (.tuple [(.int .i64 r0), (.bool r1)])), ?_, fun v hv => ?_⟩
  · rw [ok_config_frames]; exact hkz
  · obtain ⟨r0, r1, rfl, hv1⟩ := dR_config_frames_spec hv; exact ⟨hv1, by simp [Ids, Idss]⟩
abbrev PT_config_Window : TE := [(3, ⟨.int .i64 0, 1, 8, .sc (.int .i64), none⟩), (23, ⟨.nils, 1, 24, .sc (.slice 3), none⟩), (35, ⟨.agg [.nils, .str .empty, .int .u64 0, .str .empty], 4, 64, .st [(0, 1, false), (1, 1, false), (2, 1, false), (3, 1, false)], none⟩)]
theorem PT_config_Window_ok : Prg Try.prog PT_config_Window := ⟨(.cons pe_3 (.cons pe_23 (.cons pe_35 (TEok.nil _)))), by kernel_rfl⟩

noncomputable abbrev PO_config_Window {α : Type}  : ORC α := []
set_option maxRecDepth 100000 in
theorem ok_config_Window {α : Type}  (x0 : GGuest) (k : Int → R α) : bodyL PT_config_Window (PO_config_Window ) [] ⟨1, []⟩ Try.f11 [(GGuest.sv x0)] emp (fun v _ => dR_config_Window v k) = p_config_Window  x0 k := by kernel_rfl
theorem mk_config_Window {α : Type} {I : Imm}  : OrcOk (α := α) Try.prog I 11 (.pure (ad_config_Window (p_config_Window ))) := by
  refine orc_pureK PT_config_Window_ok (O := PO_config_Window ) (OOk.nil) (L := []) ⟨1, []⟩ Try.func11 (by kernel_rfl) (by kernel_rfl) (by kernel_rfl) FLOk.nil ?_
  intro args k r hk
  unfold ad_config_Window at hk
  split at hk <;> try (cases hk; done)
  obtain ⟨x0, rfl, hk0⟩ := GGuest.dec_spec hk
  have hkz := hk0
  refine ⟨by simp [Ids, Idss], fun v => dR_config_Window v (fun r0 => k (.int .i64 r0)), ?_, fun v hv => ?_⟩
  · rw [ok_config_Window]; exact hkz
  · obtain ⟨r0, rfl, hv1⟩ := dR_config_Window_spec hv; exact ⟨hv1, by simp [Ids, Idss]⟩
theorem pe_33 : TyOk Try.prog 33 ⟨.int .u64 0, 1, 8, .sc (.int .u64), none⟩ := ⟨fun _ => by kernel_rfl, ⟨rfl, rfl, fun _ _ => by simp [Wf, Wfs]⟩, ⟨Try.underlying33, rfl⟩, fun _ h => by cases h⟩
abbrev PT_config_Check : TE := [(3, ⟨.int .i64 0, 1, 8, .sc (.int .i64), none⟩), (9, ⟨.str .empty, 1, 16, .sc (.string), none⟩), (22, ⟨.nils, 1, 24, .sc (.slice 35), none⟩), (23, ⟨.nils, 1, 24, .sc (.slice 3), none⟩), (25, ⟨.agg [.nils, .int .i64 0, .nils], 3, 56, .st [(0, 1, false), (1, 1, false), (2, 1, false)], none⟩), (33, ⟨.int .u64 0, 1, 8, .sc (.int .u64), none⟩), (35, ⟨.agg [.nils, .str .empty, .int .u64 0, .str .empty], 4, 64, .st [(0, 1, false), (1, 1, false), (2, 1, false), (3, 1, false)], none⟩)]
theorem PT_config_Check_ok : Prg Try.prog PT_config_Check := ⟨(.cons pe_3 (.cons pe_9 (.cons pe_22 (.cons pe_23 (.cons pe_25 (.cons pe_33 (.cons pe_35 (TEok.nil _)))))))), by kernel_rfl⟩

noncomputable abbrev PO_lp_config_Check_4 {α : Type} (F_config_within : Sg_config_within α) : ORC α := [(15, .pure (ad_config_within F_config_within))]
set_option maxRecDepth 100000 in
theorem okb_config_Check_4 {α : Type} (F_config_within : Sg_config_within α) (s : S_config_Check_4) (kn : S_config_Check_4 → R α) (k0 : X_config_Check_4_0 → R α) (k1 : X_config_Check_4_1 → R α) : seval PT_config_Check (PO_lp_config_Check_4 F_config_within) [] Try.f9.ntmps ⟨1, []⟩ (loopNo Try.f9 0) (E_config_Check_4 s) (hp (OS_config_Check_4 s)) (dL_config_Check_4 kn k0 k1) = b_config_Check_4 F_config_within s kn k0 k1 := by kernel_rfl
theorem snd_config_Check_4 {α : Type} {I : Imm} {F_config_within : Sg_config_within (S_config_Check_4 ⊕ X_config_Check_4)} (h_config_within : OrcOk (α := (S_config_Check_4 ⊕ X_config_Check_4)) Try.prog I 15 (.pure (ad_config_within F_config_within))) {L : SgL_config_Check_4 α} (hL : LoopOk (α := α) (fun (s : S_config_Check_4) => b_config_Check_4 F_config_within s (fun s => some (.inl s)) (fun x => some (.inr (.inl x))) (fun x => some (.inr (.inr x)))) (fun (s : S_config_Check_4) (k : X_config_Check_4 → R α) => L s (fun x => k (.inl x)) (fun x => k (.inr x)))) : SoundC Try.prog I Try.f9.ntmps (.loop (loopNo Try.f9 0)) (Lf_config_Check_4 L) := by
  have run := fun (s : S_config_Check_4) (z : (S_config_Check_4 ⊕ X_config_Check_4)) (h : (fun (s : S_config_Check_4) => b_config_Check_4 F_config_within s (fun s => some (.inl s)) (fun x => some (.inr (.inl x))) (fun x => some (.inr (.inr x)))) s = some z) => seval_spec (α := (S_config_Check_4 ⊕ X_config_Check_4)) (I := I) PT_config_Check_ok.te PT_config_Check_ok.mix (O := PO_lp_config_Check_4 F_config_within) (OOk.cons h_config_within (OOk.nil)) (L := []) (N := Try.f9.ntmps) (n := ⟨1, []⟩) (loopNo Try.f9 0) (by kernel_rfl) (LOk.nil) (E_config_Check_4 s) (hp (OS_config_Check_4 s)) _ z ((okb_config_Check_4 F_config_within s (fun s => some (.inl s)) (fun x => some (.inr (.inl x))) (fun x => some (.inr (.inr x)))).trans h)
  refine loop_law_same (stp := fun (s : S_config_Check_4) => b_config_Check_4 F_config_within s (fun s => some (.inl s)) (fun x => some (.inr (.inl x))) (fun x => some (.inr (.inr x)))) (E := E_config_Check_4) (os := OS_config_Check_4) (EX := EX_config_Check_4) (osX := OX_config_Check_4) (xx := xx_config_Check_4) (fun s o ho => ?_) (fun x o ho => ?_) (fun x => ?_) (fun s s1 hs => ?_) (fun s x hs => ?_) (fun env σ k r h => ?_)
  · simp only [OS_config_Check_4, List.mem_cons, List.not_mem_nil, or_false] at ho
    subst ho; rfl
  · rcases x with x | x <;> simp only [OX_config_Check_4, OX_config_Check_4_0, OX_config_Check_4_1, List.mem_cons, List.not_mem_nil, or_false] at ho
    all_goals (subst ho; rfl)
  · rcases x with x | x <;> simp [xx_config_Check_4]
  · obtain ⟨x, env1, σ1, h1, h2, h3⟩ := run s _ hs
    rcases dL_config_Check_4_spec h1 with ⟨rfl, s2, e1, e2, e3⟩ | ⟨rfl, s2, e1, e2, e3⟩ | ⟨rfl, s2, e1, e2, e3⟩
    · simp only [Option.some.injEq, Sum.inl.injEq] at e3
      subst e3
      exact ⟨rfl, env1, σ1, h3, e1, e2, (fun o ho => by simp only [OS_config_Check_4, List.mem_cons, List.not_mem_nil, or_false] at ho; subst ho; simp [OIds, Ids, Idss, OS_config_Check_4])⟩
    · simp at e3
    · simp at e3
  · obtain ⟨x1, env1, σ1, h1, h2, h3⟩ := run s _ hs
    rcases dL_config_Check_4_spec h1 with ⟨rfl, s2, e1, e2, e3⟩ | ⟨rfl, s2, e1, e2, e3⟩ | ⟨rfl, s2, e1, e2, e3⟩
    · simp at e3
    · simp only [Option.some.injEq, Sum.inr.injEq] at e3
      subst e3
      exact ⟨rfl, env1, σ1, h3, e1, e2, (fun o ho => by simp only [OX_config_Check_4, OX_config_Check_4_0, List.mem_cons, List.not_mem_nil, or_false] at ho; subst ho; simp [OIds, Ids, Idss, OS_config_Check_4])⟩
    · simp only [Option.some.injEq, Sum.inr.injEq] at e3
      subst e3
      exact ⟨rfl, env1, σ1, h3, e1, e2, (fun o ho => by simp only [OX_config_Check_4, OX_config_Check_4_1, List.mem_cons, List.not_mem_nil, or_false] at ho; subst ho; simp [OIds, Ids, Idss, OS_config_Check_4])⟩
  · skip
    unfold Lf_config_Check_4 at h
    obtain ⟨hlt, h0⟩ := bif_some h
    obtain ⟨w1, w2, w3⟩ := decT_spec h0
    obtain ⟨rfl, w4⟩ := decP_spec w3
    obtain ⟨w5, w6, w7⟩ := decT_spec w4
    obtain ⟨v0, rfl, w8⟩ := decV_st_sl_int_i64_str_int_u64_str_spec w7
    obtain ⟨w9, w10, w11⟩ := decT_spec w8
    obtain ⟨v1, rfl, w12⟩ := decI_spec w11
    obtain ⟨w13, w14, w15⟩ := decT_spec w12
    obtain ⟨v2, rfl, w16⟩ := decI_spec w15
    obtain ⟨w17, w18, w19⟩ := decO_spec w16
    split at w19 <;> try (cases w19; done)
    obtain ⟨v3, rfl, w20⟩ := decV_st_sl_int_i64_str_int_u64_str_spec w19
    obtain ⟨v4, rfl, w21⟩ := decI_spec w20
    obtain ⟨v5, rfl, w22⟩ := decV_int_i64_spec w21
    obtain ⟨n, x, hn, hk⟩ := hL _ (fun x => k (xx_config_Check_4 x) (envOf [0] (EX_config_Check_4 x)) (heapOf [0] (OX_config_Check_4 x) σ)) r (show (fun (s : S_config_Check_4) (k : X_config_Check_4 → R α) => L s (fun x => k (.inl x)) (fun x => k (.inr x))) ⟨v0, v1, v2, v3, v4, v5⟩ (fun x => k (xx_config_Check_4 x) (envOf [0] (EX_config_Check_4 x)) (heapOf [0] (OX_config_Check_4 x) σ)) = some r from w22)
    refine ⟨n, ⟨v0, v1, v2, v3, v4, v5⟩, x, [0], hn, ⟨rfl, by decide, env_ren ⟨⟨by simp [Ids, Idss, OS_config_Check_4], w2⟩, ⟨by simp [Ids, Idss, OS_config_Check_4], w6⟩, ⟨by simp [Ids, Idss, OS_config_Check_4], w10⟩, ⟨by simp [Ids, Idss, OS_config_Check_4], w14⟩, trivial⟩, enum_all ⟨w18, trivial⟩, (fun o ho => by simp only [OS_config_Check_4, List.mem_cons, List.not_mem_nil, or_false] at ho; subst ho; simp [OIds, Ids, Idss, OS_config_Check_4]), fun i hi => ?_⟩, hk⟩
    exact Nat.le_of_ble_eq_true (allB_iff.1 hlt i hi)
noncomputable abbrev PO_lp_config_Check_15 {α : Type} (F_config_Window : Sg_config_Window α) : ORC α := [(11, .pure (ad_config_Window F_config_Window))]
set_option maxRecDepth 100000 in
theorem okb_config_Check_15 {α : Type} (F_config_Window : Sg_config_Window α) (s : S_config_Check_15) (kn : S_config_Check_15 → R α) (k0 : X_config_Check_15_0 → R α) (k1 : X_config_Check_15_1 → R α) : seval PT_config_Check (PO_lp_config_Check_15 F_config_Window) [] Try.f9.ntmps ⟨1, []⟩ (loopNo Try.f9 1) (E_config_Check_15 s) (hp (OS_config_Check_15 s)) (dL_config_Check_15 kn k0 k1) = b_config_Check_15 F_config_Window s kn k0 k1 := by kernel_rfl
theorem snd_config_Check_15 {α : Type} {I : Imm} {F_config_Window : Sg_config_Window (S_config_Check_15 ⊕ X_config_Check_15)} (h_config_Window : OrcOk (α := (S_config_Check_15 ⊕ X_config_Check_15)) Try.prog I 11 (.pure (ad_config_Window F_config_Window))) {L : SgL_config_Check_15 α} (hL : LoopOk (α := α) (fun (s : S_config_Check_15) => b_config_Check_15 F_config_Window s (fun s => some (.inl s)) (fun x => some (.inr (.inl x))) (fun x => some (.inr (.inr x)))) (fun (s : S_config_Check_15) (k : X_config_Check_15 → R α) => L s (fun x => k (.inl x)) (fun x => k (.inr x)))) : SoundC Try.prog I Try.f9.ntmps (.loop (loopNo Try.f9 1)) (Lf_config_Check_15 L) := by
  have run := fun (s : S_config_Check_15) (z : (S_config_Check_15 ⊕ X_config_Check_15)) (h : (fun (s : S_config_Check_15) => b_config_Check_15 F_config_Window s (fun s => some (.inl s)) (fun x => some (.inr (.inl x))) (fun x => some (.inr (.inr x)))) s = some z) => seval_spec (α := (S_config_Check_15 ⊕ X_config_Check_15)) (I := I) PT_config_Check_ok.te PT_config_Check_ok.mix (O := PO_lp_config_Check_15 F_config_Window) (OOk.cons h_config_Window (OOk.nil)) (L := []) (N := Try.f9.ntmps) (n := ⟨1, []⟩) (loopNo Try.f9 1) (by kernel_rfl) (LOk.nil) (E_config_Check_15 s) (hp (OS_config_Check_15 s)) _ z ((okb_config_Check_15 F_config_Window s (fun s => some (.inl s)) (fun x => some (.inr (.inl x))) (fun x => some (.inr (.inr x)))).trans h)
  refine loop_law_same (stp := fun (s : S_config_Check_15) => b_config_Check_15 F_config_Window s (fun s => some (.inl s)) (fun x => some (.inr (.inl x))) (fun x => some (.inr (.inr x)))) (E := E_config_Check_15) (os := OS_config_Check_15) (EX := EX_config_Check_15) (osX := OX_config_Check_15) (xx := xx_config_Check_15) (fun s o ho => ?_) (fun x o ho => ?_) (fun x => ?_) (fun s s1 hs => ?_) (fun s x hs => ?_) (fun env σ k r h => ?_)
  · simp only [OS_config_Check_15, List.mem_cons, List.not_mem_nil, or_false] at ho
  · rcases x with x | x <;> simp only [OX_config_Check_15, OX_config_Check_15_0, OX_config_Check_15_1, List.mem_cons, List.not_mem_nil, or_false] at ho
  · rcases x with x | x <;> simp [xx_config_Check_15]
  · obtain ⟨x, env1, σ1, h1, h2, h3⟩ := run s _ hs
    rcases dL_config_Check_15_spec h1 with ⟨rfl, s2, e1, e2, e3⟩ | ⟨rfl, s2, e1, e2, e3⟩ | ⟨rfl, s2, e1, e2, e3⟩
    · simp only [Option.some.injEq, Sum.inl.injEq] at e3
      subst e3
      exact ⟨rfl, env1, σ1, h3, e1, e2, (fun o ho => by simp only [OS_config_Check_15, List.mem_cons, List.not_mem_nil, or_false] at ho)⟩
    · simp at e3
    · simp at e3
  · obtain ⟨x1, env1, σ1, h1, h2, h3⟩ := run s _ hs
    rcases dL_config_Check_15_spec h1 with ⟨rfl, s2, e1, e2, e3⟩ | ⟨rfl, s2, e1, e2, e3⟩ | ⟨rfl, s2, e1, e2, e3⟩
    · simp at e3
    · simp only [Option.some.injEq, Sum.inr.injEq] at e3
      subst e3
      exact ⟨rfl, env1, σ1, h3, e1, e2, (fun o ho => by simp only [OX_config_Check_15, OX_config_Check_15_0, List.mem_cons, List.not_mem_nil, or_false] at ho)⟩
    · simp only [Option.some.injEq, Sum.inr.injEq] at e3
      subst e3
      exact ⟨rfl, env1, σ1, h3, e1, e2, (fun o ho => by simp only [OX_config_Check_15, OX_config_Check_15_1, List.mem_cons, List.not_mem_nil, or_false] at ho)⟩
  · skip
    unfold Lf_config_Check_15 at h
    obtain ⟨hlt, h0⟩ := bif_some h
    obtain ⟨w1, w2, w3⟩ := decT_spec h0
    obtain ⟨v0, rfl, w4⟩ := decV_st_sl_int_i64_str_int_u64_str_spec w3
    obtain ⟨w5, w6, w7⟩ := decT_spec w4
    obtain ⟨v1, rfl, w8⟩ := decI_spec w7
    obtain ⟨w9, w10, w11⟩ := decT_spec w8
    obtain ⟨v2, rfl, w12⟩ := decI_spec w11
    obtain ⟨n, x, hn, hk⟩ := hL _ (fun x => k (xx_config_Check_15 x) (envOf [] (EX_config_Check_15 x)) (heapOf [] (OX_config_Check_15 x) σ)) r (show (fun (s : S_config_Check_15) (k : X_config_Check_15 → R α) => L s (fun x => k (.inl x)) (fun x => k (.inr x))) ⟨v0, v1, v2⟩ (fun x => k (xx_config_Check_15 x) (envOf [] (EX_config_Check_15 x)) (heapOf [] (OX_config_Check_15 x) σ)) = some r from w12)
    refine ⟨n, ⟨v0, v1, v2⟩, x, [], hn, ⟨rfl, by decide, env_ren ⟨⟨by simp [Ids, Idss, OS_config_Check_15], w2⟩, ⟨by simp [Ids, Idss, OS_config_Check_15], w6⟩, ⟨by simp [Ids, Idss, OS_config_Check_15], w10⟩, trivial⟩, enum_all trivial, (fun o ho => by simp only [OS_config_Check_15, List.mem_cons, List.not_mem_nil, or_false] at ho), fun i hi => ?_⟩, hk⟩
    exact Nat.le_of_ble_eq_true (allB_iff.1 hlt i hi)
noncomputable abbrev PO_config_Check {α : Type} (F_config_within : Sg_config_within α) (F_config_frames : Sg_config_frames α) (L_config_Check_4 : SgL_config_Check_4 α) (L_config_Check_15 : SgL_config_Check_15 α) : ORC α := [(15, .pure (ad_config_within F_config_within)), (16, .pure (ad_config_frames F_config_frames))]
set_option maxRecDepth 100000 in
theorem ok_config_Check {α : Type} (F_config_within : Sg_config_within α) (F_config_frames : Sg_config_frames α) (L_config_Check_4 : SgL_config_Check_4 α) (L_config_Check_15 : SgL_config_Check_15 α) (x0 : GConfig) (k : Int → Int → R α) : bodyL PT_config_Check (PO_config_Check F_config_within F_config_frames L_config_Check_4 L_config_Check_15) [(4, Lf_config_Check_4 L_config_Check_4), (15, Lf_config_Check_15 L_config_Check_15)] ⟨1, []⟩ Try.f9 [(GConfig.sv x0)] emp (fun v _ => dR_config_Check v k) = p_config_Check F_config_within F_config_frames L_config_Check_4 L_config_Check_15 x0 k := by kernel_rfl
theorem mk_config_Check {α : Type} {I : Imm} {F_config_within : Sg_config_within α} {F_config_frames : Sg_config_frames α} (h_config_within : OrcOk (α := α) Try.prog I 15 (.pure (ad_config_within F_config_within))) (h_config_frames : OrcOk (α := α) Try.prog I 16 (.pure (ad_config_frames F_config_frames))) {L_config_Check_4 : SgL_config_Check_4 α} {L_config_Check_15 : SgL_config_Check_15 α} (h_L_config_Check_4 : SoundC (α := α) Try.prog I Try.f9.ntmps (.loop (loopNo Try.f9 0)) (Lf_config_Check_4 L_config_Check_4)) (h_L_config_Check_15 : SoundC (α := α) Try.prog I Try.f9.ntmps (.loop (loopNo Try.f9 1)) (Lf_config_Check_15 L_config_Check_15)) : OrcOk (α := α) Try.prog I 9 (.pure (ad_config_Check (p_config_Check F_config_within F_config_frames L_config_Check_4 L_config_Check_15))) := by
  refine orc_pureK PT_config_Check_ok (O := PO_config_Check F_config_within F_config_frames L_config_Check_4 L_config_Check_15) (OOk.cons h_config_within (OOk.cons h_config_frames (OOk.nil))) (L := [(4, Lf_config_Check_4 L_config_Check_4), (15, Lf_config_Check_15 L_config_Check_15)]) ⟨1, []⟩ Try.func9 (by kernel_rfl) (by kernel_rfl) (by kernel_rfl) (flok_of (l := [loopNo Try.f9 0, loopNo Try.f9 1]) (by kernel_rfl) ⟨lk_yes (by kernel_rfl) h_L_config_Check_4, lk_yes (by kernel_rfl) h_L_config_Check_15, trivial⟩) ?_
  intro args k r hk
  unfold ad_config_Check at hk
  split at hk <;> try (cases hk; done)
  obtain ⟨x0, rfl, hk0⟩ := GConfig.dec_spec hk
  have hkz := hk0
  refine ⟨by simp [Ids, Idss], fun v => dR_config_Check v (fun r0 r1 => k (.tuple [(.int .i64 r0), (.int .i64 r1)])), ?_, fun v hv => ?_⟩
  · rw [ok_config_Check]; exact hkz
  · obtain ⟨r0, r1, rfl, hv1⟩ := dR_config_Check_spec hv; exact ⟨hv1, by simp [Ids, Idss]⟩
theorem pe_28 : TyOk Try.prog 28 ⟨.int .i64 0, 1, 8, .sc (.int .i64), none⟩ := ⟨fun _ => by kernel_rfl, ⟨rfl, rfl, fun _ _ => by simp [Wf, Wfs]⟩, ⟨Try.underlying28, rfl⟩, fun _ h => by cases h⟩
theorem pe_39 : TyOk Try.prog 39 ⟨.ints .i64 128 (fun _ => 0), 128, 1024, .ar 128 3 1 false, some (.ar 128 1 (.it .i64))⟩ := ⟨fun _ => by kernel_rfl, ⟨rfl, rfl, fun _ _ => by simp [Wf, Wfs]⟩, ⟨Try.underlying39, by kernel_rfl, by kernel_rfl⟩, fun _ h => by cases h; exact ⟨by kernel_rfl, by kernel_rfl⟩⟩
abbrev PT_law24_ConfigApart : TE := [(3, ⟨.int .i64 0, 1, 8, .sc (.int .i64), none⟩), (9, ⟨.str .empty, 1, 16, .sc (.string), none⟩), (22, ⟨.nils, 1, 24, .sc (.slice 35), none⟩), (23, ⟨.nils, 1, 24, .sc (.slice 3), none⟩), (25, ⟨.agg [.nils, .int .i64 0, .nils], 3, 56, .st [(0, 1, false), (1, 1, false), (2, 1, false)], none⟩), (28, ⟨.int .i64 0, 1, 8, .sc (.int .i64), none⟩), (33, ⟨.int .u64 0, 1, 8, .sc (.int .u64), none⟩), (35, ⟨.agg [.nils, .str .empty, .int .u64 0, .str .empty], 4, 64, .st [(0, 1, false), (1, 1, false), (2, 1, false), (3, 1, false)], none⟩), (39, ⟨.ints .i64 128 (fun _ => 0), 128, 1024, .ar 128 3 1 false, some (.ar 128 1 (.it .i64))⟩)]
theorem PT_law24_ConfigApart_ok : Prg Try.prog PT_law24_ConfigApart := ⟨(.cons pe_3 (.cons pe_9 (.cons pe_22 (.cons pe_23 (.cons pe_25 (.cons pe_28 (.cons pe_33 (.cons pe_35 (.cons pe_39 (TEok.nil _)))))))))), by kernel_rfl⟩

noncomputable abbrev PO_lp_law24_ConfigApart_13 {α : Type}  : ORC α := []
set_option maxRecDepth 100000 in
theorem okb_law24_ConfigApart_13 {α : Type}  (s : S_law24_ConfigApart_13) (kn : S_law24_ConfigApart_13 → R α) (k0 : X_law24_ConfigApart_13_0 → R α) (k1 : X_law24_ConfigApart_13_1 → R α) : seval PT_law24_ConfigApart (PO_lp_law24_ConfigApart_13 ) [] Try.f4.ntmps ⟨1, []⟩ (loopNo Try.f4 1) (E_law24_ConfigApart_13 s) (hp (OS_law24_ConfigApart_13 s)) (dL_law24_ConfigApart_13 kn k0 k1) = b_law24_ConfigApart_13  s kn k0 k1 := by kernel_rfl
theorem snd_law24_ConfigApart_13 {α : Type} {I : Imm}  {L : SgL_law24_ConfigApart_13 α} (hL : LoopOk (α := α) (fun (s : S_law24_ConfigApart_13) => b_law24_ConfigApart_13  s (fun s => some (.inl s)) (fun x => some (.inr (.inl x))) (fun x => some (.inr (.inr x)))) (fun (s : S_law24_ConfigApart_13) (k : X_law24_ConfigApart_13 → R α) => L s (fun x => k (.inl x)) (fun x => k (.inr x)))) : SoundC Try.prog I Try.f4.ntmps (.loop (loopNo Try.f4 1)) (Lf_law24_ConfigApart_13 L) := by
  have run := fun (s : S_law24_ConfigApart_13) (z : (S_law24_ConfigApart_13 ⊕ X_law24_ConfigApart_13)) (h : (fun (s : S_law24_ConfigApart_13) => b_law24_ConfigApart_13  s (fun s => some (.inl s)) (fun x => some (.inr (.inl x))) (fun x => some (.inr (.inr x)))) s = some z) => seval_spec (α := (S_law24_ConfigApart_13 ⊕ X_law24_ConfigApart_13)) (I := I) PT_law24_ConfigApart_ok.te PT_law24_ConfigApart_ok.mix (O := PO_lp_law24_ConfigApart_13 ) (OOk.nil) (L := []) (N := Try.f4.ntmps) (n := ⟨1, []⟩) (loopNo Try.f4 1) (by kernel_rfl) (LOk.nil) (E_law24_ConfigApart_13 s) (hp (OS_law24_ConfigApart_13 s)) _ z ((okb_law24_ConfigApart_13  s (fun s => some (.inl s)) (fun x => some (.inr (.inl x))) (fun x => some (.inr (.inr x)))).trans h)
  refine loop_law_same (stp := fun (s : S_law24_ConfigApart_13) => b_law24_ConfigApart_13  s (fun s => some (.inl s)) (fun x => some (.inr (.inl x))) (fun x => some (.inr (.inr x)))) (E := E_law24_ConfigApart_13) (os := OS_law24_ConfigApart_13) (EX := EX_law24_ConfigApart_13) (osX := OX_law24_ConfigApart_13) (xx := xx_law24_ConfigApart_13) (fun s o ho => ?_) (fun x o ho => ?_) (fun x => ?_) (fun s s1 hs => ?_) (fun s x hs => ?_) (fun env σ k r h => ?_)
  · simp only [OS_law24_ConfigApart_13, List.mem_cons, List.not_mem_nil, or_false] at ho
    rcases ho with rfl | rfl <;> rfl
  · rcases x with x | x <;> simp only [OX_law24_ConfigApart_13, OX_law24_ConfigApart_13_0, OX_law24_ConfigApart_13_1, List.mem_cons, List.not_mem_nil, or_false] at ho
    all_goals (rcases ho with rfl | rfl <;> rfl)
  · rcases x with x | x <;> simp [xx_law24_ConfigApart_13]
  · obtain ⟨x, env1, σ1, h1, h2, h3⟩ := run s _ hs
    rcases dL_law24_ConfigApart_13_spec h1 with ⟨rfl, s2, e1, e2, e3⟩ | ⟨rfl, s2, e1, e2, e3⟩ | ⟨rfl, s2, e1, e2, e3⟩
    · simp only [Option.some.injEq, Sum.inl.injEq] at e3
      subst e3
      exact ⟨rfl, env1, σ1, h3, e1, e2, (fun o ho => by simp only [OS_law24_ConfigApart_13, List.mem_cons, List.not_mem_nil, or_false] at ho; rcases ho with rfl | rfl <;> simp [OIds, Ids, Idss, OS_law24_ConfigApart_13])⟩
    · simp at e3
    · simp at e3
  · obtain ⟨x1, env1, σ1, h1, h2, h3⟩ := run s _ hs
    rcases dL_law24_ConfigApart_13_spec h1 with ⟨rfl, s2, e1, e2, e3⟩ | ⟨rfl, s2, e1, e2, e3⟩ | ⟨rfl, s2, e1, e2, e3⟩
    · simp at e3
    · simp only [Option.some.injEq, Sum.inr.injEq] at e3
      subst e3
      exact ⟨rfl, env1, σ1, h3, e1, e2, (fun o ho => by simp only [OX_law24_ConfigApart_13, OX_law24_ConfigApart_13_0, List.mem_cons, List.not_mem_nil, or_false] at ho; rcases ho with rfl | rfl <;> simp [OIds, Ids, Idss, OS_law24_ConfigApart_13])⟩
    · simp only [Option.some.injEq, Sum.inr.injEq] at e3
      subst e3
      exact ⟨rfl, env1, σ1, h3, e1, e2, (fun o ho => by simp only [OX_law24_ConfigApart_13, OX_law24_ConfigApart_13_1, List.mem_cons, List.not_mem_nil, or_false] at ho; rcases ho with rfl | rfl <;> simp [OIds, Ids, Idss, OS_law24_ConfigApart_13])⟩
  · skip
    unfold Lf_law24_ConfigApart_13 at h
    obtain ⟨hlt, h0⟩ := bif_some h
    obtain ⟨w1, w2, w3⟩ := decT_spec h0
    obtain ⟨rfl, w4⟩ := decP_spec w3
    obtain ⟨w5, w6, w7⟩ := decT_spec w4
    obtain ⟨rfl, w8⟩ := decP_spec w7
    obtain ⟨w9, w10, w11⟩ := decT_spec w8
    obtain ⟨v0, rfl, w12⟩ := decI_spec w11
    obtain ⟨w13, w14, w15⟩ := decT_spec w12
    obtain ⟨v1, rfl, w16⟩ := decI_spec w15
    obtain ⟨w17, w18, w19⟩ := decO_spec w16
    split at w19 <;> try (cases w19; done)
    obtain ⟨v2, rfl, w20⟩ := decV_st_sl_int_i64_str_int_u64_str_spec w19
    obtain ⟨v3, rfl, w21⟩ := decI_spec w20
    obtain ⟨v4, rfl, w22⟩ := decV_int_i64_spec w21
    obtain ⟨w23, w24, w25⟩ := decO_spec w22
    obtain ⟨v5, rfl, w26⟩ := decA_spec w25
    obtain ⟨n, x, hn, hk⟩ := hL _ (fun x => k (xx_law24_ConfigApart_13 x) (envOf [0, 1] (EX_law24_ConfigApart_13 x)) (heapOf [0, 1] (OX_law24_ConfigApart_13 x) σ)) r (show (fun (s : S_law24_ConfigApart_13) (k : X_law24_ConfigApart_13 → R α) => L s (fun x => k (.inl x)) (fun x => k (.inr x))) ⟨v0, v1, v2, v3, v4, v5⟩ (fun x => k (xx_law24_ConfigApart_13 x) (envOf [0, 1] (EX_law24_ConfigApart_13 x)) (heapOf [0, 1] (OX_law24_ConfigApart_13 x) σ)) = some r from w26)
    refine ⟨n, ⟨v0, v1, v2, v3, v4, v5⟩, x, [0, 1], hn, ⟨rfl, by decide, env_ren ⟨⟨by simp [Ids, Idss, OS_law24_ConfigApart_13], w2⟩, ⟨by simp [Ids, Idss, OS_law24_ConfigApart_13], w6⟩, ⟨by simp [Ids, Idss, OS_law24_ConfigApart_13], w10⟩, ⟨by simp [Ids, Idss, OS_law24_ConfigApart_13], w14⟩, trivial⟩, enum_all ⟨w18, w24, trivial⟩, (fun o ho => by simp only [OS_law24_ConfigApart_13, List.mem_cons, List.not_mem_nil, or_false] at ho; rcases ho with rfl | rfl <;> simp [OIds, Ids, Idss, OS_law24_ConfigApart_13]), fun i hi => ?_⟩, hk⟩
    exact Nat.le_of_ble_eq_true (allB_iff.1 hlt i hi)
noncomputable abbrev PO_lp_law24_ConfigApart_10 {α : Type} (F_config_Window : Sg_config_Window α) (L_law24_ConfigApart_13 : SgL_law24_ConfigApart_13 α) : ORC α := [(11, .pure (ad_config_Window F_config_Window))]
set_option maxRecDepth 100000 in
theorem okb_law24_ConfigApart_10 {α : Type} (F_config_Window : Sg_config_Window α) (L_law24_ConfigApart_13 : SgL_law24_ConfigApart_13 α) (s : S_law24_ConfigApart_10) (kn : S_law24_ConfigApart_10 → R α) (k0 : X_law24_ConfigApart_10_0 → R α) (k1 : X_law24_ConfigApart_10_1 → R α) : seval PT_law24_ConfigApart (PO_lp_law24_ConfigApart_10 F_config_Window L_law24_ConfigApart_13) [(13, Lf_law24_ConfigApart_13 L_law24_ConfigApart_13)] Try.f4.ntmps ⟨1, []⟩ (loopNo Try.f4 0) (E_law24_ConfigApart_10 s) (hp (OS_law24_ConfigApart_10 s)) (dL_law24_ConfigApart_10 kn k0 k1) = b_law24_ConfigApart_10 F_config_Window L_law24_ConfigApart_13 s kn k0 k1 := by kernel_rfl
theorem snd_law24_ConfigApart_10 {α : Type} {I : Imm} {F_config_Window : Sg_config_Window (S_law24_ConfigApart_10 ⊕ X_law24_ConfigApart_10)} (h_config_Window : OrcOk (α := (S_law24_ConfigApart_10 ⊕ X_law24_ConfigApart_10)) Try.prog I 11 (.pure (ad_config_Window F_config_Window))) {L_law24_ConfigApart_13 : SgL_law24_ConfigApart_13 (S_law24_ConfigApart_10 ⊕ X_law24_ConfigApart_10)} (h_L_law24_ConfigApart_13 : SoundC (α := (S_law24_ConfigApart_10 ⊕ X_law24_ConfigApart_10)) Try.prog I Try.f4.ntmps (.loop (loopNo Try.f4 1)) (Lf_law24_ConfigApart_13 L_law24_ConfigApart_13)) {L : SgL_law24_ConfigApart_10 α} (hL : LoopOk (α := α) (fun (s : S_law24_ConfigApart_10) => b_law24_ConfigApart_10 F_config_Window L_law24_ConfigApart_13 s (fun s => some (.inl s)) (fun x => some (.inr (.inl x))) (fun x => some (.inr (.inr x)))) (fun (s : S_law24_ConfigApart_10) (k : X_law24_ConfigApart_10 → R α) => L s (fun x => k (.inl x)) (fun x => k (.inr x)))) : SoundC Try.prog I Try.f4.ntmps (.loop (loopNo Try.f4 0)) (Lf_law24_ConfigApart_10 L) := by
  have run := fun (s : S_law24_ConfigApart_10) (z : (S_law24_ConfigApart_10 ⊕ X_law24_ConfigApart_10)) (h : (fun (s : S_law24_ConfigApart_10) => b_law24_ConfigApart_10 F_config_Window L_law24_ConfigApart_13 s (fun s => some (.inl s)) (fun x => some (.inr (.inl x))) (fun x => some (.inr (.inr x)))) s = some z) => seval_spec (α := (S_law24_ConfigApart_10 ⊕ X_law24_ConfigApart_10)) (I := I) PT_law24_ConfigApart_ok.te PT_law24_ConfigApart_ok.mix (O := PO_lp_law24_ConfigApart_10 F_config_Window L_law24_ConfigApart_13) (OOk.cons h_config_Window (OOk.nil)) (L := [(13, Lf_law24_ConfigApart_13 L_law24_ConfigApart_13)]) (N := Try.f4.ntmps) (n := ⟨1, []⟩) (loopNo Try.f4 0) (by kernel_rfl) ((lok_of (l := [loopNo Try.f4 1]) (by kernel_rfl) ⟨lk_yes (by kernel_rfl) h_L_law24_ConfigApart_13, trivial⟩)) (E_law24_ConfigApart_10 s) (hp (OS_law24_ConfigApart_10 s)) _ z ((okb_law24_ConfigApart_10 F_config_Window L_law24_ConfigApart_13 s (fun s => some (.inl s)) (fun x => some (.inr (.inl x))) (fun x => some (.inr (.inr x)))).trans h)
  refine loop_law_same (stp := fun (s : S_law24_ConfigApart_10) => b_law24_ConfigApart_10 F_config_Window L_law24_ConfigApart_13 s (fun s => some (.inl s)) (fun x => some (.inr (.inl x))) (fun x => some (.inr (.inr x)))) (E := E_law24_ConfigApart_10) (os := OS_law24_ConfigApart_10) (EX := EX_law24_ConfigApart_10) (osX := OX_law24_ConfigApart_10) (xx := xx_law24_ConfigApart_10) (fun s o ho => ?_) (fun x o ho => ?_) (fun x => ?_) (fun s s1 hs => ?_) (fun s x hs => ?_) (fun env σ k r h => ?_)
  · simp only [OS_law24_ConfigApart_10, List.mem_cons, List.not_mem_nil, or_false] at ho
    rcases ho with rfl | rfl <;> rfl
  · rcases x with x | x <;> simp only [OX_law24_ConfigApart_10, OX_law24_ConfigApart_10_0, OX_law24_ConfigApart_10_1, List.mem_cons, List.not_mem_nil, or_false] at ho
    all_goals (rcases ho with rfl | rfl <;> rfl)
  · rcases x with x | x <;> simp [xx_law24_ConfigApart_10]
  · obtain ⟨x, env1, σ1, h1, h2, h3⟩ := run s _ hs
    rcases dL_law24_ConfigApart_10_spec h1 with ⟨rfl, s2, e1, e2, e3⟩ | ⟨rfl, s2, e1, e2, e3⟩ | ⟨rfl, s2, e1, e2, e3⟩
    · simp only [Option.some.injEq, Sum.inl.injEq] at e3
      subst e3
      exact ⟨rfl, env1, σ1, h3, e1, e2, (fun o ho => by simp only [OS_law24_ConfigApart_10, List.mem_cons, List.not_mem_nil, or_false] at ho; rcases ho with rfl | rfl <;> simp [OIds, Ids, Idss, OS_law24_ConfigApart_10])⟩
    · simp at e3
    · simp at e3
  · obtain ⟨x1, env1, σ1, h1, h2, h3⟩ := run s _ hs
    rcases dL_law24_ConfigApart_10_spec h1 with ⟨rfl, s2, e1, e2, e3⟩ | ⟨rfl, s2, e1, e2, e3⟩ | ⟨rfl, s2, e1, e2, e3⟩
    · simp at e3
    · simp only [Option.some.injEq, Sum.inr.injEq] at e3
      subst e3
      exact ⟨rfl, env1, σ1, h3, e1, e2, (fun o ho => by simp only [OX_law24_ConfigApart_10, OX_law24_ConfigApart_10_0, List.mem_cons, List.not_mem_nil, or_false] at ho; rcases ho with rfl | rfl <;> simp [OIds, Ids, Idss, OS_law24_ConfigApart_10])⟩
    · simp only [Option.some.injEq, Sum.inr.injEq] at e3
      subst e3
      exact ⟨rfl, env1, σ1, h3, e1, e2, (fun o ho => by simp only [OX_law24_ConfigApart_10, OX_law24_ConfigApart_10_1, List.mem_cons, List.not_mem_nil, or_false] at ho; rcases ho with rfl | rfl <;> simp [OIds, Ids, Idss, OS_law24_ConfigApart_10])⟩
  · skip
    unfold Lf_law24_ConfigApart_10 at h
    obtain ⟨hlt, h0⟩ := bif_some h
    obtain ⟨w1, w2, w3⟩ := decT_spec h0
    obtain ⟨rfl, w4⟩ := decP_spec w3
    obtain ⟨w5, w6, w7⟩ := decT_spec w4
    obtain ⟨rfl, w8⟩ := decP_spec w7
    obtain ⟨w9, w10, w11⟩ := decT_spec w8
    obtain ⟨v0, rfl, w12⟩ := decI_spec w11
    obtain ⟨w13, w14, w15⟩ := decO_spec w12
    split at w15 <;> try (cases w15; done)
    obtain ⟨v1, rfl, w16⟩ := decV_st_sl_int_i64_str_int_u64_str_spec w15
    obtain ⟨v2, rfl, w17⟩ := decI_spec w16
    obtain ⟨v3, rfl, w18⟩ := decV_int_i64_spec w17
    obtain ⟨w19, w20, w21⟩ := decO_spec w18
    obtain ⟨v4, rfl, w22⟩ := decA_spec w21
    obtain ⟨n, x, hn, hk⟩ := hL _ (fun x => k (xx_law24_ConfigApart_10 x) (envOf [0, 1] (EX_law24_ConfigApart_10 x)) (heapOf [0, 1] (OX_law24_ConfigApart_10 x) σ)) r (show (fun (s : S_law24_ConfigApart_10) (k : X_law24_ConfigApart_10 → R α) => L s (fun x => k (.inl x)) (fun x => k (.inr x))) ⟨v0, v1, v2, v3, v4⟩ (fun x => k (xx_law24_ConfigApart_10 x) (envOf [0, 1] (EX_law24_ConfigApart_10 x)) (heapOf [0, 1] (OX_law24_ConfigApart_10 x) σ)) = some r from w22)
    refine ⟨n, ⟨v0, v1, v2, v3, v4⟩, x, [0, 1], hn, ⟨rfl, by decide, env_ren ⟨⟨by simp [Ids, Idss, OS_law24_ConfigApart_10], w2⟩, ⟨by simp [Ids, Idss, OS_law24_ConfigApart_10], w6⟩, ⟨by simp [Ids, Idss, OS_law24_ConfigApart_10], w10⟩, trivial⟩, enum_all ⟨w14, w20, trivial⟩, (fun o ho => by simp only [OS_law24_ConfigApart_10, List.mem_cons, List.not_mem_nil, or_false] at ho; rcases ho with rfl | rfl <;> simp [OIds, Ids, Idss, OS_law24_ConfigApart_10]), fun i hi => ?_⟩, hk⟩
    exact Nat.le_of_ble_eq_true (allB_iff.1 hlt i hi)
noncomputable abbrev PO_lp_law24_ConfigApart_22 {α : Type}  : ORC α := []
set_option maxRecDepth 100000 in
theorem okb_law24_ConfigApart_22 {α : Type}  (s : S_law24_ConfigApart_22) (kn : S_law24_ConfigApart_22 → R α) (k0 : X_law24_ConfigApart_22_0 → R α) (k1 : X_law24_ConfigApart_22_1 → R α) : seval PT_law24_ConfigApart (PO_lp_law24_ConfigApart_22 ) [] Try.f4.ntmps ⟨1, []⟩ (loopNo Try.f4 2) (E_law24_ConfigApart_22 s) (hp (OS_law24_ConfigApart_22 s)) (dL_law24_ConfigApart_22 kn k0 k1) = b_law24_ConfigApart_22  s kn k0 k1 := by kernel_rfl
theorem snd_law24_ConfigApart_22 {α : Type} {I : Imm}  {L : SgL_law24_ConfigApart_22 α} (hL : LoopOk (α := α) (fun (s : S_law24_ConfigApart_22) => b_law24_ConfigApart_22  s (fun s => some (.inl s)) (fun x => some (.inr (.inl x))) (fun x => some (.inr (.inr x)))) (fun (s : S_law24_ConfigApart_22) (k : X_law24_ConfigApart_22 → R α) => L s (fun x => k (.inl x)) (fun x => k (.inr x)))) : SoundC Try.prog I Try.f4.ntmps (.loop (loopNo Try.f4 2)) (Lf_law24_ConfigApart_22 L) := by
  have run := fun (s : S_law24_ConfigApart_22) (z : (S_law24_ConfigApart_22 ⊕ X_law24_ConfigApart_22)) (h : (fun (s : S_law24_ConfigApart_22) => b_law24_ConfigApart_22  s (fun s => some (.inl s)) (fun x => some (.inr (.inl x))) (fun x => some (.inr (.inr x)))) s = some z) => seval_spec (α := (S_law24_ConfigApart_22 ⊕ X_law24_ConfigApart_22)) (I := I) PT_law24_ConfigApart_ok.te PT_law24_ConfigApart_ok.mix (O := PO_lp_law24_ConfigApart_22 ) (OOk.nil) (L := []) (N := Try.f4.ntmps) (n := ⟨1, []⟩) (loopNo Try.f4 2) (by kernel_rfl) (LOk.nil) (E_law24_ConfigApart_22 s) (hp (OS_law24_ConfigApart_22 s)) _ z ((okb_law24_ConfigApart_22  s (fun s => some (.inl s)) (fun x => some (.inr (.inl x))) (fun x => some (.inr (.inr x)))).trans h)
  refine loop_law_same (stp := fun (s : S_law24_ConfigApart_22) => b_law24_ConfigApart_22  s (fun s => some (.inl s)) (fun x => some (.inr (.inl x))) (fun x => some (.inr (.inr x)))) (E := E_law24_ConfigApart_22) (os := OS_law24_ConfigApart_22) (EX := EX_law24_ConfigApart_22) (osX := OX_law24_ConfigApart_22) (xx := xx_law24_ConfigApart_22) (fun s o ho => ?_) (fun x o ho => ?_) (fun x => ?_) (fun s s1 hs => ?_) (fun s x hs => ?_) (fun env σ k r h => ?_)
  · simp only [OS_law24_ConfigApart_22, List.mem_cons, List.not_mem_nil, or_false] at ho
    rcases ho with rfl | rfl <;> rfl
  · rcases x with x | x <;> simp only [OX_law24_ConfigApart_22, OX_law24_ConfigApart_22_0, OX_law24_ConfigApart_22_1, List.mem_cons, List.not_mem_nil, or_false] at ho
    all_goals (rcases ho with rfl | rfl <;> rfl)
  · rcases x with x | x <;> simp [xx_law24_ConfigApart_22]
  · obtain ⟨x, env1, σ1, h1, h2, h3⟩ := run s _ hs
    rcases dL_law24_ConfigApart_22_spec h1 with ⟨rfl, s2, e1, e2, e3⟩ | ⟨rfl, s2, e1, e2, e3⟩ | ⟨rfl, s2, e1, e2, e3⟩
    · simp only [Option.some.injEq, Sum.inl.injEq] at e3
      subst e3
      exact ⟨rfl, env1, σ1, h3, e1, e2, (fun o ho => by simp only [OS_law24_ConfigApart_22, List.mem_cons, List.not_mem_nil, or_false] at ho; rcases ho with rfl | rfl <;> simp [OIds, Ids, Idss, OS_law24_ConfigApart_22])⟩
    · simp at e3
    · simp at e3
  · obtain ⟨x1, env1, σ1, h1, h2, h3⟩ := run s _ hs
    rcases dL_law24_ConfigApart_22_spec h1 with ⟨rfl, s2, e1, e2, e3⟩ | ⟨rfl, s2, e1, e2, e3⟩ | ⟨rfl, s2, e1, e2, e3⟩
    · simp at e3
    · simp only [Option.some.injEq, Sum.inr.injEq] at e3
      subst e3
      exact ⟨rfl, env1, σ1, h3, e1, e2, (fun o ho => by simp only [OX_law24_ConfigApart_22, OX_law24_ConfigApart_22_0, List.mem_cons, List.not_mem_nil, or_false] at ho; rcases ho with rfl | rfl <;> simp [OIds, Ids, Idss, OS_law24_ConfigApart_22])⟩
    · simp only [Option.some.injEq, Sum.inr.injEq] at e3
      subst e3
      exact ⟨rfl, env1, σ1, h3, e1, e2, (fun o ho => by simp only [OX_law24_ConfigApart_22, OX_law24_ConfigApart_22_1, List.mem_cons, List.not_mem_nil, or_false] at ho; rcases ho with rfl | rfl <;> simp [OIds, Ids, Idss, OS_law24_ConfigApart_22])⟩
  · skip
    unfold Lf_law24_ConfigApart_22 at h
    obtain ⟨hlt, h0⟩ := bif_some h
    obtain ⟨w1, w2, w3⟩ := decT_spec h0
    obtain ⟨rfl, w4⟩ := decP_spec w3
    obtain ⟨w5, w6, w7⟩ := decT_spec w4
    obtain ⟨rfl, w8⟩ := decP_spec w7
    obtain ⟨w9, w10, w11⟩ := decT_spec w8
    obtain ⟨v0, rfl, w12⟩ := decI_spec w11
    obtain ⟨w13, w14, w15⟩ := decO_spec w12
    split at w15 <;> try (cases w15; done)
    obtain ⟨v1, rfl, w16⟩ := decV_st_sl_int_i64_str_int_u64_str_spec w15
    obtain ⟨v2, rfl, w17⟩ := decI_spec w16
    obtain ⟨v3, rfl, w18⟩ := decV_int_i64_spec w17
    obtain ⟨w19, w20, w21⟩ := decO_spec w18
    obtain ⟨v4, rfl, w22⟩ := decA_spec w21
    obtain ⟨n, x, hn, hk⟩ := hL _ (fun x => k (xx_law24_ConfigApart_22 x) (envOf [0, 1] (EX_law24_ConfigApart_22 x)) (heapOf [0, 1] (OX_law24_ConfigApart_22 x) σ)) r (show (fun (s : S_law24_ConfigApart_22) (k : X_law24_ConfigApart_22 → R α) => L s (fun x => k (.inl x)) (fun x => k (.inr x))) ⟨v0, v1, v2, v3, v4⟩ (fun x => k (xx_law24_ConfigApart_22 x) (envOf [0, 1] (EX_law24_ConfigApart_22 x)) (heapOf [0, 1] (OX_law24_ConfigApart_22 x) σ)) = some r from w22)
    refine ⟨n, ⟨v0, v1, v2, v3, v4⟩, x, [0, 1], hn, ⟨rfl, by decide, env_ren ⟨⟨by simp [Ids, Idss, OS_law24_ConfigApart_22], w2⟩, ⟨by simp [Ids, Idss, OS_law24_ConfigApart_22], w6⟩, ⟨by simp [Ids, Idss, OS_law24_ConfigApart_22], w10⟩, trivial⟩, enum_all ⟨w14, w20, trivial⟩, (fun o ho => by simp only [OS_law24_ConfigApart_22, List.mem_cons, List.not_mem_nil, or_false] at ho; rcases ho with rfl | rfl <;> simp [OIds, Ids, Idss, OS_law24_ConfigApart_22]), fun i hi => ?_⟩, hk⟩
    exact Nat.le_of_ble_eq_true (allB_iff.1 hlt i hi)
noncomputable abbrev PO_law24_ConfigApart {α : Type} (F_law24_known : Sg_law24_known α) (F_law24_few : Sg_law24_few α) (F_config_Check : Sg_config_Check α) (L_law24_ConfigApart_10 : SgL_law24_ConfigApart_10 α) (L_law24_ConfigApart_22 : SgL_law24_ConfigApart_22 α) : ORC α := [(7, .pure (ad_law24_known F_law24_known)), (8, .pure (ad_law24_few F_law24_few)), (9, .pure (ad_config_Check F_config_Check))]
set_option maxRecDepth 100000 in
theorem ok_law24_ConfigApart {α : Type} (F_law24_known : Sg_law24_known α) (F_law24_few : Sg_law24_few α) (F_config_Check : Sg_config_Check α) (L_law24_ConfigApart_10 : SgL_law24_ConfigApart_10 α) (L_law24_ConfigApart_22 : SgL_law24_ConfigApart_22 α) (x0 : GConfig) (k : Bool → R α) : bodyL PT_law24_ConfigApart (PO_law24_ConfigApart F_law24_known F_law24_few F_config_Check L_law24_ConfigApart_10 L_law24_ConfigApart_22) [(10, Lf_law24_ConfigApart_10 L_law24_ConfigApart_10), (22, Lf_law24_ConfigApart_22 L_law24_ConfigApart_22)] ⟨1, []⟩ Try.f4 [(GConfig.sv x0)] emp (fun v _ => dR_law24_ConfigApart v k) = p_law24_ConfigApart F_law24_known F_law24_few F_config_Check L_law24_ConfigApart_10 L_law24_ConfigApart_22 x0 k := by kernel_rfl
theorem mk_law24_ConfigApart {α : Type} {I : Imm} {F_law24_known : Sg_law24_known α} {F_law24_few : Sg_law24_few α} {F_config_Check : Sg_config_Check α} (h_law24_known : OrcOk (α := α) Try.prog I 7 (.pure (ad_law24_known F_law24_known))) (h_law24_few : OrcOk (α := α) Try.prog I 8 (.pure (ad_law24_few F_law24_few))) (h_config_Check : OrcOk (α := α) Try.prog I 9 (.pure (ad_config_Check F_config_Check))) {L_law24_ConfigApart_10 : SgL_law24_ConfigApart_10 α} {L_law24_ConfigApart_22 : SgL_law24_ConfigApart_22 α} (h_L_law24_ConfigApart_10 : SoundC (α := α) Try.prog I Try.f4.ntmps (.loop (loopNo Try.f4 0)) (Lf_law24_ConfigApart_10 L_law24_ConfigApart_10)) (h_L_law24_ConfigApart_22 : SoundC (α := α) Try.prog I Try.f4.ntmps (.loop (loopNo Try.f4 2)) (Lf_law24_ConfigApart_22 L_law24_ConfigApart_22)) : OrcOk (α := α) Try.prog I 4 (.pure (ad_law24_ConfigApart (p_law24_ConfigApart F_law24_known F_law24_few F_config_Check L_law24_ConfigApart_10 L_law24_ConfigApart_22))) := by
  refine orc_pureK PT_law24_ConfigApart_ok (O := PO_law24_ConfigApart F_law24_known F_law24_few F_config_Check L_law24_ConfigApart_10 L_law24_ConfigApart_22) (OOk.cons h_law24_known (OOk.cons h_law24_few (OOk.cons h_config_Check (OOk.nil)))) (L := [(10, Lf_law24_ConfigApart_10 L_law24_ConfigApart_10), (22, Lf_law24_ConfigApart_22 L_law24_ConfigApart_22)]) ⟨1, []⟩ Try.func4 (by kernel_rfl) (by kernel_rfl) (by kernel_rfl) (flok_of (l := [loopNo Try.f4 0, loopNo Try.f4 1, loopNo Try.f4 2]) (by kernel_rfl) ⟨lk_yes (by kernel_rfl) h_L_law24_ConfigApart_10, lk_no (by kernel_rfl), lk_yes (by kernel_rfl) h_L_law24_ConfigApart_22, trivial⟩) ?_
  intro args k r hk
  unfold ad_law24_ConfigApart at hk
  split at hk <;> try (cases hk; done)
  obtain ⟨x0, rfl, hk0⟩ := GConfig.dec_spec hk
  have hkz := hk0
  refine ⟨by simp [Ids, Idss], fun v => dR_law24_ConfigApart v (fun r0 => k (.bool r0)), ?_, fun v hv => ?_⟩
  · rw [ok_law24_ConfigApart]; exact hkz
  · obtain ⟨r0, rfl, hv1⟩ := dR_law24_ConfigApart_spec hv; exact ⟨hv1, by simp [Ids, Idss]⟩
end Go.Proofs.Ytgagmgcljkhboaa
