/-
  The law ExecWhole (printed by wip/pr/pr.py): the functions come to just that.
-/
import Derived.Test.YtlijlabaopiicaaGreatXnWK18
import Derived.Test.YtlijlabaopiicaaGreatSpWL18
namespace Go.Proofs.YtlijlabaopiicaaGreat
open Go Go.Sh Go.Proofs
set_option linter.unusedVariables false
set_option linter.unusedSimpArgs false
abbrev PT_z2z : TE := [(3, ⟨.int .i64 0, 1, 8, .sc (.int .i64), none⟩), (4, ⟨.bool false, 1, 1, .sc (.bool), none⟩), (22, ⟨.int .u64 0, 1, 8, .sc (.int .u64), none⟩), (27, ⟨.ints .u64 32 (fun _ => 0), 32, 256, .ar 32 22 1 false, some (.ar 32 1 (.it .u64))⟩), (30, ⟨.agg [.ints .u64 32 (fun _ => 0), .int .u64 0, .int .i64 0, .bool false, .ints .u64 29 (fun _ => 0), .int .u64 0], 65, 520, .st [(0, 32, true), (32, 1, false), (33, 1, false), (34, 1, false), (35, 29, true), (64, 1, false)], some (.st [(0, 32, true, .ar 32 1 (.it .u64)), (32, 1, false, .it .u64), (33, 1, false, .it .i64), (34, 1, false, .bl), (35, 29, true, .ar 29 1 (.it .u64)), (64, 1, false, .it .u64)])⟩), (32, ⟨.int .u32 0, 1, 4, .sc (.int .u32), none⟩), (36, ⟨.agg [.int .i64 0, .int .i64 0, .int .i64 0, .int .i64 0, .int .i64 0, .int .i64 0], 6, 48, .st [(0, 1, false), (1, 1, false), (2, 1, false), (3, 1, false), (4, 1, false), (5, 1, false)], some (.st [(0, 1, false, .it .i64), (1, 1, false, .it .i64), (2, 1, false, .it .i64), (3, 1, false, .it .i64), (4, 1, false, .it .i64), (5, 1, false, .it .i64)])⟩), (38, ⟨.agg [.int .u64 0, .int .u64 0, .int .u64 0, .bool false], 4, 32, .st [(0, 1, false), (1, 1, false), (2, 1, false), (3, 1, false)], some (.st [(0, 1, false, .it .u64), (1, 1, false, .it .u64), (2, 1, false, .it .u64), (3, 1, false, .bl)])⟩), (40, ⟨.agg [.int .u64 0, .int .u32 0, .int .i64 0, .int .u64 0, .bool false, .agg [.int .u64 0, .int .u64 0, .int .u64 0, .bool false], .int .i64 0, .bool false, .bool false], 12, 88, .st [(0, 1, false), (1, 1, false), (2, 1, false), (3, 1, false), (4, 1, false), (5, 4, true), (9, 1, false), (10, 1, false), (11, 1, false)], some (.st [(0, 1, false, .it .u64), (1, 1, false, .it .u32), (2, 1, false, .it .i64), (3, 1, false, .it .u64), (4, 1, false, .bl), (5, 4, true, .st [(0, 1, false, .it .u64), (1, 1, false, .it .u64), (2, 1, false, .it .u64), (3, 1, false, .bl)]), (9, 1, false, .it .i64), (10, 1, false, .bl), (11, 1, false, .bl)])⟩)]
theorem PT_z95 : Prg Tryz.prog PT_z2z := ⟨(.cons pe_3 (.cons pe_4 (.cons pe_22 (.cons pe_27 (.cons pe_30 (.cons pe_32 (.cons pe_36 (.cons pe_38 (.cons pe_40 (TEok.nil _)))))))))), by kernel_rfl⟩
noncomputable abbrev PO_lp_law18_ExecWhole_14 {α : Type}  : ORC α := []
set_option maxRecDepth 100000 in
theorem okb_law18_ExecWhole_14 {α : Type}  (s : S_zj) (kn : S_zj → R α) (k0 : X_z32 → R α) (k1 : X_z30 → R α) : seval PT_z2z (PO_lp_law18_ExecWhole_14 ) [] Tryz.f6.ntmps ⟨1, []⟩ (loopNo Tryz.f6 0) (E_zj s) (hp (OS_zj s)) (dL_zj kn k0 k1) = b_zj  s kn k0 k1 := by kernel_rfl
theorem snd_zj {α : Type} {I : Imm}  {L : SgL_zj α} (hL : LoopOk (α := α) (fun (s : S_zj) => b_zj  s (fun s => some (.inl s)) (fun x => some (.inr (.inl x))) (fun x => some (.inr (.inr x)))) (fun (s : S_zj) (k : X_zj → R α) => L s (fun x => k (.inl x)) (fun x => k (.inr x)))) : SoundC Tryz.prog I Tryz.f6.ntmps (.loop (loopNo Tryz.f6 0)) (Lf_zj L) := by
  have run := fun (s : S_zj) (z : (S_zj ⊕ X_zj)) (h : (fun (s : S_zj) => b_zj  s (fun s => some (.inl s)) (fun x => some (.inr (.inl x))) (fun x => some (.inr (.inr x)))) s = some z) => seval_spec (α := (S_zj ⊕ X_zj)) (I := I) PT_z95.te PT_z95.mix (O := PO_lp_law18_ExecWhole_14 ) (OOk.nil) (L := []) (N := Tryz.f6.ntmps) (n := ⟨1, []⟩) (loopNo Tryz.f6 0) (by kernel_rfl) (LOk.nil) (E_zj s) (hp (OS_zj s)) _ z ((okb_law18_ExecWhole_14  s (fun s => some (.inl s)) (fun x => some (.inr (.inl x))) (fun x => some (.inr (.inr x)))).trans h)
  refine loop_law_same (stp := fun (s : S_zj) => b_zj  s (fun s => some (.inl s)) (fun x => some (.inr (.inl x))) (fun x => some (.inr (.inr x)))) (E := E_zj) (os := OS_zj) (EX := EX_zj) (osX := OX_zj) (xx := xx_zj) (fun s o ho => ?_) (fun x o ho => ?_) (fun x => ?_) (fun s s1 hs => ?_) (fun s x hs => ?_) (fun env σ k r h => ?_)
  · simp only [OS_zj, List.mem_cons, List.not_mem_nil, or_false] at ho
    rcases ho with rfl | rfl | rfl <;> rfl
  · rcases x with x | x <;> simp only [OX_zj, OX_z32, OX_z30, List.mem_cons, List.not_mem_nil, or_false] at ho
    all_goals (rcases ho with rfl | rfl | rfl <;> rfl)
  · rcases x with x | x <;> simp [xx_zj]
  · obtain ⟨x, env1, σ1, h1, h2, h3⟩ := run s _ hs
    rcases dL_z9g h1 with ⟨rfl, s2, e1, e2, e3⟩ | ⟨rfl, s2, e1, e2, e3⟩ | ⟨rfl, s2, e1, e2, e3⟩
    · simp only [Option.some.injEq, Sum.inl.injEq] at e3
      subst e3
      exact ⟨rfl, env1, σ1, h3, e1, e2, (fun o ho => by simp only [OS_zj, List.mem_cons, List.not_mem_nil, or_false] at ho; rcases ho with rfl | rfl | rfl <;> simp [OIds, Ids, Idss, OS_zj])⟩
    · simp at e3
    · simp at e3
  · obtain ⟨x1, env1, σ1, h1, h2, h3⟩ := run s _ hs
    rcases dL_z9g h1 with ⟨rfl, s2, e1, e2, e3⟩ | ⟨rfl, s2, e1, e2, e3⟩ | ⟨rfl, s2, e1, e2, e3⟩
    · simp at e3
    · simp only [Option.some.injEq, Sum.inr.injEq] at e3
      subst e3
      exact ⟨rfl, env1, σ1, h3, e1, e2, (fun o ho => by simp only [OX_zj, OX_z32, List.mem_cons, List.not_mem_nil, or_false] at ho; rcases ho with rfl | rfl | rfl <;> simp [OIds, Ids, Idss, OS_zj])⟩
    · simp only [Option.some.injEq, Sum.inr.injEq] at e3
      subst e3
      exact ⟨rfl, env1, σ1, h3, e1, e2, (fun o ho => by simp only [OX_zj, OX_z30, List.mem_cons, List.not_mem_nil, or_false] at ho; rcases ho with rfl | rfl | rfl <;> simp [OIds, Ids, Idss, OS_zj])⟩
  · skip
    unfold Lf_zj at h
    obtain ⟨hlt, h0⟩ := bif_some h
    obtain ⟨w1, w2, w3⟩ := decT_spec h0
    obtain ⟨rfl, w4⟩ := decP_spec w3
    obtain ⟨w5, w6, w7⟩ := decT_spec w4
    obtain ⟨rfl, w8⟩ := decP_spec w7
    obtain ⟨w9, w10, w11⟩ := decT_spec w8
    obtain ⟨rfl, w12⟩ := decP_spec w11
    obtain ⟨w13, w14, w15⟩ := decT_spec w12
    obtain ⟨v0, rfl, w16⟩ := decI_spec w15
    obtain ⟨w17, w18, w19⟩ := decO_spec w16
    split at w19 <;> try (cases w19; done)
    obtain ⟨v1, rfl, w20⟩ := decA_spec w19
    obtain ⟨v2, rfl, w21⟩ := decI_spec w20
    obtain ⟨v3, rfl, w22⟩ := decI_spec w21
    obtain ⟨v4, rfl, w23⟩ := decB_spec w22
    obtain ⟨v5, rfl, w24⟩ := decA_spec w23
    obtain ⟨v6, rfl, w25⟩ := decI_spec w24
    obtain ⟨w26, w27, w28⟩ := decO_spec w25
    split at w28 <;> try (cases w28; done)
    obtain ⟨v7, rfl, w29⟩ := decA_spec w28
    obtain ⟨v8, rfl, w30⟩ := decI_spec w29
    obtain ⟨v9, rfl, w31⟩ := decI_spec w30
    obtain ⟨v10, rfl, w32⟩ := decB_spec w31
    obtain ⟨v11, rfl, w33⟩ := decA_spec w32
    obtain ⟨v12, rfl, w34⟩ := decI_spec w33
    obtain ⟨w35, w36, w37⟩ := decO_spec w34
    split at w37 <;> try (cases w37; done)
    obtain ⟨v13, rfl, w38⟩ := decI_spec w37
    obtain ⟨v14, rfl, w39⟩ := decI_spec w38
    obtain ⟨v15, rfl, w40⟩ := decI_spec w39
    obtain ⟨v16, rfl, w41⟩ := decI_spec w40
    obtain ⟨v17, rfl, w42⟩ := decB_spec w41
    split at w42 <;> try (cases w42; done)
    obtain ⟨v18, rfl, w43⟩ := decI_spec w42
    obtain ⟨v19, rfl, w44⟩ := decI_spec w43
    obtain ⟨v20, rfl, w45⟩ := decI_spec w44
    obtain ⟨v21, rfl, w46⟩ := decB_spec w45
    obtain ⟨v22, rfl, w47⟩ := decI_spec w46
    obtain ⟨v23, rfl, w48⟩ := decB_spec w47
    obtain ⟨v24, rfl, w49⟩ := decB_spec w48
    obtain ⟨n, x, hn, hk⟩ := hL _ (fun x => k (xx_zj x) (envOf [16, 25, 26] (EX_zj x)) (heapOf [16, 25, 26] (OX_zj x) σ)) r (show (fun (s : S_zj) (k : X_zj → R α) => L s (fun x => k (.inl x)) (fun x => k (.inr x))) ⟨v0, v1, v2, v3, v4, v5, v6, v7, v8, v9, v10, v11, v12, v13, v14, v15, v16, v17, v18, v19, v20, v21, v22, v23, v24⟩ (fun x => k (xx_zj x) (envOf [16, 25, 26] (EX_zj x)) (heapOf [16, 25, 26] (OX_zj x) σ)) = some r from w49)
    refine ⟨n, ⟨v0, v1, v2, v3, v4, v5, v6, v7, v8, v9, v10, v11, v12, v13, v14, v15, v16, v17, v18, v19, v20, v21, v22, v23, v24⟩, x, [16, 25, 26], hn, ⟨rfl, by decide, env_ren ⟨⟨by simp [Ids, Idss, OS_zj], w2⟩, ⟨by simp [Ids, Idss, OS_zj], w6⟩, ⟨by simp [Ids, Idss, OS_zj], w10⟩, ⟨by simp [Ids, Idss, OS_zj], w14⟩, trivial⟩, enum_all ⟨w18, w27, w36, trivial⟩, (fun o ho => by simp only [OS_zj, List.mem_cons, List.not_mem_nil, or_false] at ho; rcases ho with rfl | rfl | rfl <;> simp [OIds, Ids, Idss, OS_zj]), fun i hi => ?_⟩, hk⟩
    exact Nat.le_of_ble_eq_true (allB_iff.1 hlt i hi)
noncomputable abbrev PO_z2z {α : Type} (F_z2y : Sg_z2y α) (F_z2x : Sg_z2x α) (F_z1q : Sg_z1q α) (F_z2u : Sg_z2u α) (F_z2g : Sg_z2g α) (F_z5 : Sg_z5 α) (L_zj : SgL_zj α) : ORC α := [(9, .pure (ad_z2y F_z2y)), (14, .pure (ad_z2x F_z2x)), (15, .full (ad_z1q F_z1q)), (13, .pure (ad_z2u F_z2u)), (11, .pure (ad_z2g F_z2g)), (12, .full (ad_z5 F_z5))]
set_option maxRecDepth 100000 in
theorem ok_z2z {α : Type} (F_z2y : Sg_z2y α) (F_z2x : Sg_z2x α) (F_z1q : Sg_z1q α) (F_z2u : Sg_z2u α) (F_z2g : Sg_z2g α) (F_z5 : Sg_z5 α) (L_zj : SgL_zj α) (x0 : (Bool × Addr × Nat × Nat × (Nat → (Int × Int × Unit)))) (x1 : GState) (x2 : GInsn) (k : Bool → R α) : bodyL PT_z2z (PO_z2z F_z2y F_z2x F_z1q F_z2u F_z2g F_z5 L_zj) [(14, Lf_zj L_zj)] ⟨1, []⟩ Tryz.f6 [(.vslc (.st [(.int .u64), (.int .u64)]) x0.1 x0.2.1 x0.2.2.1 x0.2.2.2.1 x0.2.2.2.2), (GState.sv x1), (GInsn.sv x2)] emp (fun v _ => dR_law18_ExecWhole v k) = p_z2z F_z2y F_z2x F_z1q F_z2u F_z2g F_z5 L_zj x0 x1 x2 k := by kernel_rfl
theorem mk_z2z {α : Type} {I : Imm} {F_z2y : Sg_z2y α} {F_z2x : Sg_z2x α} {F_z1q : Sg_z1q α} {F_z2u : Sg_z2u α} {F_z2g : Sg_z2g α} {F_z5 : Sg_z5 α} (h_z2y : OrcOk (α := α) Tryz.prog I 9 (.pure (ad_z2y F_z2y))) (h_z2x : OrcOk (α := α) Tryz.prog I 14 (.pure (ad_z2x F_z2x))) (h_z1q : OrcOk (α := α) Tryz.prog I 15 (.full (ad_z1q F_z1q))) (h_z2u : OrcOk (α := α) Tryz.prog I 13 (.pure (ad_z2u F_z2u))) (h_z2g : OrcOk (α := α) Tryz.prog I 11 (.pure (ad_z2g F_z2g))) (h_z5 : OrcOk (α := α) Tryz.prog I 12 (.full (ad_z5 F_z5))) {L_zj : SgL_zj α} (h_L_law18_ExecWhole_14 : SoundC (α := α) Tryz.prog I Tryz.f6.ntmps (.loop (loopNo Tryz.f6 0)) (Lf_zj L_zj)) : OrcOk (α := α) Tryz.prog I 6 (.pure (ad_z2z (p_z2z F_z2y F_z2x F_z1q F_z2u F_z2g F_z5 L_zj))) := by
  refine orc_pureK PT_z95 (O := PO_z2z F_z2y F_z2x F_z1q F_z2u F_z2g F_z5 L_zj) (OOk.cons h_z2y (OOk.cons h_z2x (OOk.cons h_z1q (OOk.cons h_z2u (OOk.cons h_z2g (OOk.cons h_z5 (OOk.nil))))))) (L := [(14, Lf_zj L_zj)]) ⟨1, []⟩ Tryz.func6 (by kernel_rfl) (by kernel_rfl) (by kernel_rfl) (flok_of (l := [loopNo Tryz.f6 0]) (by kernel_rfl) ⟨lk_yes (by kernel_rfl) h_L_law18_ExecWhole_14, trivial⟩) ?_
  intro args k r hk
  unfold ad_z2z at hk
  split at hk <;> try (cases hk; done)
  obtain ⟨x0, rfl, hk0⟩ := decV_st_int_u64_int_u64_spec hk
  obtain ⟨x1, rfl, hk1⟩ := GState.dec_spec hk0
  obtain ⟨x2, rfl, hk2⟩ := GInsn.dec_spec hk1
  have hkz := hk2
  refine ⟨by simp [Ids, Idss], fun v => dR_law18_ExecWhole v (fun r0 => k (.bool r0)), ?_, fun v hv => ?_⟩
  · rw [ok_z2z]; exact hkz
  · obtain ⟨r0, rfl, hv1⟩ := dR_law18_ExecWhole_spec hv; exact ⟨hv1, by simp [Ids, Idss]⟩
end Go.Proofs.YtlijlabaopiicaaGreat
