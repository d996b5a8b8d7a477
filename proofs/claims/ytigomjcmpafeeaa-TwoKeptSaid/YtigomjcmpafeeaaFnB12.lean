/-
  The two memories of chapter 12 (printed by wip/pr/pr.py): the functions come to just that.
-/
import Derived.Test.YtigomjcmpafeeaaFnP12
import Derived.Test.YtigomjcmpafeeaaSpB12
namespace Go.Proofs.Ytigomjcmpafeeaa
open Go Go.Sh Go.Proofs
set_option linter.unusedVariables false
set_option linter.unusedSimpArgs false
theorem pe_54 : TyOk Try.prog 54 ⟨.nils, 1, 24, .sc (.slice 118), none⟩ := ⟨fun _ => by kernel_rfl, ⟨rfl, rfl, fun _ _ => by simp [Wf, Wfs]⟩, ⟨Try.underlying54, rfl⟩, fun _ h => by cases h⟩
theorem pe_118 : TyOk Try.prog 118 ⟨.agg [.int .u64 0, .int .u64 0], 2, 16, .st [(0, 1, false), (1, 1, false)], some (.st [(0, 1, false, .it .u64), (1, 1, false, .it .u64)])⟩ := ⟨fun _ => by kernel_rfl, ⟨rfl, rfl, fun _ _ => by simp [Wf, Wfs]⟩, ⟨_, Try.underlying118, by kernel_rfl⟩, fun _ h => by cases h; exact ⟨by kernel_rfl, by kernel_rfl⟩⟩
abbrev PT_law12_both : TE := [(3, ⟨.int .i64 0, 1, 8, .sc (.int .i64), none⟩), (33, ⟨.int .u64 0, 1, 8, .sc (.int .u64), none⟩), (54, ⟨.nils, 1, 24, .sc (.slice 118), none⟩), (118, ⟨.agg [.int .u64 0, .int .u64 0], 2, 16, .st [(0, 1, false), (1, 1, false)], some (.st [(0, 1, false, .it .u64), (1, 1, false, .it .u64)])⟩)]
theorem PT_law12_both_ok : Prg Try.prog PT_law12_both := ⟨(.cons pe_3 (.cons pe_33 (.cons pe_54 (.cons pe_118 (TEok.nil _))))), by kernel_rfl⟩

noncomputable abbrev PO_lp_law12_both_3 {α : Type} (F_ref1_Mem_Code : Sg_ref1_Mem_Code α) (F_mem_Memory_Write : Sg_mem_Memory_Write α) (F_ref1_Mem_Write : Sg_ref1_Mem_Write α) : ORC α := [(58, .full (ad_ref1_Mem_Code F_ref1_Mem_Code)), (31, .full (ad_mem_Memory_Write F_mem_Memory_Write)), (59, .full (ad_ref1_Mem_Write F_ref1_Mem_Write))]
set_option maxRecDepth 100000 in
theorem okb_law12_both_3 {α : Type} (F_ref1_Mem_Code : Sg_ref1_Mem_Code α) (F_mem_Memory_Write : Sg_mem_Memory_Write α) (F_ref1_Mem_Write : Sg_ref1_Mem_Write α) (s : S_law12_both_3) (kn : S_law12_both_3 → R α) (k0 : X_law12_both_3_0 → R α) : seval PT_law12_both (PO_lp_law12_both_3 F_ref1_Mem_Code F_mem_Memory_Write F_ref1_Mem_Write) [] Try.f23.ntmps ⟨1, []⟩ (loopNo Try.f23 0) (E_law12_both_3 s) (hp (OS_law12_both_3 s)) (dL_law12_both_3 kn k0) = b_law12_both_3 F_ref1_Mem_Code F_mem_Memory_Write F_ref1_Mem_Write s kn k0 := by kernel_rfl
theorem snd_law12_both_3 {α : Type} {I : Imm} {F_ref1_Mem_Code : Sg_ref1_Mem_Code (S_law12_both_3 ⊕ X_law12_both_3)} {F_mem_Memory_Write : Sg_mem_Memory_Write (S_law12_both_3 ⊕ X_law12_both_3)} {F_ref1_Mem_Write : Sg_ref1_Mem_Write (S_law12_both_3 ⊕ X_law12_both_3)} (h_ref1_Mem_Code : OrcOk (α := (S_law12_both_3 ⊕ X_law12_both_3)) Try.prog I 58 (.full (ad_ref1_Mem_Code F_ref1_Mem_Code))) (h_mem_Memory_Write : OrcOk (α := (S_law12_both_3 ⊕ X_law12_both_3)) Try.prog I 31 (.full (ad_mem_Memory_Write F_mem_Memory_Write))) (h_ref1_Mem_Write : OrcOk (α := (S_law12_both_3 ⊕ X_law12_both_3)) Try.prog I 59 (.full (ad_ref1_Mem_Write F_ref1_Mem_Write))) {L : SgL_law12_both_3 α} (hL : LoopOk (α := α) (fun (s : S_law12_both_3) => b_law12_both_3 F_ref1_Mem_Code F_mem_Memory_Write F_ref1_Mem_Write s (fun s => some (.inl s)) (fun x => some (.inr x))) (fun (s : S_law12_both_3) (k : X_law12_both_3 → R α) => L s (fun x => k x))) : SoundC Try.prog I Try.f23.ntmps (.loop (loopNo Try.f23 0)) (Lf_law12_both_3 L) := by
  have run := fun (s : S_law12_both_3) (z : (S_law12_both_3 ⊕ X_law12_both_3)) (h : (fun (s : S_law12_both_3) => b_law12_both_3 F_ref1_Mem_Code F_mem_Memory_Write F_ref1_Mem_Write s (fun s => some (.inl s)) (fun x => some (.inr x))) s = some z) => seval_spec (α := (S_law12_both_3 ⊕ X_law12_both_3)) PT_law12_both_ok.te PT_law12_both_ok.mix (O := PO_lp_law12_both_3 F_ref1_Mem_Code F_mem_Memory_Write F_ref1_Mem_Write) (OOk.cons h_ref1_Mem_Code (OOk.cons h_mem_Memory_Write (OOk.cons h_ref1_Mem_Write (OOk.nil)))) (L := []) (N := Try.f23.ntmps) (n := ⟨1, []⟩) (loopNo Try.f23 0) (by kernel_rfl) (LOk.nil) (E_law12_both_3 s) (hp (OS_law12_both_3 s)) _ z ((okb_law12_both_3 F_ref1_Mem_Code F_mem_Memory_Write F_ref1_Mem_Write s (fun s => some (.inl s)) (fun x => some (.inr x))).trans h)
  refine loop_law_same (stp := fun (s : S_law12_both_3) => b_law12_both_3 F_ref1_Mem_Code F_mem_Memory_Write F_ref1_Mem_Write s (fun s => some (.inl s)) (fun x => some (.inr x))) (E := E_law12_both_3) (os := OS_law12_both_3) (EX := EX_law12_both_3) (osX := OX_law12_both_3) (xx := xx_law12_both_3) (fun s o ho => ?_) (fun x o ho => ?_) (fun x => ?_) (fun s s1 hs => ?_) (fun s x hs => ?_) (fun env σ k r h => ?_)
  · simp only [OS_law12_both_3, List.mem_cons, List.not_mem_nil, or_false] at ho
    rcases ho with rfl | rfl | rfl | rfl <;> rfl
  · simp only [OX_law12_both_3, OX_law12_both_3_0, List.mem_cons, List.not_mem_nil, or_false] at ho
    rcases ho with rfl | rfl | rfl | rfl <;> rfl
  · simp [xx_law12_both_3]
  · obtain ⟨x, env1, σ1, h1, h2, h3⟩ := run s _ hs
    rcases dL_law12_both_3_spec h1 with ⟨rfl, s2, e1, e2, e3⟩ | ⟨rfl, s2, e1, e2, e3⟩
    · simp only [Option.some.injEq, Sum.inl.injEq] at e3
      subst e3
      exact ⟨rfl, env1, σ1, h3, e1, e2, (fun o ho => by simp only [OS_law12_both_3, List.mem_cons, List.not_mem_nil, or_false] at ho; rcases ho with rfl | rfl | rfl | rfl <;> simp [OIds, Ids, Idss, OS_law12_both_3])⟩
    · simp at e3
  · obtain ⟨x1, env1, σ1, h1, h2, h3⟩ := run s _ hs
    rcases dL_law12_both_3_spec h1 with ⟨rfl, s2, e1, e2, e3⟩ | ⟨rfl, s2, e1, e2, e3⟩
    · simp at e3
    · simp only [Option.some.injEq, Sum.inr.injEq] at e3
      subst e3
      exact ⟨rfl, env1, σ1, h3, e1, e2, (fun o ho => by simp only [OX_law12_both_3, OX_law12_both_3_0, List.mem_cons, List.not_mem_nil, or_false] at ho; rcases ho with rfl | rfl | rfl | rfl <;> simp [OIds, Ids, Idss, OS_law12_both_3])⟩
  · skip
    unfold Lf_law12_both_3 at h
    obtain ⟨hlt, h0⟩ := bif_some h
    obtain ⟨w1, w2, w3⟩ := decT_spec h0
    obtain ⟨v0, rfl, w4⟩ := decV_st_int_u64_int_u64_spec w3
    obtain ⟨w5, w6, w7⟩ := decT_spec w4
    obtain ⟨rfl, w8⟩ := decN_spec w7
    obtain ⟨w9, w10, w11⟩ := decT_spec w8
    obtain ⟨rfl, w12⟩ := decN_spec w11
    obtain ⟨w13, w14, w15⟩ := decT_spec w12
    obtain ⟨rfl, w16⟩ := decP_spec w15
    obtain ⟨w17, w18, w19⟩ := decT_spec w16
    obtain ⟨rfl, w20⟩ := decP_spec w19
    obtain ⟨w21, w22, w23⟩ := decT_spec w20
    obtain ⟨v1, rfl, w24⟩ := decI_spec w23
    obtain ⟨w25, w26, w27⟩ := decO_spec w24
    split at w27 <;> try (cases w27; done)
    obtain ⟨rfl, w28⟩ := decSl_spec w27
    obtain ⟨w29, w30, w31⟩ := decO_spec w28
    split at w31 <;> try (cases w31; done)
    obtain ⟨rfl, w32⟩ := decSl_spec w31
    obtain ⟨w33, w34, w35⟩ := decO_spec w32
    obtain ⟨v2, rfl, w36⟩ := decA_spec w35
    obtain ⟨w37, w38, w39⟩ := decO_spec w36
    obtain ⟨v3, rfl, w40⟩ := decA_spec w39
    obtain ⟨n, x, hn, hk⟩ := hL _ (fun x => k (xx_law12_both_3 x) (envOf [1, 3, 0, 2] (EX_law12_both_3 x)) (heapOf [1, 3, 0, 2] (OX_law12_both_3 x) σ)) r (show (fun (s : S_law12_both_3) (k : X_law12_both_3 → R α) => L s (fun x => k x)) _ _ = some r from w40)
    refine ⟨n, ⟨v0, v1, v2, v3⟩, x, [1, 3, 0, 2], hn, ⟨rfl, by decide, env_ren ⟨⟨by simp [Ids, Idss, OS_law12_both_3], w2⟩, ⟨by simp [Ids, Idss, OS_law12_both_3], w6⟩, ⟨by simp [Ids, Idss, OS_law12_both_3], w10⟩, ⟨by simp [Ids, Idss, OS_law12_both_3], w14⟩, ⟨by simp [Ids, Idss, OS_law12_both_3], w18⟩, ⟨by simp [Ids, Idss, OS_law12_both_3], w22⟩, trivial⟩, enum_all ⟨w26, w30, w34, w38, trivial⟩, (fun o ho => by simp only [OS_law12_both_3, List.mem_cons, List.not_mem_nil, or_false] at ho; rcases ho with rfl | rfl | rfl | rfl <;> simp [OIds, Ids, Idss, OS_law12_both_3]), fun i hi => ?_⟩, hk⟩
    exact Nat.le_of_ble_eq_true (allB_iff.1 hlt i hi)
noncomputable abbrev PO_law12_both {α : Type} (L_law12_both_3 : SgL_law12_both_3 α) : ORC α := [(20, .full newF), (57, .full newF)]
set_option maxRecDepth 100000 in
theorem ok_law12_both {α : Type} (L_law12_both_3 : SgL_law12_both_3 α) (x0 : (Bool × Addr × Nat × Nat × (Nat → (Int × Int × Unit)))) (k : (Nat → Int) → (Nat → Int) → R α) : bodyL PT_law12_both (PO_law12_both L_law12_both_3) [(3, Lf_law12_both_3 L_law12_both_3)] ⟨1, []⟩ Try.f23 [(.vslc (.st [(.int .u64), (.int .u64)]) x0.1 x0.2.1 x0.2.2.1 x0.2.2.2.1 x0.2.2.2.2)] (hp []) (fun v σ1 => dR_law12_both v σ1 k) = p_law12_both L_law12_both_3 x0 k := by kernel_rfl
theorem mk_law12_both {α : Type} {I : Imm} (h_mem_New : OrcOk (α := α) Try.prog I 20 (.full newF)) (h_ref1_New : OrcOk (α := α) Try.prog I 57 (.full newF)) {L_law12_both_3 : SgL_law12_both_3 α} (h_L_law12_both_3 : SoundC (α := α) Try.prog I Try.f23.ntmps (.loop (loopNo Try.f23 0)) (Lf_law12_both_3 L_law12_both_3)) : OrcOk (α := α) Try.prog I 23 (.full (ad_law12_both (p_law12_both L_law12_both_3))) := by
  refine orc_canonK PT_law12_both_ok (O := PO_law12_both L_law12_both_3) (OOk.cons h_mem_New (OOk.cons h_ref1_New (OOk.nil))) (L := [(3, Lf_law12_both_3 L_law12_both_3)]) ⟨1, []⟩ Try.func23 (by kernel_rfl) (by kernel_rfl) (by kernel_rfl) (flok_of (l := [loopNo Try.f23 0]) (by kernel_rfl) ⟨lk_yes (by kernel_rfl) h_L_law12_both_3, trivial⟩) ?_
  intro args σ k r hk
  unfold ad_law12_both at hk
  split at hk <;> try (cases hk; done)
  obtain ⟨x0, rfl, hk0⟩ := decV_st_int_u64_int_u64_spec hk
  have hkz := hk0
  refine ⟨[], [], [(.vslc (.st [(.int .u64), (.int .u64)]) x0.1 x0.2.1 x0.2.2.1 x0.2.2.2.1 x0.2.2.2.2)], lay_mk rfl (by simp) rfl trivial (by simp [AllL, Ids, Idss]) trivial, fun v σ1 => dR_law12_both v σ1 (fun f g => k (.tuple [.ptr σ.next [], .ptr (σ.next + 2) []]) ⟨σ.next + 4, [(σ.next, memO (σ.next + 1) none), (σ.next + 1, byO none f), (σ.next + 2, memO (σ.next + 3) none), (σ.next + 3, byO none g)] ++ σ.blocks⟩), ?_, fun v σ1 hg hv => ?_⟩
  · rw [ok_law12_both]; exact hkz
  · unfold dR_law12_both at hv
    dsimp only at hv
    split at hv <;> try (cases hv; done)
    obtain ⟨b, b1, f, rfl, ⟨_, hb⟩, ⟨_, hb1⟩, hne, gb, gb1, hv1⟩ := decNM_spec hv
    obtain ⟨c, c1, g, rfl, ⟨_, hc⟩, ⟨_, hc1⟩, hne2, gc, gc1, hv2⟩ := decNM_spec hv1
    obtain ⟨hd, hv3⟩ := bif_some hv2
    have hn := nodup4 hne hne2 hd
    obtain ⟨q1, q2, q3, q4⟩ := rnm_four (n := σ.next) hn
    refine ⟨_, _, pub_two hb hb1 hc hc1 hn gb gb1 gc gc1, ?_⟩
    simp only [List.map_cons, List.map_nil, ren, rens, renO, q1, q2, q3, q4, List.length_cons, List.length_nil]
    exact hv3
abbrev PT_law12_few : TE := [(3, ⟨.int .i64 0, 1, 8, .sc (.int .i64), none⟩), (54, ⟨.nils, 1, 24, .sc (.slice 118), none⟩), (118, ⟨.agg [.int .u64 0, .int .u64 0], 2, 16, .st [(0, 1, false), (1, 1, false)], some (.st [(0, 1, false, .it .u64), (1, 1, false, .it .u64)])⟩)]
theorem PT_law12_few_ok : Prg Try.prog PT_law12_few := ⟨(.cons pe_3 (.cons pe_54 (.cons pe_118 (TEok.nil _)))), by kernel_rfl⟩

noncomputable abbrev PO_law12_few {α : Type}  : ORC α := []
set_option maxRecDepth 100000 in
theorem ok_law12_few {α : Type}  (x0 : (Bool × Addr × Nat × Nat × (Nat → (Int × Int × Unit)))) (k : Bool → R α) : bodyL PT_law12_few (PO_law12_few ) [] ⟨1, []⟩ Try.f22 [(.vslc (.st [(.int .u64), (.int .u64)]) x0.1 x0.2.1 x0.2.2.1 x0.2.2.2.1 x0.2.2.2.2)] emp (fun v _ => dR_law12_few v k) = p_law12_few  x0 k := by kernel_rfl
theorem mk_law12_few {α : Type} {I : Imm}  : OrcOk (α := α) Try.prog I 22 (.pure (ad_law12_few (p_law12_few ))) := by
  refine orc_pureK PT_law12_few_ok (O := PO_law12_few ) (OOk.nil) (L := []) ⟨1, []⟩ Try.func22 (by kernel_rfl) (by kernel_rfl) (by kernel_rfl) FLOk.nil ?_
  intro args k r hk
  unfold ad_law12_few at hk
  split at hk <;> try (cases hk; done)
  obtain ⟨x0, rfl, hk0⟩ := decV_st_int_u64_int_u64_spec hk
  have hkz := hk0
  refine ⟨by simp [Ids, Idss], fun v => dR_law12_few v (fun r0 => k (.bool r0)), ?_, fun v hv => ?_⟩
  · rw [ok_law12_few]; exact hkz
  · obtain ⟨r0, rfl, hv1⟩ := dR_law12_few_spec hv; exact ⟨hv1, by simp [Ids, Idss]⟩
end Go.Proofs.Ytigomjcmpafeeaa
