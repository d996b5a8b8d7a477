/-
  pval_spec: whatever only looks yields what pval says.
-/
import Derived.Test.YtigomjcmpafeeaaSk6
set_option linter.unusedSimpArgs false
set_option linter.unusedVariables false
namespace Go.Sh
open Go

section
variable {α : Type} {P : Program} {I : Imm}

theorem nth_wf {n : Nat → Prop} {l : List SV} {i : Nat} {v : SV} (h : l[i]? = some v) (hw : Wfs I n l) : Wf I n v := wfs_iff.1 hw v (List.mem_of_getElem? h)

set_option maxHeartbeats 1000000 in
theorem pval_spec {te : TE} (hte : TEok P te) {o : Oper} {g : EF} {hp : HF} {k : SV → R α} {r : α} (h : pval te o.op g hp k = some r) :
    ∃ v, k v = some r ∧ POk P I g hp o v := by
  obtain ⟨dst, op, type, pos, after, guard⟩ := o
  cases op <;> simp only [pval] at h <;> try (simp at h; done)
  case move x =>
    obtain ⟨v, h1, hv⟩ := ev_spec h
    exact ⟨v, h1, fun m N ρ a w he hh => ⟨by simp [execOp, (hv I N ρ _ a he).1], (hv I N ρ _ a he).2⟩⟩
  case assign x =>
    obtain ⟨v, h1, hv⟩ := ev_spec h
    exact ⟨v, h1, fun m N ρ a w he hh => ⟨by simp [execOp, (hv I N ρ _ a he).1], (hv I N ρ _ a he).2⟩⟩
  case pick c x y =>
    obtain ⟨c', h1, hc⟩ := ev_spec h
    cases c' <;> (try simp only at h1) <;> try (simp at h1; done)
    rename_i b
    cases b
    · obtain ⟨v, h2, hv⟩ := ev_spec h1
      exact ⟨v, h2, fun m N ρ a w he hh => ⟨by simp [execOp, (hc I N ρ _ a he).1, (hv I N ρ _ a he).1, val_bool, asBool], (hv I N ρ _ a he).2⟩⟩
    · obtain ⟨v, h2, hv⟩ := ev_spec h1
      exact ⟨v, h2, fun m N ρ a w he hh => ⟨by simp [execOp, (hc I N ρ _ a he).1, (hv I N ρ _ a he).1, val_bool, asBool], (hv I N ρ _ a he).2⟩⟩
  case load t x =>
    obtain ⟨s, h1, ht⟩ := tlook_spec h hte
    obtain ⟨p, h2, hp⟩ := ev_spec h1
    cases p <;> (try simp only at h2) <;> try (simp at h2; done)
    · rename_i b p
      split at h2 <;> try (simp at h2; done)
      rename_i g' v h3
      have h4 := h2
      obtain ⟨u, h5, hl, hw⟩ := sub_spec h4
      obtain ⟨h6, h7⟩ := bif_some h5
      refine ⟨u, h7, fun m N ρ a w he hh => ⟨?_, hw I _ (hh.wf.dom b _ h3).2⟩⟩
      have e := run_loadVar_of (P := P) ht (a := ⟨(ρ b).blk, (ρ b).base + offOf p, none⟩) rfl (ρ := ρ) (u := u) (w := w) (fun j hj => hh.cell h3 hl hj) h6
      simp [execOp, (hp I N ρ _ a he).1, val_ptr, Instr.loadAt, Instr.sureAddr, e]
    · rename_i ad v
      obtain ⟨h6, h7⟩ := bif_some h2
      refine ⟨v, h7, fun m N ρ a w he hh => ?_⟩
      obtain ⟨e1, e2⟩ := hp I N ρ _ a he
      simp only [Wf] at e2
      have e := run_loadVar_of (P := P) ht (a := ad) e2.1.1 (ρ := ρ) (u := v) (w := w) (fun j hj => VOk.cell hh e2.1 hj) h6
      exact ⟨by simp [execOp, e1, val_vptr, Instr.loadAt, Instr.sureAddr, e], e2.2.mono fun _ h => h.elim⟩
  case nilCheck x =>
    obtain ⟨v, h1, hv⟩ := ev_spec h
    cases v <;> (try simp only at h1) <;> try (simp at h1; done)
    · exact ⟨_, h1, fun m N ρ a w he hh => ⟨by simp [execOp, (hv I N ρ _ a he).1, val_ptr], (hv I N ρ _ a he).2⟩⟩
    · exact ⟨_, h1, fun m N ρ a w he hh => ⟨by simp [execOp, (hv I N ρ _ a he).1, val_vptr], (hv I N ρ _ a he).2⟩⟩
    · rename_i f fs cs
      cases f <;> (try simp only at h1) <;> try (simp at h1; done)
      exact ⟨_, h1, fun m N ρ a w he hh => ⟨by simp [execOp, (hv I N ρ _ a he).1, val, pack, SV.isAgg, cells], (hv I N ρ _ a he).2⟩⟩
  case binOp op t x y t' =>
    obtain ⟨a1, h1, ha⟩ := ev_spec h
    obtain ⟨b1, h2, hb⟩ := ev_spec h1
    obtain ⟨v, h3, hw, hr⟩ := binop_spec hte h2
    refine ⟨v, h3, fun m N ρ a w he hh => ⟨?_, hw _ _⟩⟩
    have e := hr ρ x y w
    simp only [execOp, (ha I N ρ _ a he).1, (hb I N ρ _ a he).1]
    rw [Sem.run_bind, e]; rfl
  case unOp op t x =>
    obtain ⟨a1, h1, ha⟩ := ev_spec h
    obtain ⟨v, h3, hw, hr⟩ := unop_spec (P := P) h1
    exact ⟨v, h3, fun m N ρ a w he hh => ⟨by simp [execOp, (ha I N ρ _ a he).1, hr ρ w], hw _ _⟩⟩
  case convert src dst' x =>
    obtain ⟨s, h1, hs⟩ := tlook_spec h hte
    obtain ⟨d, h2, hd⟩ := tlook_spec h1 hte
    obtain ⟨a1, h3, ha⟩ := ev_spec h2
    obtain ⟨v, h4, hw, hr⟩ := convH_spec hte hs hd h3
    exact ⟨v, h4, fun m N ρ a w he hh => ⟨by simp [execOp, (ha I N ρ _ a he).1, hr I ρ _ w hh], hw _ _⟩⟩
  case fieldAddr t x i =>
    obtain ⟨s, h1, ht⟩ := tlook_spec h hte
    split at h1 <;> try (simp at h1; done)
    rename_i fs hsd
    obtain ⟨f, h2, h3⟩ := nth_spec h1
    cases hz : Nat.beq f.2.1 0 <;> rw [hz] at h3 <;> simp only [cond_false, cond_true] at h3 <;> try (simp at h3; done)
    have hz' : f.2.1 ≠ 0 := fun e => by rw [e] at hz; simp at hz
    obtain ⟨F, hu, hF⟩ := fields_at ht hsd
    obtain ⟨fd, hfd, ho, hsz, hag⟩ := hF i f h2
    obtain ⟨p, h4, hp⟩ := ev_spec h3
    cases p <;> (try simp only at h4) <;> try (simp at h4; done)
    · rename_i b p
      refine ⟨_, h4, fun m N ρ a w he hh => ?_⟩
      obtain ⟨e1, e2⟩ := hp I N ρ _ a he
      refine ⟨?_, by simpa [Wf] using e2⟩
      simp [execOp, e1, val_ptr, Instr.fieldAt, run_underlying hu, hfd, Instr.sureAddr, fieldPlace, run_sizeOf' hsz, hz', ho, Addr.add_lit, offOf_append, offOf, Step.off, Nat.add_assoc]
    · rename_i ad v
      obtain ⟨u, h5, hl, hw⟩ := sub_spec h4
      refine ⟨_, h5, fun m N ρ a w he hh => ?_⟩
      obtain ⟨e1, e2⟩ := hp I N ρ _ a he
      simp only [Wf] at e2 ⊢
      refine ⟨?_, ?_, hw I _ e2.2⟩
      · simp [execOp, e1, val_vptr, Instr.fieldAt, run_underlying hu, hfd, Instr.sureAddr, fieldPlace, run_sizeOf' hsz, hz', ho]
      · have := VOk.sub e2.1 hl
        simpa [offOf, Step.off] using this
  case field t x i =>
    obtain ⟨s, h1, ht⟩ := tlook_spec h hte
    split at h1 <;> try (simp at h1; done)
    rename_i fs hsd
    obtain ⟨f, h2, h3⟩ := nth_spec h1
    obtain ⟨F, hu, hF⟩ := fields_at ht hsd
    obtain ⟨fd, hfd, ho, hsz, hag⟩ := hF i f h2
    obtain ⟨d, hd1, hd2⟩ := isAggT_spec hag
    obtain ⟨p, h4, hp⟩ := ev_spec h3
    cases p <;> (try simp only at h4) <;> try (simp at h4; done)
    obtain ⟨u, h5, hl, hw⟩ := sub_spec h4
    obtain ⟨h6, h7⟩ := bif_some h5
    refine ⟨u, h7, fun m N ρ a w he hh => ?_⟩
    obtain ⟨e1, e2⟩ := hp I N ρ _ a he
    have e3 := run_part_of hd1 hsz hd2 (ρ := ρ) (by simpa [offOf, Step.off] using hl) h6 w
    have e4 : ∀ l, val ρ (.agg l) = .agg (cells ρ (.agg l)).toArray := fun l => val_agg ρ rfl
    refine ⟨?_, hw I _ e2⟩
    simp [execOp, e1, e4, Instr.field, run_underlying hu, hfd, asAgg, ho, e3]
  case indexAddr t x ix =>
    obtain ⟨s, h1, ht⟩ := tlook_spec h hte
    obtain ⟨xv, h2, hx⟩ := ev_spec h1
    obtain ⟨iv, h3, hi⟩ := ev_spec h2
    cases iv <;> (try simp only at h3) <;> try (simp at h3; done)
    rename_i kd i
    have hd := ht.desc
    split at h3 <;> try (simp at h3; done)
    · rename_i n e es ea b p hsd
      rw [hsd] at hd
      obtain ⟨h4, h5⟩ := bif_some h3
      simp only [Bool.and_eq_true, decide_eq_true_eq] at h4
      refine ⟨_, h5, fun m N ρ a w he hh => ?_⟩
      obtain ⟨e1, e2⟩ := hx I N ρ _ a he
      refine ⟨?_, by simpa [Wf] using e2⟩
      simp [execOp, e1, (hi I N ρ _ a he).1, val_int, val_ptr, Instr.indexAt, asIntOf, run_underlying hd.1, Instr.sureAddr, h4, run_sizeOf' hd.2.1, Addr.add_lit, offOf_append, offOf, Step.off, Nat.add_assoc]
    · rename_i n e es ea ad v hsd
      rw [hsd] at hd
      obtain ⟨h4, h5⟩ := bif_some h3
      simp only [Bool.and_eq_true, decide_eq_true_eq] at h4
      obtain ⟨u, h6, hl, hw⟩ := sub_spec h5
      refine ⟨_, h6, fun m N ρ a w he hh => ?_⟩
      obtain ⟨e1, e2⟩ := hx I N ρ _ a he
      simp only [Wf] at e2 ⊢
      refine ⟨?_, ?_, hw I _ e2.2⟩
      · simp [execOp, e1, (hi I N ρ _ a he).1, val_int, val_vptr, Instr.indexAt, asIntOf, run_underlying hd.1, Instr.sureAddr, h4, run_sizeOf' hd.2.1]
      · have := VOk.sub e2.1 hl
        simpa [offOf, Step.off] using this
    · rename_i e b p sz off len cap hsd
      rw [hsd] at hd
      obtain ⟨es, h4, hes⟩ := tlook_spec h3 hte
      obtain ⟨h5, h6⟩ := bif_some h4
      obtain ⟨h7, h8⟩ := bif_some h6
      have hsz : sz = es.size := by simpa using h5
      subst hsz
      simp only [Bool.and_eq_true, decide_eq_true_eq] at h7
      refine ⟨_, h8, fun m N ρ a w he hh => ?_⟩
      obtain ⟨e1, e2⟩ := hx I N ρ _ a he
      refine ⟨?_, by simpa [Wf] using e2⟩
      simp [execOp, e1, (hi I N ρ _ a he).1, val_int, val, pack, SV.isAgg, cells, Instr.indexAt, asIntOf, run_underlying hd.1, h7, run_sizeOf hes, Addr.add_lit, offOf_append, offOf, Step.off, Nat.add_assoc, Nat.add_mul]
    · rename_i e td nl ad len cap f hsd
      rw [hsd] at hd
      obtain ⟨es, h4, hes⟩ := tlook_spec h3 hte
      obtain ⟨h5, h6⟩ := bif_some h4
      obtain ⟨h7, h8⟩ := bif_some h6
      have hsz : td.size = es.size := by simpa using h5
      simp only [Bool.and_eq_true, decide_eq_true_eq] at h7
      refine ⟨_, h8, fun m N ρ a w he hh => ?_⟩
      obtain ⟨e1, e2⟩ := hx I N ρ _ a he
      simp only [Wf, VW] at e2 ⊢
      have hes2 := run_sizeOf hes
      rw [← hsz] at hes2
      obtain ⟨w0, w1, w2, w3⟩ := e2
      obtain ⟨w5, w6⟩ := w3 i.toNat (by omega)
      have hnl : nl = false := by cases nl; rfl; have := w0 rfl; omega
      subst hnl
      refine ⟨?_, ?_, (wf_sv td _).2 w6⟩
      · simp [execOp, e1, (hi I N ρ _ a he).1, val_int, val, pack, SV.isAgg, cells, Instr.indexAt, asIntOf, run_underlying hd.1, h7, hes2]
      · rw [addr_add (w2 (by omega))]; exact w5
  case index t x ix =>
    obtain ⟨s, h1, ht⟩ := tlook_spec h hte
    obtain ⟨xv, h2, hx⟩ := ev_spec h1
    obtain ⟨iv, h3, hi⟩ := ev_spec h2
    cases iv <;> (try simp only at h3) <;> try (simp at h3; done)
    rename_i kd i
    have hd := ht.desc
    split at h3 <;> try (simp at h3; done)
    · rename_i n e es ea xv hsd
      rw [hsd] at hd
      obtain ⟨h4, h5⟩ := bif_some h3
      obtain ⟨h6, h7⟩ := bif_some h5
      simp only [Bool.and_eq_true, decide_eq_true_eq] at h6
      obtain ⟨u, h8, hl, hw⟩ := sub_spec h7
      obtain ⟨h9, h10⟩ := bif_some h8
      obtain ⟨d, hd1, hd2⟩ := isAggT_spec hd.2.2
      refine ⟨u, h10, fun m N ρ a w he hh => ?_⟩
      obtain ⟨e1, e2⟩ := hx I N ρ _ a he
      have e3 := run_part_of hd1 hd.2.1 hd2 (ρ := ρ) (by simpa [offOf, Step.off] using hl) h9 w
      refine ⟨?_, hw I _ e2⟩
      simp [execOp, e1, (hi I N ρ _ a he).1, val_int, val_agg ρ h4, Instr.index, asIntOf, run_underlying hd.1, h6, run_sizeOf' hd.2.1, e3]
    · rename_i z hsd
      rw [hsd] at hd
      obtain ⟨h6, h7⟩ := bif_some h3
      simp only [Bool.and_eq_true, decide_eq_true_eq] at h6
      refine ⟨_, h7, fun m N ρ a w he hh => ⟨?_, by simp [Wf]⟩⟩
      have hlt : i.toNat < z.size := by omega
      simp [execOp, (hx I N ρ _ a he).1, (hi I N ρ _ a he).1, val_int, val_str, Instr.index, asIntOf, run_underlying hd.1, h6, bytesAt, hlt]
  case build t ps =>
    obtain ⟨s, h1, ht⟩ := tlook_spec h hte
    split at h1 <;> try (simp at h1; done)
    · rename_i fs hsd
      obtain ⟨F, hu, hF⟩ := fields_at ht hsd
      obtain ⟨u, h2, hs, hall⟩ := fill_spec (pl := fun i => (F.map fun f => (f.offset, ((P.info? f.type).map (·.size)).getD 0))[i]?) (fun i k r h => by
        unfold stPlace at h
        obtain ⟨f, hf, h⟩ := nth_spec h
        obtain ⟨fd, hfd, ho, hsz, _⟩ := hF i f hf
        exact ⟨_, _, _, h, by simp [offOf, Step.off], by simp [hfd, ho, hsz]⟩) h1
      obtain ⟨h3, h4⟩ := bif_some h2
      refine ⟨u, h4, fun m N ρ a w he hh => ?_⟩
      obtain ⟨g1, g2⟩ := hall I N ρ _ a he (ht.zero.2.2 _ _)
      refine ⟨?_, g1⟩
      have hmap : (F.mapM fun f => (do pure (f.offset, ← sizeOf f.type) : Sem (Nat × Nat))).run P w = .ok (F.map fun f => (f.offset, ((P.info? f.type).map (·.size)).getD 0)) w := by
        refine run_mapM_array fun f hf => ?_
        obtain ⟨i, hi⟩ := List.getElem?_of_mem hf
        have hlen : fs.length = F.toList.length := by
          have hd := ht.desc
          rw [hsd] at hd
          obtain ⟨F', q1, q2⟩ := hd
          rw [hu] at q1
          cases q1
          have := congrArg List.length q2
          simpa using this.symm
        have hil := (List.getElem?_eq_some_iff.1 hi).1
        obtain ⟨fd, hfd, ho, hsz, _⟩ := hF i fs[i] (by simp)
        have : fd = f := by
          rw [← Array.getElem?_toList, hi] at hfd
          exact (Option.some.inj hfd).symm
        subst this
        simp [run_sizeOf' hsz, hsz]
      have hz := val_cells ρ ht.zero.2.1
      simp only [execOp, Instr.build, Sem.run_bind, run_zeroValue ht ρ, Result.andThen_ok, run_underlying hu, hmap, hz]
      have e : (ps.map fun x => (x.1, a.eval x.2)).toList = ps.toList.map fun x => (x.1, a.eval x.2) := by simp
      rw [e, g2]
      simp [val_agg ρ h3]
    · rename_i n e es ea hsd
      have hd := ht.desc
      rw [hsd] at hd
      obtain ⟨u, h2, hs, hall⟩ := fill_spec (pl := fun i => some (i * es, es)) (fun i k r h => by
        unfold arPlace at h
        exact ⟨_, _, _, h, by simp [offOf, Step.off], rfl⟩) h1
      obtain ⟨h3, h4⟩ := bif_some h2
      refine ⟨u, h4, fun m N ρ a w he hh => ?_⟩
      obtain ⟨g1, g2⟩ := hall I N ρ _ a he (ht.zero.2.2 _ _)
      refine ⟨?_, g1⟩
      have hz := val_cells ρ ht.zero.2.1
      simp only [execOp, Instr.build, Sem.run_bind, run_zeroValue ht ρ, Result.andThen_ok, run_underlying hd.1, run_sizeOf' hd.2.1, hz]
      have e : (ps.map fun x => (x.1, a.eval x.2)).toList = ps.toList.map fun x => (x.1, a.eval x.2) := by simp
      rw [e, g2]
      simp [val_agg ρ h3]
  case slice t x lo hi mx =>
    cases mx <;> (try simp only at h) <;> try (simp at h; done)
    obtain ⟨xv, h1, hx⟩ := ev_spec h
    obtain ⟨l, h2, hl⟩ := optInt_spec h1
    obtain ⟨hv, h3, hhv⟩ := optInt_spec h2
    rw [slcop2_eq] at h3
    obtain ⟨v, h4, hw, hr⟩ := slcop_spec hte h3 rfl
    refine ⟨v, h4, fun m N ρ a w he hh => ?_⟩
    obtain ⟨e1, e2⟩ := hx I N ρ _ a he
    have e3 := hr I _ ρ w _ _ e2 (hl I N ρ _ a he) (hhv I N ρ _ a he)
    refine ⟨?_, hw _ _ e2⟩
    simp [execOp, e1, e3]
  case extract x i =>
    obtain ⟨xv, h1, hx⟩ := ev_spec h
    cases xv <;> (try simp only at h1) <;> try (simp at h1; done)
    rename_i l
    obtain ⟨v, h2, h3⟩ := nth_spec h1
    refine ⟨v, h3, fun m N ρ a w he hh => ?_⟩
    obtain ⟨e1, e2⟩ := hx I N ρ _ a he
    simp only [Wf] at e2
    refine ⟨?_, nth_wf h2 e2⟩
    simp [execOp, e1, val, vals_eq, Instr.extract, h2]
  case makeFunc f fs cs =>
    obtain ⟨fv, h1, hf⟩ := evs_spec h
    obtain ⟨cv, h2, hc⟩ := evs_spec h1
    refine ⟨_, h2, fun m N ρ a w he hh => ?_⟩
    obtain ⟨e1, e2⟩ := hf I N ρ _ a he
    obtain ⟨e3, e4⟩ := hc I N ρ _ a he
    refine ⟨?_, by simpa only [Wf, wfs_iff] using ⟨e2, e4⟩⟩
    have q1 : fs.map a.eval = (vals ρ fv).toArray := by apply Array.toList_inj.1; simp [e1, vals_eq]
    have q2 : cs.map a.eval = (vals ρ cv).toArray := by apply Array.toList_inj.1; simp [e3, vals_eq]
    simp [execOp, Instr.makeFunc, val, pack, SV.isAgg, cells, q1, q2]
  case call c =>
    obtain ⟨callee, args, argTypes⟩ := c
    cases callee <;> (try simp only at h) <;> try (simp at h; done)
    rename_i bi
    cases bi <;> (try simp only at h) <;> try (simp at h; done)
    case len =>
      split at h <;> try (simp at h; done)
      rename_i x t hargs htys
      obtain ⟨s, h1, ht⟩ := tlook_spec h hte
      obtain ⟨xv, h2, hx⟩ := ev_spec h1
      have hd := ht.desc
      have ea : args = #[x] := by apply Array.toList_inj.1; simpa using hargs
      have et : argTypes = #[t] := by apply Array.toList_inj.1; simpa using htys
      subst ea; subst et
      split at h2 <;> try (simp at h2; done)
      · rename_i z hsd
        rw [hsd] at hd
        exact ⟨_, h2, fun m N ρ a w he hh => ⟨by simp [execOp, resolve, invoke, builtin, Builtin.len_, (hx I N ρ _ a he).1, val_str, run_underlying hd.1, goInt, val_int], by simp [Wf]⟩⟩
      · rename_i e b p sz off n cap hsd
        rw [hsd] at hd
        exact ⟨_, h2, fun m N ρ a w he hh => ⟨by simp [execOp, resolve, invoke, builtin, Builtin.len_, (hx I N ρ _ a he).1, run_underlying hd.1, goInt, val, pack, SV.isAgg, cells], by simp [Wf]⟩⟩
      · rename_i e td nl ad n cap f hsd
        rw [hsd] at hd
        refine ⟨_, h2, fun m N ρ a w he hh => ⟨?_, by simp [Wf]⟩⟩
        have hw := (hx I N ρ _ a he).2
        simp only [Wf, VW] at hw
        cases nl
        · simp [execOp, resolve, invoke, builtin, Builtin.len_, (hx I N ρ _ a he).1, run_underlying hd.1, goInt, val, pack, SV.isAgg, cells]
        · obtain ⟨rfl, _⟩ := hw.1 rfl
          simp [execOp, resolve, invoke, builtin, Builtin.len_, (hx I N ρ _ a he).1, run_underlying hd.1, goInt, val, pack, SV.isAgg, cells]
      · rename_i e hsd
        rw [hsd] at hd
        exact ⟨_, h2, fun m N ρ a w he hh => ⟨by simp [execOp, resolve, invoke, builtin, Builtin.len_, (hx I N ρ _ a he).1, run_underlying hd.1, goInt, val, pack, SV.isAgg, cells], by simp [Wf]⟩⟩
      · rename_i n e es ea xv hsd
        rw [hsd] at hd
        exact ⟨_, h2, fun m N ρ a w he hh => ⟨by simp [execOp, resolve, invoke, builtin, Builtin.len_, run_underlying hd.1, goInt, val_int], by simp [Wf]⟩⟩
    case max =>
      split at h <;> try (simp at h; done)
      rename_i x l hargs
      obtain ⟨xv, h2, hx⟩ := ev_spec h
      cases xv <;> (try simp only at h2) <;> try (simp at h2; done)
      obtain ⟨v, h3, hw, hr⟩ := mnmx_spec (P := P) h2
      refine ⟨v, h3, fun m N ρ a w he hh => ⟨?_, hw _ _ (by simp [Wf])⟩⟩
      have e := hr I N ρ _ a w he
      simp only [if_true] at e
      simp [execOp, resolve, invoke, builtin, Builtin.max_, hargs, (hx I N ρ _ a he).1, e]
    case min =>
      split at h <;> try (simp at h; done)
      rename_i x l hargs
      obtain ⟨xv, h2, hx⟩ := ev_spec h
      cases xv <;> (try simp only at h2) <;> try (simp at h2; done)
      obtain ⟨v, h3, hw, hr⟩ := mnmx_spec (P := P) h2
      refine ⟨v, h3, fun m N ρ a w he hh => ⟨?_, hw _ _ (by simp [Wf])⟩⟩
      have e := hr I N ρ _ a w he
      simp only [Bool.false_eq_true, if_false] at e
      simp [execOp, resolve, invoke, builtin, Builtin.min_, hargs, (hx I N ρ _ a he).1, e]
end
end Go.Sh
