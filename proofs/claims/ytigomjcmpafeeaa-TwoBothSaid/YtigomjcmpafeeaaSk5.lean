/-
  pval_spec: an operation that only looks yields what pval says, in the world that it got.
-/
import Derived.Test.YtigomjcmpafeeaaSk4
set_option linter.unusedSimpArgs false
set_option linter.unusedVariables false
namespace Go.Sh
open Go

section
variable {α : Type} {P : Program} {I : Imm}

theorem run_mapM_list {β γ : Type} {f : β → Sem γ} {g : β → γ} {w : World} : ∀ {l : List β}, (∀ x ∈ l, (f x).run P w = .ok (g x) w) → (l.mapM f).run P w = .ok (l.map g) w
  | [], _ => by simp
  | x :: l, h => by
    simp only [List.mapM_cons, Sem.run_bind, h x (by simp), Result.andThen_ok, run_mapM_list (l := l) (fun y hy => h y (List.mem_cons_of_mem _ hy)), List.map_cons]
    rfl
theorem run_mapM_array {β γ : Type} {f : β → Sem γ} {g : β → γ} {w : World} {l : Array β} (h : ∀ x ∈ l.toList, (f x).run P w = .ok (g x) w) : (l.mapM f).run P w = .ok (l.map g) w := by
  rw [Array.mapM_eq_mapM_toList]
  simp only [Sem.run_map, run_mapM_list h, Result.andThen_ok]
  congr 1
  apply Array.toList_inj.1
  simp

/-- A part laid over cells. -/
def overlay (cs vs : List Value) (o : Nat) : List Value := cs.take o ++ vs ++ cs.drop (o + vs.length)

theorem foldl_set (o : Nat) : ∀ (vs : List Value) (i : Nat) (cs : Array Value), o + i + vs.length ≤ cs.size →
    (vs.zipIdx i).foldl (fun cs (x : Value × Nat) => cs.setIfInBounds (o + x.2) x.1) cs = (overlay cs.toList vs (o + i)).toArray
  | [], i, cs, _ => by simp [overlay]
  | v :: vs, i, cs, h => by
    simp only [List.zipIdx_cons, List.foldl_cons]
    rw [foldl_set o vs (i + 1) _ (by simp at h ⊢; omega)]
    congr 1
    have e := list_seg_step cs.toList (o + i) v vs (by simp at h ⊢; omega)
    simpa [overlay, Array.toList_setIfInBounds, Nat.add_assoc] using e

theorem overlay_written {ρ : Nat → Pl} {v x u : SV} {o : Nat} (h : Written v o x u) : overlay (cells ρ v) (cells ρ x) o = cells ρ u := by
  have h1 := cells_length ρ v
  have h2 := cells_length ρ x
  have h3 := cells_length ρ u
  have := h.room
  have := h.size
  apply List.ext_getElem?
  intro j
  unfold overlay
  by_cases hj : j < o
  · rw [h.old ρ j (.inl hj), List.append_assoc, List.getElem?_append_left (by simp; omega), List.getElem?_take, if_pos hj]
  · by_cases hj2 : j < o + x.size
    · have hn := h.new ρ (j - o) (by omega)
      rw [show o + (j - o) = j by omega] at hn
      rw [hn, List.append_assoc, List.getElem?_append_right (by simp; omega)]
      have e : (List.take o (cells ρ v)).length = o := by simp; omega
      rw [e, List.getElem?_append_left (by omega)]
    · rw [h.old ρ j (.inr (by omega)), List.getElem?_append_right (by simp; omega)]
      have e : (List.take o (cells ρ v) ++ cells ρ x).length = o + x.size := by simp; omega
      rw [e, List.getElem?_drop]
      congr 1; omega

theorem fill_spec {g : EF} {place : Nat → (Nat → Nat → Path → R α) → R α} {pl : Nat → Option (Nat × Nat)}
    (hp : ∀ i k r, place i k = some r → ∃ o s p, k o s p = some r ∧ offOf p = o ∧ pl i = some (o, s)) {k : SV → R α} {r : α} :
    ∀ {ps : List (Nat × Operand)} {acc : SV}, buildGo g place ps acc k = some r → ∃ u, k u = some r ∧ u.size = acc.size ∧
      ∀ I N ρ n a, EnvOk I N ρ n g a → Wf I n acc → Wf I n u ∧ Instr.fill pl (cells ρ acc).toArray (ps.map fun x => (x.1, a.eval x.2)) = some (cells ρ u).toArray
  | [], acc, h => ⟨acc, by simpa [buildGo] using h, rfl, fun I N ρ n a _ hw => ⟨hw, by simp [Instr.fill]⟩⟩
  | (i, x) :: ps, acc, h => by
    simp only [buildGo] at h
    obtain ⟨v, h1, hv⟩ := ev_spec h
    obtain ⟨o, s, p, h2, ho, hpl⟩ := hp _ _ _ h1
    obtain ⟨h3, h4⟩ := bif_some h2
    have hs : v.size = s := by simpa using h3
    obtain ⟨acc', h5, ht, hw, hwf⟩ := setSub_spec h4
    obtain ⟨u, hu, hus, hall⟩ := fill_spec hp h5
    refine ⟨u, hu, by rw [hus, hw.size], fun I N ρ n a he hwa => ?_⟩
    · obtain ⟨e1, e2⟩ := hv I N ρ n a he
      obtain ⟨g1, g2⟩ := hall I N ρ n a he (hwf I n hwa e2)
      refine ⟨g1, ?_⟩
      simp only [List.map_cons, Instr.fill, hpl, e1, val_cells ρ ht]
      have h6 := cells_length ρ v
      have h7 := cells_length ρ acc
      have hroom := hw.room
      rw [ho] at hw hroom
      rw [if_neg (by simp; omega)]
      have hf := foldl_set o (cells ρ v) 0 (cells ρ acc).toArray (by simp; omega)
      have e : (cells ρ v).toArray.zipIdx.foldl (fun cs (x : Value × Nat) => cs.setIfInBounds (o + x.2) x.1) (cells ρ acc).toArray = (overlay (cells ρ acc) (cells ρ v) o).toArray := by
        rw [← Array.foldl_toList]
        simpa using hf
      have e' : (overlay (cells ρ acc) (cells ρ v) o) = cells ρ acc' := overlay_written hw
      rw [e'] at e
      have goal := g2
      rw [← e] at goal
      exact goal

/-! ### Slices -/
def OptIs : Option Value → Option Int → Prop
  | none, none => True
  | some (.int _ m), some n => m = n
  | _, _ => False

theorem optInt_spec {g : EF} {x : Option Operand} {k : Option Int → R α} {r : α} (h : optInt g x k = some r) :
    ∃ n, k n = some r ∧ ∀ I N ρ m a, EnvOk I N ρ m g a → OptIs (x.map a.eval) n := by
  cases x with
  | none => exact ⟨none, by simpa [optInt] using h, fun _ _ _ _ _ _ => trivial⟩
  | some x =>
    simp only [optInt] at h
    obtain ⟨v, h1, hv⟩ := ev_spec h
    cases v <;> simp at h1
    exact ⟨_, h1, fun I N ρ m a he => by simp [(hv I N ρ m a he).1, val_int, OptIs]⟩

theorem run_bounds {b : Bool} {len cap : Nat} {lo hi : Option Value} {l h : Option Int} (hl : OptIs lo l) (hh : OptIs hi h) (h1 : 0 ≤ h.getD len ∧ h.getD len ≤ cap) (h2 : 0 ≤ l.getD 0 ∧ l.getD 0 ≤ h.getD len) (w : World) :
    (Instr.sliceBounds b len cap lo hi none).run P w = .ok ((l.getD 0).toNat, (h.getD len).toNat, cap) w := by
  have forms : ∀ {v : Option Value} {n : Option Int}, OptIs v n → (v = none ∧ n = none) ∨ ∃ kd m, v = some (.int kd m) ∧ n = some m := by
    intro v n h
    cases v with
    | none => cases n <;> simp_all [OptIs]
    | some v =>
      cases n with
      | none => cases v <;> simp [OptIs] at h
      | some n => cases v <;> simp [OptIs] at h; subst h; exact .inr ⟨_, _, rfl, rfl⟩
  unfold Instr.sliceBounds
  rcases forms hh with ⟨rfl, rfl⟩ | ⟨kh, hn, rfl, rfl⟩ <;> rcases forms hl with ⟨rfl, rfl⟩ | ⟨kl, ln, rfl, rfl⟩ <;> simp only [Option.getD_none, Option.getD_some] at h1 h2
  · simp
  · simp [run_sliceBound w kl ln len _ h2.1 h2.2]
  · simp [run_sliceBound w kh hn cap _ h1.1 h1.2]
  · simp [run_sliceBound w kh hn cap _ h1.1 h1.2, run_sliceBound w kl ln hn.toNat _ h2.1 (by omega)]

theorem slcop_spec {te : TE} (hte : TEok P te) {t : TypeId} {x : SV} {lo : Int} {hi l : Option Int} {k : SV → R α} {r : α} (h : slcop te t x lo hi k = some r) (hlo : lo = l.getD 0) :
    ∃ v, k v = some r ∧ (∀ I n, Wf I n x → Wf I n v) ∧ ∀ I n ρ (w : World) lv hv, Wf I n x → OptIs lv l → OptIs hv hi → (Instr.sliceAt t (val ρ x) lv hv none).run P w = .ok (val ρ v) w := by
  subst hlo
  cases x <;> simp only [slcop] at h <;> try (simp at h; done)
  case str s =>
    obtain ⟨d, h1, ht⟩ := tlook_spec h hte
    have hd := ht.desc
    split at h1 <;> try (simp at h1; done)
    rename_i hsd
    rw [hsd] at hd
    obtain ⟨h3, h4⟩ := bif_some h1
    obtain ⟨h5, h6⟩ := bif_some h4
    simp only [Bool.and_eq_true, decide_eq_true_eq] at h3 h5
    refine ⟨_, h6, fun _ _ _ => by simp [Wf], fun I n ρ w lv hv _ hlv hhv => ?_⟩
    have e := run_bounds (P := P) (b := false) hlv hhv h3 h5 w
    simp only [Instr.sliceAt, Instr.slice, Sem.run_bind, run_underlying hd.1, Result.andThen_ok, val_str, Option.isSome_none, Bool.false_eq_true, if_false, e]
    rfl
  case slc b p sz off len cap =>
    cases cap <;> simp only at h <;> try (simp at h; done)
    rename_i cap
    obtain ⟨d, h1, ht⟩ := tlook_spec h hte
    have hd := ht.desc
    split at h1 <;> try (simp at h1; done)
    rename_i e hsd
    rw [hsd] at hd
    obtain ⟨es, h2, hes⟩ := tlook_spec h1 hte
    obtain ⟨h3, h4⟩ := bif_some h2
    obtain ⟨h5, h6⟩ := bif_some h4
    obtain ⟨h7, h8⟩ := bif_some h6
    have hsz : sz = es.size := by simpa using h3
    subst hsz
    simp only [Bool.and_eq_true, decide_eq_true_eq] at h5 h7
    refine ⟨_, h8, fun _ _ hw => by simpa [Wf] using hw, fun I n ρ w lv hv _ hlv hhv => ?_⟩
    have e := run_bounds (P := P) (b := true) hlv hhv h5 h7 w
    simp only [Instr.sliceAt, Instr.slice, Sem.run_bind, run_underlying hd.1, Result.andThen_ok, val, pack, SV.isAgg, cells, cond_false, List.headD_cons, e, run_sizeOf hes, Sem.run_pure]
    congr 2
    by_cases hc : cap = (l.getD 0).toNat
    · simp only [hc, if_true]
    · simp only [hc, if_false, Option.map_some, Addr.add_lit, Option.some.injEq, Addr.mk.injEq, true_and, and_true, Nat.add_mul]
      omega
  case vslc td nl a len cap f =>
    obtain ⟨d, h1, ht⟩ := tlook_spec h hte
    have hd := ht.desc
    split at h1 <;> try (simp at h1; done)
    rename_i e hsd
    rw [hsd] at hd
    obtain ⟨es, h2, hes⟩ := tlook_spec h1 hte
    obtain ⟨h3, h4⟩ := bif_some h2
    obtain ⟨h5, h6⟩ := bif_some h4
    obtain ⟨h7, h8⟩ := bif_some h6
    have hsz : td.size = es.size := by simpa using h3
    simp only [Bool.and_eq_true, decide_eq_true_eq] at h5 h7
    refine ⟨_, h8, fun I n hw => ?_, fun I n ρ w lv hv hw hlv hhv => ?_⟩
    · simp only [Wf, VW] at hw ⊢
      obtain ⟨w0, w1, w2, w3⟩ := hw
      have e0 : 0 < cap - (l.getD 0).toNat → (if cap = (l.getD 0).toNat then a else a.add ((l.getD 0).toNat * td.size)).spot = none := fun h0 => by rw [if_neg (by omega), addr_add (w2 (by omega))]
      refine ⟨fun hnl => by have := w0 hnl; omega, by omega, e0, fun i hi => ?_⟩
      have hne : cap ≠ (l.getD 0).toNat := by omega
      rw [if_neg hne, addr_add (w2 (by omega))]
      obtain ⟨w5, w6⟩ := w3 ((l.getD 0).toNat + i) (by omega)
      exact ⟨by rw [Nat.add_mul] at w5; simpa only [Nat.add_assoc] using w5, w6⟩
    · simp only [Wf, VW] at hw
      have hes2 := run_sizeOf hes
      rw [← hsz] at hes2
      have e := run_bounds (P := P) (b := true) (cap := cap) hlv hhv ⟨h5.1, by omega⟩ h7 w
      cases nl
      · simp only [Instr.sliceAt, Instr.slice, Sem.run_bind, run_underlying hd.1, Result.andThen_ok, val, pack, SV.isAgg, cells, cond_false, List.headD_cons, e, hes2, Sem.run_pure]
        congr 2
        split <;> simp
      · obtain ⟨rfl, rfl⟩ := hw.1 rfl
        simp only [Instr.sliceAt, Instr.slice, Sem.run_bind, run_underlying hd.1, Result.andThen_ok, val, pack, SV.isAgg, cells, cond_false, cond_true, List.headD_cons, e, hes2, Sem.run_pure]
        have e1 : (l.getD 0).toNat = 0 := by omega
        have e2 : (hi.getD ((0 : Nat) : Int)).toNat = 0 := by omega
        simp only [e1, e2]
        rfl
  case ptr b p =>
    obtain ⟨d, h1, ht⟩ := tlook_spec h hte
    have hd := ht.desc
    split at h1 <;> try (simp at h1; done)
    rename_i n e es ea hsd
    rw [hsd] at hd
    obtain ⟨h5, h6⟩ := bif_some h1
    obtain ⟨h7, h8⟩ := bif_some h6
    simp only [Bool.and_eq_true, decide_eq_true_eq] at h5 h7
    refine ⟨_, h8, fun _ _ hw => by simpa [Wf] using hw, fun I n' ρ w lv hv _ hlv hhv => ?_⟩
    have e' := run_bounds (P := P) (b := false) hlv hhv h5 h7 w
    obtain ⟨hd1, hd2, hd3⟩ := hd
    have hsz : (sizeOf e).run P w = .ok es w := by
      cases hi : P.info? e with
      | none => simp [hi] at hd2
      | some i => simp [hi] at hd2; simp [sizeOf, typeInfo, hi, hd2]
    simp only [Instr.sliceAt, Sem.run_bind, run_underlying hd1, Result.andThen_ok, val, pack, SV.isAgg, cells, cond_false, List.headD_cons, Instr.sureAddr, Sem.run_pure, e', hsz]
    congr 2
    by_cases hc : n = (l.getD 0).toNat
    · simp only [hc, if_true, Nat.zero_mul, Nat.add_zero]
    · simp only [hc, if_false, Addr.add_lit, Option.some.injEq, Addr.mk.injEq, true_and, and_true]
      omega
  case nils =>
    obtain ⟨d, h1, ht⟩ := tlook_spec h hte
    have hd := ht.desc
    split at h1 <;> try (simp at h1; done)
    rename_i e hsd
    rw [hsd] at hd
    obtain ⟨es, h2, hes⟩ := tlook_spec h1 hte
    obtain ⟨h5, h6⟩ := bif_some h2
    simp only [Bool.and_eq_true, decide_eq_true_eq] at h5
    refine ⟨_, h6, fun _ _ hw => hw, fun I n ρ w lv hv _ hlv hhv => ?_⟩
    have e := run_bounds (P := P) (b := true) (len := 0) (cap := 0) hlv hhv (by have := h5.2; simp only [Int.natCast_zero] at *; omega) (by have := h5.1; have := h5.2; simp only [Int.natCast_zero] at *; omega) w
    have e1 : (l.getD 0).toNat = 0 := by rw [h5.1]; rfl
    have e2 : (hi.getD ((0 : Nat) : Int)).toNat = 0 := by have := h5.2; simp only [Int.natCast_zero] at *; omega
    rw [e1, e2] at e
    simp only [Instr.sliceAt, Instr.slice, Sem.run_bind, run_underlying hd.1, Result.andThen_ok, val, pack, SV.isAgg, cells, cond_false, List.headD_cons, e, run_sizeOf hes, Sem.run_pure]
    simp

theorem mnmx_spec {mx : Bool} {g : EF} : ∀ {l : List Operand} {acc : SV} {k : SV → R α} {r : α}, mnmx mx g acc l k = some r →
    ∃ v, k v = some r ∧ (∀ I n, Wf I n acc → Wf I n v) ∧ ∀ I N ρ n a (w : World), EnvOk I N ρ n g a →
      ((l.map a.eval).foldlM (if mx then Builtin.max2 else Builtin.min2) (val ρ acc)).run P w = .ok (val ρ v) w
  | [], acc, k, r, h => ⟨acc, by cases acc <;> simpa [mnmx] using h, fun _ _ h => h, fun I N ρ n a w _ => by simp⟩
  | y :: l, acc, k, r, h => by
    cases acc <;> simp only [mnmx] at h <;> try (simp at h; done)
    rename_i kd x
    obtain ⟨v, h1, hv⟩ := ev_spec h
    cases v <;> simp only at h1 <;> try (simp at h1; done)
    rename_i kd' z
    obtain ⟨u, hu, hw, hall⟩ := mnmx_spec h1
    refine ⟨u, hu, fun I n _ => hw I n (by simp [Wf]), fun I N ρ n a w he => ?_⟩
    have e := hall I N ρ n a w he
    simp only [List.map_cons, List.foldlM_cons, Sem.run_bind, (hv I N ρ n a he).1, val_int]
    cases mx
    · simp only [Bool.false_eq_true, if_false, Builtin.min2, Sem.run_pure, Result.andThen_ok] at e ⊢
      simpa [val_int, pickmx] using e
    · simp only [if_true, Builtin.max2, Sem.run_pure, Result.andThen_ok] at e ⊢
      simpa [val_int, pickmx] using e
end
end Go.Sh
