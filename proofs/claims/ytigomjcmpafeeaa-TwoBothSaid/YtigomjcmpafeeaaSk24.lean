/-
  A law's frame: arguments of any shape (numbers, bools, strings, structs, arrays, slices of these, nested) opened at once as shadow values; they read again behind the call as they did.
-/
import Derived.Test.YtigomjcmpafeeaaSk23
import Derived.ReadAgain
import Derived.Deep.Slices
set_option linter.unusedSimpArgs false
set_option linter.unusedVariables false
namespace Go.Sh
open Go Go.RowKit Go.WideShapes Go.ChangeShapes

mutual
/-- What holds of numbers and lengths. -/
def TD.Fit : (d : TD) → d.Val → Prop
  | .int k, n => (Lit.int k n).wf = true
  | .bool, _ => True
  | .str, s => s.size ≤ maxLen
  | .st l, vs => tdFits l vs
  | .ints n k, f => ∀ i, i < n → (Lit.int k (f i)).wf = true
  | .sl e, (nl, _, len, cap, f) => (nl = true → len = 0 ∧ cap = 0) ∧ len ≤ cap ∧ cap ≤ maxLen ∧ ∀ i, i < len → e.Fit (f i)
def tdFits : (l : List TD) → tdVals l → Prop
  | [], _ => True
  | d :: l, (v, vs) => d.Fit v ∧ tdFits l vs
end

def isIntT (P : Program) (t : TypeId) (k : IntKind) : Bool := match P.underlying t with | some (.int k') => decide (k' = k) | _ => false
mutual
/-- Has a type this shape? -/
def tdB (P : Program) : TypeId → TD → Bool
  | t, .int k => isIntT P t k
  | t, .bool => match P.underlying t with | some .bool => true | _ => false
  | t, .str => match P.underlying t with | some .string => true | _ => false
  | t, .st l => match P.underlying t with | some (.struct fs) => Nat.beq (P.cellsOf t) (tdSizes l) && tdsB P fs.toList 0 l | _ => false
  | t, .ints n k => match P.underlying t with | some (.array n' e) => Nat.beq n' n && (Nat.beq (P.cellsOf t) n && (Nat.beq (P.cellsOf e) 1 && isIntT P e k)) | _ => false
  | t, .sl d => match P.underlying t with | some (.slice e) => Nat.beq (P.cellsOf e) d.size && (!Nat.beq d.size 0 && tdB P e d) | _ => false
def tdsB (P : Program) : List Field → Nat → List TD → Bool
  | [], _, [] => true
  | f :: fs, o, d :: l => Nat.beq f.offset o && (Nat.beq (P.cellsOf f.type) d.size && (tdB P f.type d && tdsB P fs (o + d.size) l))
  | _, _, _ => false
end

theorem isIntT_spec {P : Program} {t : TypeId} {k : IntKind} (h : isIntT P t k = true) : P.underlying t = some (.int k) := by
  unfold isIntT at h
  split at h
  · rename_i k' h'
    rw [h', of_decide_eq_true h]
  · cases h

/-- An opened value: of its shape; its cells are those. -/
structure Opened (w : World) (td : TD) (cs : List Value) (x : td.Val) : Prop where
  fit : td.Fit x
  cells : ∀ ρ, cells ρ (td.sv x) = cs
  wf : Wf (fun i => w.heap[i]?) (fun _ => False) (td.sv x)
  size : (td.sv x).size = td.size
  ntup : (td.sv x).isTuple = false

section
variable {H : Type} {enc : TypeId × Value → H} {P : Program} {w : World}

mutual
theorem open_td : ∀ {td : TD} {t : TypeId} {fuel : Nat} {cs : List Value} {x : DataW H × List MemPlace}, tdB P t td = true → DataW.trod enc P w 0 (fun _ => true) true fuel t cs = some x → ∃ v, Opened w td cs v
  | .int k, t, fuel, cs, x, hb, h => by
    simp only [tdB] at hb
    obtain ⟨n, rfl, _, hwf⟩ := DataW.trod_int (isIntT_spec hb) h
    exact ⟨n, by simpa only [TD.Fit] using hwf, fun ρ => rfl, by simp [TD.sv, Wf], rfl, rfl⟩
  | .bool, t, fuel, cs, x, hb, h => by
    simp only [tdB] at hb
    split at hb <;> try (simp at hb; done)
    rename_i hu
    obtain ⟨b, rfl, _⟩ := DataW.trod_bool hu h
    exact ⟨b, by simp [TD.Fit], fun ρ => rfl, by simp [TD.sv, Wf], rfl, rfl⟩
  | .str, t, fuel, cs, x, hb, h => by
    simp only [tdB] at hb
    split at hb <;> try (simp at hb; done)
    rename_i hu
    obtain ⟨s, rfl, _, hs⟩ := DataW.trod_string hu h
    exact ⟨s, by simpa only [TD.Fit] using hs, fun ρ => rfl, by simp [TD.sv, Wf], rfl, rfl⟩
  | .st l, t, fuel, cs, x, hb, h => by
    simp only [tdB] at hb
    split at hb <;> try (simp at hb; done)
    rename_i fs hu
    simp only [Bool.and_eq_true] at hb
    obtain ⟨hb1, hb2⟩ := hb
    obtain ⟨xs, n, _, _, hlen, hxl, hall⟩ := DataW.trod_struct hu h
    have hsz := Nat.eq_of_beq_eq_true hb1
    obtain ⟨vs, h1, h2, h3, h4⟩ := opens_td (n := n) (cs := cs) hb2 (by omega) (fun f hf => by
      obtain ⟨i, hi⟩ := List.getElem?_of_mem hf
      have h5 := hall i f (by simpa using hi)
      have hlt : i < fs.size := by have := (List.getElem?_eq_some_iff.1 hi).1; simpa using this
      rw [List.getElem?_eq_getElem (by omega)] at h5
      exact ⟨_, h5⟩)
    refine ⟨vs, by simp only [TD.Fit]; exact h1, fun ρ => by simp only [TD.sv, Sh.cells]; rw [h2 ρ]; simp, by simp only [TD.sv, Wf]; exact h3, by simp only [TD.sv, SV.size, TD.size]; exact h4, rfl⟩
  | .ints n k, t, fuel, cs, x, hb, h => by
    simp only [tdB] at hb
    split at hb <;> try (simp at hb; done)
    rename_i n' e hu
    simp only [Bool.and_eq_true] at hb
    obtain ⟨hb1, hb2, hb3, hb4⟩ := hb
    have e1 := Nat.eq_of_beq_eq_true hb1
    subst e1
    obtain ⟨xs, m, _, _, hlen, hxl, hall⟩ := DataW.trod_array hu h
    rw [Nat.eq_of_beq_eq_true hb2] at hlen
    rw [Nat.eq_of_beq_eq_true hb3] at hall
    have hel : ∀ i, i < n' → ∃ z, cs[i]? = some (.int k z) ∧ (Lit.int k z).wf = true := fun i hi => by
      have h1 := hall i hi
      have hlt : i < xs.length := by omega
      rw [List.getElem?_eq_getElem hlt] at h1
      obtain ⟨z, h2, _, h3⟩ := DataW.trod_int (isIntT_spec hb4) h1
      refine ⟨z, ?_, h3⟩
      rw [Nat.mul_one] at h2
      have h4 : (List.take 1 (List.drop i cs))[0]? = some (.int k z) := by rw [h2]; rfl
      simpa using h4
    let f : Nat → Int := fun i => match cs[i]? with | some (.int _ z) => z | _ => 0
    have hf : ∀ i, i < n' → cs[i]? = some (.int k (f i)) ∧ (Lit.int k (f i)).wf = true := fun i hi => by
      obtain ⟨z, h1, h2⟩ := hel i hi
      have : f i = z := by simp only [f, h1]
      rw [this]; exact ⟨h1, h2⟩
    refine ⟨f, by simp only [TD.Fit]; exact fun i hi => (hf i hi).2, fun ρ => ?_, by simp [TD.sv, Wf], rfl, rfl⟩
    simp only [TD.sv, Sh.cells]
    apply List.ext_getElem?
    intro i
    by_cases hi : i < n'
    · rw [(hf i hi).1]; simp [hi]
    · rw [List.getElem?_eq_none (by simp; omega), List.getElem?_eq_none (by omega)]
  | .sl d, t, fuel, cs, x, hb, h => by
    simp only [tdB] at hb
    split at hb <;> try (simp at hb; done)
    rename_i e hu
    simp only [Bool.and_eq_true] at hb
    obtain ⟨hb1, hb2, hb3⟩ := hb
    have hsz := Nat.eq_of_beq_eq_true hb1
    have hd0 : d.size ≠ 0 := fun e0 => by rw [e0] at hb2; simp at hb2
    rcases Go.Deep.open_slice hu h with ⟨rfl, _⟩ | ⟨a, len, cap, m, n, D, Pl, rfl, _, hl, hm, hmm, _, hall⟩
    · exact ⟨(true, ⟨0, 0, none⟩, 0, 0, fun _ => d.dflt), by simp [TD.Fit], fun ρ => rfl, by simp [TD.sv, Wf, VW], rfl, rfl⟩
    · simp only [if_true] at hmm
      subst hmm
      rw [hsz] at hall
      have hel : ∀ i, i < m → ∃ cs' v, w.cells? 0 (a.add (i * d.size)) d.size = some cs' ∧ Opened w d cs' v := fun i hi => by
        obtain ⟨cs', h1, h2⟩ := hall i hi
        obtain ⟨sv, h3⟩ := open_td hb3 h2
        exact ⟨cs', sv, h1, h3⟩
      have cellAt : ∀ i j, i < m → j < d.size → ∃ v, w.cell? ((a.add (i * d.size)).add j) = some v := fun i j hi hj => by
        obtain ⟨cs', sv, h1, h2⟩ := hel i hi
        obtain ⟨_, h3, h4⟩ := World.cells?_some h1
        exact ⟨cs'[j], by rw [h4 j hj]; simp⟩
      have hspot : 0 < m → a.spot = none := fun h0 => by
        obtain ⟨v, hv⟩ := cellAt 0 0 h0 (by omega)
        simp only [Nat.zero_mul] at hv
        unfold World.cell? at hv
        split at hv
        · rename_i c T fz hc
          cases hs : a.spot with
          | none => rfl
          | some s =>
            have : ((a.add 0).add 0).spot = some s := by
              have : ∀ b : Addr, b.spot = some s → (b.add 0).spot = some s := fun b hb => by unfold Addr.add; split <;> simp_all
              exact this _ (this _ hs)
            rw [this] at hv
            simp at hv
        · cases hv
      have hblk : 0 < m → ∃ c T fz, w.heap[a.block]? = some (.cells c T fz) := fun h0 => by
        obtain ⟨v, hv⟩ := cellAt 0 0 h0 (by omega)
        rw [addr_add (hspot h0), addr_add rfl] at hv
        unfold World.cell? at hv
        split at hv
        · rename_i c T fz hc
          exact ⟨c, T, fz, hc⟩
        · cases hv
      let F : Nat → d.Val := fun i => if hi : i < m then Classical.choose (Classical.choose_spec (hel i hi)) else d.dflt
      have hF : ∀ i (hi : i < m), ∃ cs', w.cells? 0 (a.add (i * d.size)) d.size = some cs' ∧ Opened w d cs' (F i) := fun i hi => by
        have := Classical.choose_spec (Classical.choose_spec (hel i hi))
        refine ⟨_, this.1, ?_⟩
        simp only [F, hi, dif_pos]
        exact this.2
      refine ⟨(false, a, len, m, F), ?_, fun ρ => rfl, ?_, rfl, rfl⟩
      · simp only [TD.Fit]
        exact ⟨by simp, hl, hm, fun i hi => by obtain ⟨cs', _, h2⟩ := hF i (by omega); exact h2.fit⟩
      · simp only [TD.sv, Wf]
        simp only [VW]
        refine ⟨by simp, hl, hspot, fun i hi => ?_⟩
        have him : i < m := by omega
        obtain ⟨cs', h1, h2⟩ := hF i him
        obtain ⟨c, T, fz, hc⟩ := hblk (by omega)
        refine ⟨⟨rfl, c, T, fz, hc, fun ρ j hj => ?_⟩, (wf_sv d _).1 h2.wf⟩
        obtain ⟨_, h3, h4⟩ := World.cells?_some h1
        rw [h2.size] at hj
        have h5 := h4 j hj
        rw [addr_add (hspot (by omega)), addr_add rfl] at h5
        simp only [World.cell?, hc, Option.isSome_none, Bool.false_eq_true, if_false] at h5
        rw [h2.cells ρ]
        exact h5
theorem opens_td : ∀ {l : List TD} {fs : List Field} {o n : Nat} {cs : List Value}, tdsB P fs o l = true → cs.length = o + tdSizes l →
    (∀ f ∈ fs, ∃ x, DataW.trod enc P w 0 (fun _ => true) true n f.type ((cs.drop f.offset).take (P.cellsOf f.type)) = some x) →
    ∃ vs, tdFits l vs ∧ (∀ ρ, cellss ρ (tdSvs l vs) = cs.drop o) ∧ Wfs (fun i => w.heap[i]?) (fun _ => False) (tdSvs l vs) ∧ sizes (tdSvs l vs) = tdSizes l
  | [], fs, o, n, cs, hb, hl, _ => by
    cases fs with
    | nil =>
      simp only [tdSizes, Nat.add_zero] at hl
      exact ⟨(), by simp [tdFits], fun ρ => by simp [tdSvs, cellss, List.drop_eq_nil_of_le (Nat.le_of_eq hl)], by simp [tdSvs, Wfs], rfl⟩
    | cons f fs => simp [tdsB] at hb
  | d :: l, fs, o, n, cs, hb, hl, hall => by
    cases fs with
    | nil => simp [tdsB] at hb
    | cons f fs =>
      simp only [tdsB, Bool.and_eq_true] at hb
      obtain ⟨hb1, hb2, hb3, hb4⟩ := hb
      have e1 := Nat.eq_of_beq_eq_true hb1
      have e2 := Nat.eq_of_beq_eq_true hb2
      simp only [tdSizes] at hl
      obtain ⟨x, hx⟩ := hall f (by simp)
      rw [e1, e2] at hx
      obtain ⟨sv, h1⟩ := open_td hb3 hx
      obtain ⟨vs, h2, h3, h4, h5⟩ := opens_td (n := n) (cs := cs) hb4 (by omega) (fun g hg => hall g (List.mem_cons_of_mem _ hg))
      refine ⟨(sv, vs), by simp only [tdFits]; exact ⟨h1.fit, h2⟩, fun ρ => ?_, by simp only [tdSvs, Wfs]; exact ⟨h1.wf, h4⟩, by simp only [tdSvs, sizes, tdSizes, h1.size, h5]⟩
      simp only [tdSvs, cellss, h1.cells ρ, h3 ρ]
      have : cs.drop (o + d.size) = (cs.drop o).drop d.size := by rw [List.drop_drop]
      rw [this, List.take_append_drop]
end

def tdAll (P : Program) : List TypeId → List TD → Bool
  | [], [] => true
  | t :: ts, d :: ds => tdB P t d && tdAll P ts ds
  | _, _ => false

theorem val_of_open {td : TD} {t : TypeId} {v : Value} {x : td.Val} {base : Nat} (hb : tdB P t td = true) (hv : Value.okWide P w .any base t v) (h : Opened w td v.cells.toList x) : v = val noPl (td.sv x) := by
  have hc := h.cells noPl
  have sc : ∀ u : Value, v = u → u.cells = #[u] → (td.sv x).isAgg = false → v = val noPl (td.sv x) := fun u hu hcu ha => by
    have h1 := val_scalar noPl h.ntup ha
    rw [hu, hcu] at hc
    rw [h1] at hc
    simp only [List.cons.injEq, and_true] at hc
    rw [hu]; exact hc.symm
  cases td with
  | int k =>
    simp only [tdB] at hb
    obtain ⟨n, rfl⟩ := okWide_int (isIntT_spec hb) hv
    exact sc _ rfl rfl rfl
  | bool =>
    simp only [tdB] at hb
    split at hb <;> try (simp at hb; done)
    rename_i hu
    obtain ⟨b, rfl⟩ := okWide_bool hu hv
    exact sc _ rfl rfl rfl
  | str =>
    simp only [tdB] at hb
    split at hb <;> try (simp at hb; done)
    rename_i hu
    obtain ⟨b, rfl⟩ := okWide_string hu hv
    exact sc _ rfl rfl rfl
  | sl d =>
    simp only [tdB] at hb
    split at hb <;> try (simp at hb; done)
    rename_i e hu
    obtain ⟨a, l, c, rfl⟩ := okWide_slice hu hv
    exact sc _ rfl rfl rfl
  | st l =>
    simp only [tdB] at hb
    split at hb <;> try (simp at hb; done)
    rename_i fs hu
    have ha : (TD.sv _ x).isAgg = true := rfl
    have : ∃ cs, v = .agg cs := by
      unfold Value.okWide at hv
      rw [hu] at hv
      obtain ⟨cs, h1, _⟩ := hv
      exact ⟨cs, h1⟩
    obtain ⟨cs, rfl⟩ := this
    rw [val_agg noPl ha, hc]
    rfl
  | ints n k =>
    simp only [tdB] at hb
    split at hb <;> try (simp at hb; done)
    rename_i n' e hu
    have ha : (TD.sv _ x).isAgg = true := rfl
    have : ∃ cs, v = .agg cs := by
      unfold Value.okWide at hv
      rw [hu] at hv
      obtain ⟨cs, h1, _⟩ := hv
      exact ⟨cs, h1⟩
    obtain ⟨cs, rfl⟩ := this
    rw [val_agg noPl ha, hc]
    rfl

/-- All arguments, opened. -/
theorem open_args {base : Nat} : ∀ {tds : List TD} {ts : List TypeId} {vs : List Value} {ds : List (DataW H)} {ps : List MemPlace}, tdAll P ts tds = true → DataW.TrodAll enc P w 0 (fun _ => true) true ts vs ds ps →
    (∀ (j : Nat) t v, ts[j]? = some t → vs[j]? = some v → Value.okWide P w .any base t v) → ∃ xs, tdFits tds xs ∧ vs = (tdSvs tds xs).map (val noPl) ∧ ∀ x ∈ tdSvs tds xs, Wf (fun i => w.heap[i]?) (fun _ => False) x
  | [], ts, vs, ds, ps, hb, h, _ => by
    cases ts with
    | nil =>
      obtain ⟨rfl, _, _⟩ := trodAll_nil h
      exact ⟨(), by simp [tdFits], rfl, by simp [tdSvs]⟩
    | cons t ts => simp [tdAll] at hb
  | td :: tds, ts, vs, ds, ps, hb, h, hv => by
    cases ts with
    | nil => simp [tdAll] at hb
    | cons t ts =>
      simp only [tdAll, Bool.and_eq_true] at hb
      cases vs with
      | nil => cases ds <;> simp [DataW.TrodAll] at h
      | cons v vs =>
        cases ds with
        | nil => simp [DataW.TrodAll] at h
        | cons d ds =>
          obtain ⟨p, q, ⟨fuel, h1⟩, h2, _⟩ := h
          obtain ⟨sv, h3⟩ := open_td hb.1 h1
          obtain ⟨svs, h4, h5, h6⟩ := open_args hb.2 h2 (fun j t' v' hj hj' => hv (j + 1) t' v' (by simpa using hj) (by simpa using hj'))
          have h7 := val_of_open hb.1 (hv 0 t v rfl rfl) h3
          refine ⟨(sv, svs), by simp only [tdFits]; exact ⟨h3.fit, h4⟩, by rw [h5, h7]; rfl, fun x hx => ?_⟩
          simp only [tdSvs] at hx
          rcases List.mem_cons.1 hx with rfl | hx
          · exact h3.wf
          · exact h6 x hx

theorem trodAll_carry {w' : World} {sp : Nat → Bool} : ∀ {ts : List TypeId} {vs : List Value} {ds : List (DataW H)} {ps : List MemPlace}, DataW.TrodAll enc P w 0 sp true ts vs ds ps → (∀ p ∈ ps, w.sameAt w' p) → DataW.TrodAll enc P w' 0 sp true ts vs ds ps
  | [], [], [], _, h, _ => h
  | _ :: _, _ :: _, _ :: _, _, ⟨p, q, ⟨n, h1⟩, h2, e⟩, hs => ⟨p, q, ⟨n, DataW.trod_carry n _ _ _ h1 fun x hx => hs x (by rw [e]; exact List.mem_append_left _ hx)⟩, trodAll_carry h2 (fun x hx => hs x (by rw [e]; exact List.mem_append_right _ hx)), e⟩
  | [], [], _ :: _, _, h, _ => by simp [DataW.TrodAll] at h
  | [], _ :: _, _, _, h, _ => by cases ‹List (DataW H)› <;> simp [DataW.TrodAll] at h
  | _ :: _, [], _, _, h, _ => by cases ‹List (DataW H)› <;> simp [DataW.TrodAll] at h
  | _ :: _, _ :: _, [], _, h, _ => by simp [DataW.TrodAll] at h

/-- **THE END OF A LAW**: it answered true; what was read reads so again. -/
theorem law_end {f : Func} {s : ChangeSpec} {apart : Bool} {W W' : World} {args : Array Value} {ds : List (DataW H)} {before : List MemPlace} {tb : TypeId}
    (hvars : s.vars = []) (hW : DataW.Whole enc P f.params.toList s.vars apart W args.toList ds [] before) (hA : DataW.TrodAll enc P W 0 (fun _ => true) true f.params.toList args.toList ds before)
    (hres : (s.fn H ds).results = [.lit (.bool true)]) (hargs : (s.fn H ds).args = ds) (hsv : (s.fn H ds).vars = []) (hr : f.resultTypes = #[tb]) (htb : P.underlying tb = some .bool)
    (hl : laidOutB P = true) (hm : mapsRowed P = true) (hz : ((List.range P.types.size).all fun t => match P.underlying t with | some (.slice e) => decide (0 < P.cellsOf e) | _ => true) = true) (ht : (f.params.toList.all fun t => decide (t < P.types.size)) = true)
    (hb : Below W.heap.size W W') : s.post enc P f apart true false false W args (.bool true) W' := by
  refine post_below (pa := before) (pv := []) (ds := ds) (gs := []) hW ?_ ?_ ?_ (by simp) hb ?_
  · intro b sp hd
    rw [List.append_nil, hr, hres]
    exact trodAll_cons_mk (shut_bool htb _) trodAll_mk0
  · intro sp hsp
    rw [List.append_nil, hargs]
    have h1 := DataW.TrodAll.respare (spare' := sp) (kids_rows hl hm) (slices_full_of P hz) (fun t h => of_decide_eq_true (List.all_eq_true.1 ht t h)) hA hsp
    exact trodAll_carry h1 fun p hp => hb.same (hW.lt p hp)
  · intro sp hsp
    rw [List.append_nil, hsv, hvars]
    rfl
  · intro j t r h1 h2
    rw [hr] at h1 h2
    exact ok_one (f := { f with resultTypes := #[tb] }) (by rfl) rfl (okWide_bool_mk htb _) j t r h1 h2
end

/-- A closed run, for the kernel: it ends with true. -/
def endsT (x : R Ans) : Bool := match x with | some (.bool true, _) => true | _ => false
theorem endsT_spec {x : R Ans} (h : endsT x = true) : EndsV x (.bool true) := by
  unfold endsT at h; split at h
  · exact ⟨_, rfl⟩
  · cases h
def trueF {α : Type} : FP α := fun args k => match args with
  | [] => k (.bool true)
  | _ => none
end Go.Sh
