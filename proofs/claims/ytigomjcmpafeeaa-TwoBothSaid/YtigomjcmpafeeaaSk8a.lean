/-
  append: onto nil, onto a slice without room, onto one that the run made and of whose room nothing is known (its elder name is given up). What is appended may be a row of the caller's memory, of a block, or a string.
-/
import Derived.Test.YtigomjcmpafeeaaSk8
import Derived.Deep.AppendSrc
set_option linter.unusedSimpArgs false
set_option linter.unusedVariables false
namespace Go.Sh
open Go

section
variable {α : Type} {P : Program} {I : Imm}

theorem flat_shift {sz m off len t : Nat} {F : Nat → List Value} (hF : ∀ i, (F i).length = sz) (h : off + len ≤ m) (ht : t < len * sz) :
    ((List.range m).flatMap F)[off * sz + t]? = ((List.range len).flatMap fun i => F (off + i))[t]? := by
  have hs : 0 < sz := by rcases Nat.eq_zero_or_pos sz with rfl | h
                         · simp at ht
                         · exact h
  have hq : t / sz < len := by rw [Nat.div_lt_iff_lt_mul hs]; exact ht
  have hr : t % sz < sz := Nat.mod_lt _ hs
  have hd : t = t / sz * sz + t % sz := by rw [Nat.mul_comm]; exact (Nat.div_add_mod t sz).symm
  have a1 := flat_get sz m F hF (off + t / sz) (t % sz) (by omega) hr
  have a2 := flat_get sz len (fun i => F (off + i)) (fun i => hF _) (t / sz) (t % sz) hq hr
  rw [← hd] at a2
  rw [a2, ← a1, Nat.add_mul, Nat.add_assoc, ← hd]

/-- Elements of a shape, as a row. -/
def rowTD : (d : TD) → Nat → (Nat → d.Val) → SV
  | .int k, n, f => .ints k n f
  | .bool, n, f => .bools n f
  | d, n, f => .arr d.size n fun i => d.sv (f i)
theorem rowTD_size (d : TD) (n : Nat) (f : Nat → d.Val) : (rowTD d n f).size = n * d.size := by cases d <;> simp [rowTD, SV.size, TD.size]
theorem rowTD_cells (ρ : Nat → Pl) (d : TD) (n : Nat) (f : Nat → d.Val) : cells ρ (rowTD d n f) = cells ρ (.arr d.size n fun i => d.sv (f i)) := by
  have one : ∀ g : Nat → Value, (List.range n).map g = (List.range n).flatMap fun i => fit 1 [g i] := fun g => by
    induction n with
    | zero => rfl
    | succ n ih => simp only [List.range_succ, List.map_append, List.flatMap_append, ih]; rfl
  cases d with
  | int k => simp only [rowTD, cells, TD.size, TD.sv]; exact one _
  | bool => simp only [rowTD, cells, TD.size, TD.sv]; exact one _
  | str => rfl
  | st l => rfl
  | ints m k => rfl
  | sl e => rfl
theorem rowTD_wf {I : Imm} {D : Nat → Prop} (d : TD) (n : Nat) (f : Nat → d.Val) (h : ∀ i, i < n → VW I d (f i)) : Wf I D (rowTD d n f) := by
  cases d with
  | int k => simp [rowTD, Wf]
  | bool => simp [rowTD, Wf]
  | str => simp only [rowTD, Wf]; exact fun i hi => (wf_sv _ _).2 (h i hi)
  | st l => simp only [rowTD, Wf]; exact fun i hi => (wf_sv (.st l) _).2 (h i hi)
  | ints m k => simp only [rowTD, Wf]; exact fun i hi => (wf_sv (.ints m k) _).2 (h i hi)
  | sl e => simp only [rowTD, Wf]; exact fun i hi => (wf_sv (.sl e) _).2 (h i hi)
/-- The elements of a slice (or a string), as a row. -/
def rowAt (h : HF) (sz : Nat) (x : SV) (k : Nat → SV → R α) : R α :=
  match x with
  | .nils => k 0 (.arr sz 0 fun _ => .bool false)
  | .str s => bif Nat.beq sz 1 then k s.size (.ints .u8 s.size (bytesAt s)) else none
  | .slc b p s' off len _ => bif Nat.beq s' sz then match h b with
    | some (.cells _ v) => sub v p fun
      | .ints kd m f => bif Nat.beq sz 1 && decide (off + len ≤ m) then k len (.ints kd len fun i => f (off + i)) else none
      | .bools m f => bif Nat.beq sz 1 && decide (off + len ≤ m) then k len (.bools len fun i => f (off + i)) else none
      | .arr s2 m f => bif Nat.beq s2 sz && decide (off + len ≤ m) then k len (.arr sz len fun i => f (off + i)) else none
      | _ => none
    | _ => none else none
  | .vslc td _ _ len _ f => bif Nat.beq td.size sz then k len (rowTD td len f) else none
  | _ => none

/-- What a row is in the model. -/
structure RowOk (P : Program) (I : Imm) (h : HF) (sz : Nat) (x : SV) (n : Nat) (row : SV) : Prop where
  size : row.size = n * sz
  at_ : ∀ b p s' off len cap, x = .slc b p s' off len cap → s' = sz ∧ n = len ∧ ∃ g v u, h b = some (.cells g v) ∧ Lies v (offOf p) u ∧ off * sz + n * sz ≤ u.size ∧ ∀ ρ t, t < n * sz → (cells ρ u)[off * sz + t]? = (cells ρ row)[t]?
  run : ∀ ρ D w, HRel I ρ D h w → Wf I D x → Wf I D row ∧ (∀ w', (Builtin.lenOf (val ρ x)).run P w' = .ok n w') ∧ ∀ w', w'.heap = w.heap → (Builtin.firstCells sz n (val ρ x)).run P w' = .ok (cells ρ row).toArray w'

theorem load_row {a : Addr} (ha : a.spot = none) {cs : List Value} {k : Nat} (hk : cs.length = k) {w : World} (h : ∀ j, j < cs.length → w.cell? ⟨a.block, a.off + j, none⟩ = cs[j]?) {w' : World} (hw : w'.heap = w.heap) : (loadCells a k).run P w' = .ok cs.toArray w' := by
  subst hk
  refine run_loadCells_list (P := P) w' a cs fun j v hj => ?_
  have := h j (List.getElem?_eq_some_iff.1 hj).1
  rw [addr_add ha, ← hj, ← this]
  simp [World.cell?, hw]

theorem load_rowV {a : Addr} {cs : List Value} {k : Nat} (ha : 0 < k → a.spot = none) (hk : cs.length = k) {w : World} (h : ∀ j, j < cs.length → w.cell? ⟨a.block, a.off + j, none⟩ = cs[j]?) {w' : World} (hw : w'.heap = w.heap) : (loadCells a k).run P w' = .ok cs.toArray w' := by
  rcases Nat.eq_zero_or_pos k with rfl | h0
  · have : cs = [] := by simpa using hk
    subst this
    simp [loadCells, loadCellsFrom]
  · exact load_row (ha h0) hk h hw
theorem rowAt_spec {h : HF} {sz : Nat} {x : SV} {k : Nat → SV → R α} {r : α} (hk : rowAt h sz x k = some r) : ∃ n row, k n row = some r ∧ RowOk P I h sz x n row := by
  unfold rowAt at hk
  split at hk <;> try (simp at hk; done)
  · refine ⟨_, _, hk, by simp [SV.size], fun _ _ _ _ _ _ e => by simp at e, fun ρ D w hh hx => ⟨by simp [Wf], fun w' => by simp [val, pack, SV.isAgg, cells, Builtin.lenOf], fun w' hw => by simp [val, pack, SV.isAgg, cells, Builtin.firstCells]⟩⟩
  · rename_i s
    obtain ⟨h1, h2⟩ := bif_some hk
    have := Nat.eq_of_beq_eq_true h1
    subst this
    refine ⟨_, _, h2, by simp [SV.size], fun _ _ _ _ _ _ e => by simp at e, fun ρ D w hh hx => ⟨by simp [Wf], fun w' => by simp [val_str, Builtin.lenOf], fun w' hw => ?_⟩⟩
    have e : byteCells s = (List.range s.size).map fun i => Value.int .u8 (bytesAt s i) := by
      apply List.ext_getElem?
      intro j
      by_cases hj : j < s.size
      · have hlt : j < s.data.toList.length := hj
        have hb : bytesAt s j = ((s.data.toList[j].toNat : Nat) : Int) := by
          unfold bytesAt
          have : s[j]? = some s.data.toList[j] := by rw [getElem?_pos s j hj]; rfl
          rw [this]; rfl
        have hlt2 : j < s.data.size := hj
        simp [byteCells, hj, hb]
        try exact ⟨s.data[j]'hlt2, by simp, rfl⟩
      · have hl := byteCells_length s
        rw [List.getElem?_eq_none (by omega), List.getElem?_eq_none (by simp; omega)]
    rw [val_str, firstCells_string, e]
    simp [cells]
  · rename_i b p s' off len cap
    obtain ⟨h0, hk⟩ := bif_some hk
    have := Nat.eq_of_beq_eq_true h0
    subst this
    split at hk <;> try (simp at hk; done)
    rename_i g v hb
    obtain ⟨u, h5, hl, hwu⟩ := sub_spec hk
    have hval : ∀ ρ, ∃ c, val ρ (.slc b p s' off len cap) = .slice (some ⟨(ρ b).blk, (ρ b).base + (offOf p + off * s'), none⟩) len c := fun ρ => by
      cases cap
      · exact ⟨_, rfl⟩
      · exact ⟨_, rfl⟩
    have fin : ∀ row : SV, row.size = len * s' → off * s' + len * s' ≤ u.size → (∀ ρ t, t < len * s' → (cells ρ u)[off * s' + t]? = (cells ρ row)[t]?) → (∀ D, Wf I D u → Wf I D row) → RowOk P I h s' (.slc b p s' off len cap) len row := by
      intro row hs hle hc hw
      refine ⟨hs, fun _ _ _ _ _ _ e => by cases e; exact ⟨rfl, rfl, g, v, u, hb, hl, hle, hc⟩, fun ρ D w hh hx => ⟨hw D (hwu I D (hh.wf.dom b _ hb).2), fun w' => ?_, fun w' hw' => ?_⟩⟩
      · obtain ⟨c, e⟩ := hval ρ; rw [e]; simp [Builtin.lenOf]
      · obtain ⟨c, e⟩ := hval ρ
        rw [e]
        have hlen := cells_length ρ row
        refine load_row (P := P) (a := ⟨(ρ b).blk, (ρ b).base + (offOf p + off * s'), none⟩) rfl (k := len * s') (by omega) (w := w) (fun j hj => ?_) hw'
        have := hh.cell (j := off * s' + j) hb hl (by omega)
        rw [← hc ρ j (by omega), ← this]
        congr 2; simp only; omega
    split at h5 <;> try (simp at h5; done)
    · rename_i kd m f
      obtain ⟨h6, h7⟩ := bif_some h5
      simp only [Bool.and_eq_true, decide_eq_true_eq] at h6
      have := Nat.eq_of_beq_eq_true h6.1
      subst this
      refine ⟨_, _, h7, fin _ (by simp [SV.size]) (by simp only [SV.size]; omega) (fun ρ t ht => ?_) (fun D _ => by simp [Wf])⟩
      have h1 : off * 1 + t < m := by omega
      simp [cells, show t < len by omega, show off + t < m by omega]
    · rename_i m f
      obtain ⟨h6, h7⟩ := bif_some h5
      simp only [Bool.and_eq_true, decide_eq_true_eq] at h6
      have := Nat.eq_of_beq_eq_true h6.1
      subst this
      refine ⟨_, _, h7, fin _ (by simp [SV.size]) (by simp only [SV.size]; omega) (fun ρ t ht => ?_) (fun D _ => by simp [Wf])⟩
      have h1 : off * 1 + t < m := by omega
      simp [cells, show t < len by omega, show off + t < m by omega]
    · rename_i s2 m f
      obtain ⟨h6, h7⟩ := bif_some h5
      simp only [Bool.and_eq_true, decide_eq_true_eq] at h6
      have := Nat.eq_of_beq_eq_true h6.1
      subst this
      refine ⟨_, _, h7, fin _ (by simp [SV.size]) (by simp only [SV.size]; rw [← Nat.add_mul]; exact Nat.mul_le_mul_right _ h6.2) (fun ρ t ht => ?_) (fun D hw => ?_)⟩
      · simp only [cells]
        exact flat_shift (fun i => fit_length _ _) h6.2 ht
      · simp only [Wf] at hw ⊢
        exact fun i hi => hw _ (by omega)
  · rename_i td nl a len cap f
    obtain ⟨h0, hk2⟩ := bif_some hk
    have := Nat.eq_of_beq_eq_true h0
    subst this
    refine ⟨_, _, hk2, rowTD_size _ _ _, fun _ _ _ _ _ _ e => by simp at e, fun ρ D w hh hx => ?_⟩
    simp only [Wf, VW] at hx
    obtain ⟨hnl, hlc, hsp, hall⟩ := hx
    cases nl
    case true =>
      obtain ⟨rfl, rfl⟩ := hnl rfl
      refine ⟨rowTD_wf _ _ _ fun i hi => by omega, fun w' => by simp [val, pack, SV.isAgg, cells, Builtin.lenOf], fun w' hw' => ?_⟩
      rw [rowTD_cells]
      simp [val, pack, SV.isAgg, cells, Builtin.firstCells]
    refine ⟨rowTD_wf _ _ _ fun i hi => (hall i hi).2, fun w' => by simp [val, pack, SV.isAgg, cells, Builtin.lenOf], fun w' hw' => ?_⟩
    have e : val ρ (.vslc td false a len cap f) = .slice (some a) len cap := rfl
    rw [e, rowTD_cells]
    have hlen := cells_length ρ (.arr td.size len fun i => td.sv (f i))
    simp only [SV.size] at hlen
    have hsp' : 0 < len * td.size → a.spot = none := fun h0 => hsp (Nat.lt_of_lt_of_le (Nat.pos_of_mul_pos_right h0) hlc)
    refine load_rowV (P := P) (k := len * td.size) hsp' (by omega) (w := w) (fun t ht => ?_) hw'
    rw [hlen] at ht
    have hs : 0 < td.size := by rcases Nat.eq_zero_or_pos td.size with h | h
                                · rw [h] at ht; simp at ht
                                · exact h
    have hq : t / td.size < len := by rw [Nat.div_lt_iff_lt_mul hs]; exact ht
    have hr : t % td.size < td.size := Nat.mod_lt _ hs
    have hd : t = t / td.size * td.size + t % td.size := by rw [Nat.mul_comm]; exact (Nat.div_add_mod t _).symm
    obtain ⟨q2, _⟩ := hall _ hq
    have hsz := sv_size td (f (t / td.size))
    have a1 := flat_get td.size len (fun i => fit td.size (cells ρ (td.sv (f i)))) (fun i => fit_length _ _) (t / td.size) (t % td.size) hq hr
    rw [← hd, fit_same _ _ (by rw [cells_length, hsz])] at a1
    simp only [cells]
    rw [a1, ← VOk.cell hh q2 (j := t % td.size) (by omega)]
    congr 2
    simp only
    omega

def joinRow (sz m n : Nat) (a b : SV) (k : SV → R α) : R α :=
  match a, b with
  | .ints kd _ f, .ints kd' _ g => bif decide (kd = kd') && Nat.beq sz 1 then k (.ints kd (m + n) fun i => bif Nat.blt i m then f i else g (i - m)) else none
  | .bools _ f, .bools _ g => bif Nat.beq sz 1 then k (.bools (m + n) fun i => bif Nat.blt i m then f i else g (i - m)) else none
  | .arr s1 _ f, .arr s2 _ g => bif (Nat.beq s1 sz && Nat.beq s2 sz) && !Nat.beq sz 0 then k (.arr sz (m + n) fun i => bif Nat.blt i m then f i else g (i - m)) else none
  | _, _ => none

theorem range_join {β : Type} (m n : Nat) (f g : Nat → β) : (List.range (m + n)).map (fun i => bif Nat.blt i m then f i else g (i - m)) = (List.range m).map f ++ (List.range n).map g := by
  apply List.ext_getElem?
  intro j
  by_cases hj : j < m
  · have hb : Nat.blt j m = true := by simpa using hj
    rw [List.getElem?_append_left (by simpa using hj)]
    simp [hj, hb, show j < m + n by omega]
  · have hb : Nat.blt j m = false := by
      cases e : Nat.blt j m
      · rfl
      · have : j < m := by simpa using e
        omega
    rw [List.getElem?_append_right (by simp; omega)]
    simp only [List.length_map, List.length_range]
    by_cases hj2 : j < m + n
    · simp [hj2, hb, show j - m < n by omega]
    · rw [List.getElem?_eq_none (by simp; omega), List.getElem?_eq_none (by simp; omega)]

theorem joinRow_spec {sz m n : Nat} {a b : SV} {k : SV → R α} {r : α} (hk : joinRow sz m n a b k = some r) (ha : a.size = m * sz) (hb : b.size = n * sz) :
    ∃ row, k row = some r ∧ row.size = (m + n) * sz ∧ (∀ ρ, cells ρ row = cells ρ a ++ cells ρ b) ∧ ∀ D, Wf I D a → Wf I D b → Wf I D row := by
  unfold joinRow at hk
  split at hk <;> try (simp at hk; done)
  · rename_i kd m' f kd' n' g
    obtain ⟨h1, h2⟩ := bif_some hk
    simp only [Bool.and_eq_true, decide_eq_true_eq] at h1
    have := Nat.eq_of_beq_eq_true h1.2
    subst this
    obtain ⟨rfl, _⟩ := h1
    simp only [SV.size, Nat.mul_one] at ha hb
    subst ha; subst hb
    refine ⟨_, h2, by simp [SV.size], fun ρ => ?_, fun D _ _ => by simp [Wf]⟩
    simp only [cells]
    rw [← range_join]
    apply List.map_congr_left
    intro i _
    cases Nat.blt i m' <;> rfl
  · rename_i m' f n' g
    obtain ⟨h1, h2⟩ := bif_some hk
    have := Nat.eq_of_beq_eq_true h1
    subst this
    simp only [SV.size, Nat.mul_one] at ha hb
    subst ha; subst hb
    refine ⟨_, h2, by simp [SV.size], fun ρ => ?_, fun D _ _ => by simp [Wf]⟩
    simp only [cells]
    rw [← range_join]
    apply List.map_congr_left
    intro i _
    cases Nat.blt i m' <;> rfl
  · rename_i s1 m' f s2 n' g
    obtain ⟨h1, h2⟩ := bif_some hk
    simp only [Bool.and_eq_true] at h1
    have e1 := Nat.eq_of_beq_eq_true h1.1.1
    have e2 := Nat.eq_of_beq_eq_true h1.1.2
    subst e1; subst e2
    simp only [SV.size] at ha hb
    have hpos : 0 < s2 := by
      rcases Nat.eq_zero_or_pos s2 with rfl | h
      · simp at h1
      · exact h
    · have hm : m' = m := Nat.eq_of_mul_eq_mul_right hpos ha
      have hn : n' = n := Nat.eq_of_mul_eq_mul_right hpos hb
      subst hm; subst hn
      refine ⟨_, h2, by simp [SV.size], fun ρ => ?_, fun D h3 h4 => ?_⟩
      · simp only [cells, List.flatMap_def]
        rw [← List.flatten_append, ← range_join]
        congr 1
        apply List.map_congr_left
        intro i _
        cases Nat.blt i m' <;> rfl
      · simp only [Wf] at h3 h4 ⊢
        intro i hi
        cases e : Nat.blt i m'
        · refine h4 _ ?_
          have : ¬ i < m' := fun h => by have : Nat.blt i m' = true := by simpa using h
                                         rw [e] at this; cases this
          omega
        · exact h3 _ (by simpa using e)

def okSrc (s : STy) : Bool := match s.sd with | .sc (.slice _) => true | .sc .string => true | _ => false

/-- append: the value, the blocks that are laid and given up; of nothing: the slice itself (k0). -/
def wapp (te : TE) (g : EF) (h : HF) (nid : Nat) (args : List Operand) (tys : List TypeId) (k0 : SV → R α) (k1 : SV → List (Nat × SObj) → R α) : R α :=
  match args, tys with
  | [d, x], [dT, xT] => tlook te dT fun s => match s.sd with
    | .sc (.slice e) => tlook te e fun es => tlook te xT fun xs => bif okSrc xs && !Nat.beq es.size 0 then ev g d fun d => ev g x fun x => rowAt h es.size x fun n row =>
      bif Nat.beq n 0 then (match d with
        | .nils => k0 .nils
        | .slc b p sz off len (some c) => bif Nat.ble len c then k0 (.slc b p sz off len (some c)) else none
        | .slc b [] sz 0 len none => rowAt h es.size (.slc b [] sz 0 len none) fun _ _ => match h b with
          | some (.cells (some sz') _) => bif Nat.beq sz' es.size then k0 (.slc b [] sz 0 len none) else none
          | _ => none
        | _ => none) else
      match d with
      | .nils => bif decide (n * es.bytes ≤ 140737488355328) && decide (n ≤ 4611686018427387904) then k1 (.slc nid [] es.size 0 n none) [(nid, .cells (some es.size) row)] else none
      | .slc b p sz off len (some c) => rowAt h es.size (.slc b p sz off len (some c)) fun m old => bif Nat.blt c (m + n) && (decide ((m + n) * es.bytes ≤ 140737488355328) && decide (m + n ≤ 4611686018427387904)) then
          bif Nat.beq m 0 then k1 (.slc nid [] es.size 0 n none) [(nid, .cells (some es.size) row)]
          else joinRow es.size m n old row fun row' => k1 (.slc nid [] es.size 0 (m + n) none) [(nid, .cells (some es.size) row')] else none
      | .slc b [] sz 0 len none => rowAt h es.size (.slc b [] sz 0 len none) fun m old => bif decide ((m + n) * es.bytes ≤ 140737488355328) && decide (m + n ≤ 4611686018427387904) then match h b with
          | some (.cells (some sz') _) => bif Nat.beq sz' es.size then joinRow es.size m n old row fun row' => k1 (.slc nid [] es.size 0 (m + n) none) [(nid, .cells (some es.size) row'), (b, .dead)] else none
          | _ => none else none
      | _ => none else none
    | _ => none
  | _, _ => none

def putsH (h : HF) : List (Nat × SObj) → HF
  | [] => h
  | x :: l => putH (putsH h l) x.1 x.2

/-- An operation that lays a new block, and gives up others. -/
def WOkL (P : Program) (I : Imm) (g : EF) (h : HF) (o : Oper) (nid : Nat) (v : SV) (wr : List (Nat × SObj)) : Prop :=
  ∀ N ρ D D' a w, EnvOk I N ρ D g a → HRel I ρ D h w → ¬ D nid → (∀ c, D c → D' c) → D' nid → ∃ ρ' w', (execOp a.eval o).run P w = .ok (.value (val ρ' v)) w' ∧
    HRel I ρ' D' (putsH h wr) w' ∧ Ext ρ D h w ρ' D' (putsH h wr) w' ∧ Wf I D' v

theorem app_grow {ρ : Nat → Pl} {D D' : Nat → Prop} {h : HF} {w : World} (hh : HRel I ρ D h w) {nid : Nat} (hn : ¬ D nid) (hD : ∀ c, D c → D' c) (hnD : D' nid) {row : SV} {sz need G : Nat} (hs : row.size = need * sz) (hG : need ≤ G) {zs : Array Value} (hz : zs.size = (G - need) * sz)
    (hw : Wf I D row) (e : TypeId) {cs : Array Value} (hcs : cs = (cells ρ row).toArray ++ zs) :
    HRel I (putP ρ nid ⟨w.heap.size, 0, G⟩) D' (putH h nid (.cells (some sz) row)) (w.drew.alloc (.cells cs e)) ∧ Ext ρ D h w (putP ρ nid ⟨w.heap.size, 0, G⟩) D' (putH h nid (.cells (some sz) row)) (w.drew.alloc (.cells cs e)) := by
  subst hcs
  have hlen := cells_length ρ row
  have ec : cells (putP ρ nid ⟨w.heap.size, 0, G⟩) row = cells ρ row := cells_congr (I := I) (fun c hc => putP_other (fun (e : c = nid) => hn (e ▸ hc))) hw
  have hmul : need * sz + (G - need) * sz = G * sz := by rw [← Nat.add_mul]; congr 1; omega
  have hle : need * sz ≤ G * sz := Nat.mul_le_mul_right _ hG
  obtain ⟨e1, e2⟩ := HRel.add (hh.drew (w.drawn + 1)) hn hD hnD (o := .cells (some sz) row) (Wf.mono hD hw) (p := ⟨w.heap.size, 0, G⟩) rfl (ob := .cells ((cells ρ row).toArray ++ zs) e)
    ⟨_, e, (0, 0), by simp [putP_same]; rfl, fun j hj => by
      rw [putP_same, ec]
      simp only [Nat.zero_add, List.getElem?_toArray]
      rw [Array.getElem?_append_left (by simp; omega)]
      simp, by simp only [reachOf, putP_same]; omega, by simp only [reachOf, putP_same, Array.size_append, hz, List.size_toArray, hlen, hs]; omega, fun j _ => by simp⟩
  exact ⟨e1, (Ext.drew ρ D h w (w.drawn + 1)).trans e2⟩

/-- A block under a new name; the old one is given up. -/
theorem HRel.rename {ρ : Nat → Pl} {D D' : Nat → Prop} {h : HF} {w : World} (g : HRel I ρ D h w) {b nid : Nat} {o : SObj} (hb : h b = some o) (hn : ¬ D nid) (hD : ∀ c, D c → D' c) (hnD : D' nid) :
    HRel I (putP ρ nid (ρ b)) D' (putH (putH h b .dead) nid o) w ∧ Ext ρ D h w (putP ρ nid (ρ b)) D' (putH (putH h b .dead) nid o) w := by
  have hρ : ∀ c, D c → putP ρ nid (ρ b) c = ρ c := fun c hc => putP_other (fun e => hn (e ▸ hc))
  have hlive : ∃ o', o.live = some o' → True := ⟨o, fun _ => trivial⟩
  have old : ∀ c o', putH (putH h b .dead) nid o c = some o' → (c = nid ∧ o' = o) ∨ (c ≠ nid ∧ c ≠ b ∧ h c = some o') := fun c o' hc => by
    by_cases e : c = nid
    · subst e; rw [putH_same] at hc; exact .inl ⟨rfl, live_some hc⟩
    · rw [putH_other e] at hc
      by_cases e2 : c = b
      · subst e2; rw [putH_same] at hc; simp [SObj.live] at hc
      · rw [putH_other e2] at hc; exact .inr ⟨e, e2, hc⟩
  obtain ⟨d1, d2⟩ := g.wf.dom b o hb
  refine ⟨⟨⟨fun c o' hc => ?_⟩, fun c o' hc => ?_, fun c o1 c' o2 hc hc' hbl => ?_, g.imm, fun c o' hc => ?_⟩, ⟨hD, hρ, rfl, rfl, rfl, Nat.le_refl _, fun i hi _ => rfl, fun c o' hc => ?_⟩⟩
  · rcases old c o' hc with ⟨rfl, rfl⟩ | ⟨_, _, h3⟩
    · exact ⟨hnD, OWf.mono hD d2⟩
    · exact ⟨hD _ (g.wf.dom c o' h3).1, OWf.mono hD (g.wf.dom c o' h3).2⟩
  · rcases old c o' hc with ⟨rfl, rfl⟩ | ⟨_, _, h3⟩
    · have hat := g.obj b _ hb
      cases o' with
      | cells gg v =>
        obtain ⟨cc, T, fz, q1, q2, q3, q4, q5⟩ := hat
        refine ⟨cc, T, fz, by rw [putP_same]; exact q1, fun j hj => ?_, by rw [putP_same]; exact q3, by rw [putP_same]; exact q4, by rw [putP_same]; exact q5⟩
        rw [putP_same, q2 j hj, cells_congr hρ d2]
      | map es =>
        obtain ⟨ms, cl, q1, q2⟩ := hat
        refine ⟨ms, cl, by rw [putP_same]; exact q1, ?_⟩
        rw [q2]
        apply List.map_congr_left
        intro x hx
        have := d2 x hx
        rw [val_congr hρ this.1, val_congr hρ this.2]
      | dead => exact hat.elim
    · exact ObjAt.congr (I := I) (g.obj c o' h3) (g.wf.dom c o' h3).2 hρ (g.wf.dom c o' h3).1 rfl
  · rcases old c o1 hc with ⟨rfl, rfl⟩ | ⟨h1, h2, h3⟩ <;> rcases old c' o2 hc' with ⟨rfl, rfl⟩ | ⟨h1', h2', h3'⟩
    · rfl
    · rw [putP_same, putP_other h1'] at hbl; exact absurd (g.inj _ _ _ _ hb h3' hbl).symm h2'
    · rw [putP_same, putP_other h1] at hbl; exact absurd (g.inj _ _ _ _ h3 hb hbl) h2
    · rw [putP_other h1, putP_other h1'] at hbl; exact g.inj _ _ _ _ h3 h3' hbl
  · rcases old c o' hc with ⟨rfl, rfl⟩ | ⟨h1, _, h3⟩
    · rw [putP_same]; exact g.off _ _ hb
    · rw [putP_other h1]; exact g.off _ _ h3
  · rcases old c o' hc with ⟨rfl, rfl⟩ | ⟨h1, _, h3⟩
    · rw [putP_same]; exact .inr ⟨b, _, hb, rfl⟩
    · rw [putP_other h1]; exact .inr ⟨c, _, h3, rfl⟩

theorem putH_put (h : HF) (b : Nat) (o o' : SObj) : putH (putH h b o) b o' = putH h b o' := by
  funext c
  unfold putH
  cases Nat.beq b c <;> rfl

theorem src_of {xs : STy} {xT : TypeId} (hx : TyOk P xT xs) (hok : okSrc xs = true) : (∃ e', P.underlying xT = some (.slice e')) ∨ P.underlying xT = some .string := by
  have hd := hx.desc
  unfold okSrc at hok
  split at hok <;> try (simp at hok; done)
  · rename_i e h; rw [h] at hd; exact .inl ⟨_, hd.1⟩
  · rename_i h; rw [h] at hd; exact .inr hd.1

theorem wapp_spec {te : TE} (hte : TEok P te) {o : Oper} {c : Call} (ho : o.op = .call c) (hc : c.callee = .builtin .append) {g : EF} {h : HF} {nid : Nat} {k0 : SV → R α} {k1 : SV → List (Nat × SObj) → R α} {r : α} (hv : wapp te g h nid c.args.toList c.argTypes.toList k0 k1 = some r) :
    (∃ v, k0 v = some r ∧ POk P I g h o v) ∨ ∃ v wr, k1 v wr = some r ∧ (∀ x ∈ wr, x.1 = nid ∨ ∃ o0, h x.1 = some o0) ∧ WOkL P I g h o nid v wr := by
  obtain ⟨dst, op, type, pos, after, guard⟩ := o
  simp only at ho
  subst ho
  obtain ⟨callee, args, argTypes⟩ := c
  simp only at hc
  subst hc
  unfold wapp at hv
  split at hv <;> try (simp at hv; done)
  rename_i d x dT xT hargs htys
  obtain ⟨s, h1, ht⟩ := tlook_spec hv hte
  split at h1 <;> try (simp at h1; done)
  rename_i e hsd
  obtain ⟨es, h2, hes⟩ := tlook_spec h1 hte
  obtain ⟨xs, h3, hxs⟩ := tlook_spec h2 hte
  obtain ⟨h4, h5⟩ := bif_some h3
  simp only [Bool.and_eq_true] at h4
  obtain ⟨dv, h6, hd⟩ := ev_spec h5
  obtain ⟨xv, h7, hx⟩ := ev_spec h6
  obtain ⟨n, row, h8, hrow⟩ := rowAt_spec (P := P) (I := I) h7
  have ea : args = #[d, x] := by apply Array.toList_inj.1; simpa using hargs
  have et : argTypes = #[dT, xT] := by apply Array.toList_inj.1; simpa using htys
  subst ea; subst et
  have hud := ht.desc
  rw [hsd] at hud
  obtain ⟨i, hi1, hi2, hi3, hi4⟩ := ty_info hes
  have hsz0 : es.size ≠ 0 := fun e0 => by rw [e0] at h4; simp at h4
  have hsrc : ∀ N ρ D a w, EnvOk I N ρ D g a → HRel I ρ D h w → Src P i.size xT (val ρ xv) n (cells ρ row) w := fun N ρ D a w he hh => by
    obtain ⟨q1, q2⟩ := hx I N ρ D a he
    obtain ⟨_, r2, r3⟩ := hrow.run ρ D w hh q2
    rw [hi2]
    exact ⟨src_of hxs h4.1, r2, r3 w rfl, r3 _ rfl, by rw [cells_length, hrow.size], fun u hu => by
      have := cells_flat ρ row u hu
      cases u <;> simp [flatV, Value.oneCell'] at this ⊢⟩
  cases hn0 : Nat.beq n 0
  · -- something is appended
    rw [hn0] at h8
    simp only [cond_false] at h8
    have hn : n ≠ 0 := fun e0 => by rw [e0] at hn0; simp at hn0
    right
    -- a new row
    have grow : ∀ (row' : SV) (old : List SV → List Value) (m C : Nat) (base : (Nat → Pl) → Option Addr), row'.size = (m + n) * es.size → C < m + n → (m + n) * es.bytes ≤ 140737488355328 → m + n ≤ 4611686018427387904 →
        ∀ N ρ D D' a w, EnvOk I N ρ D g a → HRel I ρ D h w → ¬ D nid → (∀ c, D c → D' c) → D' nid → Wf I D row' → val ρ dv = .slice (base ρ) m C →
        (∃ olds : List Value, (Builtin.firstCells es.size m (.slice (base ρ) m C)).run P w.drew = .ok olds.toArray w.drew ∧ cells ρ row' = olds ++ cells ρ row) →
        ∃ ρ' w', (execOp a.eval ⟨dst, .call ⟨.builtin .append, #[d, x], #[dT, xT]⟩, type, pos, after, guard⟩).run P w = .ok (.value (val ρ' (.slc nid [] es.size 0 (m + n) none))) w' ∧
          HRel I ρ' D' (putH h nid (.cells (some es.size) row')) w' ∧ Ext ρ D h w ρ' D' (putH h nid (.cells (some es.size) row')) w' ∧ Wf I D' (.slc nid [] es.size 0 (m + n) none) := by
      intro row' _ m C base hrs hC hb hb2 N ρ D D' a w he hh hn hD hnD hw hval ⟨olds, ho1, ho2⟩
      have hfit : Builtin.nextslicecap (m + n) C * i.bytes ≤ 281474976710656 := growslice_fits hC (by rw [hi3]; exact hb)
      have hz := hi4 ρ
      have hzsz : (val ρ es.zero).cells.size = es.size := by
        have := val_cells ρ hes.zero.2.1
        rw [this]; simp [cells_length, hes.zero.1]
      have hrun := run_append_grow_src (P := P) w dT xT type e i (val ρ es.zero) hud.1 hi1 hz (base ρ) m C olds (by rw [hi2]; exact ho1) (val ρ xv) n (cells ρ row) (hsrc N ρ D a w he hh) hC (by omega) hfit
      have hge := grownCap_ge w (m + n) C e
      obtain ⟨e1, e2⟩ := app_grow (I := I) hh hn hD hnD (row := row') (sz := es.size) (need := m + n) (G := grownCap w (m + n) C e) hrs hge (zs := Builtin.zeroCells (val ρ es.zero).cells (grownCap w (m + n) C e - (m + n))) (by rw [size_zeroCells, hzsz]) hw e
        (cs := (olds ++ cells ρ row).toArray ++ Builtin.zeroCells (val ρ es.zero).cells (grownCap w (m + n) C e - (m + n))) (by rw [ho2])
      refine ⟨_, _, ?_, e1, e2, by simpa [Wf] using hnD⟩
      obtain ⟨d1, _⟩ := hd I N ρ D a he
      obtain ⟨x1, _⟩ := hx I N ρ D a he
      have ev : val (putP ρ nid ⟨w.heap.size, 0, grownCap w (m + n) C e⟩) (.slc nid [] es.size 0 (m + n) none) = .slice (some ⟨w.heap.size, 0, none⟩) (m + n) (grownCap w (m + n) C e) := by simp [val, pack, SV.isAgg, cells, putP_same, offOf]
      rw [ev]
      simp [execOp, resolve, invoke, builtin, d1, x1, hval, hrun]
    split at h8
    · -- onto nil
      obtain ⟨h9, h10⟩ := bif_some h8
      simp only [Bool.and_eq_true, decide_eq_true_eq] at h9
      refine ⟨_, _, h10, fun y hy => by simp at hy; subst hy; exact .inl rfl, fun N ρ D D' a w he hh hnf hD hnD => ?_⟩
      have hwr := (hrow.run ρ D w hh (hx I N ρ D a he).2).1
      have := grow row (fun _ => []) 0 0 (fun _ => none) (by rw [Nat.zero_add]; exact hrow.size) (by omega) (by rw [Nat.zero_add]; exact h9.1) (by omega) N ρ D D' a w he hh hnf hD hnD hwr (by simp [val, pack, SV.isAgg, cells]) ⟨[], by simp [Builtin.firstCells], by simp⟩
      simpa only [Nat.zero_add, putsH] using this
    · rename_i b p sz off len c
      obtain ⟨m, old, h9, hold⟩ := rowAt_spec (P := P) (I := I) h8
      obtain ⟨h10, h11⟩ := bif_some h9
      simp only [Bool.and_eq_true, decide_eq_true_eq] at h10
      have hcm : c < m + n := by simpa using h10.1
      obtain ⟨e1, e2, gg, v0, u0, hb0, _⟩ := hold.at_ b p sz off len (some c) rfl
      subst e1; subst e2
      have hbase : ∀ ρ, val ρ (.slc b p es.size off m (some c)) = .slice (some ⟨(ρ b).blk, (ρ b).base + (offOf p + off * es.size), none⟩) m c := fun ρ => rfl
      have holdc : ∀ N ρ D a w, EnvOk I N ρ D g a → HRel I ρ D h w → (Builtin.firstCells es.size m (.slice (some ⟨(ρ b).blk, (ρ b).base + (offOf p + off * es.size), none⟩) m c)).run P w.drew = .ok (cells ρ old).toArray w.drew := fun N ρ D a w he hh => by
        have := (hold.run ρ D w hh (hd I N ρ D a he).2).2.2 w.drew rfl
        rwa [hbase] at this
      cases hm0 : Nat.beq m 0 <;> rw [hm0] at h11 <;> simp only [cond_true, cond_false] at h11
      · obtain ⟨row', h12, hrs, hcells, hwf⟩ := joinRow_spec (I := I) h11 hold.size hrow.size
        refine ⟨_, _, h12, fun y hy => by simp at hy; subst hy; exact .inl rfl, fun N ρ D D' a w he hh hnf hD hnD => ?_⟩
        have hwr := (hrow.run ρ D w hh (hx I N ρ D a he).2).1
        have hwo := (hold.run ρ D w hh (hd I N ρ D a he).2).1
        exact grow row' (fun _ => []) m c (fun ρ => some ⟨(ρ b).blk, (ρ b).base + (offOf p + off * es.size), none⟩) hrs hcm h10.2.1 h10.2.2 N ρ D D' a w he hh hnf hD hnD (hwf D hwo hwr) (hbase ρ) ⟨cells ρ old, holdc N ρ D a w he hh, hcells ρ⟩
      · have : m = 0 := Nat.eq_of_beq_eq_true hm0
        subst this
        refine ⟨_, _, h11, fun y hy => by simp at hy; subst hy; exact .inl rfl, fun N ρ D D' a w he hh hnf hD hnD => ?_⟩
        have hwr := (hrow.run ρ D w hh (hx I N ρ D a he).2).1
        have hl0 : cells ρ old = [] := by
          have := cells_length ρ old
          rw [hold.size] at this
          simpa using this
        have hh2 := holdc N ρ D a w he hh
        rw [hl0] at hh2
        have := grow row (fun _ => []) 0 c (fun ρ => some ⟨(ρ b).blk, (ρ b).base + (offOf p + off * es.size), none⟩) (by rw [Nat.zero_add]; exact hrow.size) hcm h10.2.1 h10.2.2 N ρ D D' a w he hh hnf hD hnD hwr (hbase ρ) ⟨[], hh2, by simp⟩
        simpa only [Nat.zero_add, putsH] using this
    · rename_i b sz len
      obtain ⟨m, old, h9, hold⟩ := rowAt_spec (P := P) (I := I) h8
      obtain ⟨h10, h11⟩ := bif_some h9
      simp only [Bool.and_eq_true, decide_eq_true_eq] at h10
      split at h11 <;> try (simp at h11; done)
      rename_i sz' v hb
      obtain ⟨h12, h13⟩ := bif_some h11
      have := Nat.eq_of_beq_eq_true h12
      subst this
      obtain ⟨row', h14, hrs, hcells, hwf⟩ := joinRow_spec (I := I) h13 hold.size hrow.size
      obtain ⟨e1, e2, gg, v0, u0, hb0, hl0, hle0, hat0⟩ := hold.at_ b [] sz 0 len none rfl
      subst e1; subst e2
      rw [hb] at hb0
      cases hb0
      refine ⟨_, _, h14, fun y hy => by
        simp only [List.mem_cons, List.not_mem_nil, or_false] at hy
        rcases hy with rfl | rfl
        · exact .inl rfl
        · exact .inr ⟨_, hb⟩, fun N ρ D D' a w he hh hnf hD hnD => ?_⟩
      have hwr := (hrow.run ρ D w hh (hx I N ρ D a he).2).1
      have hwo := (hold.run ρ D w hh (hd I N ρ D a he).2).1
      have hbD : D b := (hh.wf.dom b _ hb).1
      have hbn : nid ≠ b := fun e0 => hnf (e0 ▸ hbD)
      have hbase : val ρ (.slc b [] es.size 0 m none) = .slice (some ⟨(ρ b).blk, (ρ b).base, none⟩) m (ρ b).cap := by simp [val, pack, SV.isAgg, cells, offOf]
      have holdc : (Builtin.firstCells es.size m (.slice (some ⟨(ρ b).blk, (ρ b).base, none⟩) m (ρ b).cap)).run P w.drew = .ok (cells ρ old).toArray w.drew := by
        have := (hold.run ρ D w hh (hd I N ρ D a he).2).2.2 w.drew rfl
        rwa [hbase] at this
      by_cases hroom : m + n ≤ (ρ b).cap
      · -- in place
        obtain ⟨cc, T, fz, hheap, hcell, hr1, hr2, hfz⟩ := hh.obj b _ hb
        simp only [reachOf] at hr1 hr2 hfz
        have hrl := cells_length ρ row
        rw [hrow.size] at hrl
        have hle : (m + n) * es.size ≤ (ρ b).cap * es.size := Nat.mul_le_mul_right _ hroom
        have hmul : (m + n) * es.size = m * es.size + n * es.size := Nat.add_mul _ _ _
        have hst := run_storeCells_gen (P := P) (ρ b).blk ((ρ b).base + m * es.size) T fz (cells ρ row) 0 cc w hheap (by omega) (fun j _ hj => by
          have := hfz (m * es.size + j) (by omega)
          rwa [← Nat.add_assoc] at this) (fun x hx => cells_flat ρ row x hx)
        simp only [Nat.add_zero] at hst
        have hol : (overlay cc.toList (cells ρ row) ((ρ b).base + m * es.size)).length = cc.size := by simp [overlay]; omega
        have hobj : ObjAt ρ b (World.setBlk w (ρ b).blk (.cells (overlay cc.toList (cells ρ row) ((ρ b).base + m * es.size)).toArray T fz)) (.cells (some es.size) row') := by
          refine ⟨_, T, fz, setBlk_get hheap, fun j hj => ?_, by simp only [reachOf]; omega, by simp only [reachOf, List.size_toArray, hol]; exact hr2, by simp only [reachOf]; exact hfz⟩
          rw [hrs] at hj
          simp only [List.getElem?_toArray]
          rw [hcells]
          have hlo := cells_length ρ old
          rw [hold.size] at hlo
          unfold overlay
          have e : (List.take ((ρ b).base + m * es.size) cc.toList).length = (ρ b).base + m * es.size := by simp; omega
          by_cases hjl : j < m * es.size
          · have hR : (cells ρ old ++ cells ρ row)[j]? = (cells ρ old)[j]? := List.getElem?_append_left (by omega)
            rw [hR, List.append_assoc, List.getElem?_append_left (by rw [e]; omega), List.getElem?_take, if_pos (by omega)]
            have h1 := hat0 ρ j hjl
            have h2 := hl0.2 ρ j (by omega)
            simp only [Nat.zero_mul, Nat.zero_add, offOf] at h1 h2
            rw [← h1, ← h2, ← hcell j (by have := hl0.1; simp only [offOf] at this; omega)]
            simp
          · have hR : (cells ρ old ++ cells ρ row)[j]? = (cells ρ row)[j - (cells ρ old).length]? := List.getElem?_append_right (by omega)
            rw [hR, List.append_assoc, List.getElem?_append_right (by rw [e]; omega), e, List.getElem?_append_left (by omega)]
            congr 1; omega
        obtain ⟨q1, q2⟩ := HRel.set hh hb (o := .cells (some es.size) row') (hwf D hwo hwr) hobj
        obtain ⟨q3, q4⟩ := HRel.rename q1 (b := b) (nid := nid) (o := .cells (some es.size) row') (by rw [putH_same]; rfl) hnf hD hnD
        rw [putH_put] at q3 q4
        refine ⟨_, _, ?_, q3, q2.trans q4, by simpa [Wf] using hnD⟩
        obtain ⟨d1, _⟩ := hd I N ρ D a he
        obtain ⟨x1, _⟩ := hx I N ρ D a he
        have hs := hsrc N ρ D a w he hh
        have hrun : (Builtin.append_ #[dT, xT] type #[.slice (some ⟨(ρ b).blk, (ρ b).base, none⟩) m (ρ b).cap, val ρ xv]).run P w = .ok (.slice (some ⟨(ρ b).blk, (ρ b).base, none⟩) (m + n) (ρ b).cap) (World.setBlk w (ρ b).blk (.cells (overlay cc.toList (cells ρ row) ((ρ b).base + m * es.size)).toArray T fz)) := by
          have hcl := hs.cells
          rw [hi2] at hcl
          rcases hs.kind with ⟨e', hk⟩ | hk <;> simp [Builtin.append_, run_underlying hud.1, run_underlying hk, sizeOf, typeInfo, hi1, hi2, hs.len, hroom, hcl, Addr.add_lit, hst]
        have ev : val (putP ρ nid (ρ b)) (.slc nid [] es.size 0 (m + n) none) = .slice (some ⟨(ρ b).blk, (ρ b).base, none⟩) (m + n) (ρ b).cap := by simp [val, pack, SV.isAgg, cells, putP_same, offOf]
        rw [ev]
        simp [execOp, resolve, invoke, builtin, d1, x1, hbase, hrun]
      · obtain ⟨ρ', w', q1, q2, q3, q4⟩ := grow row' (fun _ => []) m (ρ b).cap (fun ρ => some ⟨(ρ b).blk, (ρ b).base, none⟩) hrs (by omega) h10.1 h10.2 N ρ D D' a w he hh hnf hD hnD (hwf D hwo hwr) hbase ⟨cells ρ old, holdc, hcells ρ⟩
        have hsub : ∀ c o', putH (putH h b .dead) nid (.cells (some es.size) row') c = some o' → putH h nid (.cells (some es.size) row') c = some o' := fun c o' hc => by
          by_cases e0 : c = nid
          · subst e0; rw [putH_same] at hc ⊢; exact hc
          · rw [putH_other e0] at hc ⊢
            by_cases e1 : c = b
            · subst e1; rw [putH_same] at hc; simp [SObj.live] at hc
            · rw [putH_other e1] at hc; exact hc
        refine ⟨ρ', w', q1, ?_, ?_, q4⟩
        · exact ⟨⟨fun c o' hc => q2.wf.dom c o' (hsub c o' hc)⟩, fun c o' hc => q2.obj c o' (hsub c o' hc), fun c o1 c' o2 hc hc' => q2.inj c o1 c' o2 (hsub c o1 hc) (hsub c' o2 hc'), q2.imm, fun c o' hc => q2.off c o' (hsub c o' hc)⟩
        · exact ⟨q3.le, q3.agree, q3.os, q3.tape, q3.output, q3.size, q3.frame, fun c o' hc => q3.img c o' (hsub c o' hc)⟩
    · simp at h8
  · -- nothing is appended
    have := Nat.eq_of_beq_eq_true hn0
    subst this
    simp only [Nat.beq_refl, cond_true] at h8
    left
    have gen : ∀ (base : Option Addr) (len cap : Nat) (N : Nat) (ρ : Nat → Pl) (D : Nat → Prop) (a : Act) (w : World), EnvOk I N ρ D g a → HRel I ρ D h w → val ρ dv = .slice base len cap → len ≤ cap → (execOp a.eval ⟨dst, .call ⟨.builtin .append, #[d, x], #[dT, xT]⟩, type, pos, after, guard⟩).run P w = .ok (.value (val ρ dv)) w := by
      intro base len cap N ρ D a w he hh hval hle
      obtain ⟨d1, _⟩ := hd I N ρ D a he
      obtain ⟨x1, _⟩ := hx I N ρ D a he
      have hs := hsrc N ρ D a w he hh
      have hcl := hs.cells
      rw [hi2] at hcl
      have hl0 : cells ρ row = [] := by
        have := cells_length ρ row
        rw [hrow.size] at this
        simpa using this
      rw [hl0] at hcl
      have hrun : (Builtin.append_ #[dT, xT] type #[.slice base len cap, val ρ xv]).run P w = .ok (.slice base len cap) w := by
        rcases hs.kind with ⟨e', hk⟩ | hk <;> cases base <;> simp [Builtin.append_, run_underlying hud.1, run_underlying hk, sizeOf, typeInfo, hi1, hi2, hs.len, hle, hcl, storeCells]
      simp [execOp, resolve, invoke, builtin, d1, x1, hval, hrun]
    split at h8
    · exact ⟨_, h8, fun D N ρ a w he hh => ⟨gen none 0 0 N ρ D a w he hh (by simp [val, pack, SV.isAgg, cells]) (Nat.le_refl _), by simp [Wf]⟩⟩
    · rename_i b p sz off len c
      obtain ⟨h9, h10⟩ := bif_some h8
      exact ⟨_, h10, fun D N ρ a w he hh => ⟨gen _ len c N ρ D a w he hh rfl (Nat.le_of_ble_eq_true h9), (hd I N ρ D a he).2⟩⟩
    · rename_i b sz len
      obtain ⟨m, old, h9, hold⟩ := rowAt_spec (P := P) (I := I) h8
      split at h9 <;> try (simp at h9; done)
      rename_i sz' v hb
      obtain ⟨h12, h13⟩ := bif_some h9
      have := Nat.eq_of_beq_eq_true h12
      subst this
      obtain ⟨e1, e2, gg, v0, u0, hb0, hl0, hle0, hat0⟩ := hold.at_ b [] sz 0 len none rfl
      subst e1; subst e2
      rw [hb] at hb0
      cases hb0
      refine ⟨_, h13, fun D N ρ a w he hh => ⟨gen (some ⟨(ρ b).blk, (ρ b).base, none⟩) m (ρ b).cap N ρ D a w he hh (by simp [val, pack, SV.isAgg, cells, offOf]) ?_, (hd I N ρ D a he).2⟩⟩
      obtain ⟨cc, T, fz, hheap, hcell, hr1, hr2, hfz⟩ := hh.obj b _ hb
      simp only [reachOf] at hr1
      have := hl0.1
      exact Nat.le_of_mul_le_mul_right (by omega : m * es.size ≤ (ρ b).cap * es.size) (by omega)
    · simp at h8
end
end Go.Sh
