/-
  pval_spec.
-/
import Derived.Test.YtigomjcmpafeeaaSk5
import Derived.ChangeKeysEq
set_option linter.unusedSimpArgs false
set_option linter.unusedVariables false
namespace Go.Sh
open Go

section
variable {α : Type} {P : Program} {I : Imm}

theorem sizeB_spec {e : TypeId} {n : Nat} (h : sizeB P e n = true) : (P.info? e).map (·.size) = some n := by
  unfold sizeB at h
  split at h
  · rename_i i hi; rw [hi]; simp [Nat.eq_of_beq_eq_true h]
  · cases h
theorem aggB_spec {e : TypeId} {g : Bool} (h : aggB P e g = true) : ∃ d, P.underlying e = some d ∧ aggDesc d = g := by
  unfold aggB at h
  split at h
  · rename_i d hd; exact ⟨d, hd, by simpa using h⟩
  · cases h

theorem seqF_spec {d : Nat} {q : Shape → SV → SV → (Bool → R α) → R α} {B : TypeId → Shape → Bool}
    (hq : ∀ (t : TypeId) (s : Shape) (x y : SV) (k : Bool → R α) (r : α), q s x y k = some r → B t s = true → ∃ c, k c = some r ∧ ∀ e, d ≤ e → ∀ ρ (w : World), (Op.equalIn e t (val ρ x) (val ρ y)).run P w = .ok c w) {a b : SV} :
    ∀ {F : List Field} {fs : List (Nat × Nat × Bool × Shape)} {i : Nat} {k : Bool → R α} {r : α}, seqF q a b i fs k = some r → fieldsB P B F fs = true →
      ∃ c, k c = some r ∧ ∀ e, d ≤ e → ∀ ρ (w : World), (Op.eqFields e (cells ρ a).toArray (cells ρ b).toArray F).run P w = .ok c w
  | [], [], i, k, r, h, _ => ⟨true, h, fun e _ ρ w => by simp [Op.eqFields]⟩
  | [], _ :: _, _, _, _, _, hB => by simp [fieldsB] at hB
  | _ :: _, [], _, _, _, _, hB => by simp [fieldsB] at hB
  | f :: F, (o, sz, g, s) :: fs, i, k, r, h, hB => by
    simp only [fieldsB, Bool.and_eq_true] at hB
    obtain ⟨⟨⟨⟨⟨hn, ho⟩, hsz⟩, hag⟩, hqB⟩, hrest⟩ := hB
    have ho' := Nat.eq_of_beq_eq_true ho
    obtain ⟨x, h1, hx, _⟩ := sub_spec h
    obtain ⟨h2, h3⟩ := bif_some h1
    obtain ⟨y, h4, hy, _⟩ := sub_spec h3
    obtain ⟨h5, h6⟩ := bif_some h4
    obtain ⟨c, h7, hc⟩ := hq _ _ _ _ _ _ h6 hqB
    obtain ⟨c', h8, hc'⟩ := seqF_spec (B := B) hq h7 hrest
    obtain ⟨dd, hd1, hd2⟩ := aggB_spec hag
    refine ⟨c && c', h8, fun e he ρ w => ?_⟩
    have e1 := run_part_of hd1 (sizeB_spec hsz) hd2 (ρ := ρ) (by simpa [offOf, Step.off] using hx) h2 w
    have e2 := run_part_of hd1 (sizeB_spec hsz) hd2 (ρ := ρ) (by simpa [offOf, Step.off] using hy) h5 w
    have hn' : f.name ≠ "_" := by simpa using hn
    simp only [Op.eqFields, hn', ne_eq, not_false_eq_true, if_true, Sem.run_bind, ho', e1, e2, hc e he ρ w, Result.andThen_ok]
    cases c
    · simp
    · simpa using hc' e he ρ w

theorem eqItems_ints {el : TypeId} {kd : IntKind} (hu : P.underlying el = some (.int kd)) {n : Nat} {f g : Nat → Int} {e : Nat} (w : World) : ∀ (is : List Nat), (∀ i ∈ is, i < n) →
    (Op.eqItems (e + 1) el 1 ((List.range n).map fun i => Value.int kd (f i)).toArray ((List.range n).map fun i => Value.int kd (g i)).toArray is).run P w = .ok (is.all fun i => f i == g i) w
  | [], _ => by simp [Op.eqItems]
  | i :: is, h => by
    have hi := h i (by simp)
    have p1 : (part el ((List.range n).map fun i => Value.int kd (f i)).toArray (i * 1)).run P w = .ok (.int kd (f i)) w := by simp [part, isAgg, run_underlying hu, hi]
    have p2 : (part el ((List.range n).map fun i => Value.int kd (g i)).toArray (i * 1)).run P w = .ok (.int kd (g i)) w := by simp [part, isAgg, run_underlying hu, hi]
    have ih := eqItems_ints hu (e := e) (f := f) (g := g) w is fun j hj => h j (by simp [hj])
    simp only [Op.eqItems, Sem.run_bind, p1, p2, run_equalIn_int w e el _ _ _ _ hu, Result.andThen_ok, List.all_cons]
    cases hb : (f i == g i)
    · simp
    · simpa using ih

theorem seqB_spec : ∀ {d : Nat} (t : TypeId) (s : Shape) (a b : SV) (k : Bool → R α) (r : α), seqB d s a b k = some r → shB P d t s = true → ∃ c, k c = some r ∧ ∀ e, d ≤ e → ∀ ρ (w : World), (Op.equalIn e t (val ρ a) (val ρ b)).run P w = .ok c w
  | 0, _, _, _, _, _, _, h, _ => by simp [seqB] at h
  | d + 1, t, s, a, b, k, r, h, hB => by
    unfold shB at hB
    split at hB <;> try (simp at hB; done)
    · rename_i hu
      simp only [seqB] at h
      split at h <;> try (simp at h; done)
      exact ⟨_, h, fun e he ρ w => by obtain ⟨e, rfl⟩ : ∃ e', e = e' + 1 := ⟨e - 1, by omega⟩; rw [val_bool, val_bool]; exact run_equalIn_bool w e t _ _ hu⟩
    · rename_i kd k' hu
      have hk := of_decide_eq_true hB
      subst hk
      simp only [seqB] at h
      split at h <;> try (simp at h; done)
      obtain ⟨h1, h2⟩ := bif_some h
      simp only [Bool.and_eq_true, decide_eq_true_eq] at h1
      obtain ⟨rfl, rfl⟩ := h1
      exact ⟨_, h2, fun e he ρ w => by obtain ⟨e, rfl⟩ : ∃ e', e = e' + 1 := ⟨e - 1, by omega⟩; rw [val_int, val_int, run_equalIn_int w e t _ _ _ _ hu]⟩
    · rename_i hu
      simp only [seqB] at h
      split at h <;> try (simp at h; done)
      exact ⟨_, h, fun e he ρ w => by obtain ⟨e, rfl⟩ : ∃ e', e = e' + 1 := ⟨e - 1, by omega⟩; rw [val_str, val_str]; exact run_equalIn_string w e t _ _ hu⟩
    · rename_i F fs hu
      simp only [Bool.and_eq_true, Bool.not_eq_true'] at hB
      simp only [seqB] at h
      obtain ⟨h1, h2⟩ := bif_some h
      simp only [Bool.and_eq_true] at h1
      obtain ⟨c, h3, h4⟩ := seqF_spec (P := P) (B := shB P d) (d := d) (fun t s x y k r hq hb => seqB_spec t s x y k r hq hb) h2 hB.2
      refine ⟨c, h3, fun e he ρ w => ?_⟩
      obtain ⟨e, rfl⟩ : ∃ e', e = e' + 1 := ⟨e - 1, by omega⟩
      have hf : P.fieldsOf t = F := by simp [Program.fieldsOf, hu]
      rw [val_agg ρ h1.1, val_agg ρ h1.2, run_equalIn_struct w e t _ _ (by rw [hf]; exact hu) hB.1, hf]
      exact h4 e (by omega) ρ w
    · rename_i n el n' es s hu
      simp only [Bool.and_eq_true] at hB
      simp only [seqB] at h
      split at h <;> try (simp at h; done)
      rename_i j m f j' m' g kd
      obtain ⟨h1, h2⟩ := bif_some h
      simp only [Bool.and_eq_true, decide_eq_true_eq] at h1
      obtain ⟨⟨hj, hj'⟩, he1, hm1, hm2⟩ := h1
      have hes := Nat.eq_of_beq_eq_true he1
      have hm := Nat.eq_of_beq_eq_true hm1
      have hm' := Nat.eq_of_beq_eq_true hm2
      have hn := Nat.eq_of_beq_eq_true hB.1.1
      subst hes hm hm' hn
      have hsz := sizeB_spec hB.1.2
      have hel : P.underlying el = some (.int kd) := by
        have := hB.2
        cases d with
        | zero => simp [shB] at this
        | succ d =>
          cases hu2 : P.underlying el with
          | none => simp [shB, hu2] at this
          | some dd =>
            cases dd <;> simp [shB, hu2] at this
            rw [this]
      cases hi : P.info? el with
      | none => simp [hi] at hsz
      | some i =>
        have hc : P.cellsOf el = 1 := by simp [hi] at hsz; simp [Program.cellsOf, hi, hsz]
        refine ⟨_, h2, fun e he ρ w => ?_⟩
        obtain ⟨e, rfl⟩ : ∃ e', e = e' + 1 := ⟨e - 1, by omega⟩
        cases d with
        | zero => simp [shB] at hB
        | succ d =>
          obtain ⟨e, rfl⟩ : ∃ e', e = e' + 1 := ⟨e - 1, by omega⟩
          rw [val_agg ρ rfl, val_agg ρ rfl, run_equalIn_array w (e + 1) _ _ hu hi, hc, hj, hj']
          exact eqItems_ints hel w _ fun i hi => List.mem_range.1 hi

theorem eqop_spec {te : TE} (hte : TEok P te) {t : TypeId} {a b : SV} {k : Bool → R α} {r : α} (h : eqop te t a b k = some r) :
    ∃ c, k c = some r ∧ ∀ ρ (w : World), (Op.equal t (val ρ a) (val ρ b)).run P w = .ok c w ∧ (∀ kd x, val ρ a ≠ .int kd x) ∧ (∀ z, val ρ a ≠ .string z) ∧ (∀ kd x, val ρ a ≠ .float kd x) ∧ (∀ kd x y, val ρ a ≠ .complex kd x y) ∧ (val ρ a ≠ .nilIface) ∧ (P.eqGuardType P.depth t = false ∨ ∀ z, val ρ a ≠ .agg z) := by
  unfold eqop at h
  split at h
  · rename_i x y
    obtain ⟨s, h1, ht⟩ := tlook_spec h hte
    obtain ⟨h2, h3⟩ := bif_some h1
    have hd := ht.desc
    cases hsd : s.sd with
    | sc d =>
      rw [hsd] at hd h2
      cases d <;> simp [isBoolSD] at h2
      exact ⟨_, h3, fun ρ w => ⟨run_equal_bool w t x y hd.1, by simp [val_bool], by simp [val_bool], by simp [val_bool], by simp [val_bool], by simp [val_bool], .inr (by simp [val_bool])⟩⟩
    | st fs => rw [hsd] at h2; simp [isBoolSD] at h2
    | ar n e es ea => rw [hsd] at h2; simp [isBoolSD] at h2
  · obtain ⟨s, h1, ht⟩ := tlook_spec h hte
    split at h1
    · rename_i sh hsh
      obtain ⟨h2, h3⟩ := bif_some h1
      simp only [Bool.and_eq_true] at h2
      obtain ⟨e1, e2⟩ := ht.eqs sh hsh
      obtain ⟨c, h4, h5⟩ := seqB_spec t sh a b k r h3 e1
      refine ⟨c, h4, fun ρ w => ⟨h5 Op.maxDepth (by decide) ρ w, ?_⟩⟩
      rw [val_agg ρ h2.1]
      exact ⟨by simp, by simp, by simp, by simp, by simp, .inl e2⟩
    have shape : ∀ {x : SV} {c : Bool}, nilness s.sd x = some c → ∀ ρ, (∀ kd y, val ρ x ≠ .int kd y) ∧ (∀ z, val ρ x ≠ .string z) ∧ (∀ kd y, val ρ x ≠ .float kd y) ∧ (∀ kd y z, val ρ x ≠ .complex kd y z) ∧ (val ρ x ≠ .nilIface) ∧ (P.eqGuardType P.depth t = false ∨ ∀ z, val ρ x ≠ .agg z) := by
      intro x c hx ρ
      cases x
      case vslc _ nl _ _ _ _ => cases nl <;> simp [val, pack, SV.isAgg, cells]
      all_goals (simp [nilness] at hx <;> simp [val, pack, SV.isAgg, cells])
    cases ha : nilness s.sd a with
    | none => rw [ha] at h1; simp at h1
    | some c =>
      cases hb : nilness s.sd b with
      | none => rw [ha, hb] at h1; cases c <;> simp at h1
      | some c' =>
        rw [ha, hb] at h1
        cases c'
        · cases c
          · simp at h1
          · exact ⟨false, h1, fun ρ w => ⟨(run_equalIn_nil ht ha hb ρ w 9999).2, shape ha ρ⟩⟩
        · refine ⟨c, by cases c <;> simpa using h1, fun ρ w => ⟨(run_equalIn_nil ht hb ha ρ w 9999).1, shape ha ρ⟩⟩

theorem intop2_spec {op : BinOp} {t : TypeId} {kd kd' : IntKind} {x y : Int} {k : SV → R α} {r : α} (h : intop2 op kd x kd' y k = some r) :
    ∃ v, k v = some r ∧ (∀ I n, Wf I n v) ∧ ∀ ρ (w : World), (Go.binOp op t (.int kd x) (.int kd' y)).run P w = .ok (val ρ v) w := by
  have other : (bif decide (kd = kd') then intop op kd x y k else none) = some r → op ≠ .shl → op ≠ .shr → ∃ v, k v = some r ∧ (∀ I n, Wf I n v) ∧ ∀ ρ (w : World), (Go.binOp op t (.int kd x) (.int kd' y)).run P w = .ok (val ρ v) w := by
    intro h h1 h2
    obtain ⟨h3, h4⟩ := bif_some h
    have hk := of_decide_eq_true h3
    subst hk
    obtain ⟨v, hv, hw, hr⟩ := intop_spec h4 h1 h2
    exact ⟨v, hv, hw, fun ρ w => hr ρ t w⟩
  cases op
  case shl =>
    simp only [intop2] at h
    cases hy : decide (y < 0) <;> rw [hy] at h <;> simp at h
    have hy := of_decide_eq_false hy
    exact ⟨_, h, by simp [Wf], fun ρ w => by simp [val_int, Go.binOp, Op.shift, hy, gshl]⟩
  case shr =>
    simp only [intop2] at h
    cases hy : decide (y < 0) <;> rw [hy] at h <;> simp at h
    have hy := of_decide_eq_false hy
    exact ⟨_, h, by simp [Wf], fun ρ w => by simp [val_int, Go.binOp, Op.shift, hy, gshr]⟩
  all_goals exact other h (by simp) (by simp)

theorem binop_spec {te : TE} (hte : TEok P te) {op : BinOp} {t : TypeId} {a b : SV} {k : SV → R α} {r : α} (h : binop te op t a b k = some r) :
    ∃ v, k v = some r ∧ (∀ I n, Wf I n v) ∧ ∀ ρ x y (w : World), (do eqGuard op t x y (val ρ a) (val ρ b); Go.binOp op t (val ρ a) (val ρ b) : Sem Value).run P w = .ok (val ρ v) w := by
  unfold binop at h
  split at h
  · rename_i kd x kd' y
    obtain ⟨v, hv, hw, hr⟩ := intop2_spec (P := P) (t := t) h
    refine ⟨v, hv, hw, fun ρ x' y' w => ?_⟩
    have e : (eqGuard op t x' y' (val ρ (.int kd x)) (val ρ (.int kd' y))).run P w = .ok () w := by
      cases op <;> simp [eqGuard, val_int]
    simp only [Sem.run_bind, e, Result.andThen_ok]
    exact hr ρ w
  · rename_i x y
    obtain ⟨v, hv, hw, hr⟩ := strop_spec (P := P) h
    refine ⟨v, hv, hw, fun ρ x' y' w => ?_⟩
    have e : (eqGuard op t x' y' (val ρ (.str x)) (val ρ (.str y))).run P w = .ok () w := by
      cases op <;> simp [eqGuard, val_str]
    simp only [Sem.run_bind, e, Result.andThen_ok]
    exact hr ρ t w
  · have key : ∀ {op : BinOp} {neg : Bool}, (op = .eql ∧ neg = false) ∨ (op = .neq ∧ neg = true) → ∀ {c : Bool}, (∀ ρ (w : World), (Op.equal t (val ρ a) (val ρ b)).run P w = .ok c w ∧ (∀ kd x, val ρ a ≠ .int kd x) ∧ (∀ z, val ρ a ≠ .string z) ∧ (∀ kd x, val ρ a ≠ .float kd x) ∧ (∀ kd x y, val ρ a ≠ .complex kd x y) ∧ (val ρ a ≠ .nilIface) ∧ (P.eqGuardType P.depth t = false ∨ ∀ z, val ρ a ≠ .agg z)) →
        ∀ ρ x y (w : World), (do eqGuard op t x y (val ρ a) (val ρ b); Go.binOp op t (val ρ a) (val ρ b) : Sem Value).run P w = .ok (.bool (c ^^ neg)) w := by
      intro op neg ho c hr ρ x' y' w
      obtain ⟨h1, h2, h3, h4, h5, h6, h7⟩ := hr ρ w
      generalize val ρ a = va at *
      generalize val ρ b = vb at *
      have e : (eqGuard op t x' y' va vb).run P w = .ok () w := by
        rcases ho with ⟨rfl, _⟩ | ⟨rfl, _⟩ <;> cases va <;> first | (exact absurd rfl h6) | (rcases h7 with h7 | h7 <;> first | (exact absurd rfl (h7 _)) | (cases vb <;> simp [eqGuard, h7])) | simp [eqGuard]
      simp only [Sem.run_bind, e, Result.andThen_ok]
      rcases ho with ⟨rfl, rfl⟩ | ⟨rfl, rfl⟩ <;> cases va <;> first | (exact absurd rfl (h2 _ _)) | (exact absurd rfl (h3 _)) | (exact absurd rfl (h4 _ _)) | (exact absurd rfl (h5 _ _ _)) | (simp [Go.binOp, h1])
    cases op <;> simp only [cmpop] at h <;> try (simp at h; done)
    · obtain ⟨c, hc, hr⟩ := eqop_spec hte h
      exact ⟨_, hc, by simp [Wf], fun ρ x' y' w => by have := key (.inl ⟨rfl, rfl⟩) hr ρ x' y' w; simpa [val_bool] using this⟩
    · obtain ⟨c, hc, hr⟩ := eqop_spec hte h
      exact ⟨_, hc, by simp [Wf], fun ρ x' y' w => by have := key (.inr ⟨rfl, rfl⟩) hr ρ x' y' w; simpa [val_bool] using this⟩

theorem unop_spec {op : UnOp} {a : SV} {k : SV → R α} {r : α} (h : unop op a k = some r) :
    ∃ v, k v = some r ∧ (∀ I n, Wf I n v) ∧ ∀ ρ (w : World), (Op.unary op (val ρ a)).run P w = .ok (val ρ v) w := by
  unfold unop at h
  split at h <;> try (simp at h; done)
  · exact ⟨_, h, by simp [Wf], fun ρ w => by simp [Op.unary, val_int, Op.intArith]⟩
  · exact ⟨_, h, by simp [Wf], fun ρ w => by simp only [Op.unary, val_int, Op.intBits, Sem.run_pure, bitop]⟩
  · exact ⟨_, h, by simp [Wf], fun ρ w => by simp [Op.unary, val_bool]⟩

theorem conv_spec {src dst : TypeId} {s d : STy} (hs : TyOk P src s) (hd : TyOk P dst d) {a : SV} {k : SV → R α} {r : α} (h : conv d.sd a k = some r) :
    ∃ v, k v = some r ∧ (∀ I n, Wf I n v) ∧ ∀ ρ (w : World), (convert src dst (val ρ a)).run P w = .ok (val ρ v) w := by
  unfold conv at h
  have hdd := hd.desc
  obtain ⟨ds, hs1⟩ := ty_under hs
  split at h <;> try (simp at h; done)
  · rename_i kd _ x hsd
    rw [hsd] at hdd
    refine ⟨_, h, by simp [Wf], fun ρ w => ?_⟩
    simp only [convert, Sem.run_bind, run_underlying hs1, run_underlying hdd.1, Result.andThen_ok, val_int]
    cases ds <;> simp [Conv.intToInt]
  · rename_i x hsd
    rw [hsd] at hdd
    refine ⟨_, h, by simp [Wf], fun ρ w => ?_⟩
    simp only [convert, Sem.run_bind, run_underlying hs1, run_underlying hdd.1, Result.andThen_ok, val_str]
    cases ds <;> simp

theorem convH_spec {te : TE} (hte : TEok P te) {src dst : TypeId} {s d : STy} (hs : TyOk P src s) (hd : TyOk P dst d) {h : HF} {a : SV} {k : SV → R α} {r : α} (hk : convH te s.sd d.sd h a k = some r) :
    ∃ v, k v = some r ∧ (∀ I n, Wf I n v) ∧ ∀ I ρ n (w : World), HRel I ρ n h w → (convert src dst (val ρ a)).run P w = .ok (val ρ v) w := by
  have hsd := hs.desc
  have hdd := hd.desc
  unfold convH at hk
  split at hk
  · rename_i b p sz off len cap
    split at hk <;> try (simp at hk; done)
    rename_i e h1 h2
    obtain ⟨es, h3, hes⟩ := tlook_spec hk hte
    have hed := hes.desc
    split at h3 <;> try (simp at h3; done)
    rename_i h4
    split at h3 <;> try (simp at h3; done)
    rename_i g v hb
    obtain ⟨u, h5, hl, _⟩ := sub_spec h3
    split at h5 <;> try (simp at h5; done)
    rename_i m f _
    obtain ⟨h6, h7⟩ := bif_some h5
    simp only [Bool.and_eq_true, decide_eq_true_eq] at h6
    obtain ⟨h6, h8⟩ := h6
    have := Nat.eq_of_beq_eq_true h6
    subst this
    rw [h1] at hsd; rw [h2] at hdd; rw [h4] at hed
    refine ⟨_, h7, by simp [Wf], fun I ρ n w hh => ?_⟩
    have ev : val ρ (.slc b p 1 off len cap) = .slice (some ⟨(ρ b).blk, (ρ b).base + offOf p + off, none⟩) len (match cap with | some c => c | none => (ρ b).cap - off) := by
      simp only [val, pack, SV.isAgg, cells, Nat.mul_one, Nat.add_assoc]; rfl
    rw [ev, val_str]
    refine run_convert_bytes_arg w src e hsd.1 hed.1 _ _ _ _ _ (by simp) (fun i hi => ?_) dst hdd.1
    have := hh.cell (j := off + i) hb hl (by simp [SV.size]; omega)
    rw [show (ρ b).base + offOf p + off + i = (ρ b).base + offOf p + (off + i) by omega, this]
    simp [cells, hi, show off + i < m by omega]
  · split at hk <;> try (simp at hk; done)
    rename_i e h1 h2
    obtain ⟨es, h3, hes⟩ := tlook_spec hk hte
    have hed := hes.desc
    split at h3 <;> try (simp at h3; done)
    rename_i h4
    rw [h1] at hsd; rw [h2] at hdd; rw [h4] at hed
    refine ⟨_, h3, by simp [Wf], fun I ρ n w hh => ?_⟩
    have ev : val ρ .nils = .slice none 0 0 := by simp [val, pack, SV.isAgg, cells]
    rw [ev, val_str]
    exact run_convert_bytes_nil w src e hsd.1 hed.1 _ _ dst hdd.1
  · obtain ⟨v, h4, hw, hr⟩ := conv_spec hs hd hk
    exact ⟨v, h4, hw, fun I ρ n w _ => hr ρ w⟩

theorem fields_at {t : TypeId} {s : STy} (ht : TyOk P t s) {fs : List (Nat × Nat × Bool)} (hsd : s.sd = .st fs) : ∃ F : Array Field, P.underlying t = some (.struct F) ∧
    ∀ (i : Nat) (f : Nat × Nat × Bool), fs[i]? = some f → ∃ fd : Field, F[i]? = some fd ∧ fd.offset = f.1 ∧ (P.info? fd.type).map (·.size) = some f.2.1 ∧ isAggT P fd.type = some f.2.2 := by
  have hd := ht.desc
  rw [hsd] at hd
  obtain ⟨F, h1, h2⟩ := hd
  refine ⟨F, h1, fun i f hf => ?_⟩
  have e := congrArg (fun l => l[i]?) h2
  simp only [List.getElem?_map, hf, Option.map_some] at e
  cases hF : F.toList[i]? with
  | none => rw [hF] at e; simp at e
  | some fd =>
    rw [hF] at e
    simp only [Option.map_some, Option.some.injEq, Prod.mk.injEq] at e
    exact ⟨fd, by simpa using hF, e.1, e.2.1, e.2.2⟩

theorem run_sizeOf' {t : TypeId} {n : Nat} (h : (P.info? t).map (·.size) = some n) (w : World) : (sizeOf t).run P w = .ok n w := by
  cases hi : P.info? t with
  | none => simp [hi] at h
  | some i => simp [hi] at h; simp [sizeOf, typeInfo, hi, h]

theorem isAggT_spec {t : TypeId} {g : Bool} (h : isAggT P t = some g) : ∃ d, P.underlying t = some d ∧ aggDesc d = g := by
  unfold isAggT at h
  cases hu : P.underlying t with
  | none => simp [hu] at h
  | some d => simp [hu] at h; exact ⟨d, rfl, h⟩

def POk (P : Program) (I : Imm) (g : EF) (e : HF) (o : Oper) (v : SV) : Prop :=
  ∀ n N ρ a w, EnvOk I N ρ n g a → HRel I ρ n e w → (execOp a.eval o).run P w = .ok (.value (val ρ v)) w ∧ Wf I n v

theorem run_store_free {β : Type} (x : Sem β) (w : World) (v : β) (h : x.run P w = .ok v w) (f : β → Next) : (do pure (f (← x)) : Sem Next).run P w = .ok (f v) w := by
  simp [h]
end
end Go.Sh
