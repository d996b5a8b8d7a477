/-
  pval_spec.
-/
import Derived.Test.YtcoicmgdjkabaaaSh5
namespace Go.Sh
open Go

section
variable {α : Type} {P : Program} {I : Imm}

theorem eqop_spec {te : TE} (hte : TEok P te) {t : TypeId} {a b : SV} {k : Bool → R α} {r : α} (h : eqop te t a b k = some r) :
    ∃ c, k c = some r ∧ ∀ ρ (w : World), (Op.equal t (val ρ a) (val ρ b)).run P w = .ok c w ∧ (∀ kd x, val ρ a ≠ .int kd x) ∧ (∀ z, val ρ a ≠ .string z) ∧ (∀ kd x, val ρ a ≠ .float kd x) ∧ (∀ kd x y, val ρ a ≠ .complex kd x y) ∧ (val ρ a ≠ .nilIface) ∧ (∀ z, val ρ a ≠ .agg z) := by
  unfold eqop at h
  split at h
  · rename_i x y
    obtain ⟨s, h1, ht⟩ := tlook_spec h hte
    obtain ⟨h2, h3⟩ := bif_some h1
    have hd := ht.desc
    cases hsd : s.sd with
    | sc d =>
      rw [hsd] at hd h2
      cases d <;> simp [isBoolSD] at h2
      exact ⟨_, h3, fun ρ w => ⟨run_equal_bool w t x y hd.1, by simp [val_bool], by simp [val_bool], by simp [val_bool], by simp [val_bool], by simp [val_bool], by simp [val_bool]⟩⟩
    | st fs => rw [hsd] at h2; simp [isBoolSD] at h2
    | ar n e es ea => rw [hsd] at h2; simp [isBoolSD] at h2
  · obtain ⟨s, h1, ht⟩ := tlook_spec h hte
    have shape : ∀ {x : SV} {c : Bool}, nilness s.sd x = some c → ∀ ρ, (∀ kd y, val ρ x ≠ .int kd y) ∧ (∀ z, val ρ x ≠ .string z) ∧ (∀ kd y, val ρ x ≠ .float kd y) ∧ (∀ kd y z, val ρ x ≠ .complex kd y z) ∧ (val ρ x ≠ .nilIface) ∧ (∀ z, val ρ x ≠ .agg z) := by
      intro x c hx ρ
      cases x <;> simp [nilness] at hx <;> simp [val, pack, SV.isAgg, cells]
    cases ha : nilness s.sd a with
    | none => rw [ha] at h1; simp at h1
    | some c =>
      cases hb : nilness s.sd b with
      | none => rw [ha, hb] at h1; cases c <;> simp at h1
      | some c' =>
        rw [ha, hb] at h1
        cases c'
        · cases c
          · simp at h1
          · exact ⟨false, h1, fun ρ w => ⟨(run_equalIn_nil ht ha hb ρ w 9999).2, shape ha ρ⟩⟩
        · refine ⟨c, by cases c <;> simpa using h1, fun ρ w => ⟨(run_equalIn_nil ht hb ha ρ w 9999).1, shape ha ρ⟩⟩

theorem intop2_spec {op : BinOp} {t : TypeId} {kd kd' : IntKind} {x y : Int} {k : SV → R α} {r : α} (h : intop2 op kd x kd' y k = some r) :
    ∃ v, k v = some r ∧ (∀ I n, Wf I n v) ∧ ∀ ρ (w : World), (Go.binOp op t (.int kd x) (.int kd' y)).run P w = .ok (val ρ v) w := by
  have other : (bif decide (kd = kd') then intop op kd x y k else none) = some r → op ≠ .shl → op ≠ .shr → ∃ v, k v = some r ∧ (∀ I n, Wf I n v) ∧ ∀ ρ (w : World), (Go.binOp op t (.int kd x) (.int kd' y)).run P w = .ok (val ρ v) w := by
    intro h h1 h2
    obtain ⟨h3, h4⟩ := bif_some h
    have hk := of_decide_eq_true h3
    subst hk
    obtain ⟨v, hv, hw, hr⟩ := intop_spec h4 h1 h2
    exact ⟨v, hv, hw, fun ρ w => hr ρ t w⟩
  cases op
  case shl =>
    simp only [intop2] at h
    cases hy : decide (y < 0) <;> rw [hy] at h <;> simp at h
    have hy := of_decide_eq_false hy
    exact ⟨_, h, by simp [Wf], fun ρ w => by simp [val_int, Go.binOp, Op.shift, hy, gshl]⟩
  case shr =>
    simp only [intop2] at h
    cases hy : decide (y < 0) <;> rw [hy] at h <;> simp at h
    have hy := of_decide_eq_false hy
    exact ⟨_, h, by simp [Wf], fun ρ w => by simp [val_int, Go.binOp, Op.shift, hy, gshr]⟩
  all_goals exact other h (by simp) (by simp)

theorem binop_spec {te : TE} (hte : TEok P te) {op : BinOp} {t : TypeId} {a b : SV} {k : SV → R α} {r : α} (h : binop te op t a b k = some r) :
    ∃ v, k v = some r ∧ (∀ I n, Wf I n v) ∧ ∀ ρ x y (w : World), (do eqGuard op t x y (val ρ a) (val ρ b); Go.binOp op t (val ρ a) (val ρ b) : Sem Value).run P w = .ok (val ρ v) w := by
  unfold binop at h
  split at h
  · rename_i kd x kd' y
    obtain ⟨v, hv, hw, hr⟩ := intop2_spec (P := P) (t := t) h
    refine ⟨v, hv, hw, fun ρ x' y' w => ?_⟩
    have e : (eqGuard op t x' y' (val ρ (.int kd x)) (val ρ (.int kd' y))).run P w = .ok () w := by
      cases op <;> simp [eqGuard, val_int]
    simp only [Sem.run_bind, e, Result.andThen_ok]
    exact hr ρ w
  · rename_i x y
    obtain ⟨v, hv, hw, hr⟩ := strop_spec (P := P) h
    refine ⟨v, hv, hw, fun ρ x' y' w => ?_⟩
    have e : (eqGuard op t x' y' (val ρ (.str x)) (val ρ (.str y))).run P w = .ok () w := by
      cases op <;> simp [eqGuard, val_str]
    simp only [Sem.run_bind, e, Result.andThen_ok]
    exact hr ρ t w
  · have key : ∀ {op : BinOp} {neg : Bool}, (op = .eql ∧ neg = false) ∨ (op = .neq ∧ neg = true) → ∀ {c : Bool}, (∀ ρ (w : World), (Op.equal t (val ρ a) (val ρ b)).run P w = .ok c w ∧ (∀ kd x, val ρ a ≠ .int kd x) ∧ (∀ z, val ρ a ≠ .string z) ∧ (∀ kd x, val ρ a ≠ .float kd x) ∧ (∀ kd x y, val ρ a ≠ .complex kd x y) ∧ (val ρ a ≠ .nilIface) ∧ (∀ z, val ρ a ≠ .agg z)) →
        ∀ ρ x y (w : World), (do eqGuard op t x y (val ρ a) (val ρ b); Go.binOp op t (val ρ a) (val ρ b) : Sem Value).run P w = .ok (.bool (c ^^ neg)) w := by
      intro op neg ho c hr ρ x' y' w
      obtain ⟨h1, h2, h3, h4, h5, h6, h7⟩ := hr ρ w
      generalize val ρ a = va at *
      generalize val ρ b = vb at *
      have e : (eqGuard op t x' y' va vb).run P w = .ok () w := by
        rcases ho with ⟨rfl, _⟩ | ⟨rfl, _⟩ <;> cases va <;> first | (exact absurd rfl h6) | (exact absurd rfl (h7 _)) | simp [eqGuard]
      simp only [Sem.run_bind, e, Result.andThen_ok]
      rcases ho with ⟨rfl, rfl⟩ | ⟨rfl, rfl⟩ <;> cases va <;> first | (exact absurd rfl (h2 _ _)) | (exact absurd rfl (h3 _)) | (exact absurd rfl (h4 _ _)) | (exact absurd rfl (h5 _ _ _)) | (simp [Go.binOp, h1])
    cases op <;> simp only [cmpop] at h <;> try (simp at h; done)
    · obtain ⟨c, hc, hr⟩ := eqop_spec hte h
      exact ⟨_, hc, by simp [Wf], fun ρ x' y' w => by have := key (.inl ⟨rfl, rfl⟩) hr ρ x' y' w; simpa [val_bool] using this⟩
    · obtain ⟨c, hc, hr⟩ := eqop_spec hte h
      exact ⟨_, hc, by simp [Wf], fun ρ x' y' w => by have := key (.inr ⟨rfl, rfl⟩) hr ρ x' y' w; simpa [val_bool] using this⟩

theorem unop_spec {op : UnOp} {a : SV} {k : SV → R α} {r : α} (h : unop op a k = some r) :
    ∃ v, k v = some r ∧ (∀ I n, Wf I n v) ∧ ∀ ρ (w : World), (Op.unary op (val ρ a)).run P w = .ok (val ρ v) w := by
  unfold unop at h
  split at h <;> try (simp at h; done)
  · exact ⟨_, h, by simp [Wf], fun ρ w => by simp [Op.unary, val_int, Op.intArith]⟩
  · exact ⟨_, h, by simp [Wf], fun ρ w => by simp only [Op.unary, val_int, Op.intBits, Sem.run_pure, bitop]⟩
  · exact ⟨_, h, by simp [Wf], fun ρ w => by simp [Op.unary, val_bool]⟩

theorem conv_spec {src dst : TypeId} {s d : STy} (hs : TyOk P src s) (hd : TyOk P dst d) {a : SV} {k : SV → R α} {r : α} (h : conv d.sd a k = some r) :
    ∃ v, k v = some r ∧ (∀ I n, Wf I n v) ∧ ∀ ρ (w : World), (convert src dst (val ρ a)).run P w = .ok (val ρ v) w := by
  unfold conv at h
  have hdd := hd.desc
  obtain ⟨ds, hs1⟩ := ty_under hs
  split at h <;> try (simp at h; done)
  · rename_i kd _ x hsd
    rw [hsd] at hdd
    refine ⟨_, h, by simp [Wf], fun ρ w => ?_⟩
    simp only [convert, Sem.run_bind, run_underlying hs1, run_underlying hdd.1, Result.andThen_ok, val_int]
    cases ds <;> simp [Conv.intToInt]
  · rename_i x hsd
    rw [hsd] at hdd
    refine ⟨_, h, by simp [Wf], fun ρ w => ?_⟩
    simp only [convert, Sem.run_bind, run_underlying hs1, run_underlying hdd.1, Result.andThen_ok, val_str]
    cases ds <;> simp

theorem fields_at {t : TypeId} {s : STy} (ht : TyOk P t s) {fs : List (Nat × Nat × Bool)} (hsd : s.sd = .st fs) : ∃ F : Array Field, P.underlying t = some (.struct F) ∧
    ∀ (i : Nat) (f : Nat × Nat × Bool), fs[i]? = some f → ∃ fd : Field, F[i]? = some fd ∧ fd.offset = f.1 ∧ (P.info? fd.type).map (·.size) = some f.2.1 ∧ isAggT P fd.type = some f.2.2 := by
  have hd := ht.desc
  rw [hsd] at hd
  obtain ⟨F, h1, h2⟩ := hd
  refine ⟨F, h1, fun i f hf => ?_⟩
  have e := congrArg (fun l => l[i]?) h2
  simp only [List.getElem?_map, hf, Option.map_some] at e
  cases hF : F.toList[i]? with
  | none => rw [hF] at e; simp at e
  | some fd =>
    rw [hF] at e
    simp only [Option.map_some, Option.some.injEq, Prod.mk.injEq] at e
    exact ⟨fd, by simpa using hF, e.1, e.2.1, e.2.2⟩

theorem run_sizeOf' {t : TypeId} {n : Nat} (h : (P.info? t).map (·.size) = some n) (w : World) : (sizeOf t).run P w = .ok n w := by
  cases hi : P.info? t with
  | none => simp [hi] at h
  | some i => simp [hi] at h; simp [sizeOf, typeInfo, hi, h]

theorem isAggT_spec {t : TypeId} {g : Bool} (h : isAggT P t = some g) : ∃ d, P.underlying t = some d ∧ aggDesc d = g := by
  unfold isAggT at h
  cases hu : P.underlying t with
  | none => simp [hu] at h
  | some d => simp [hu] at h; exact ⟨d, rfl, h⟩

def POk (P : Program) (I : Imm) (g : EF) (n : Nat → Prop) (e : HF) (o : Oper) (v : SV) : Prop :=
  ∀ N ρ a w, EnvOk I N ρ n g a → HRel I ρ n e w → (execOp a.eval o).run P w = .ok (.value (val ρ v)) w ∧ Wf I n v

theorem run_store_free {β : Type} (x : Sem β) (w : World) (v : β) (h : x.run P w = .ok v w) (f : β → Next) : (do pure (f (← x)) : Sem Next).run P w = .ok (f v) w := by
  simp [h]
end
end Go.Sh
