/-
  The law AccessPlain, plainly.
-/
import Derived.Test.YthcpbmgbehidlaaSpPl17
namespace Go.Sh
open Go
set_option linter.unusedSimpArgs false
set_option linter.unusedVariables false
theorem zero_w64 : W64 0 := ⟨by omega, by omega⟩
theorem place_w64 {fr a : Int} : W64 (joinS fr a) := bitop_u64 .or _ _
theorem bif_ind {β : Type} {P : β → Prop} (b : Bool) {x y : β} (hx : P x) (hy : P y) : P (bif b then x else y) := by cases b <;> assumption
theorem second_w64 {g : Nat → Int} {s : Bool} {h p k : Int} (hp : W64 p) : W64 (secondS g s h p k).1 := by
  unfold secondS
  exact bif_ind (P := fun x : Int × Int × Int => W64 x.1) _ (bif_ind (P := fun x : Int × Int × Int => W64 x.1) _ zero_w64 hp) (bif_ind (P := fun x : Int × Int × Int => W64 x.1) _ zero_w64 (bif_ind (P := fun x : Int × Int × Int => W64 x.1) _ zero_w64 place_w64))
theorem first_w64 {f : Nat → Int} {fst sec sum mxr : Bool} {root host a kind : Int} {v user : Bool} (ha : W64 a) : W64 (firstS f fst sec sum mxr root host a kind v user).place := by
  unfold firstS
  exact bif_ind (P := fun x : Firsts => W64 x.place) _ ha (bif_ind (P := fun x : Firsts => W64 x.place) _ zero_w64 (bif_ind (P := fun x : Firsts => W64 x.place) _ zero_w64 (bif_ind (P := fun x : Firsts => W64 x.place) _ zero_w64 place_w64)))
theorem transA_w64 {f : Nat → Int} {A : Asking} {a kind : Int} {user v : Bool} (ha : W64 a) : W64 (transA f A a kind user v).to := by
  unfold transA
  exact bif_ind (P := fun x : Trans => W64 x.to) _ (bif_ind (P := fun x : Trans => W64 x.to) _ ha ha) (bif_ind (P := fun x : Trans => W64 x.to) _ zero_w64 (bif_ind (P := fun x : Trans => W64 x.to) _ zero_w64 (bif_ind (P := fun x : Trans => W64 x.to) _ zero_w64 (second_w64 (first_w64 ha)))))
abbrev trO (m : Nat → Int) (s : GState) (a kind level : Int) (v : Bool) : Trans := transA m (askS s.C level v) a kind (level == 0) v
def doB (b : GBus) (s : GState) (a n kind value level : Int) (v : Bool) : GBus × Int × GFault × Bool :=
  if (alignedS a n kind v).2 = false then (nB b, 0, (alignedS a n kind v).1, false) else
  if (trO b.m s a kind level v).ok = false then (nB b, 0, gF (trO b.m s a kind level v).f, false) else
  (nB (atB (nB b) (trO b.m s a kind level v).to a n kind value v).1, (atB (nB b) (trO b.m s a kind level v).to a n kind value v).2)
theorem do_eq {α : Type} {b : GBus} (s : GState) {a : Int} (ha : W64 a) (hb : Few b) (n kind value level : Int) (v : Bool) (k : GBus → Int → GFault → Bool → R α) : p_z1 sAligned sTrans sAt b s a n kind value level v k = k (doB b s a n kind value level v).1 (doB b s a n kind value level v).2.1 (doB b s a n kind value level v).2.2.1 (doB b s a n kind value level v).2.2.2 := by
  unfold p_z1 doB sAligned sTrans sAt
  dsimp only
  simp only [GN, gN_self]
  rw [grd_pos ha]
  have hto : W64 (trO b.m s a kind level v).to := transA_w64 ha
  change (cond (!(alignedS a n kind v).2) (k (nB b) 0 (alignedS a n kind v).1 false) (cond (!(trO b.m s a kind level v).ok) (k (nB b) 0 (gF (trO b.m s a kind level v).f) false)
    (grd (W64 (trO b.m s a kind level v).to ∧ Few (nB b)) (k (nB (atB (nB b) (trO b.m s a kind level v).to a n kind value v).1) (atB (nB b) (trO b.m s a kind level v).to a n kind value v).2.1 (atB (nB b) (trO b.m s a kind level v).to a n kind value v).2.2.1 (atB (nB b) (trO b.m s a kind level v).to a n kind value v).2.2.2)))) = _
  rw [grd_pos ⟨hto, few_nB hb⟩]
  cases (alignedS a n kind v).2
  · rfl
  · cases (trO b.m s a kind level v).ok <;> rfl
def sDoK {α : Type} : Sg_z1 α := fun b s a n kind value level v k => cond (decide (0 ≤ a) && (decide (a < 18446744073709551616) && (Nat.ble (b.ports 0).outp.n 64 && (Nat.ble (b.ports 1).outp.n 64 && (Nat.ble (b.ports 2).outp.n 64 && Nat.ble (b.ports 3).outp.n 64)))))
  (k (doB b s a n kind value level v).1 (doB b s a n kind value level v).2.1 (doB b s a n kind value level v).2.2.1 (doB b s a n kind value level v).2.2.2) none
theorem doK_some {α : Type} {b : GBus} {s : GState} {a n kind value level : Int} {v : Bool} {k : GBus → Int → GFault → Bool → R α} {r : α} (h : sDoK b s a n kind value level v k = some r) : (W64 a ∧ Few b) ∧ k (doB b s a n kind value level v).1 (doB b s a n kind value level v).2.1 (doB b s a n kind value level v).2.2.1 (doB b s a n kind value level v).2.2.2 = some r := by
  unfold sDoK at h
  cases hb : (decide (0 ≤ a) && (decide (a < 18446744073709551616) && (Nat.ble (b.ports 0).outp.n 64 && (Nat.ble (b.ports 1).outp.n 64 && (Nat.ble (b.ports 2).outp.n 64 && Nat.ble (b.ports 3).outp.n 64))))) <;> rw [hb] at h
  · cases h
  · simp only [Bool.and_eq_true, decide_eq_true_eq, Nat.ble_eq] at hb
    obtain ⟨h1, h2, h3, h4, h5, h6⟩ := hb
    refine ⟨⟨⟨h1, h2⟩, fun i hi => ?_⟩, h⟩
    have : i = 0 ∨ i = 1 ∨ i = 2 ∨ i = 3 := by omega
    rcases this with rfl | rfl | rfl | rfl <;> assumption
theorem doK_eq {α : Type} {b : GBus} {a : Int} (ha : W64 a) (hb : Few b) (s : GState) (n kind value level : Int) (v : Bool) (k : GBus → Int → GFault → Bool → R α) : sDoK b s a n kind value level v k = k (doB b s a n kind value level v).1 (doB b s a n kind value level v).2.1 (doB b s a n kind value level v).2.2.1 (doB b s a n kind value level v).2.2.2 := by
  unfold sDoK
  have : (decide (0 ≤ a) && (decide (a < 18446744073709551616) && (Nat.ble (b.ports 0).outp.n 64 && (Nat.ble (b.ports 1).outp.n 64 && (Nat.ble (b.ports 2).outp.n 64 && Nat.ble (b.ports 3).outp.n 64))))) = true := by
    simp only [Bool.and_eq_true, decide_eq_true_eq, Nat.ble_eq]
    exact ⟨ha.1, ha.2, hb 0 (by omega), hb 1 (by omega), hb 2 (by omega), hb 3 (by omega)⟩
  rw [this]; rfl
def sKnown17 {α : Type} : Sg_zd α := fun k => k true
abbrev b0 : GBus := (GBus.mk (fun _ => 0) 0 18446744073709551615 (upd (upd (upd (fun _ => (GPort.mk (Row.mk 0 fun _ => 0) (Row.mk 0 fun _ => 0) 0)) 1 (GPort.mk (Row.mk 0 fun _ => 0) (Row.mk 0 fun _ => 0) 0)) 2 (GPort.mk (Row.mk 0 fun _ => 0) (Row.mk 0 fun _ => 0) 0)) 3 (GPort.mk (Row.mk 0 fun _ => 0) (Row.mk 0 fun _ => 0) 0)))
abbrev s0 : GState := ⟨fun _ => 0, 0, 3, false, fun _ => 0, 0⟩
theorem few_0 : Few b0 := fun i hi => by
  have : i = 0 ∨ i = 1 ∨ i = 2 ∨ i = 3 := by omega
  rcases this with rfl | rfl | rfl | rfl <;> exact Nat.zero_le _
theorem tr3 (m : Nat → Int) (a kind : Int) : (trO m s0 a kind 3 false).to = a ∧ (trO m s0 a kind 3 false).ok = true := by
  have h0 : trO m s0 a kind 3 false = (bif ltB a 65536 then ⟨a, ⟨true, false, pageOf a, 0, 0, pageOf a, 255, 255, pageOf a⟩, noFault, true⟩ else ⟨a, ⟨true, false, 0, 0, 0, 0, 255, 255, 0⟩, noFault, true⟩) := rfl
  rw [h0]
  cases ltB a 65536 <;> exact ⟨rfl, rfl⟩
theorem doB3 (b : GBus) (a n kind value : Int) : doB b s0 a n kind value 3 false = if (alignedS a n kind false).2 = false then (nB b, 0, (alignedS a n kind false).1, false) else (nB (atB (nB b) a a n kind value false).1, (atB (nB b) a a n kind value false).2) := by
  obtain ⟨h1, h2⟩ := tr3 b.m a kind
  unfold doB
  rw [h1, h2, if_neg (show ¬ true = false by simp)]
theorem few_write {b : GBus} (h : Few b) (a n v : Int) : Few (writeB b a n v).1 := by
  unfold writeB
  split
  · exact few_nB h
  · split
    · rename_i i hi
      intro j hj
      show ((nB _).ports j).outp.n ≤ 64
      rw [four_ports, four_at _ _ hj]
      show (upd b.ports i _ j).outp.n ≤ 64
      unfold upd
      cases Nat.beq j i
      · exact h j hj
      · show (pushR _ _).n ≤ 64
        unfold pushR
        show _ + 1 - (_ + 1 - 64) ≤ 64
        omega
    · exact few_nB h
theorem few_at {b : GBus} (h : Few b) (a n v : Int) : Few (atB b a a n 2 v false).1 := by
  unfold atB
  rw [if_neg (fun e => absurd e.1 (by omega)), if_pos rfl]
  split <;> exact few_nB (few_write (few_nB h) a n v)
theorem conI_mem {a : Int} (h : ¬ Dev a) : conI a = none := by
  cases hc : conI a with
  | none => rfl
  | some i =>
    exfalso; apply h
    rcases conI_some hc with ⟨e, _⟩ | ⟨e, _⟩ | ⟨e, _⟩ | ⟨e, _⟩ <;> subst e <;> exact ⟨by omega, by omega⟩
theorem write_mem {b : GBus} {a : Int} (h : ¬ Dev a) (n v : Int) : writeB b a n v = (nB ⟨writeS b.m a n v, b.time, b.alarm, b.ports⟩, checkS a n == 0) := by
  unfold writeB
  rw [if_neg (fun e => h ⟨by omega, by omega⟩), conI_mem h]
  simp
theorem read_mem {b : GBus} {a : Int} (h : ¬ Dev a) (n : Int) : readB b a n = (nB b, readS b.m a n, checkS a n == 0) := by
  unfold readB
  rw [if_neg (fun e => h ⟨by omega, by omega⟩), if_neg (fun e => h ⟨by omega, by omega⟩), conI_mem h]
  simp
theorem store_load {a n v : Int} (ha : W64 a) (hv : W64 v) (hn : N4 n) (hm : a % n = 0) (hl : a < 32768) : readS (writeS (fun _ => 0) a n v) a n = v % 2 ^ (8 * n.toNat) := by
  have hc : checkS a n = 0 := by
    unfold checkS
    rw [if_neg (by rcases hn with rfl | rfl | rfl | rfl <;> simp [hm]), if_neg (by omega)]
  rw [readS_le (writeS_byte zero_byte a n hv) hc]
  have hb : le (fun i => writeS (fun _ => 0) a n v (a.toNat + i)) n.toNat = le (fun i => v / 256 ^ i % 256) n.toNat := le_congr fun i hi => by
    rw [writeS_at hc hv, if_pos (by omega)]
    congr 2
    rw [show a.toNat + i - a.toNat = i by omega]
  rw [hb]
  have p0 : (256 : Int) ^ 0 = 1 := rfl
  have p1 : (256 : Int) ^ 1 = 256 := rfl
  have p2 : (256 : Int) ^ 2 = 65536 := rfl
  have p3 : (256 : Int) ^ 3 = 16777216 := rfl
  obtain ⟨v0, v1⟩ := hv
  rcases hn with rfl | rfl | rfl | rfl
  · show le (fun i => v / 256 ^ i % 256) 1 = v % 256
    simp only [le]; rw [p0]; omega
  · show le (fun i => v / 256 ^ i % 256) 2 = v % 65536
    simp only [le]; rw [p0, p1]; omega
  · show le (fun i => v / 256 ^ i % 256) 4 = v % 4294967296
    simp only [le]; rw [p0, p1, p2, p3]; omega
  · show le (fun i => v / 256 ^ i % 256) 8 = v % 18446744073709551616
    rw [le_parts ⟨v0, v1⟩]; omega
theorem zext_8n {α : Type} {n v : Int} (hv : W64 v) (hn : N4 n) (k : Int → R α) : p_zg v (IntKind.i64.wrap (8 * n)) k = k (v % 2 ^ (8 * n.toNat)) := by
  obtain ⟨v0, v1⟩ := hv
  rcases hn with rfl | rfl | rfl | rfl
  · have e : p_zg v (IntKind.i64.wrap (8 * 1)) k = k (bitop .and .u64 v 255) := rfl
    rw [e, show bitop .and .u64 v 255 = v % 2 ^ 8 from and_mask (k := 8) v0 v1 (by omega)]; rfl
  · have e : p_zg v (IntKind.i64.wrap (8 * 2)) k = k (bitop .and .u64 v 65535) := rfl
    rw [e, show bitop .and .u64 v 65535 = v % 2 ^ 16 from and_mask (k := 16) v0 v1 (by omega)]; rfl
  · have e : p_zg v (IntKind.i64.wrap (8 * 4)) k = k (bitop .and .u64 v 4294967295) := rfl
    rw [e, show bitop .and .u64 v 4294967295 = v % 2 ^ 32 from and_mask (k := 32) v0 v1 (by omega)]; rfl
  · have e : p_zg v (IntKind.i64.wrap (8 * 8)) k = k v := rfl
    rw [e]
    have : v = v % 18446744073709551616 := by omega
    exact congrArg k this
structure Plain (a n v : Int) (f g : GFault) (ok is : Bool) (x : Int) : Prop where
  mis : a % n ≠ 0 → ok = false ∧ is = false ∧ f.Cause = 6 ∧ g.Cause = 4 ∧ f.Value = a
  mem : a % n = 0 → a < 32768 → ok = true ∧ is = true ∧ x = v % 2 ^ (8 * n.toNat) ∧ f = okF
  dev : a % n = 0 → 32768 ≤ a → Dev a → (ok = true ∨ f.Cause = 7) ∧ (is = true ∨ g.Cause = 5)
  far : a % n = 0 → 32768 ≤ a → ¬ Dev a → ok = false ∧ is = false ∧ f.Cause = 7 ∧ g.Cause = 5 ∧ x = 0
theorem al_t {a n : Int} (hn : N4 n) (hm : a % n = 0) (kind : Int) : alignedS a n kind false = (okF, true) := by
  unfold alignedS
  rw [if_neg (fun e => e hn), if_neg (fun e => e hm)]
theorem al_f {a n : Int} (hn : N4 n) (hm : a % n ≠ 0) (kind : Int) : alignedS a n kind false = (misF a kind false, false) := by
  unfold alignedS
  rw [if_neg (fun e => e hn), if_pos hm]
theorem plain_two {a n v : Int} (ha : W64 a) (hv : W64 v) (hn : N4 n) (y : GBus) (hy : y = (doB b0 s0 a n 2 v 3 false).1) :
    Few (NB y) ∧ Plain a n v (doB b0 s0 a n 2 v 3 false).2.2.1 (doB (NB y) s0 a n 1 0 3 false).2.2.1 (doB b0 s0 a n 2 v 3 false).2.2.2 (doB (NB y) s0 a n 1 0 3 false).2.2.2 (doB (NB y) s0 a n 1 0 3 false).2.1 := by
  have hN : ∀ b : GBus, NB b = nB b := fun _ => rfl
  rw [hN]
  by_cases hm : a % n = 0
  · have e1 := al_t hn hm 2
    have e2 := al_t hn hm 1
    rw [doB3, e1, if_neg (show ¬ true = false by simp)] at hy
    rw [doB3, doB3, e1, e2, if_neg (show ¬ true = false by simp), if_neg (show ¬ true = false by simp)]
    have hf : Few y := by rw [hy]; exact few_nB (few_at (few_nB few_0) a n v)
    refine ⟨few_nB hf, fun h => absurd hm h, fun _ hl => ?_, fun _ _ _ => ?_, fun _ hl hd => ?_⟩
    · have hd : ¬ Dev a := fun e => by have := e.1; omega
      have hc : checkS a n = 0 := by
        unfold checkS
        rw [if_neg (by rcases hn with rfl | rfl | rfl | rfl <;> simp [hm]), if_neg (by omega)]
      have hc' : (checkS a n == 0) = true := by rw [hc]; rfl
      have A : atB (nB b0) a a n 2 v false = (nB (writeB (nB (nB b0)) a n v).1, 0, okF, true) := by
        unfold atB
        rw [if_neg (fun e => absurd e.1 (by omega)), if_pos rfl, write_mem hd, hc', if_pos rfl]
      have B : atB (nB (nB y)) a a n 1 0 false = (nB (readB (nB (nB (nB y))) a n).1, readS y.m a n, okF, true) := by
        unfold atB
        rw [if_neg (fun e => absurd e.1 (by omega)), if_neg (by omega), read_mem hd, hc', if_pos rfl]
        rfl
      rw [A, B]
      refine ⟨rfl, rfl, ?_, rfl⟩
      have hym : y.m = writeS (fun _ => 0) a n v := by
        rw [hy, A, write_mem hd]; rfl
      show readS y.m a n = _
      rw [hym]
      exact store_load ha hv hn hm hl
    · constructor
      · unfold atB
        rw [if_neg (fun e => absurd e.1 (by omega)), if_pos rfl]
        split
        · exact .inl rfl
        · exact .inr rfl
      · unfold atB
        rw [if_neg (fun e => absurd e.1 (by omega)), if_neg (by omega)]
        split
        · exact .inl rfl
        · exact .inr rfl
    · have hc : checkS a n = 60 := by
        unfold checkS
        rw [if_neg (by rcases hn with rfl | rfl | rfl | rfl <;> simp [hm]), if_pos hl]
      have hc' : (checkS a n == 0) = false := by rw [hc]; rfl
      have A : atB (nB b0) a a n 2 v false = (nB (writeB (nB (nB b0)) a n v).1, 0, badF a 2 false, false) := by
        unfold atB
        rw [if_neg (fun e => absurd e.1 (by omega)), if_pos rfl, write_mem hd, hc', if_neg (by simp)]
      have B : atB (nB (nB y)) a a n 1 0 false = (nB (readB (nB (nB (nB y))) a n).1, 0, badF a 1 false, false) := by
        unfold atB
        rw [if_neg (fun e => absurd e.1 (by omega)), if_neg (by omega), read_mem hd, hc', if_neg (by simp)]
      rw [A, B]
      exact ⟨rfl, rfl, rfl, rfl, rfl⟩
  · have e1 := al_f hn hm 2
    have e2 := al_f hn hm 1
    rw [doB3, e1, if_pos rfl] at hy
    rw [doB3, doB3, e1, e2, if_pos rfl, if_pos rfl]
    refine ⟨?_, fun _ => ⟨rfl, rfl, rfl, rfl, rfl⟩, fun h => absurd h hm, fun h => absurd h hm, fun h => absurd h hm⟩
    rw [hy]; exact few_nB (few_nB few_0)
theorem plain_core {α : Type} {Fk : Sg_zd α} {Fd : Sg_z1 α} {Fz : Sg_zg α} {x0 x1 x2 e n x : Int} {y1 y2 : GBus} {q : Int} {f g : GFault} {ok is : Bool} (hk : ∀ k' : Bool → R α, Fk k' = k' true)
    (he : IntKind.u64.wrap (Int.tmod x1 4) = e) (h0 : 0 ≤ e) (hs : gshl .i64 1 e = n) (hn : N4 n) (hw : IntKind.u64.wrap n = n) (ha : 0 ≤ x0)
    (h1 : ∀ k' : GBus → Int → GFault → Bool → R α, Fd b0 s0 x0 n 2 x2 3 false k' = k' y1 q f ok) (h2 : ∀ k' : GBus → Int → GFault → Bool → R α, Fd (NB y1) s0 x0 n 1 0 3 false k' = k' y2 x g is)
    (hz : ∀ k' : Int → R α, Fz x2 (IntKind.i64.wrap (8 * n)) k' = k' (x2 % 2 ^ (8 * n.toNat))) (H : Plain x0 n x2 f g ok is x) (k : Bool → R α) : p_zw Fk Fd Fz x0 x1 x2 k = k true := by
  have d1 : decide (e < 0) = false := decide_eq_false (by omega)
  have hn0 : n ≠ 0 := by rcases hn with rfl | rfl | rfl | rfl <;> omega
  have d2 : decide (n = 0) = false := decide_eq_false hn0
  unfold p_zw
  have h1' := h1
  have h2' := h2
  have GE : ∀ (b : GBus) (k : R α), GN b k = k := fun b k => by simp only [GN, gN_self]
  simp only [b0, s0] at h1' h2'
  simp only [hk, Bool.not_true, cond_false, he, d1, hs, h1', GE, h2', hw, d2, Int.tmod_eq_emod_of_nonneg ha, hz]
  have z (x : Int) : (x == x) = true := by simp
  by_cases hm : x0 % n = 0
  · have e1 : (x0 % n != 0) = false := by simp [hm]
    simp only [e1, cond_false]
    by_cases hl : x0 < 32768
    · obtain ⟨p1, p2, p3, p4⟩ := H.mem hm hl
      have e2 : ltB x0 32768 = true := by rw [ltB_true]; exact hl
      simp only [e2, p1, p2, p3, p4, z, cond_true, Bool.and_true]
      rfl
    · have e2 : ltB x0 32768 = false := by unfold ltB; exact decide_eq_false hl
      simp only [e2, cond_false]
      by_cases hd : Dev x0
      · have e3 : leB 61440 x0 = true := by rw [leB_true]; exact hd.1
        have e4 : ltB x0 62720 = true := by rw [ltB_true]; exact hd.2
        obtain ⟨p1, p2⟩ := H.dev hm (by omega) hd
        simp only [e3, e4, cond_true]
        rcases p1 with p1 | p1 <;> rcases p2 with p2 | p2 <;> simp only [p1, p2, z, cond_true] <;> (first | (cases ok <;> rfl) | (cases is <;> rfl) | (cases ok <;> cases is <;> rfl) | rfl)
      · obtain ⟨p1, p2, p3, p4, p5⟩ := H.far hm (by omega) hd
        have key : (cond (leB 61440 x0) (cond (ltB x0 62720) (cond ok (cond is (k true) (k (g.Cause == 5))) (cond (f.Cause == 7) (cond is (k true) (k (g.Cause == 5))) (k false))) (k true)) (k true) : R α) = k true := by
          cases e3 : leB 61440 x0
          · rfl
          · cases e4 : ltB x0 62720
            · rfl
            · exact absurd ⟨by rw [leB_true] at e3; exact e3, by rw [ltB_true] at e4; exact e4⟩ hd
        simp only [p1, p2, p3, p4, p5, z, cond_true, cond_false, Bool.not_false] at key ⊢
        exact key
  · obtain ⟨p1, p2, p3, p4, p5⟩ := H.mis hm
    have e1 : (x0 % n != 0) = true := by simpa using hm
    simp only [e1, p1, p2, p3, p4, p5, z, cond_true, Bool.not_false]
abbrev PlainOk (a n v : Int) : Prop := W64 a ∧ (0 ≤ n ∧ n < 256) ∧ W64 v
noncomputable def sPlain17 {α : Type} : Sg_zw α := fun a n v k => grd (PlainOk a n v) (k true)
theorem plain17_eq {α : Type} {x0 x1 x2 : Int} (h : PlainOk x0 x1 x2) (k : Bool → R α) : p_zw sKnown17 sDoK p_zg x0 x1 x2 k = k true := by
  obtain ⟨ha, h1, hv⟩ := h
  obtain ⟨e, he, he1⟩ : ∃ e, IntKind.u64.wrap (Int.tmod x1 4) = e ∧ (e = 0 ∨ e = 1 ∨ e = 2 ∨ e = 3) := by
    refine ⟨_, rfl, ?_⟩
    rw [Int.tmod_eq_emod_of_nonneg h1.1, wrap_u64 (by omega) (by omega)]
    omega
  obtain ⟨n, hs, hn, hw⟩ : ∃ n, gshl .i64 1 e = n ∧ N4 n ∧ IntKind.u64.wrap n = n := by
    rcases he1 with rfl | rfl | rfl | rfl
    · exact ⟨1, rfl, .inl rfl, rfl⟩
    · exact ⟨2, rfl, .inr (.inl rfl), rfl⟩
    · exact ⟨4, rfl, .inr (.inr (.inl rfl)), rfl⟩
    · exact ⟨8, rfl, .inr (.inr (.inr rfl)), rfl⟩
  obtain ⟨hf, hP⟩ := plain_two ha hv hn _ rfl
  exact plain_core (fun _ => rfl) he (by omega) hs hn hw ha.1 (fun k' => doK_eq ha few_0 s0 n 2 x2 3 false k') (fun k' => doK_eq ha hf s0 n 1 0 3 false k') (zext_8n hv hn) hP k
end Go.Sh
