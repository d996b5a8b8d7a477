/-
  SoloSameness, plainly: states that differ in one register of control alone.
-/
import Derived.Test.YtodnffhcbhlifaaGreatSpL27
set_option linter.unusedSimpArgs false
set_option linter.unusedVariables false
namespace Go.Sh
open Go
set_option linter.unusedVariables false
theorem updA {β:Type} (f:Nat→β) (i:Nat) (x:β):upd f i x i=x:=by simp [upd]
theorem updN {β:Type} {f:Nat→β} {i j:Nat} {x:β} (h:j ≠ i):upd f i x j=f j:=by
  have e:Nat.beq j i=false:=by
    cases q:Nat.beq j i
    · rfl
    · exact absurd (Nat.eq_of_beq_eq_true q) h
  simp only [upd,e,cond_false]
theorem xor_ne (x:Int):bitop .xor .u64 x 1 ≠ x:=by
  intro h
  have hb:=bitop_u64 .xor x 1
  rw [h] at hb
  have e:bitop .xor .u64 x 1=((x.toNat ^^^ 1:Nat):Int):=bitop_xor hb.1 hb.2 (by omega) (by omega)
  rw [h] at e
  have e2:x.toNat=x.toNat ^^^ 1:=by omega
  have e3:=congrArg (fun n=>Nat.testBit n 0) e2
  simp at e3
  omega
theorem inc_ne (x:Int):IntKind.u64.wrap (x+ 1) ≠ x:=by
  rw [wrap_u64_mod]; omega
def sm (a b:GState):Bool:=(((List.range 32).all fun i=>a.X i==b.X i) && ((a.PC==b.PC) && ((a.Level==b.Level) && ((a.V==b.V) && (((List.range 29).all fun i=>(upd a.C 21 (b.C 21)) i==b.C i) && ((a.Done==b.Done) && true))))))
theorem same_eq {α:Type} (a b:GState) (k:Bool→R α):p_zz a b k=k (sm a b):=rfl
theorem sm_of (s:GState) (C D:Nat→Int):sm (GState.mk s.X s.PC s.Level s.V C s.Done) (GState.mk s.X s.PC s.Level s.V D s.Done)=(List.range 29).all fun i=>(upd C 21 (D 21)) i==D i:=by
  unfold sm
  simp
theorem all_upd (C:Nat→Int) (v:Int):((List.range 29).all fun i=>(upd C 21 (upd C 21 v 21)) i==upd C 21 v i)=true:=by
  rw [List.all_eq_true]
  intro i _
  rw [updA]
  simp
theorem all_upd2 (C:Nat→Int) (v:Int):((List.range 29).all fun i=>(upd (upd C 21 v) 21 (C 21)) i==C i)=true:=by
  rw [List.all_eq_true]
  intro i _
  by_cases h:i=21
  · subst h; rw [updA]; simp
  · rw [updN h,updN h]; simp
theorem all_k (C:Nat→Int) (k:Nat) (hk:k < 29) (v:Int) (hv:v ≠ C k):((List.range 29).all fun i=>(upd C 21 (upd C k v 21)) i==upd C k v i)=(k==21):=by
  by_cases h:k=21
  · subst h
    rw [all_upd]; rfl
  · have e:(k==21)=false:=by simpa using h
    rw [e,List.all_eq_false]
    refine ⟨k,List.mem_range.2 hk,?_⟩
    rw [updN h,updA]
    simp
    exact fun q=>hv q.symm
theorem sm_x (s:GState) (k:Nat) (hk:k < 32) (v:Int) (hv:v ≠ s.X k):sm s (GState.mk (upd s.X k v) s.PC s.Level s.V s.C s.Done)=false:=by
  have e:((List.range 32).all fun i=>s.X i==upd s.X k v i)=false:=by
    rw [List.all_eq_false]
    refine ⟨k,List.mem_range.2 hk,?_⟩
    rw [updA]
    simp
    exact fun q=>hv q.symm
  unfold sm
  rw [e]; rfl
theorem sameness_eq {α:Type} (s:GState) (n v:Int) (hn:0≤n∧n < 256) (k:Bool→R α):p_z1x (fun k=>k true) p_zz s n v k=k true:=by
  have w:IntKind.i64.wrap n=n:=wrap_i64 (by omega) (by omega)
  have h29:Int.tmod n 29=((n.toNat % 29:Nat):Int):=by rw [Int.tmod_eq_emod_of_nonneg hn.1]; omega
  have h32:Int.tmod n 32=((n.toNat % 32:Nat):Int):=by rw [Int.tmod_eq_emod_of_nonneg hn.1]; omega
  unfold p_z1x
  simp only [same_eq,w,h29,h32,Int.toNat_natCast]
  have l29:n.toNat % 29 < 29:=Nat.mod_lt _ (by decide)
  have l32:n.toNat % 32 < 32:=Nat.mod_lt _ (by decide)
  generalize n.toNat % 29=i at *
  generalize n.toNat % 32=j at *
  have g29:(decide ((0:Int)≤(i:Int)) && decide ((i:Int) < 29))=true:=by simp; omega
  have g32:(decide ((0:Int)≤(j:Int)) && decide ((j:Int) < 32))=true:=by simp; omega
  have c1:sm s (GState.mk s.X s.PC s.Level s.V (upd s.C 21 v) s.Done)=true:=(sm_of s s.C _).trans (all_upd s.C v)
  have c2:sm (GState.mk s.X s.PC s.Level s.V (upd s.C 21 v) s.Done) s=true:=(sm_of s _ s.C).trans (all_upd2 s.C v)
  have c3:sm s (GState.mk s.X s.PC s.Level s.V (upd s.C i (bitop .xor .u64 (s.C i) 1)) s.Done)=(i==21):=(sm_of s s.C _).trans (all_k s.C i l29 _ (xor_ne _))
  have c4:=sm_x s j l32 (IntKind.u64.wrap (s.X j+ 1)) (inc_ne _)
  have e:((i:Int)==21)=(i==21):=by
    by_cases h:i=21
    · subst h; rfl
    · have a:(i==21)=false:=by simpa using h
      have b:((i:Int)==21)=false:=by simp; omega
      rw [a,b]
  simp only [g29,g32,decide_eq_true l29,decide_eq_true l32,c1,c2,c3,c4,e,cond_true,Bool.not_true,cond_false,beq_self_eq_true,Bool.not_false]
end Go.Sh
