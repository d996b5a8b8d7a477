/-
  sync.Once's Do, where nothing was done yet and the lock is free: the lock is taken, the function runs, 'done' is stored, the lock is let go.
-/
import Derived.Test.YtodnffhcbhlifaaGreatProg
import Derived.Test.YtodnffhcbhlifaaGreatSkC
import Derived.Tactics
import Derived.Tactics2
import Derived.Defers
import Derived.Laws.Pointers
import Derived.Laws.LoneSync
import Derived.RegionTactic
import Derived.RegionCalls
import Derived.ChangeAlike
set_option maxRecDepth 100000
set_option linter.unusedSimpArgs false
set_option linter.unusedVariables false
namespace Go.Proofs.YtodnffhcbhlifaaGreat
open Go Go.Sh Go.Proofs
theorem on_disable (w:World):(callFunc 195 #[]).run Tryz.prog w=.ok (.value (.tuple #[])) w:=run_call_mark0 Tryz.func195 (by kernel_rfl) (by kernel_rfl) (by kernel_rfl) .disable (by kernel_rfl) w
theorem on_enable (w:World):(callFunc 197 #[]).run Tryz.prog w=.ok (.value (.tuple #[])) w:=run_call_mark0 Tryz.func197 (by kernel_rfl) (by kernel_rfl) (by kernel_rfl) .enable (by kernel_rfl) w
theorem on_acquire (a:Addr) (w:World):(callFunc 198 #[.pointer (some a)]).run Tryz.prog w=.ok (.value (.tuple #[])) w:=run_call_marked Tryz.func198 (by kernel_rfl) (by kernel_rfl) (by kernel_rfl) .acquire (by kernel_rfl) a w
theorem on_release (a:Addr) (w:World):(callFunc 200 #[.pointer (some a)]).run Tryz.prog w=.ok (.value (.tuple #[])) w:=run_call_marked Tryz.func200 (by kernel_rfl) (by kernel_rfl) (by kernel_rfl) .releaseMerge (by kernel_rfl) a w
theorem on_store (a:Addr) (x:Value) (u:FrameMode) (w:World) (hc:w.cell? a=some x) (hz:w.frozen? a=false):
    CallsD Tryz.prog 190 #[.pointer (some a),.bool true] u w fun e u' w'=>u'=u∧(e=.returned (.tuple #[])∧w'=w.drew.setCell a (.int .u32 1)):=by
  have hc':w.drew.cell? a=some x:=by go_simp
  have hz':w.drew.frozen? a=false:=by go_simp
  have hst:=run_call_store (P:=Tryz.prog) Tryz.func193 (by kernel_rfl) (by kernel_rfl) (by kernel_rfl) (by kernel_rfl) (k:=.u32) (y:=1) hc' hz'
  go_enter_d Tryz.func190,Tryz.ntmps190
  go_wp2
  go_region_calls
  all_goals (go_end0; exact ⟨rfl,rfl⟩)
theorem on_unlock (a:Addr) (u:FrameMode) (w:World) (hc:w.cell? a=some (.int .i32 1)) (hz:w.frozen? a=false):
    CallsD Tryz.prog 189 #[.pointer (some a)] u w fun e u' w'=>u'=u∧(e=.returned (.tuple #[])∧w'=w.setCell a (.int .i32 0)):=by
  have hd:=on_disable
  have he:=on_enable
  have hr:=on_release
  have hadd:=run_call_add (P:=Tryz.prog) Tryz.func201 (by kernel_rfl) (by kernel_rfl) (by kernel_rfl) .i32 (by kernel_rfl) (y:= -1) (s:=0) hc hz (by simp [go_sem]; rfl)
  have hcv:=run_convert_to_unsafe (P:=Tryz.prog) (src:=308) (dst:=312) Tryz.underlying308 Tryz.underlying312 (by kernel_rfl) hc
  go_enter_d Tryz.func189,Tryz.ntmps189
  go_wp2
  go_end0
  go_wp2
  go_end0
  exact ⟨rfl,rfl⟩
theorem on_lock (a:Addr) (w:World) (hc:w.cell? a=some (.int .i32 0)) (hz:w.frozen? a=false):
    Calls Tryz.prog 188 #[.pointer (some a)] w fun e w'=>e=.returned (.tuple #[])∧w'=w.setCell a (.int .i32 1):=by
  have hd:=on_disable
  have he:=on_enable
  have ha:=on_acquire
  have hcas:=run_call_cas_hit (P:=Tryz.prog) Tryz.func196 (by kernel_rfl) (by kernel_rfl) (by kernel_rfl) .i32 (by kernel_rfl) (y:=1) hc hz
  have hc':(w.setCell a (.int .i32 1)).cell? a=some (.int .i32 1):=World.cell?_setCell_same w a _ hc
  have hcv:=run_convert_to_unsafe (P:=Tryz.prog) (src:=308) (dst:=312) Tryz.underlying308 Tryz.underlying312 (by kernel_rfl) hc'
  go_enter Tryz.func188,Tryz.ntmps188
  go_wp2
  first | go_end0 | (simp only [Exit.inBlock,Exit.then]; refine bodyPost_ret (results_none rfl _ _ _) rfl ?_) | refine bodyPost_ret (results_none rfl _ _ _) rfl ?_
  go_wp2
  go_end0
  exact ⟨rfl,rfl⟩
theorem on_load (a:Addr) (w:World) (hc:w.cell? a=some (.int .u32 0)):
    Calls Tryz.prog 185 #[.pointer (some a)] w fun e w'=>e=.returned (.bool false)∧w'=w:=by
  have hl:=run_call_load (P:=Tryz.prog) Tryz.func187 (by kernel_rfl) (by kernel_rfl) (by kernel_rfl) .u32 (by kernel_rfl) hc
  go_enter Tryz.func185,Tryz.ntmps185
  go_wp2
  go_ret
  exact ⟨rfl,rfl⟩
set_option maxHeartbeats 1600000 in
theorem on_slow (b off:Nat) (pl:Value) (w:World) (R:World→Prop)
    (h0:w.cell? ⟨b,off,none⟩=some (.int .u32 0)) (h1:w.cell? ⟨b,off+ 1,none⟩=some (.int .i32 0)) (f1:w.frozen? ⟨b,off+ 1,none⟩=false)
    (hcl:Calls Tryz.prog 184 #[pl] (w.setCell ⟨b,off+ 1,none⟩ (.int .i32 1)) fun e w2=>e=.returned (.tuple #[])∧(∃x,w2.cell? ⟨b,off,none⟩=some x)∧w2.frozen? ⟨b,off,none⟩=false∧w2.cell? ⟨b,off+ 1,none⟩=some (.int .i32 1)∧w2.frozen? ⟨b,off+ 1,none⟩=false∧R w2):
    Calls Tryz.prog 186 #[.pointer (some ⟨b,off,none⟩),.func (.func 184) #[] #[pl]] w fun e w'=>e=.returned (.tuple #[])∧
      ∃w2,R w2∧w'=(w2.drew.setCell ⟨b,off,none⟩ (.int .u32 1)).setCell ⟨b,off+ 1,none⟩ (.int .i32 0):=by
  have hl:=(World.cell?_setCell_other w ⟨b,off+ 1,none⟩ ⟨b,off,none⟩ (.int .i32 1) (by simp)).trans h0
  have hnot:∀(x:Bool) (w:World),(Op.unary .not (.bool x)).run Tryz.prog w=.ok (.bool (!x)) w:=fun _ _=>rfl
  go_enter_defers Tryz.func186,Tryz.ntmps186
  go_wp2_with (go_at_call 188; refine (on_lock ⟨b,off+ 1,none⟩ _ h1 f1).mono ?_; rintro e w' ⟨rfl,rfl⟩)
  go_wp2_with (first | (go_at_call 185; refine (on_load _ _ hl).mono ?_; rintro e w' ⟨rfl,rfl⟩) | (go_at_call 184; refine hcl.mono ?_; rintro e w' ⟨rfl,⟨x,k0⟩,z0,k1,z1,hR⟩))
  refine leaves_cons (f:=190) (args:=#[.pointer (some ⟨b,off,none⟩),.bool true]) (by simp) (by simp [go_sem]) ?_
  refine (on_store ⟨b,off,none⟩ x .returning _ k0 z0).mono ?_
  rintro e u' w'' ⟨rfl,rfl,rfl⟩
  refine leaves_cons (f:=189) (args:=#[.pointer (some ⟨b,off+ 1,none⟩)]) (by simp [settle]) (by simp [go_sem]) ?_
  refine (on_unlock ⟨b,off+ 1,none⟩ _ _ ?_ (by simp [z1])).mono ?_
  · refine (World.cell?_setCell_other _ ⟨b,off,none⟩ ⟨b,off+ 1,none⟩ _ (by simp)).trans ?_
    rw [World.cell?_drew]
    exact k1
  rintro e u' w'' ⟨rfl,rfl,rfl⟩
  simp [Leaves,settle,results,Tryz.results186]
  exact ⟨_,hR,rfl⟩
set_option maxHeartbeats 1600000 in
theorem on_do (b off:Nat) (pl:Value) (w:World) (R:World→Prop)
    (h0:w.cell? ⟨b,off,none⟩=some (.int .u32 0)) (h1:w.cell? ⟨b,off+ 1,none⟩=some (.int .i32 0)) (f1:w.frozen? ⟨b,off+ 1,none⟩=false)
    (hcl:Calls Tryz.prog 184 #[pl] (w.setCell ⟨b,off+ 1,none⟩ (.int .i32 1)) fun e w2=>e=.returned (.tuple #[])∧(∃x,w2.cell? ⟨b,off,none⟩=some x)∧w2.frozen? ⟨b,off,none⟩=false∧w2.cell? ⟨b,off+ 1,none⟩=some (.int .i32 1)∧w2.frozen? ⟨b,off+ 1,none⟩=false∧R w2):
    Calls Tryz.prog 183 #[.pointer (some ⟨b,off,none⟩),.func (.func 184) #[] #[pl]] w fun e w'=>e=.returned (.tuple #[])∧
      ∃w2,R w2∧w'=(w2.drew.setCell ⟨b,off,none⟩ (.int .u32 1)).setCell ⟨b,off+ 1,none⟩ (.int .i32 0):=by
  have hnot:∀(x:Bool) (w:World),(Op.unary .not (.bool x)).run Tryz.prog w=.ok (.bool (!x)) w:=fun _ _=>rfl
  go_enter Tryz.func183,Tryz.ntmps183
  go_wp2_with (first | (go_at_call 186; refine (on_slow b off pl _ R h0 h1 f1 hcl).mono ?_; rintro e w' ⟨rfl,hw⟩) | (go_at_call 185; refine (on_load _ _ h0).mono ?_; rintro e w' ⟨rfl,rfl⟩))
  go_end0
  exact ⟨rfl,hw⟩
end Go.Proofs.YtodnffhcbhlifaaGreat
