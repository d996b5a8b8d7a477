/-
  IsaCounts, plainly: how it begins with each count; the loop; the law.
-/
import Derived.Test.YtepdlgehceipjaaGreatSpC19b
namespace Go.Sh
open Go
set_option linter.unusedVariables false
set_option linter.unusedSimpArgs false
set_option maxRecDepth 100000
noncomputable def fin {α:Type} (F:Sg_z1 α) (k:Bool→R α) (t5:Int) (j:Nat) (y:GMachine):R α:=
  GN y.b ((((((((F (GMachine.mk y.s (NB y.b) y.steps) false (fun y' r=>cond ((j:Int)==eCnt t5) (q_law19_IsaCounts_1 k t5 y' r) (k false))))))))))
noncomputable def run {α:Type} (F:Sg_z1 α) (k:Bool→R α) (t5 c:Int):Nat→Nat→GMachine→R α
  | 0,j,M=>GN M.b ((((((((F (GMachine.mk M.s (NB M.b) M.steps) false (fun y r=>none)))))))))
  | f+ 1,j,M=>GN M.b ((((((((F (GMachine.mk M.s (NB M.b) M.steps) false (fun y r=>cond (ltB ((j+ 1:Nat):Int) c) (run F k t5 c f (j+ 1) y) (fin F k t5 (j+ 1) y))))))))))
theorem q2_run {α:Type} (F:Sg_z1 α) (k:Bool→R α) (M:GMachine) (c t5:Int):q_law19_IsaCounts_2 F k M c t5=run F k t5 c 121 1 M:=by kernel_rfl
def wK (K:Nat):Int:=(K:Int) * 1048576+ 147
abbrev conC {α:Type} (Fs:Sg_z1 α) (k:Bool→R α) (K:Nat) (y57:GMachine) (_:GRetire):R α:=cond (ltB 1 ((1+ 3 * K:Nat):Int)) (q_law19_IsaCounts_2 Fs k y57 ((1+ 3 * K:Nat):Int) K) (q_law19_IsaCounts_3 Fs k y57 K)
theorem su1 {α:Type} (Fs:Sg_z1 α) (k:Bool→R α):pC Fs ((1:Nat):Int) k=Fs (cM X0 0 0 (wK 1) 0 0) false (conC Fs k 1):=by kernel_rfl
theorem sz1 {α:Type} (d:Int) (Kf:GMachine→GRetire→R α):stepB false (cM X0 0 d (wK 1) 0 0) false Kf=Kf (GMachine.mk (cS (upd X0 1 ((1:Nat):Int)) 4 (IntKind.u64.wrap (d+ 1))) (nB13 (cB (wK 1) d)) 1) (GRetire.mk 0 1048723 1 1 false (GFault.mk 0 0 0 false) 0 false false):=by kernel_rfl
theorem su2 {α:Type} (Fs:Sg_z1 α) (k:Bool→R α):pC Fs ((2:Nat):Int) k=Fs (cM X0 0 0 (wK 2) 0 0) false (conC Fs k 2):=by kernel_rfl
theorem sz2 {α:Type} (d:Int) (Kf:GMachine→GRetire→R α):stepB false (cM X0 0 d (wK 2) 0 0) false Kf=Kf (GMachine.mk (cS (upd X0 1 ((2:Nat):Int)) 4 (IntKind.u64.wrap (d+ 1))) (nB13 (cB (wK 2) d)) 1) (GRetire.mk 0 2097299 1 2 false (GFault.mk 0 0 0 false) 0 false false):=by kernel_rfl
theorem su3 {α:Type} (Fs:Sg_z1 α) (k:Bool→R α):pC Fs ((3:Nat):Int) k=Fs (cM X0 0 0 (wK 3) 0 0) false (conC Fs k 3):=by kernel_rfl
theorem sz3 {α:Type} (d:Int) (Kf:GMachine→GRetire→R α):stepB false (cM X0 0 d (wK 3) 0 0) false Kf=Kf (GMachine.mk (cS (upd X0 1 ((3:Nat):Int)) 4 (IntKind.u64.wrap (d+ 1))) (nB13 (cB (wK 3) d)) 1) (GRetire.mk 0 3145875 1 3 false (GFault.mk 0 0 0 false) 0 false false):=by kernel_rfl
theorem su4 {α:Type} (Fs:Sg_z1 α) (k:Bool→R α):pC Fs ((4:Nat):Int) k=Fs (cM X0 0 0 (wK 4) 0 0) false (conC Fs k 4):=by kernel_rfl
theorem sz4 {α:Type} (d:Int) (Kf:GMachine→GRetire→R α):stepB false (cM X0 0 d (wK 4) 0 0) false Kf=Kf (GMachine.mk (cS (upd X0 1 ((4:Nat):Int)) 4 (IntKind.u64.wrap (d+ 1))) (nB13 (cB (wK 4) d)) 1) (GRetire.mk 0 4194451 1 4 false (GFault.mk 0 0 0 false) 0 false false):=by kernel_rfl
theorem su5 {α:Type} (Fs:Sg_z1 α) (k:Bool→R α):pC Fs ((5:Nat):Int) k=Fs (cM X0 0 0 (wK 5) 0 0) false (conC Fs k 5):=by kernel_rfl
theorem sz5 {α:Type} (d:Int) (Kf:GMachine→GRetire→R α):stepB false (cM X0 0 d (wK 5) 0 0) false Kf=Kf (GMachine.mk (cS (upd X0 1 ((5:Nat):Int)) 4 (IntKind.u64.wrap (d+ 1))) (nB13 (cB (wK 5) d)) 1) (GRetire.mk 0 5243027 1 5 false (GFault.mk 0 0 0 false) 0 false false):=by kernel_rfl
theorem su6 {α:Type} (Fs:Sg_z1 α) (k:Bool→R α):pC Fs ((6:Nat):Int) k=Fs (cM X0 0 0 (wK 6) 0 0) false (conC Fs k 6):=by kernel_rfl
theorem sz6 {α:Type} (d:Int) (Kf:GMachine→GRetire→R α):stepB false (cM X0 0 d (wK 6) 0 0) false Kf=Kf (GMachine.mk (cS (upd X0 1 ((6:Nat):Int)) 4 (IntKind.u64.wrap (d+ 1))) (nB13 (cB (wK 6) d)) 1) (GRetire.mk 0 6291603 1 6 false (GFault.mk 0 0 0 false) 0 false false):=by kernel_rfl
theorem su7 {α:Type} (Fs:Sg_z1 α) (k:Bool→R α):pC Fs ((7:Nat):Int) k=Fs (cM X0 0 0 (wK 7) 0 0) false (conC Fs k 7):=by kernel_rfl
theorem sz7 {α:Type} (d:Int) (Kf:GMachine→GRetire→R α):stepB false (cM X0 0 d (wK 7) 0 0) false Kf=Kf (GMachine.mk (cS (upd X0 1 ((7:Nat):Int)) 4 (IntKind.u64.wrap (d+ 1))) (nB13 (cB (wK 7) d)) 1) (GRetire.mk 0 7340179 1 7 false (GFault.mk 0 0 0 false) 0 false false):=by kernel_rfl
theorem su8 {α:Type} (Fs:Sg_z1 α) (k:Bool→R α):pC Fs ((8:Nat):Int) k=Fs (cM X0 0 0 (wK 8) 0 0) false (conC Fs k 8):=by kernel_rfl
theorem sz8 {α:Type} (d:Int) (Kf:GMachine→GRetire→R α):stepB false (cM X0 0 d (wK 8) 0 0) false Kf=Kf (GMachine.mk (cS (upd X0 1 ((8:Nat):Int)) 4 (IntKind.u64.wrap (d+ 1))) (nB13 (cB (wK 8) d)) 1) (GRetire.mk 0 8388755 1 8 false (GFault.mk 0 0 0 false) 0 false false):=by kernel_rfl
theorem su9 {α:Type} (Fs:Sg_z1 α) (k:Bool→R α):pC Fs ((9:Nat):Int) k=Fs (cM X0 0 0 (wK 9) 0 0) false (conC Fs k 9):=by kernel_rfl
theorem sz9 {α:Type} (d:Int) (Kf:GMachine→GRetire→R α):stepB false (cM X0 0 d (wK 9) 0 0) false Kf=Kf (GMachine.mk (cS (upd X0 1 ((9:Nat):Int)) 4 (IntKind.u64.wrap (d+ 1))) (nB13 (cB (wK 9) d)) 1) (GRetire.mk 0 9437331 1 9 false (GFault.mk 0 0 0 false) 0 false false):=by kernel_rfl
theorem su10 {α:Type} (Fs:Sg_z1 α) (k:Bool→R α):pC Fs ((10:Nat):Int) k=Fs (cM X0 0 0 (wK 10) 0 0) false (conC Fs k 10):=by kernel_rfl
theorem sz10 {α:Type} (d:Int) (Kf:GMachine→GRetire→R α):stepB false (cM X0 0 d (wK 10) 0 0) false Kf=Kf (GMachine.mk (cS (upd X0 1 ((10:Nat):Int)) 4 (IntKind.u64.wrap (d+ 1))) (nB13 (cB (wK 10) d)) 1) (GRetire.mk 0 10485907 1 10 false (GFault.mk 0 0 0 false) 0 false false):=by kernel_rfl
theorem su11 {α:Type} (Fs:Sg_z1 α) (k:Bool→R α):pC Fs ((11:Nat):Int) k=Fs (cM X0 0 0 (wK 11) 0 0) false (conC Fs k 11):=by kernel_rfl
theorem sz11 {α:Type} (d:Int) (Kf:GMachine→GRetire→R α):stepB false (cM X0 0 d (wK 11) 0 0) false Kf=Kf (GMachine.mk (cS (upd X0 1 ((11:Nat):Int)) 4 (IntKind.u64.wrap (d+ 1))) (nB13 (cB (wK 11) d)) 1) (GRetire.mk 0 11534483 1 11 false (GFault.mk 0 0 0 false) 0 false false):=by kernel_rfl
theorem su12 {α:Type} (Fs:Sg_z1 α) (k:Bool→R α):pC Fs ((12:Nat):Int) k=Fs (cM X0 0 0 (wK 12) 0 0) false (conC Fs k 12):=by kernel_rfl
theorem sz12 {α:Type} (d:Int) (Kf:GMachine→GRetire→R α):stepB false (cM X0 0 d (wK 12) 0 0) false Kf=Kf (GMachine.mk (cS (upd X0 1 ((12:Nat):Int)) 4 (IntKind.u64.wrap (d+ 1))) (nB13 (cB (wK 12) d)) 1) (GRetire.mk 0 12583059 1 12 false (GFault.mk 0 0 0 false) 0 false false):=by kernel_rfl
theorem su13 {α:Type} (Fs:Sg_z1 α) (k:Bool→R α):pC Fs ((13:Nat):Int) k=Fs (cM X0 0 0 (wK 13) 0 0) false (conC Fs k 13):=by kernel_rfl
theorem sz13 {α:Type} (d:Int) (Kf:GMachine→GRetire→R α):stepB false (cM X0 0 d (wK 13) 0 0) false Kf=Kf (GMachine.mk (cS (upd X0 1 ((13:Nat):Int)) 4 (IntKind.u64.wrap (d+ 1))) (nB13 (cB (wK 13) d)) 1) (GRetire.mk 0 13631635 1 13 false (GFault.mk 0 0 0 false) 0 false false):=by kernel_rfl
theorem su14 {α:Type} (Fs:Sg_z1 α) (k:Bool→R α):pC Fs ((14:Nat):Int) k=Fs (cM X0 0 0 (wK 14) 0 0) false (conC Fs k 14):=by kernel_rfl
theorem sz14 {α:Type} (d:Int) (Kf:GMachine→GRetire→R α):stepB false (cM X0 0 d (wK 14) 0 0) false Kf=Kf (GMachine.mk (cS (upd X0 1 ((14:Nat):Int)) 4 (IntKind.u64.wrap (d+ 1))) (nB13 (cB (wK 14) d)) 1) (GRetire.mk 0 14680211 1 14 false (GFault.mk 0 0 0 false) 0 false false):=by kernel_rfl
theorem su15 {α:Type} (Fs:Sg_z1 α) (k:Bool→R α):pC Fs ((15:Nat):Int) k=Fs (cM X0 0 0 (wK 15) 0 0) false (conC Fs k 15):=by kernel_rfl
theorem sz15 {α:Type} (d:Int) (Kf:GMachine→GRetire→R α):stepB false (cM X0 0 d (wK 15) 0 0) false Kf=Kf (GMachine.mk (cS (upd X0 1 ((15:Nat):Int)) 4 (IntKind.u64.wrap (d+ 1))) (nB13 (cB (wK 15) d)) 1) (GRetire.mk 0 15728787 1 15 false (GFault.mk 0 0 0 false) 0 false false):=by kernel_rfl
theorem su16 {α:Type} (Fs:Sg_z1 α) (k:Bool→R α):pC Fs ((16:Nat):Int) k=Fs (cM X0 0 0 (wK 16) 0 0) false (conC Fs k 16):=by kernel_rfl
theorem sz16 {α:Type} (d:Int) (Kf:GMachine→GRetire→R α):stepB false (cM X0 0 d (wK 16) 0 0) false Kf=Kf (GMachine.mk (cS (upd X0 1 ((16:Nat):Int)) 4 (IntKind.u64.wrap (d+ 1))) (nB13 (cB (wK 16) d)) 1) (GRetire.mk 0 16777363 1 16 false (GFault.mk 0 0 0 false) 0 false false):=by kernel_rfl
theorem su17 {α:Type} (Fs:Sg_z1 α) (k:Bool→R α):pC Fs ((17:Nat):Int) k=Fs (cM X0 0 0 (wK 17) 0 0) false (conC Fs k 17):=by kernel_rfl
theorem sz17 {α:Type} (d:Int) (Kf:GMachine→GRetire→R α):stepB false (cM X0 0 d (wK 17) 0 0) false Kf=Kf (GMachine.mk (cS (upd X0 1 ((17:Nat):Int)) 4 (IntKind.u64.wrap (d+ 1))) (nB13 (cB (wK 17) d)) 1) (GRetire.mk 0 17825939 1 17 false (GFault.mk 0 0 0 false) 0 false false):=by kernel_rfl
theorem su18 {α:Type} (Fs:Sg_z1 α) (k:Bool→R α):pC Fs ((18:Nat):Int) k=Fs (cM X0 0 0 (wK 18) 0 0) false (conC Fs k 18):=by kernel_rfl
theorem sz18 {α:Type} (d:Int) (Kf:GMachine→GRetire→R α):stepB false (cM X0 0 d (wK 18) 0 0) false Kf=Kf (GMachine.mk (cS (upd X0 1 ((18:Nat):Int)) 4 (IntKind.u64.wrap (d+ 1))) (nB13 (cB (wK 18) d)) 1) (GRetire.mk 0 18874515 1 18 false (GFault.mk 0 0 0 false) 0 false false):=by kernel_rfl
theorem su19 {α:Type} (Fs:Sg_z1 α) (k:Bool→R α):pC Fs ((19:Nat):Int) k=Fs (cM X0 0 0 (wK 19) 0 0) false (conC Fs k 19):=by kernel_rfl
theorem sz19 {α:Type} (d:Int) (Kf:GMachine→GRetire→R α):stepB false (cM X0 0 d (wK 19) 0 0) false Kf=Kf (GMachine.mk (cS (upd X0 1 ((19:Nat):Int)) 4 (IntKind.u64.wrap (d+ 1))) (nB13 (cB (wK 19) d)) 1) (GRetire.mk 0 19923091 1 19 false (GFault.mk 0 0 0 false) 0 false false):=by kernel_rfl
theorem su20 {α:Type} (Fs:Sg_z1 α) (k:Bool→R α):pC Fs ((20:Nat):Int) k=Fs (cM X0 0 0 (wK 20) 0 0) false (conC Fs k 20):=by kernel_rfl
theorem sz20 {α:Type} (d:Int) (Kf:GMachine→GRetire→R α):stepB false (cM X0 0 d (wK 20) 0 0) false Kf=Kf (GMachine.mk (cS (upd X0 1 ((20:Nat):Int)) 4 (IntKind.u64.wrap (d+ 1))) (nB13 (cB (wK 20) d)) 1) (GRetire.mk 0 20971667 1 20 false (GFault.mk 0 0 0 false) 0 false false):=by kernel_rfl
theorem su21 {α:Type} (Fs:Sg_z1 α) (k:Bool→R α):pC Fs ((21:Nat):Int) k=Fs (cM X0 0 0 (wK 21) 0 0) false (conC Fs k 21):=by kernel_rfl
theorem sz21 {α:Type} (d:Int) (Kf:GMachine→GRetire→R α):stepB false (cM X0 0 d (wK 21) 0 0) false Kf=Kf (GMachine.mk (cS (upd X0 1 ((21:Nat):Int)) 4 (IntKind.u64.wrap (d+ 1))) (nB13 (cB (wK 21) d)) 1) (GRetire.mk 0 22020243 1 21 false (GFault.mk 0 0 0 false) 0 false false):=by kernel_rfl
theorem su22 {α:Type} (Fs:Sg_z1 α) (k:Bool→R α):pC Fs ((22:Nat):Int) k=Fs (cM X0 0 0 (wK 22) 0 0) false (conC Fs k 22):=by kernel_rfl
theorem sz22 {α:Type} (d:Int) (Kf:GMachine→GRetire→R α):stepB false (cM X0 0 d (wK 22) 0 0) false Kf=Kf (GMachine.mk (cS (upd X0 1 ((22:Nat):Int)) 4 (IntKind.u64.wrap (d+ 1))) (nB13 (cB (wK 22) d)) 1) (GRetire.mk 0 23068819 1 22 false (GFault.mk 0 0 0 false) 0 false false):=by kernel_rfl
theorem su23 {α:Type} (Fs:Sg_z1 α) (k:Bool→R α):pC Fs ((23:Nat):Int) k=Fs (cM X0 0 0 (wK 23) 0 0) false (conC Fs k 23):=by kernel_rfl
theorem sz23 {α:Type} (d:Int) (Kf:GMachine→GRetire→R α):stepB false (cM X0 0 d (wK 23) 0 0) false Kf=Kf (GMachine.mk (cS (upd X0 1 ((23:Nat):Int)) 4 (IntKind.u64.wrap (d+ 1))) (nB13 (cB (wK 23) d)) 1) (GRetire.mk 0 24117395 1 23 false (GFault.mk 0 0 0 false) 0 false false):=by kernel_rfl
theorem su24 {α:Type} (Fs:Sg_z1 α) (k:Bool→R α):pC Fs ((24:Nat):Int) k=Fs (cM X0 0 0 (wK 24) 0 0) false (conC Fs k 24):=by kernel_rfl
theorem sz24 {α:Type} (d:Int) (Kf:GMachine→GRetire→R α):stepB false (cM X0 0 d (wK 24) 0 0) false Kf=Kf (GMachine.mk (cS (upd X0 1 ((24:Nat):Int)) 4 (IntKind.u64.wrap (d+ 1))) (nB13 (cB (wK 24) d)) 1) (GRetire.mk 0 25165971 1 24 false (GFault.mk 0 0 0 false) 0 false false):=by kernel_rfl
theorem su25 {α:Type} (Fs:Sg_z1 α) (k:Bool→R α):pC Fs ((25:Nat):Int) k=Fs (cM X0 0 0 (wK 25) 0 0) false (conC Fs k 25):=by kernel_rfl
theorem sz25 {α:Type} (d:Int) (Kf:GMachine→GRetire→R α):stepB false (cM X0 0 d (wK 25) 0 0) false Kf=Kf (GMachine.mk (cS (upd X0 1 ((25:Nat):Int)) 4 (IntKind.u64.wrap (d+ 1))) (nB13 (cB (wK 25) d)) 1) (GRetire.mk 0 26214547 1 25 false (GFault.mk 0 0 0 false) 0 false false):=by kernel_rfl
theorem su26 {α:Type} (Fs:Sg_z1 α) (k:Bool→R α):pC Fs ((26:Nat):Int) k=Fs (cM X0 0 0 (wK 26) 0 0) false (conC Fs k 26):=by kernel_rfl
theorem sz26 {α:Type} (d:Int) (Kf:GMachine→GRetire→R α):stepB false (cM X0 0 d (wK 26) 0 0) false Kf=Kf (GMachine.mk (cS (upd X0 1 ((26:Nat):Int)) 4 (IntKind.u64.wrap (d+ 1))) (nB13 (cB (wK 26) d)) 1) (GRetire.mk 0 27263123 1 26 false (GFault.mk 0 0 0 false) 0 false false):=by kernel_rfl
theorem su27 {α:Type} (Fs:Sg_z1 α) (k:Bool→R α):pC Fs ((27:Nat):Int) k=Fs (cM X0 0 0 (wK 27) 0 0) false (conC Fs k 27):=by kernel_rfl
theorem sz27 {α:Type} (d:Int) (Kf:GMachine→GRetire→R α):stepB false (cM X0 0 d (wK 27) 0 0) false Kf=Kf (GMachine.mk (cS (upd X0 1 ((27:Nat):Int)) 4 (IntKind.u64.wrap (d+ 1))) (nB13 (cB (wK 27) d)) 1) (GRetire.mk 0 28311699 1 27 false (GFault.mk 0 0 0 false) 0 false false):=by kernel_rfl
theorem su28 {α:Type} (Fs:Sg_z1 α) (k:Bool→R α):pC Fs ((28:Nat):Int) k=Fs (cM X0 0 0 (wK 28) 0 0) false (conC Fs k 28):=by kernel_rfl
theorem sz28 {α:Type} (d:Int) (Kf:GMachine→GRetire→R α):stepB false (cM X0 0 d (wK 28) 0 0) false Kf=Kf (GMachine.mk (cS (upd X0 1 ((28:Nat):Int)) 4 (IntKind.u64.wrap (d+ 1))) (nB13 (cB (wK 28) d)) 1) (GRetire.mk 0 29360275 1 28 false (GFault.mk 0 0 0 false) 0 false false):=by kernel_rfl
theorem su29 {α:Type} (Fs:Sg_z1 α) (k:Bool→R α):pC Fs ((29:Nat):Int) k=Fs (cM X0 0 0 (wK 29) 0 0) false (conC Fs k 29):=by kernel_rfl
theorem sz29 {α:Type} (d:Int) (Kf:GMachine→GRetire→R α):stepB false (cM X0 0 d (wK 29) 0 0) false Kf=Kf (GMachine.mk (cS (upd X0 1 ((29:Nat):Int)) 4 (IntKind.u64.wrap (d+ 1))) (nB13 (cB (wK 29) d)) 1) (GRetire.mk 0 30408851 1 29 false (GFault.mk 0 0 0 false) 0 false false):=by kernel_rfl
theorem su30 {α:Type} (Fs:Sg_z1 α) (k:Bool→R α):pC Fs ((30:Nat):Int) k=Fs (cM X0 0 0 (wK 30) 0 0) false (conC Fs k 30):=by kernel_rfl
theorem sz30 {α:Type} (d:Int) (Kf:GMachine→GRetire→R α):stepB false (cM X0 0 d (wK 30) 0 0) false Kf=Kf (GMachine.mk (cS (upd X0 1 ((30:Nat):Int)) 4 (IntKind.u64.wrap (d+ 1))) (nB13 (cB (wK 30) d)) 1) (GRetire.mk 0 31457427 1 30 false (GFault.mk 0 0 0 false) 0 false false):=by kernel_rfl
theorem su31 {α:Type} (Fs:Sg_z1 α) (k:Bool→R α):pC Fs ((31:Nat):Int) k=Fs (cM X0 0 0 (wK 31) 0 0) false (conC Fs k 31):=by kernel_rfl
theorem sz31 {α:Type} (d:Int) (Kf:GMachine→GRetire→R α):stepB false (cM X0 0 d (wK 31) 0 0) false Kf=Kf (GMachine.mk (cS (upd X0 1 ((31:Nat):Int)) 4 (IntKind.u64.wrap (d+ 1))) (nB13 (cB (wK 31) d)) 1) (GRetire.mk 0 32506003 1 31 false (GFault.mk 0 0 0 false) 0 false false):=by kernel_rfl
theorem su32 {α:Type} (Fs:Sg_z1 α) (k:Bool→R α):pC Fs ((32:Nat):Int) k=Fs (cM X0 0 0 (wK 32) 0 0) false (conC Fs k 32):=by kernel_rfl
theorem sz32 {α:Type} (d:Int) (Kf:GMachine→GRetire→R α):stepB false (cM X0 0 d (wK 32) 0 0) false Kf=Kf (GMachine.mk (cS (upd X0 1 ((32:Nat):Int)) 4 (IntKind.u64.wrap (d+ 1))) (nB13 (cB (wK 32) d)) 1) (GRetire.mk 0 33554579 1 32 false (GFault.mk 0 0 0 false) 0 false false):=by kernel_rfl
theorem su33 {α:Type} (Fs:Sg_z1 α) (k:Bool→R α):pC Fs ((33:Nat):Int) k=Fs (cM X0 0 0 (wK 33) 0 0) false (conC Fs k 33):=by kernel_rfl
theorem sz33 {α:Type} (d:Int) (Kf:GMachine→GRetire→R α):stepB false (cM X0 0 d (wK 33) 0 0) false Kf=Kf (GMachine.mk (cS (upd X0 1 ((33:Nat):Int)) 4 (IntKind.u64.wrap (d+ 1))) (nB13 (cB (wK 33) d)) 1) (GRetire.mk 0 34603155 1 33 false (GFault.mk 0 0 0 false) 0 false false):=by kernel_rfl
theorem su34 {α:Type} (Fs:Sg_z1 α) (k:Bool→R α):pC Fs ((34:Nat):Int) k=Fs (cM X0 0 0 (wK 34) 0 0) false (conC Fs k 34):=by kernel_rfl
theorem sz34 {α:Type} (d:Int) (Kf:GMachine→GRetire→R α):stepB false (cM X0 0 d (wK 34) 0 0) false Kf=Kf (GMachine.mk (cS (upd X0 1 ((34:Nat):Int)) 4 (IntKind.u64.wrap (d+ 1))) (nB13 (cB (wK 34) d)) 1) (GRetire.mk 0 35651731 1 34 false (GFault.mk 0 0 0 false) 0 false false):=by kernel_rfl
theorem su35 {α:Type} (Fs:Sg_z1 α) (k:Bool→R α):pC Fs ((35:Nat):Int) k=Fs (cM X0 0 0 (wK 35) 0 0) false (conC Fs k 35):=by kernel_rfl
theorem sz35 {α:Type} (d:Int) (Kf:GMachine→GRetire→R α):stepB false (cM X0 0 d (wK 35) 0 0) false Kf=Kf (GMachine.mk (cS (upd X0 1 ((35:Nat):Int)) 4 (IntKind.u64.wrap (d+ 1))) (nB13 (cB (wK 35) d)) 1) (GRetire.mk 0 36700307 1 35 false (GFault.mk 0 0 0 false) 0 false false):=by kernel_rfl
theorem su36 {α:Type} (Fs:Sg_z1 α) (k:Bool→R α):pC Fs ((36:Nat):Int) k=Fs (cM X0 0 0 (wK 36) 0 0) false (conC Fs k 36):=by kernel_rfl
theorem sz36 {α:Type} (d:Int) (Kf:GMachine→GRetire→R α):stepB false (cM X0 0 d (wK 36) 0 0) false Kf=Kf (GMachine.mk (cS (upd X0 1 ((36:Nat):Int)) 4 (IntKind.u64.wrap (d+ 1))) (nB13 (cB (wK 36) d)) 1) (GRetire.mk 0 37748883 1 36 false (GFault.mk 0 0 0 false) 0 false false):=by kernel_rfl
theorem su37 {α:Type} (Fs:Sg_z1 α) (k:Bool→R α):pC Fs ((37:Nat):Int) k=Fs (cM X0 0 0 (wK 37) 0 0) false (conC Fs k 37):=by kernel_rfl
theorem sz37 {α:Type} (d:Int) (Kf:GMachine→GRetire→R α):stepB false (cM X0 0 d (wK 37) 0 0) false Kf=Kf (GMachine.mk (cS (upd X0 1 ((37:Nat):Int)) 4 (IntKind.u64.wrap (d+ 1))) (nB13 (cB (wK 37) d)) 1) (GRetire.mk 0 38797459 1 37 false (GFault.mk 0 0 0 false) 0 false false):=by kernel_rfl
theorem su38 {α:Type} (Fs:Sg_z1 α) (k:Bool→R α):pC Fs ((38:Nat):Int) k=Fs (cM X0 0 0 (wK 38) 0 0) false (conC Fs k 38):=by kernel_rfl
theorem sz38 {α:Type} (d:Int) (Kf:GMachine→GRetire→R α):stepB false (cM X0 0 d (wK 38) 0 0) false Kf=Kf (GMachine.mk (cS (upd X0 1 ((38:Nat):Int)) 4 (IntKind.u64.wrap (d+ 1))) (nB13 (cB (wK 38) d)) 1) (GRetire.mk 0 39846035 1 38 false (GFault.mk 0 0 0 false) 0 false false):=by kernel_rfl
theorem su39 {α:Type} (Fs:Sg_z1 α) (k:Bool→R α):pC Fs ((39:Nat):Int) k=Fs (cM X0 0 0 (wK 39) 0 0) false (conC Fs k 39):=by kernel_rfl
theorem sz39 {α:Type} (d:Int) (Kf:GMachine→GRetire→R α):stepB false (cM X0 0 d (wK 39) 0 0) false Kf=Kf (GMachine.mk (cS (upd X0 1 ((39:Nat):Int)) 4 (IntKind.u64.wrap (d+ 1))) (nB13 (cB (wK 39) d)) 1) (GRetire.mk 0 40894611 1 39 false (GFault.mk 0 0 0 false) 0 false false):=by kernel_rfl
theorem su40 {α:Type} (Fs:Sg_z1 α) (k:Bool→R α):pC Fs ((40:Nat):Int) k=Fs (cM X0 0 0 (wK 40) 0 0) false (conC Fs k 40):=by kernel_rfl
theorem sz40 {α:Type} (d:Int) (Kf:GMachine→GRetire→R α):stepB false (cM X0 0 d (wK 40) 0 0) false Kf=Kf (GMachine.mk (cS (upd X0 1 ((40:Nat):Int)) 4 (IntKind.u64.wrap (d+ 1))) (nB13 (cB (wK 40) d)) 1) (GRetire.mk 0 41943187 1 40 false (GFault.mk 0 0 0 false) 0 false false):=by kernel_rfl
theorem suAll {α:Type} (Fs:Sg_z1 α) (k:Bool→R α) (K:Nat) (h1:1≤K) (h2:K≤40):pC Fs (K:Int) k=Fs (cM X0 0 0 (wK K) 0 0) false (conC Fs k K):=by
  have h:K=1∨K=2∨K=3∨K=4∨K=5∨K=6∨K=7∨K=8∨K=9∨K=10∨K=11∨K=12∨K=13∨K=14∨K=15∨K=16∨K=17∨K=18∨K=19∨K=20∨K=21∨K=22∨K=23∨K=24∨K=25∨K=26∨K=27∨K=28∨K=29∨K=30∨K=31∨K=32∨K=33∨K=34∨K=35∨K=36∨K=37∨K=38∨K=39∨K=40:=by omega
  rcases h with rfl | rfl | rfl | rfl | rfl | rfl | rfl | rfl | rfl | rfl | rfl | rfl | rfl | rfl | rfl | rfl | rfl | rfl | rfl | rfl | rfl | rfl | rfl | rfl | rfl | rfl | rfl | rfl | rfl | rfl | rfl | rfl | rfl | rfl | rfl | rfl | rfl | rfl | rfl | rfl
  · exact su1 Fs k
  · exact su2 Fs k
  · exact su3 Fs k
  · exact su4 Fs k
  · exact su5 Fs k
  · exact su6 Fs k
  · exact su7 Fs k
  · exact su8 Fs k
  · exact su9 Fs k
  · exact su10 Fs k
  · exact su11 Fs k
  · exact su12 Fs k
  · exact su13 Fs k
  · exact su14 Fs k
  · exact su15 Fs k
  · exact su16 Fs k
  · exact su17 Fs k
  · exact su18 Fs k
  · exact su19 Fs k
  · exact su20 Fs k
  · exact su21 Fs k
  · exact su22 Fs k
  · exact su23 Fs k
  · exact su24 Fs k
  · exact su25 Fs k
  · exact su26 Fs k
  · exact su27 Fs k
  · exact su28 Fs k
  · exact su29 Fs k
  · exact su30 Fs k
  · exact su31 Fs k
  · exact su32 Fs k
  · exact su33 Fs k
  · exact su34 Fs k
  · exact su35 Fs k
  · exact su36 Fs k
  · exact su37 Fs k
  · exact su38 Fs k
  · exact su39 Fs k
  · exact su40 Fs k
theorem szAll {α:Type} (K:Nat) (h1:1≤K) (h2:K≤40) (d:Int) (Kf:GMachine→GRetire→R α):∃r,stepB false (cM X0 0 d (wK K) 0 0) false Kf=Kf (GMachine.mk (cS (upd X0 1 (K:Int)) 4 (IntKind.u64.wrap (d+ 1))) (nB13 (cB (wK K) d)) 1) r:=by
  have h:K=1∨K=2∨K=3∨K=4∨K=5∨K=6∨K=7∨K=8∨K=9∨K=10∨K=11∨K=12∨K=13∨K=14∨K=15∨K=16∨K=17∨K=18∨K=19∨K=20∨K=21∨K=22∨K=23∨K=24∨K=25∨K=26∨K=27∨K=28∨K=29∨K=30∨K=31∨K=32∨K=33∨K=34∨K=35∨K=36∨K=37∨K=38∨K=39∨K=40:=by omega
  rcases h with rfl | rfl | rfl | rfl | rfl | rfl | rfl | rfl | rfl | rfl | rfl | rfl | rfl | rfl | rfl | rfl | rfl | rfl | rfl | rfl | rfl | rfl | rfl | rfl | rfl | rfl | rfl | rfl | rfl | rfl | rfl | rfl | rfl | rfl | rfl | rfl | rfl | rfl | rfl | rfl
  · exact ⟨_,sz1 d Kf⟩
  · exact ⟨_,sz2 d Kf⟩
  · exact ⟨_,sz3 d Kf⟩
  · exact ⟨_,sz4 d Kf⟩
  · exact ⟨_,sz5 d Kf⟩
  · exact ⟨_,sz6 d Kf⟩
  · exact ⟨_,sz7 d Kf⟩
  · exact ⟨_,sz8 d Kf⟩
  · exact ⟨_,sz9 d Kf⟩
  · exact ⟨_,sz10 d Kf⟩
  · exact ⟨_,sz11 d Kf⟩
  · exact ⟨_,sz12 d Kf⟩
  · exact ⟨_,sz13 d Kf⟩
  · exact ⟨_,sz14 d Kf⟩
  · exact ⟨_,sz15 d Kf⟩
  · exact ⟨_,sz16 d Kf⟩
  · exact ⟨_,sz17 d Kf⟩
  · exact ⟨_,sz18 d Kf⟩
  · exact ⟨_,sz19 d Kf⟩
  · exact ⟨_,sz20 d Kf⟩
  · exact ⟨_,sz21 d Kf⟩
  · exact ⟨_,sz22 d Kf⟩
  · exact ⟨_,sz23 d Kf⟩
  · exact ⟨_,sz24 d Kf⟩
  · exact ⟨_,sz25 d Kf⟩
  · exact ⟨_,sz26 d Kf⟩
  · exact ⟨_,sz27 d Kf⟩
  · exact ⟨_,sz28 d Kf⟩
  · exact ⟨_,sz29 d Kf⟩
  · exact ⟨_,sz30 d Kf⟩
  · exact ⟨_,sz31 d Kf⟩
  · exact ⟨_,sz32 d Kf⟩
  · exact ⟨_,sz33 d Kf⟩
  · exact ⟨_,sz34 d Kf⟩
  · exact ⟨_,sz35 d Kf⟩
  · exact ⟨_,sz36 d Kf⟩
  · exact ⟨_,sz37 d Kf⟩
  · exact ⟨_,sz38 d Kf⟩
  · exact ⟨_,sz39 d Kf⟩
  · exact ⟨_,sz40 d Kf⟩
theorem stp {α:Type} {x:Nat→Int} {pc w t n:Int} {d:Nat} (hd:d≤200) (Kf:GMachine→GRetire→R α):s_isa_Machine_Step (GMachine.mk (cS x pc d) (NB (cB w t)) n) false Kf=stepB false (cM x pc d w t n) false Kf:=by
  show s_isa_Machine_Step (GMachine.mk (cS x pc d) (nB (cB w t)) n) false Kf=_
  rw [nB_cB,step_eq]
  have h:leB ((cM x pc d w t n).b.alarm) ((cM x pc d w t n).s.Done)=false:=decide_eq_false (show ¬ (18446744073709551615:Int)≤(d:Int) by omega)
  rw [h]
theorem wd {d:Nat} (hd:d≤200):IntKind.u64.wrap ((d:Int)+ 1)=((d+ 1:Nat):Int):=by rw [wrap_u64 (by omega) (by omega)]; omega
theorem run4 {α:Type} {x:Nat→Int} {w t n t5 c:Int} {d:Nat} (hd:d≤200) (k:Bool→R α) {f j:Nat} (h:ltB ((j+ 1:Nat):Int) c=true):
    run s_isa_Machine_Step k t5 c (f+ 1) j (cM x 4 d w t n)=run s_isa_Machine_Step k t5 c f (j+ 1) (cM (upd x 2 (IntKind.u64.wrap (x 2+ x 1))) 8 ((d+ 1:Nat):Int) w d (IntKind.i64.wrap (n+ 1))):=by
  simp only [run,GN,gN_self]
  rw [stp hd,cat4]
  simp only [h,cond_true]
  rw [nB13_cB,wd hd]
theorem run8 {α:Type} {x:Nat→Int} {w t n t5 c:Int} {d:Nat} (hd:d≤200) (k:Bool→R α) {f j:Nat} (h:ltB ((j+ 1:Nat):Int) c=true):
    run s_isa_Machine_Step k t5 c (f+ 1) j (cM x 8 d w t n)=run s_isa_Machine_Step k t5 c f (j+ 1) (cM (upd x 1 (IntKind.u64.wrap (x 1+ 18446744073709551615))) 12 ((d+ 1:Nat):Int) w d (IntKind.i64.wrap (n+ 1))):=by
  simp only [run,GN,gN_self]
  rw [stp hd,cat8]
  simp only [h,cond_true]
  rw [nB13_cB,wd hd]
theorem run12 {α:Type} {x:Nat→Int} {w t n t5 c:Int} {d:Nat} (hd:d≤200) (k:Bool→R α) {f j:Nat} (hx:(x 1 !=x 0)=true) (h:ltB ((j+ 1:Nat):Int) c=true):
    run s_isa_Machine_Step k t5 c (f+ 1) j (cM x 12 d w t n)=run s_isa_Machine_Step k t5 c f (j+ 1) (cM x 4 ((d+ 1:Nat):Int) w d (IntKind.i64.wrap (n+ 1))):=by
  simp only [run,GN,gN_self]
  rw [stp hd,cat12]
  simp only [h,hx,cond_true,k12]
  rw [nB13_cB,wd hd]
theorem run12' {α:Type} {x:Nat→Int} {w t n t5 c:Int} {d:Nat} (hd:d≤200) (k:Bool→R α) {f j:Nat} (hx:(x 1 !=x 0)=false) (h:ltB ((j+ 1:Nat):Int) c=false):
    run s_isa_Machine_Step k t5 c (f+ 1) j (cM x 12 d w t n)=fin s_isa_Machine_Step k t5 (j+ 1) (cM x 16 ((d+ 1:Nat):Int) w d (IntKind.i64.wrap (n+ 1))):=by
  simp only [run,GN,gN_self]
  rw [stp hd,cat12]
  simp only [h,hx,cond_false,k12]
  rw [nB13_cB,wd hd]
theorem fin16 {α:Type} {x:Nat→Int} {w t n t5:Int} {d j:Nat} (hd:d≤200) (k:Bool→R α) (h1:((j:Int)==eCnt t5)=true) (h2:(x 2==eSum t5)=true) (h3:(x 1==0)=true) (h4:((d:Int)==IntKind.u64.wrap (eCnt t5))=true):
    fin s_isa_Machine_Step k t5 j (cM x 16 d w t n)=k true:=by
  simp only [fin,GN,gN_self]
  rw [stp hd,cat16]
  simp only [h1,h2,h3,h4,cond_true]
theorem tri (m:Nat):(m+ 1) * (m+ 1+ 1)=m * (m+ 1)+ 2 * (m+ 1):=by
  simp only [Nat.mul_add,Nat.add_mul,Nat.mul_one,Nat.one_mul]; omega
theorem loopC {α:Type} {K:Nat} (hK:K≤40) (k:Bool→R α) {w:Int}:∀(m:Nat) (x:Nat→Int) (acc j f:Nat) (t n:Int),x 0=0→x 1=((m+ 1:Nat):Int)→x 2=(acc:Int)→2 * acc+ (m+ 1) * (m+ 1+ 1)=K * (K+ 1)→j+ 3 * (m+ 1)=1+ 3 * K→3 * (m+ 1)≤f→
    run s_isa_Machine_Step k K ((1+ 3 * K:Nat):Int) f j (cM x 4 j w t n)=k true
  | m,x,acc,j,f,t,n,h0,h1,h2,hs,hj,hf=>by
    obtain ⟨f',rfl⟩:∃f',f=f'+ 3:=⟨f - 3,by omega⟩
    have hKK:K * (K+ 1)≤1640:=by
      have:=Nat.mul_le_mul hK (show K+ 1≤41 by omega); omega
    have hacc:acc≤820:=by omega
    rw [run4 (show j≤200 by omega) k (show ltB ((j+ 1:Nat):Int) ((1+ 3 * K:Nat):Int)=true from decide_eq_true (by omega))]
    rw [run8 (show j+ 1≤200 by omega) k (show ltB ((j+ 1+ 1:Nat):Int) ((1+ 3 * K:Nat):Int)=true from decide_eq_true (by omega))]
    have e2:IntKind.u64.wrap (x 2+ x 1)=((acc+ (m+ 1):Nat):Int):=by rw [h1,h2,wrap_u64 (by omega) (by omega)]; omega
    have e1:IntKind.u64.wrap ((upd x 2 (IntKind.u64.wrap (x 2+ x 1))) 1+ 18446744073709551615)=(m:Int):=by
      have:(upd x 2 (IntKind.u64.wrap (x 2+ x 1))) 1=x 1:=rfl
      rw [this,h1]
      simp only [IntKind.wrap,IntKind.bits,IntKind.signed]
      simp
      omega
    rw [e1,e2]
    have tr:=tri m
    cases m with
    | zero=>
      rw [run12' (show j+ 1+ 1≤200 by omega) k (show ((upd (upd x 2 ((acc+ (0+ 1):Nat):Int)) 1 ((0:Nat):Int)) 1 !=(upd (upd x 2 ((acc+ (0+ 1):Nat):Int)) 1 ((0:Nat):Int)) 0)=false by
        show (((0:Nat):Int) !=x 0)=false
        rw [h0]; rfl) (show ltB ((j+ 1+ 1+ 1:Nat):Int) ((1+ 3 * K:Nat):Int)=false from decide_eq_false (by omega))]
      have ec:eCnt (K:Int)=((1+ 3 * K:Nat):Int):=by
        unfold eCnt
        rw [wrap_i64 (n:=3 * (K:Int)) (by omega) (by omega),wrap_i64 (by omega) (by omega)]; omega
      have es:eSum (K:Int)=((acc+ 1:Nat):Int):=by
        unfold eSum
        have e3:(K:Int) * ((K:Int)+ 1)=((K * (K+ 1):Nat):Int):=by simp
        rw [wrap_i64 (n:=(K:Int)+ 1) (by omega) (by omega),e3,wrap_i64 (n:=((K * (K+ 1):Nat):Int)) (by omega) (by omega),Int.tdiv_eq_ediv_of_nonneg (by omega)]
        have e4:((K * (K+ 1):Nat):Int) / 2=((acc+ 1:Nat):Int):=by omega
        rw [e4,wrap_i64 (by omega) (by omega),wrap_u64 (by omega) (by omega)]
      refine fin16 (show j+ 1+ 1+ 1≤200 by omega) k ?_ ?_ rfl ?_
      · rw [ec]; simp only [beq_iff_eq]; omega
      · rw [es]; simp only [beq_iff_eq]; show ((acc+ (0+ 1):Nat):Int)=_; omega
      · rw [ec,wrap_u64 (by omega) (by omega)]; simp only [beq_iff_eq]; omega
    | succ m=>
      rw [run12 (show j+ 1+ 1≤200 by omega) k (show ((upd (upd x 2 ((acc+ (m+ 1+ 1):Nat):Int)) 1 ((m+ 1:Nat):Int)) 1 !=(upd (upd x 2 ((acc+ (m+ 1+ 1):Nat):Int)) 1 ((m+ 1:Nat):Int)) 0)=true by
        show (((m+ 1:Nat):Int) !=x 0)=true
        rw [h0]; simp; omega) (show ltB ((j+ 1+ 1+ 1:Nat):Int) ((1+ 3 * K:Nat):Int)=true from decide_eq_true (by omega))]
      exact loopC hK k m _ (acc+ (m+ 1+ 1)) (j+ 1+ 1+ 1) f' _ _ h0 rfl rfl (by omega) (by omega) (by omega)
theorem counts_eq {α:Type} (n:Int) (hn:0≤n∧n < 256) (k:Bool→R α):p_z32 s_law19_known s_ref3_Encode sMWr s_ref1_Mem_Write s_isa_Clean s_ref18_Clean s_isa_Machine_Step n k=k true:=by
  rw [pC_eq]
  obtain ⟨K,hK,hK2,e⟩:∃K:Nat,1≤K∧K≤40∧IntKind.i64.wrap (IntKind.i64.wrap (Int.tmod n 40)+ 1)=(K:Int):=by
    rw [Int.tmod_eq_emod_of_nonneg hn.1]
    refine ⟨(n % 40+ 1).toNat,by omega,by omega,?_⟩
    rw [wrap_i64 (n:=n % 40) (by omega) (by omega),wrap_i64 (by omega) (by omega)]; omega
  rw [e,suAll _ k K hK hK2,step_eq]
  have h:leB ((cM X0 0 0 (wK K) 0 0).b.alarm) ((cM X0 0 0 (wK K) 0 0).s.Done)=false:=by
    show leB 18446744073709551615 0=false
    exact decide_eq_false (by omega)
  rw [h]
  obtain ⟨r,hr⟩:=szAll K hK hK2 0 (conC s_isa_Machine_Step k K)
  rw [hr,nB13_cB]
  unfold conC
  have h1:ltB 1 ((1+ 3 * K:Nat):Int)=true:=decide_eq_true (by omega)
  rw [h1,cond_true,q2_run]
  have e1:IntKind.u64.wrap (0+ 1)=((1:Nat):Int):=rfl
  rw [e1]
  obtain ⟨m,rfl⟩:∃m,K=m+ 1:=⟨K - 1,by omega⟩
  exact loopC hK2 k m _ 0 1 121 _ _ rfl rfl rfl (by omega) (by omega) (by omega)
end Go.Sh
