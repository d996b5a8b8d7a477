/-
  Loops by what is known of their ends.
-/
import Derived.Test.YtepdlgehceipjaaGreatSkC
set_option linter.unusedSimpArgs false
set_option linter.unusedVariables false
namespace Go.Sh
open Go
section
variable {S X:Type} {α:Type}
noncomputable def lsp {W:S→Prop} {Q:S→X→Prop} (h:∀s,W s→∃x,Q s x) (s:S) (K:X→R α):R α:=
  @dite _ (W s) (Classical.propDecidable _) (fun hW=>K (Classical.choose (h s hW))) (fun _=>none)
theorem lsp_pos {W:S→Prop} {Q:S→X→Prop} (h:∀s,W s→∃x,Q s x) {s:S} (hW:W s):∃x,Q s x∧∀{α:Type} (K:X→R α),lsp h s K=K x:=
  ⟨_,Classical.choose_spec (h s hW),fun K=>by unfold lsp; exact dif_pos hW⟩
theorem lsp_some {W:S→Prop} {Q:S→X→Prop} (h:∀s,W s→∃x,Q s x) {s:S} {K:X→R α} {r:α} (hr:lsp h s K=some r):W s∧∃x,Q s x∧K x=some r:=by
  unfold lsp at hr
  split at hr
  · rename_i hW
    exact ⟨hW,_,Classical.choose_spec (h s hW),hr⟩
  · cases hr
abbrev EndsL (stp:S→Option (S ⊕ X)) (s:S) (x:X):Prop:=∃n,lps stp n s=some x
theorem lsp_ok {W:S→Prop} {Q:S→X→Prop} {stp:S→Option (S ⊕ X)} (h:∀s,W s→∃x,EndsL stp s x∧Q s x):LoopOk (α:=α) stp (lsp h):=by
  intro s k r hr
  obtain ⟨_,x,⟨⟨n,hn⟩,_⟩,hk⟩:=lsp_some h hr
  exact ⟨n,x,hn,hk⟩
theorem EndsL.stop {stp:S→Option (S ⊕ X)} {s:S} {x:X} (h:stp s=some (.inr x)):EndsL stp s x:=⟨1,by simp only [lps,h]⟩
theorem EndsL.next {stp:S→Option (S ⊕ X)} {s s':S} {x:X} (h:stp s=some (.inl s')) (h2:EndsL stp s' x):EndsL stp s x:=by
  obtain ⟨n,hn⟩:=h2
  exact ⟨n+ 1,by simp only [lps,h]; exact hn⟩
end
end Go.Sh
