/- A part of the proof of a card. No conditions. -/
import Derived.Test.YteenjodhmppgjaaGreatDoorPe5
set_option linter.all false
set_option maxHeartbeats 16000000
set_option maxRecDepth 10000
namespace Go.Proofs.YteenjodhmppgjaaGreatDoor.Am
open Go.Proofs.Tryz
section
open Go
variable (ext:Ext)
theorem rZ2 (hx:ext 253=none)(h119:ext 119=none)(h177:ext 177=none)(h187:ext 187=none)(h188:ext 188=none)(h189:ext 189=none)(h196:ext 196=none)(x:Tm)(hs:x.sz<2^24) :
  ∃ W:Bool × List Int,(W.2.length≤x.sz∧∀ n,cO0 n W.2=lvGe n x)∧run prog ext (.call 253 [tmV x] [])=some (.ret [dV (inL W)] []):=by
 obtain⟨⟨g,L,l,H⟩,q1,q2,⟨q3,qA⟩,_,q5⟩:=jM2 ext h119 h177 h187 h188 h189 h196 x.sz x (Nat.le_refl _) hs [] (true,[]) (true,[]) (by simp;omega) (by simp;omega) (by simp;omega)
 dsimp only at q1 q2 q3 qA q5
 refine⟨L,⟨by simpa using q3,fun n=>by rw[qA n];simp[cO0]⟩,?_⟩
 have hg:g=false:=by cases g with | false=>rfl | true=>exact absurd rfl (q2.2 rfl).1
 subst hg
 have ei:inL (true,[]) = .v (.slice none 0 0):=rfl
 rw[ei]at q5
 cases l with
 | nil=>
  have hC:=fun slot=>c119A (run prog ext) x _ _ (inL L) (inL H) slot q5
  (rw[enT hx func253 rfl];simp only[f253,zR,simprocAttr,zE])
  simp only[tmV,tmC,dV,jE0,lE0]at hC ⊢
  simp only[zS,zD,zT33,hC,simprocAttr]
  (refine .trans ?_ rfl;kernel_rfl)
 | cons b q=>
  have hC:=fun slot=>c119B (run prog ext) x _ _ (inL L) (inL H) slot b q q5
  (rw[enT hx func253 rfl];simp only[f253,zR,simprocAttr,zE])
  simp only[tmV,tmC,dV,jE0,lE0]at hC ⊢
  simp only[zS,zD,zT33,hC,simprocAttr]
  (refine .trans ?_ rfl;kernel_rfl)
end
end Go.Proofs.YteenjodhmppgjaaGreatDoor.Am
