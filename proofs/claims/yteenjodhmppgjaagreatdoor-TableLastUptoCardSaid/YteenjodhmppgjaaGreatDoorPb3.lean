/- A part of the proof of a card. No conditions. -/
import Derived.Test.YteenjodhmppgjaaGreatDoorPb2
set_option linter.all false
set_option maxHeartbeats 16000000
set_option maxRecDepth 10000
namespace Go.Proofs.YteenjodhmppgjaaGreatDoor.Am
open Go.Proofs.Tryz
section
open Go
variable (ext:Ext)
structure Ask where
 s:ByteArray
 z:Bool
 ls:List Lev
 n:Int
 a:Tm
 b:Tm
def Ask.d (x:Ask):D:=aJ0 x.z 2 (x.ls.map levD)
end
section
open Go
theorem lU0 : hT0 prog 240:=⟨f240,func240,by kernel_rfl⟩
theorem clo0 (c:Nat):run prog E0 (.call 240 [dV (.v (.slice none 0 c))] [])=some (.ret [dV (.v (.slice none 0 0))] []):=(cY0 _ _ _ _).2 ⟨100,by kernel_rfl⟩
theorem clo1 (a:Addr)(c:Nat):run prog E0 (.call 240 [dV (.v (.slice (some a) 0 c))] [])=some (.ret [dV (.s 2 [])] []):=(cY0 _ _ _ _).2 ⟨100,by kernel_rfl⟩
theorem ok240e : dZ0 prog 240 [dV (.s 2 [])] [] (.ret [dV (.s 2 [])] []):=by
 intro w F β vals hsim hall
 cases hall with
 | cons h t=>
  cases t
  obtain⟨a,c,rfl⟩:=repE h
  cases a with
  | none=>
   refine(oF0 (clo0 c) lU0 w F β _ hsim (.cons (.v rfl) .nil)).mono ?_
   rintro e w' ⟨β',v,rfl,hres,hf,hst⟩
   refine wD0 (F':=F) hf hst fun β'' look=> ?_
   rcases hres with⟨y,hy,hv⟩ | ⟨hne,_⟩
   ·cases hy
    have hv':RepD w' (Nn w' F β' (lk [])) v (.v (.slice none 0 0)):=hv
    cases hv'
    exact .e none 0 2
   ·exact absurd rfl hne
  | some a=>exact oF0 (clo1 a c) lU0 w F β _ hsim (.cons (.v rfl) .nil)
def R240 (args:List V)(objs:List O)(out:Out):Prop:=∃ (z:Bool)(l:List LV),l.length<2^29∧args=[dV (aJ0 z 2 (l.map lvD))]∧objs=[]∧out = .ret [dV (aJ0 z 2 (l.map lvD))] []
theorem bL2 {args:List V}{objs:List O}{o1 o2:Out} (h1:R240 args objs o1)(h2:R240 args objs o2):o1=o2:=by
 obtain⟨z,l,_,a,_,rfl⟩:=h1
 obtain⟨z',l',_,b,_,rfl⟩:=h2
 rw[← a,← b]
open Classical in
noncomputable def g240 (args:List V)(objs:List O):Option Out:=if h:∃ out,R240 args objs out then some h.choose else none
theorem qP2 {args:List V}{objs:List O}{out:Out} (h:R240 args objs out):g240 args objs=some out:=by
 unfold g240
 rw[dif_pos ⟨out,h⟩]
 exact congrArg some (bL2 (Exists.choose_spec (⟨out,h⟩:∃ out,R240 args objs out)) h)
theorem nL2 {args:List V}{objs:List O}{out:Out} (h:g240 args objs=some out):R240 args objs out:=by
 unfold g240 at h
 split at h
 ·rename_i h';cases h;exact h'.choose_spec
 ·cases h
theorem nM2 {args:List V}{objs:List O}{out:Out} (h:R240 args objs out):dZ0 prog 240 args objs out:=by
 obtain⟨z,l,hl,rfl,rfl,rfl⟩:=h
 cases l with
 | nil=>
  cases z with
  | true=>exact oF0 (clo0 0) lU0
  | false=>exact ok240e
 | cons x l=>
  have e:aJ0 z 2 ((x::l).map lvD) = .s 2 ((x::l).map lvD):=dV0 (by simp)
  rw[e]
  exact oF0 (cQ2 E0 rfl x l (by simp at hl;omega)) lU0
noncomputable def E2 : Ext:=fun f=>if f=240 then some g240 else E1 f
theorem ex2 (n:FuncId)(h1:n≠14)(h2:n≠121)(h3:n≠240):E2 n=none:=by unfold E2;rw[if_neg h3];exact ex1 n h1 h2
end
end Go.Proofs.YteenjodhmppgjaaGreatDoor.Am
