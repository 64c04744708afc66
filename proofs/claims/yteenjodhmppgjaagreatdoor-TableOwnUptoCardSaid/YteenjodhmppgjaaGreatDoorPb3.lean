/- A part of the proof of a card. No conditions. -/
import Derived.Test.YteenjodhmppgjaaGreatDoorPb2
set_option linter.all false
set_option maxHeartbeats 16000000
set_option maxRecDepth 10000
namespace Go.Proofs.YteenjodhmppgjaaGreatDoor.Am
open Go.Proofs.Tryz
section
open Go
variable (ext:Ext)
noncomputable def B254 : Code:=(f254.body.getD .skip)
noncomputable def jV1 : Code:=sub B254 [1,0,0]
theorem pI1 : It.code jV1=It.code (sub B254 [1,0,0]):=rfl
noncomputable def qC1 : List It:=[.inBlock 0]
noncomputable def mS0 (ext:Ext)(m:Nat)(env:Env)(loc:List O):Option Out:=run prog ext (.k ⟨53,m,[],false⟩ (.code jV1 :: .inLoop jV1::qC1) env loc)
noncomputable def qK1 : Code:=sub B254 [1,0,0,1,0,0,1,0,0]
theorem gS1 : It.code qK1=It.code (sub B254 [1,0,0,1,0,0,1,0,0]):=rfl
noncomputable def jT1 : List It:=[.inBlock 2,.inBlock 1,.code (sub B254 [1,0,0,1,1]),.inLoop jV1,.inBlock 0]
noncomputable def pG0 (ext:Ext)(m:Nat)(env:Env)(loc:List O):Option Out:=run prog ext (.k ⟨53,m,[],false⟩ (.code qK1 :: .inLoop qK1::jT1) env loc)
noncomputable def B236 : Code:=(f236.body.getD .skip)
noncomputable def qJ1 : Code:=sub B236 [1,1,0,0]
theorem hL236a : It.code qJ1=It.code (sub B236 [1,1,0,0]):=rfl
noncomputable def K236a : List It:=[.inBlock 0]
noncomputable def pZ1 (ext:Ext)(m:Nat)(env:Env)(loc:List O):Option Out:=run prog ext (.k ⟨148,m,[],false⟩ (.code qJ1 :: .inLoop qJ1::K236a) env loc)
def cmpI (a b:Int):Int:=if a<b then -1 else if b<a then 1 else 0
theorem pO1 (hx:ext 238=none)(a:Int):run prog ext (.call 238 [iV a] [])=some (.ret [bV false] []):=by
 (rw[enT hx func238 rfl];simp only[f238,zR,Nat.zero_le,simprocAttr,zE])
 simp only[iV,bV]
 simp only[zS,zD,aB0,aA0,zT3,simprocAttr]
 (refine .trans ?_ rfl;kernel_rfl)
theorem oX1 (hx:ext 194=none)(h238:ext 238=none)(a b:Int):run prog ext (.call 194 [iV a,iV b] [])=some (.ret [iV (cmpI a b)] []):=by
 have h1:=pO1 ext h238 a
 have h2:=pO1 ext h238 b
 unfold cmpI
 by_cases c1:a<b
 ·rw[if_pos c1]
  (rw[enT hx func194 rfl];simp only[f194,zR,Nat.zero_le,simprocAttr,zE])
  simp only[iV,bV]at h1 h2 ⊢
  simp only[zS,zD,aB0,aA0,zT3,h1,h2,c1,simprocAttr]
  (refine .trans ?_ rfl;kernel_rfl)
 by_cases c2:a>b
 ·rw[if_neg c1,if_pos c2]
  (rw[enT hx func194 rfl];simp only[f194,zR,Nat.zero_le,simprocAttr,zE])
  simp only[iV,bV]at h1 h2 ⊢
  simp only[zS,zD,aB0,aA0,zT3,h1,h2,c1,c2,simprocAttr]
  (refine .trans ?_ rfl;kernel_rfl)
 rw[if_neg c1,if_neg c2]
 (rw[enT hx func194 rfl];simp only[f194,zR,Nat.zero_le,simprocAttr,zE])
 simp only[iV,bV]at h1 h2 ⊢
 simp only[zS,zD,aB0,aA0,zT3,h1,h2,c1,c2,simprocAttr]
 (refine .trans ?_ rfl;kernel_rfl)
theorem cmp193 (hx:ext 193=none)(h194:ext 194=none)(h238:ext 238=none)(x y:LV):run prog ext (.call 193 [lvV x,lvV y] [])=some (.ret [iV (cmpI x.v y.v)] []):=by
 have h:=oX1 ext h194 h238 x.v y.v
 (rw[enT hx func193 rfl];simp only[f193,zR,Nat.zero_le,simprocAttr,zE])
 simp only[iV,lvV,lvC]at h ⊢
 simp only[zS,zD,aB0,aA0,aR0,zT3,h,simprocAttr]
 (refine .trans ?_ rfl;kernel_rfl)
def E254 (n i:Int):Env:=[(0,.c (.own 0)),(1,iV 0),(2,iV n),(3,.c (.fn 193 [] [])),(8,iV i)]
def O254 (l:List LV):List O:=[.arr 2 (l.map lvD)]
def pE0 (n i j:Int):Env:=[(0,.c (.own 0)),(1,iV 0),(2,iV n),(3,.c (.fn 193 [] [])),(8,iV i),(9,iV j)]
theorem mD1 (hx:ext 254=none)(l:List LV)(n:Int)(out:Option Out)(h:mS0 ext 1 (E254 n 1) (O254 l)=out):run prog ext (.call 254 [.c (.own 0),iV 0,iV n,.c (.fn 193 [] [])] (O254 l))=out:=by
 unfold mS0 at h
 have e:wr (0+1)=1:=by rw[hK0 (by omega) (by omega)];rfl
 (rw[enT hx func254 rfl];simp only[f254,zR,Nat.zero_le,simprocAttr,zE])
 simp only[dV,iV,bV,E254,O254]at h ⊢
 simp only[zS,zD,aB0,aA0,zT36,zT34,aR0,zT3,e,simprocAttr]
 (refine(aC0 ?_).trans h;kernel_rfl)
theorem in254 (l:List LV)(n i:Int)(h1:i<n)(out:Option Out)(h:pG0 ext 1 (pE0 n i i) (O254 l)=out):mS0 ext 1 (E254 n i) (O254 l)=out:=by
 unfold pG0 at h
 unfold mS0
 simp only[dV,iV,bV,E254,pE0,O254]at h ⊢
 (rw[pI1];simp only[B254,qC1,sub,f254,↓reduceIte,zG])
 simp only[zS,zD,aB0,aA0,zT36,zT34,aR0,zT3,h1,simprocAttr]
 (refine(aC0 ?_).trans h;kernel_rfl)
theorem pQ1 (l:List LV)(n i:Int)(h1:¬ i<n):mS0 ext 1 (E254 n i) (O254 l)=some (.ret [] (O254 l)):=by
 unfold mS0
 simp only[dV,iV,bV,E254,O254]
 (rw[pI1];simp only[B254,qC1,sub,f254,↓reduceIte,zG])
 simp only[zS,zD,aB0,aA0,zT36,zT34,aR0,zT3,h1,simprocAttr]
 (refine .trans ?_ rfl;kernel_rfl)
theorem vW1 (l:List LV)(x y:LV)(n i:Int)(j:Nat)(hx:l[j+1]? = some x)(hy:l[j]? = some y)(hc:run prog ext (.call 193 [lvV x,lvV y] [])=some (.ret [iV (-1)] []))(hl:j<2^60)(out:Option Out)
  (h:pG0 ext 1 (pE0 n i j) (O254 ((l.set (j+1) y).set j x))=out):pG0 ext 1 (pE0 n i (j+1:Nat)) (O254 l)=out:=by
 have hlt:=cT0 hx
 have h1:((j+1:Nat):Int)>0:=by omega
 have h0:(0:Int)≤(j+1:Nat):=by omega
 have hk:((j+1:Nat):Int)<l.length:=by omega
 have e:wr (((j+1:Nat):Int) - 1)=(j:Int):=by rw[hK0 (by omega) (by omega)];omega
 have h0':(0:Int)≤(j:Int):=by omega
 have hk':(j:Int)<l.length:=by omega
 have hm:(1:Int)>0:=by decide
 have hx':(l.map lvD)[j+1]? = some [.v (.int .i64 x.v),.v (.int .i64 x.p)]:=by rw[List.getElem?_map,hx];rfl
 have hy':(l.map lvD)[j]? = some [.v (.int .i64 y.v),.v (.int .i64 y.p)]:=by rw[List.getElem?_map,hy];rfl
 have hs:((l.set (j+1) y).set j x).map lvD=((l.map lvD).set (j+1) [.v (.int .i64 y.v),.v (.int .i64 y.p)]).set j [.v (.int .i64 x.v),.v (.int .i64 x.p)]:=by rw[List.map_set,List.map_set];rfl
 have hy2:((l.map lvD).set (j+1) [.v (.int .i64 y.v),.v (.int .i64 y.p)])[j]? = some [.v (.int .i64 y.v),.v (.int .i64 y.p)]:=by rw[List.getElem?_set_ne (by omega),hy']
 unfold pG0 at h ⊢
 simp only[dV,iV,bV,pE0,O254,lvV,lvC,hs]at h hc ⊢
 (rw[gS1];simp only[B254,jT1,sub,f254,↓reduceIte,zG])
 simp only[zS,zD,aB0,aA0,zT34,aR0,zT3,bD0,aH0,aI0,Array.size,List.length,h0,h1,hk,h0',hk',e,Int.toNat_natCast,hx,hy,lvD,hc,simprocAttr]
 rw[aE0 _ _ _ _ (by kernel_rfl)]
 simp only[zS,zD,aB0,aA0,zT34,aR0,zT3,bD0,aH0,aI0,Array.size,List.length,h0,h1,hk,h0',hk',e,Int.toNat_natCast,hx,hy,hx',hy',hy2,lvD,stK,toDs,toD,aU0,List.length_set,List.contains_nil,simprocAttr]
 rw[aE0 _ _ _ _ (by kernel_rfl)]
 simp only[zS,zD,aB0,aA0,zT3,e,simprocAttr]
 (refine(aC0 ?_).trans h;kernel_rfl)
theorem vU1 (l:List LV)(x y:LV)(n i c:Int)(j:Nat)(hx:l[j+1]? = some x)(hy:l[j]? = some y)(hc:run prog ext (.call 193 [lvV x,lvV y] [])=some (.ret [iV c] []))(hcn:¬ c<0)(hl:j<2^60)(out:Option Out)
  (h:mS0 ext 1 (E254 n (wr (i+1))) (O254 l)=out):pG0 ext 1 (pE0 n i (j+1:Nat)) (O254 l)=out:=by
 have hlt:=cT0 hx
 have h1:((j+1:Nat):Int)>0:=by omega
 have h0:(0:Int)≤(j+1:Nat):=by omega
 have hk:((j+1:Nat):Int)<l.length:=by omega
 have e:wr (((j+1:Nat):Int) - 1)=(j:Int):=by rw[hK0 (by omega) (by omega)];omega
 have h0':(0:Int)≤(j:Int):=by omega
 have hk':(j:Int)<l.length:=by omega
 unfold mS0 at h
 unfold pG0
 simp only[dV,iV,bV,E254,pE0,O254,lvV,lvC]at h hc ⊢
 (rw[gS1];simp only[B254,jT1,sub,f254,↓reduceIte,zG])
 simp only[zS,zD,aB0,aA0,zT34,aR0,zT3,bD0,aH0,aI0,Array.size,List.length,h0,h1,hk,h0',hk',e,Int.toNat_natCast,hx,hy,lvD,hc,hcn,simprocAttr]
 rw[aE0 _ _ _ _ (by kernel_rfl)]
 simp only[zS,zD,aB0,aA0,zT3,simprocAttr]
 (refine(aC0 ?_).trans h;kernel_rfl)
theorem stop0 (l:List LV)(n i:Int)(out:Option Out)(h:mS0 ext 1 (E254 n (wr (i+1))) (O254 l)=out):pG0 ext 1 (pE0 n i 0) (O254 l)=out:=by
 have h1:¬ ((0:Int)>0):=by decide
 unfold mS0 at h
 unfold pG0
 simp only[dV,iV,bV,E254,pE0,O254,lvV,lvC]at h ⊢
 (rw[gS1];simp only[B254,jT1,sub,f254,↓reduceIte,zG])
 simp only[zS,zD,aB0,aA0,zT34,aR0,zT3,bD0,aH0,aI0,Array.size,List.length,h1,simprocAttr]
 rw[aE0 _ _ _ _ (by kernel_rfl)]
 simp only[zS,zD,aB0,aA0,zT3,simprocAttr]
 (refine(aC0 ?_).trans h;kernel_rfl)
def insR (x:LV):List LV→List LV→List LV
 | [],s=>x::s
 | y::r,s=>if x.v<y.v then insR x r (y::s) else(y::r).reverse++x::s
def oI0 : List LV→List LV→List LV
 | acc,[]=>acc
 | acc,x::r=>oI0 (insR x acc.reverse []) r
def cZ0 : List LV→List LV
 | []=>[]
 | a::r=>oI0 [a] r
theorem nC0 (x:LV):∀ (r s:List LV),(insR x r s).length=r.length+s.length+1
 | [],s=>by simp[insR]
 | y::r,s=>by
  unfold insR
  split
  ·rw[nC0 x r];simp;omega
  ·simp;omega
theorem vA0 : ∀ (r acc:List LV),(oI0 acc r).length=acc.length+r.length
 | [],acc=>by simp[oI0]
 | x::r,acc=>by rw[oI0,vA0 r,nC0];simp;omega
theorem nG1 (A:List LV)(x y:LV)(B:List LV):((A++y::x::B).set (A.length+1) y).set A.length x=A++x::y::B:=by
 rw[List.set_append_right _ _ (by omega),Nat.add_sub_cancel_left]
 simp
theorem aC1 (h193:ext 193=none)(h194:ext 194=none)(h238:ext 238=none)(n i:Int)(x:LV)(rest:List LV)(out:Option Out):∀ (r s:List LV),r.length<2^60→mS0 ext 1 (E254 n (wr (i+1))) (O254 (insR x r s++rest))=out→pG0 ext 1 (pE0 n i r.length) (O254 (r.reverse++x::(s++rest)))=out
 | [],s,_,h=>by
  have:=stop0 ext (x::(s++rest)) n i out (by simpa [insR] using h)
  simpa using this
 | y::r,s,hr,h=>by
  have hrl:r.reverse.length=r.length:=by simp
  have hx:((y::r).reverse++x::(s++rest))[r.length+1]? = some x:=by
   rw[List.getElem?_append_right (by simp)];simp
  have hy:((y::r).reverse++x::(s++rest))[r.length]? = some y:=by
   rw[List.getElem?_append_left (by simp),List.reverse_cons,List.getElem?_append_right (by simp)];simp
  have hc:=cmp193 ext h193 h194 h238 x y
  unfold insR at h
  by_cases hlt:x.v<y.v
  ·rw[if_pos hlt]at h
   have e:cmpI x.v y.v = -1:=by unfold cmpI;rw[if_pos hlt]
   rw[e]at hc
   refine vW1 ext _ x y n i r.length hx hy hc (by simp at hr;omega) _ ?_
   have hsw:=nG1 r.reverse x y (s++rest)
   rw[hrl]at hsw
   rw[List.reverse_cons,List.append_assoc,List.singleton_append,hsw]
   exact aC1 h193 h194 h238 n i x rest out r (y::s) (by simp at hr;omega) h
  ·rw[if_neg hlt]at h
   refine vU1 ext _ x y n i (cmpI x.v y.v) r.length hx hy hc (by unfold cmpI;rw[if_neg hlt];split <;> omega) (by simp at hr;omega) _ ?_
   simpa using h
theorem aL1 (h193:ext 193=none)(h194:ext 194=none)(h238:ext 238=none):∀ (rest acc:List LV)(n:Nat),n=acc.length+rest.length→n<2^60→mS0 ext 1 (E254 n acc.length) (O254 (acc++rest))=some (.ret [] (O254 (oI0 acc rest)))
 | [],acc,n,hn,_=>by
  rw[List.append_nil]
  exact pQ1 ext acc n acc.length (by simp at hn;omega)
 | x::r,acc,n,hn,hlt=>by
  refine in254 ext _ n acc.length (by simp at hn;omega) _ ?_
  have:=aC1 ext h193 h194 h238 n acc.length x r (some (.ret [] (O254 (oI0 acc (x::r))))) acc.reverse [] (by simp at hn ⊢;omega) (by
   rw[zD0 (by simp at hn;omega)]
   have:=aL1 h193 h194 h238 r (insR x acc.reverse []) n (by rw[nC0];simp at hn ⊢;omega) hlt
   rw[nC0]at this
   simpa [oI0] using this)
  simpa using this
theorem vE1 (hx:ext 254=none)(h193:ext 193=none)(h194:ext 194=none)(h238:ext 238=none)(l:List LV)(hl:l.length<2^60):run prog ext (.call 254 [.c (.own 0),iV 0,iV l.length,.c (.fn 193 [] [])] (O254 l))=some (.ret [] (O254 (cZ0 l))):=by
 refine mD1 ext hx l _ _ ?_
 cases l with
 | nil=>exact pQ1 ext [] _ _ (by simp)
 | cons a r=>
  have:=aL1 ext h193 h194 h238 r [a] (a::r).length (by simp;omega) hl
  simpa [cZ0] using this
def E236 (n lim:Int):Env:=[(0,.c (.own 0)),(1,iV 0),(2,iV n),(3,iV lim),(4,.c (.fn 193 [] [])),(10,bV true),(11,bV true)]
theorem mC1 (hx:ext 236=none)(l:List LV)(n lim:Int)(out:Option Out)(h:pZ1 ext 1 (E236 n lim) (O254 l)=out):run prog ext (.call 236 [.c (.own 0),iV 0,iV n,iV lim,.c (.fn 193 [] [])] (O254 l))=out:=by
 unfold pZ1 at h
 (rw[enT hx func236 rfl];simp only[f236,zR,Nat.zero_le,simprocAttr,zE])
 simp only[dV,iV,bV,E236,O254]at h ⊢
 simp only[zS,zD,aB0,aA0,zT34,aR0,zT3,simprocAttr]
 (refine(aC0 ?_).trans h;kernel_rfl)
theorem pdq236 (hx:ext 236=none)(h254:ext 254=none)(h193:ext 193=none)(h194:ext 194=none)(h238:ext 238=none)(l:List LV)(lim:Int)(hl:l.length≤12):run prog ext (.call 236 [.c (.own 0),iV 0,iV l.length,iV lim,.c (.fn 193 [] [])] (O254 l))=some (.ret [] (O254 (cZ0 l))):=by
 refine mC1 ext hx l _ _ _ ?_
 have hr:=vE1 ext h254 h193 h194 h238 l (by omega)
 have e:wr ((l.length:Int) - 0)=l.length:=by rw[hK0 (by omega) (by omega)];omega
 have hle:(l.length:Int)≤12:=by omega
 unfold pZ1
 simp only[dV,iV,bV,E236,O254]at hr ⊢
 (rw[hL236a];simp only[B236,K236a,sub,f236,↓reduceIte,zG])
 simp only[zS,zD,aB0,aA0,zT34,aR0,zT3,e,hle,lP0,wV0,(id rfl:ownF 254=true),(id rfl:uG0 254=false),hr,iM0,simprocAttr]
 (refine .trans ?_ rfl;kernel_rfl)
theorem vD1 (hx:ext 192=none)(h236:ext 236=none)(h254:ext 254=none)(h193:ext 193=none)(h194:ext 194=none)(h238:ext 238=none)(l:List LV)(hl:l.length≤12)(m:Int)
  (h237:run prog ext (.call 237 [.c (.d (.v (.int .u64 (IntKind.u64.wrap l.length))))] [])=some (.ret [iV m] [])):run prog ext (.call 192 [.c (.own 0),.c (.fn 193 [] [])] (O254 l))=some (.ret [] (O254 (cZ0 l))):=by
 have hr:=pdq236 ext h236 h254 h193 h194 h238 l m hl
 (rw[enT hx func192 rfl];simp only[f192,zR,Nat.zero_le,simprocAttr,zE])
 simp only[dV,iV,bV,O254]at hr h237 ⊢
 simp only[zS,zD,aB0,aA0,aQ0,aM0,aJ0,aZ0,aK0,aG0,aN0,aO0,zT34,aR0,zT3,jZ1,iW1,bT1,wE1,jQ1,jR1,aB0,h237,lP0,wV0,(id rfl:ownF 236=true),(id rfl:uG0 236=false),hr,iM0,simprocAttr]
 (refine .trans ?_ rfl;kernel_rfl)
theorem lI1 (hx:ext 191=none)(g:Bool)(x:LV)(l:List LV)(hl:l.length≤12):run prog ext (.call 191 [dV (.s 2 ((x::l).map lvD) g)] [])=some (.ret [.c (.own 0)] (O254 (x::l))):=by
 have hb:l.length+1≤1000000000:=by omega
 (rw[enT hx func191 rfl];simp only[f191,zR,Nat.zero_le,simprocAttr,zE])
 simp only[dV,iV,bV,O254,List.map_cons]
 simp only[zS,zD,aB0,aA0,aQ0,aM0,aJ0,aZ0,aK0,aG0,aN0,aO0,zT34,aR0,zT3,bs0,os144,nN0,hb,Nat.zero_le,simprocAttr]
 (refine .trans ?_ rfl;kernel_rfl)
end
section
open Go
variable (ext:Ext)
noncomputable def B122 : Code:=(f122.body.getD .skip)
noncomputable def qE1 : Code:=sub B122 [1,1,0,0,0]
theorem uX0 : It.code qE1=It.code (sub B122 [1,1,0,0,0]):=rfl
noncomputable def bI1 : List It:=[.inBlock 0,.code (sub B122 [1,1,1])]
noncomputable def pF0 (ext:Ext)(m:Nat)(env:Env)(loc:List O):Option Out:=run prog ext (.k ⟨78,m,[.tmp 8],false⟩ (.code qE1 :: .inLoop qE1::bI1) env loc)
theorem sI0 (a:List LV):List.take a.length (a.map lvD)=a.map lvD:=List.take_of_length_le (by simp)
theorem mB0 (z:Bool)(k:Nat)(a:List D)(l:List (List D)):listD z k (a::l) = .s k (a::l):=dY0 (by simp)
theorem pX1 (hx:ext 123=none)(x:LV):run prog ext (.call 123 [lvV x] [])=some (.ret [iV x.v] []):=by
 (rw[enT hx func123 rfl];simp only[f123,zR,Nat.zero_le,simprocAttr,zE])
 simp only[iV,lvV,lvC]
 simp only[zS,zD,aB0,aA0,aR0,zT3,simprocAttr]
 (refine .trans ?_ rfl;kernel_rfl)
theorem gr124 (hx:ext 124=none)(x y:LV):run prog ext (.call 124 [lvV x,lvV y] [])=some (.ret [lvV ⟨x.v,mx x.p y.p⟩] []):=by
 (rw[enT hx func124 rfl];simp only[f124,zR,Nat.zero_le,simprocAttr,zE])
 simp only[lvV,lvC,mx]
 simp only[zS,zD,aB0,aA0,aR0,zT3,maxA,simprocAttr]
 (refine .trans ?_ rfl;kernel_rfl)
theorem iY1 (hx:ext 121=none)(h191:ext 191=none)(h192:ext 192=none)(h236:ext 236=none)(h254:ext 254=none)(h193:ext 193=none)(h194:ext 194=none)(h238:ext 238=none)(g:Bool)(x:LV)(l:List LV)(hl:l.length<12)(m:Int)
  (h237:run prog ext (.call 237 [.c (.d (.v (.int .u64 (IntKind.u64.wrap (x::l).length))))] [])=some (.ret [iV m] [])):run prog ext (.call 121 [dV (.s 2 ((x::l).map lvD) g)] [])=some (.ret [.c (.own 0)] (O254 (cZ0 (x::l)))):=by
 have h1:=lI1 ext h191 g x l (by omega)
 have h2:=vD1 ext h192 h236 h254 h193 h194 h238 (x::l) (by simp;omega) m h237
 (rw[enT hx func121 rfl];simp only[f121,zR,Nat.zero_le,simprocAttr,zE])
 simp only[dV,iV,O254,List.map_cons]at h1 h2 ⊢
 simp only[zS,zD,aB0,aA0,aQ0,aM0,aJ0,aZ0,aK0,aG0,aN0,aO0,zT34,aR0,zT3,h1,hO0,lP0,wV0,(id rfl:ownF 192=true),(id rfl:uG0 192=false),h2,iM0,simprocAttr]
 (refine .trans ?_ rfl;kernel_rfl)
def iQ0 : List LV→List LV→List LV
 | [],b=>b
 | x::a,[]=>x::a
 | x::a,y::b=>if x.v<y.v then x::iQ0 a (y::b) else if y.v<x.v then y::iQ0 (x::a) b else⟨x.v,mx x.p y.p⟩::iQ0 a b
termination_by a b=>a.length+b.length
def E122 (z z':Bool)(a b:List LV):Env:=[(0,dV (listD z 2 (a.map lvD))),(1,dV (listD z' 2 (b.map lvD))),(2,.c (.fn 123 [] [])),(3,.c (.fn 124 [] [])),(9,.c (.own 0))]
def O122 (out:List LV):List O:=[.arr 2 (out.map lvD)]
theorem lX1 (hx:ext 122=none)(z z':Bool)(a b:List LV)(hs:a.length+b.length≤1000000)(out:Option Out)(h:pF0 ext 0 (E122 z z' a b) (O122 [])=out):run prog ext (.call 122 [dV (listD z 2 (a.map lvD)),dV (listD z' 2 (b.map lvD)),.c (.fn 123 [] []),.c (.fn 124 [] [])] [])=out:=by
 have e:wr ((a.length:Int)+b.length)=((a.length:Int)+b.length):=hK0 (by omega) (by omega)
 have h0:(0:Int)≤(a.length:Int)+b.length:=by omega
 have h1:((a.length:Int)+b.length)≤1000000000:=by omega
 unfold pF0 at h
 (rw[enT hx func122 rfl];simp only[f122,zR,Nat.zero_le,simprocAttr,zE])
 simp only[dV,iV,bV,E122,O122,List.map_nil]at h ⊢
 simp only[zS,zD,aB0,aA0,zT36,zT34,aR0,zT3,e,mk34,h0,h1,simprocAttr]
 (refine(aC0 ?_).trans h;kernel_rfl)
theorem vG1 (h123:ext 123=none)(h124:ext 124=none)(h194:ext 194=none)(h238:ext 238=none)(z z':Bool)(x y:LV)(a b out:List LV)(ho:out.length<1000000)(ha:a.length<1000000)(hb:b.length<1000000)(res:Option Out)
  (h:(if x.v<y.v then pF0 ext 0 (E122 false z' a (y::b)) (O122 (out++[x])) else if y.v<x.v then pF0 ext 0 (E122 z false (x::a) b) (O122 (out++[y])) else pF0 ext 0 (E122 false false a b) (O122 (out++[⟨x.v,mx x.p y.p⟩])))=res) :
  pF0 ext 0 (E122 z z' (x::a) (y::b)) (O122 out)=res:=by
 have hx:=pX1 ext h123 x
 have hy:=pX1 ext h123 y
 have hg:=gr124 ext h124 x y
 have hc:=oX1 ext h194 h238 x.v y.v
 have la:((a.length+1:Nat):Int)>0:=by omega
 have lb:((b.length+1:Nat):Int)>0:=by omega
 have la0:(0:Int)<((a.length+1:Nat):Int):=by omega
 have lb0:(0:Int)<((b.length+1:Nat):Int):=by omega
 have la1:(1:Int)≤((a.length+1:Nat):Int):=by omega
 have lb1:(1:Int)≤((b.length+1:Nat):Int):=by omega
 have z0:(0:Int)≤0:=by omega
 have z1:(0:Int)≤1:=by omega
 have ho':out.length≤1000000000:=by omega
 unfold pF0 at h ⊢
 by_cases c1:x.v<y.v
 ·rw[if_pos c1]at h
  have e:cmpI x.v y.v = -1:=by unfold cmpI;rw[if_pos c1]
  rw[e]at hc
  simp only[dV,iV,bV,lvV,lvC,E122,O122,List.map_cons,List.map_append,List.map_nil,cR0,mB0,lB0 x]at h hx hy hc hg ⊢
  (rw[uX0];simp only[B122,bI1,sub,f122,↓reduceIte,zG])
  simp only[zS,zD,aB0,aA0,zT34,aR0,zT3,bD0,aH0,aI0,Array.size,List.length,la,lb,la0,lb0,z0,Int.toNat_zero,lvD,hx,hy,hc,simprocAttr]
  rw[aE0 _ _ _ _ (by kernel_rfl)]
  simp only[zS,zD,aB0,aA0,zT34,aR0,zT3,bD0,aH0,aI0,Array.size,List.length,la,lb,la0,lb0,la1,lb1,z0,z1,Int.toNat_zero,Int.toNat_one,lvD,jD0,gZ0,bsLV,oo34,gD0,ho',sI0,(id rfl:(1:Int).toNat=1),simprocAttr]
  rw[aE0 _ _ _ _ (by kernel_rfl)]
  simp only[zS,zD,aB0,aA0,simprocAttr]
  (refine(aC0 ?_).trans h;kernel_rfl)
 by_cases c2:y.v<x.v
 ·rw[if_neg c1,if_pos c2]at h
  have e:cmpI x.v y.v=1:=by unfold cmpI;rw[if_neg c1,if_pos c2]
  rw[e]at hc
  simp only[dV,iV,bV,lvV,lvC,E122,O122,List.map_cons,List.map_append,List.map_nil,cR0,mB0,lB0 y]at h hx hy hc hg ⊢
  (rw[uX0];simp only[B122,bI1,sub,f122,↓reduceIte,zG])
  simp only[zS,zD,aB0,aA0,zT34,aR0,zT3,bD0,aH0,aI0,Array.size,List.length,la,lb,la0,lb0,z0,Int.toNat_zero,lvD,hx,hy,hc,simprocAttr]
  rw[aE0 _ _ _ _ (by kernel_rfl)]
  simp only[zS,zD,aB0,aA0,zT34,aR0,zT3,bD0,aH0,aI0,Array.size,List.length,la,lb,la0,lb0,la1,lb1,z0,z1,Int.toNat_zero,Int.toNat_one,lvD,jD0,gZ0,bsLV,oo34,gD0,ho',sI0,(id rfl:(1:Int).toNat=1),simprocAttr]
  rw[aE0 _ _ _ _ (by kernel_rfl)]
  simp only[zS,zD,aB0,aA0,simprocAttr]
  (refine(aC0 ?_).trans h;kernel_rfl)
 ·rw[if_neg c1,if_neg c2]at h
  have e:cmpI x.v y.v=0:=by unfold cmpI;rw[if_neg c1,if_neg c2]
  rw[e]at hc
  simp only[dV,iV,bV,lvV,lvC,E122,O122,List.map_cons,List.map_append,List.map_nil,cR0,mB0,lB0 ⟨_,_⟩]at h hx hy hc hg ⊢
  (rw[uX0];simp only[B122,bI1,sub,f122,↓reduceIte,zG])
  simp only[zS,zD,aB0,aA0,zT34,aR0,zT3,bD0,aH0,aI0,Array.size,List.length,la,lb,la0,lb0,z0,Int.toNat_zero,lvD,hx,hy,hc,simprocAttr]
  rw[aE0 _ _ _ _ (by kernel_rfl)]
  simp only[zS,zD,aB0,aA0,zT34,aR0,zT3,bD0,aH0,aI0,Array.size,List.length,la,lb,la0,lb0,la1,lb1,z0,z1,Int.toNat_zero,Int.toNat_one,lvD,hg,jD0,gZ0,bsLV,oo34,gD0,ho',sI0,(id rfl:(1:Int).toNat=1),simprocAttr]
  rw[aE0 _ _ _ _ (by kernel_rfl)]
  simp only[zS,zD,aB0,aA0,simprocAttr]
  (refine(aC0 ?_).trans h;kernel_rfl)
theorem wW0 (z z':Bool)(a b out:List LV)(ho:out.length<1000000)(ha:a.length<1000000)(hb:b.length<1000000)(hn:a=[]∨b=[]):pF0 ext 0 (E122 z z' a b) (O122 out)=some (.ret [dV (.s 2 ((out++a++b).map lvD))] []):=by
 have ho':out.length≤1000000000:=by omega
 have ha':a.length≤1000000000:=by omega
 have hb':b.length≤1000000000:=by omega
 have hoa:out.length+a.length≤1000000000:=by omega
 unfold pF0
 by_cases c1:(a.length:Int)>0
 ·have c2:¬ (b.length:Int)>0:=by
   rcases hn with rfl | rfl
   ·simp at c1
   ·simp
  simp only[dV,iV,bV,E122,O122,List.map_append]
  (rw[uX0];simp only[B122,bI1,sub,f122,↓reduceIte,zG])
  simp only[zS,zD,aB0,aA0,zT34,aR0,zT3,c1,c2,ol34,nN0,ho',ha',hb',hoa,simprocAttr]
  (refine .trans ?_ rfl;kernel_rfl)
 ·simp only[dV,iV,bV,E122,O122,List.map_append]
  (rw[uX0];simp only[B122,bI1,sub,f122,↓reduceIte,zG])
  simp only[zS,zD,aB0,aA0,zT34,aR0,zT3,c1,ol34,nN0,ho',ha',hb',hoa,simprocAttr]
  (refine .trans ?_ rfl;kernel_rfl)
theorem vC0 (hx:ext 122=none)(h123:ext 123=none)(h124:ext 124=none)(h194:ext 194=none)(h238:ext 238=none)(z z':Bool)(a b:List LV)(hs:a.length+b.length≤400000) :
  run prog ext (.call 122 [dV (listD z 2 (a.map lvD)),dV (listD z' 2 (b.map lvD)),.c (.fn 123 [] []),.c (.fn 124 [] [])] [])=some (.ret [dV (.s 2 ((iQ0 a b).map lvD))] []):=by
 refine lX1 ext hx z z' a b (by omega) _ ?_
 have key:∀ (m:Nat) (z z':Bool) (a b out:List LV),a.length+b.length≤m→out.length+a.length+b.length<1000000→pF0 ext 0 (E122 z z' a b) (O122 out)=some (.ret [dV (.s 2 ((out++iQ0 a b).map lvD))] []):=by
  intro m
  induction m with
  | zero=>
   intro z z' a b out hm ho
   have ha:a=[]:=List.eq_nil_of_length_eq_zero (by omega)
   have hb:b=[]:=List.eq_nil_of_length_eq_zero (by omega)
   subst ha hb
   rw[wW0 ext z z' [] [] out (by omega) (by simp) (by simp) (.inl rfl)]
   rw[iQ0];simp
  | succ m ih=>
   intro z z' a b out hm ho
   cases a with
   | nil=>
    rw[wW0 ext z z' [] b out (by omega) (by simp) (by simp at ho;omega) (.inl rfl)]
    rw[iQ0];simp
   | cons x a=>
    cases b with
    | nil=>
     rw[wW0 ext z z' (x::a) [] out (by omega) (by simp at ho ⊢;omega) (by simp) (.inr rfl)]
     rw[iQ0];simp
    | cons y b=>
     simp only[List.length_cons]at hm ho
     refine vG1 ext h123 h124 h194 h238 z z' x y a b out (by omega) (by omega) (by omega) _ ?_
     rw[iQ0]
     by_cases c1:x.v<y.v
     ·rw[if_pos c1,if_pos c1,ih false z' a (y::b) _ (by simp;omega) (by simp;omega)]
      simp
     ·rw[if_neg c1,if_neg c1]
      by_cases c2:y.v<x.v
      ·rw[if_pos c2,if_pos c2,ih z false (x::a) b _ (by simp;omega) (by simp;omega)]
       simp
      ·rw[if_neg c2,if_neg c2,ih false false a b _ (by omega) (by simp;omega)]
       simp
 have:=key (a.length+b.length) z z' a b [] (Nat.le_refl _) (by simp;omega)
 simpa using this
theorem iR0 : ∀ (a b:List LV),(iQ0 a b).length≤a.length+b.length
 | [],b=>by rw[iQ0];simp
 | x::a,[]=>by rw[iQ0];simp
 | x::a,y::b=>by
  rw[iQ0]
  split
  ·have:=iR0 a (y::b);simp at this ⊢;omega
  ·split
   ·have:=iR0 (x::a) b;simp at this ⊢;omega
   ·have:=iR0 a b;simp;omega
termination_by a b=>a.length+b.length
end
section
open Go
variable (ext:Ext)
noncomputable def B84 : Code:=(f84.body.getD .skip)
noncomputable def L84a : Code:=sub B84 [1,1,0,1,0,0]
theorem gT1 : It.code L84a=It.code (sub B84 [1,1,0,1,0,0]):=rfl
noncomputable def K84a : List It:=[.inBlock 0,.code (sub B84 [1,1,1])]
noncomputable def H84a (ext:Ext)(m:Nat)(env:Env)(loc:List O):Option Out:=run prog ext (.k ⟨102,m,[.cell 4 36,.tmp 5],false⟩ (.code L84a :: .inLoop L84a::K84a) env loc)
noncomputable def L84b : Code:=sub B84 [1,1,1,1,0,1,0,0]
theorem mH1 : It.code L84b=It.code (sub B84 [1,1,1,1,0,1,0,0]):=rfl
noncomputable def K84b : List It:=[.inBlock 2,.code (sub B84 [1,1,1,1,1])]
noncomputable def H84b (ext:Ext)(m:Nat)(env:Env)(loc:List O):Option Out:=run prog ext (.k ⟨102,m,[.cell 4 36,.tmp 5],false⟩ (.code L84b :: .inLoop L84b::K84b) env loc)
noncomputable def L84c : Code:=sub B84 [1,1,1,1,0,1,0,0,1,1,0,0,1,1,1,1,0,1,0,0]
theorem gU1 : It.code L84c=It.code (sub B84 [1,1,1,1,0,1,0,0,1,1,0,0,1,1,1,1,0,1,0,0]):=rfl
noncomputable def K84c : List It:=[.inBlock 4,.code (sub B84 [1,1,1,1,0,1,0,0,1,1,0,0,1,1,1,1,1]),.inBlock 3,.code (sub B84 [1,1,1,1,0,1,0,0,1,1,1]),.inLoop L84b,.inBlock 2,.code (sub B84 [1,1,1,1,1])]
noncomputable def H84c (ext:Ext)(m:Nat)(env:Env)(loc:List O):Option Out:=run prog ext (.k ⟨102,m,[.cell 4 36,.tmp 5],false⟩ (.code L84c :: .inLoop L84c::K84c) env loc)
def kK0 (l:List LV):Out:=match l with | []=> .ret [dV (.s 2 [])] [] | a::r=> .ret [.c (.own 0)] [.arr 2 ((cZ0 (a::r)).map lvD)]
def sT0 : Prop:=∀ (z:Fl)(l:List LV),l.length≤8→run prog ext (.call 121 [dV (listD z 2 (l.map lvD))] [])=some (kK0 l)
def E84 (z:Fl)(bys:List Lev)(x:Lev)(k:Int):Env:=[(1,dV (listD z 2 (bys.map levD))),(2,.c (.ptr 0 0)),(4,.c (.ptr 1 0)),(20,dV x.d),(21,iV x.vs.length),(22,iV k)]
def O84 (x:Lev):List O:=[.box (levC x),.box (levC zLev)]
theorem sB1 (hx:ext 84=none)(x:Lev)(z:Fl)(bys:List Lev)(hr:run prog ext (.call 120 [levV x] [])=some (.ret [bV true] []))(out:Option Out)(h:H84a ext 0 (E84 z bys x 0) (O84 x)=out):run prog ext (.call 84 [levV x,dV (listD z 2 (bys.map levD))] [])=out:=by
 unfold H84a at h
 (rw[enT hx func84 rfl];simp only[f84,zR,Nat.zero_le,simprocAttr,zE])
 simp only[levV,dO0,levC,Lev.d,dV,iV,bV,E84,O84]at h hr ⊢
 simp only[zS,zD,aB0,aA0,zT36,zT34,aR0,zT3,hr,simprocAttr]
 (refine(aC0 ?_).trans h;kernel_rfl)
theorem bad84 (hx:ext 84=none)(x:Lev)(z:Fl)(bys:List Lev)(hr:run prog ext (.call 120 [levV x] [])=some (.ret [bV false] [])):run prog ext (.call 84 [levV x,dV (listD z 2 (bys.map levD))] [])=some (.ret [levV zLev,iV 4] []):=by
 (rw[enT hx func84 rfl];simp only[f84,zR,Nat.zero_le,simprocAttr,zE])
 simp only[levV,dO0,levC,Lev.d,dV,iV,bV]at hr ⊢
 simp only[zS,zD,aB0,aA0,zT36,zT34,aR0,zT3,hr,simprocAttr]
 (refine .trans ?_ rfl;kernel_rfl)
def jO0 (bys:List Lev)(y:LV):Bool:=match bys[y.v.toNat]? with | some b=> !b.valid | none=>false
theorem vP1 (x:Lev)(z:Fl)(bys:List Lev)(y:LV)(k:Nat)(hk:x.vs[k]? = some y)(hl:(k:Int)<x.vs.length)(h3:0≤y.v)(hv:∀ b:Lev,run prog ext (.call 120 [levV b] [])=some (.ret [bV b.valid] [])) :
  (jO0 bys y=true→H84a ext 0 (E84 z bys x k) (O84 x)=some (.ret [levV zLev,iV 4] []))∧(jO0 bys y=false→∀ out,H84a ext 0 (E84 z bys x (wr ((k:Int)+1))) (O84 x)=out→H84a ext 0 (E84 z bys x k) (O84 x)=out):=by
 have h0:(0:Int)≤k:=by omega
 have hd:listD x.z 2 (x.vs.map lvD) = .s 2 (x.vs.map lvD) x.z.g:=aP0 h0 (by simpa using hl)
 unfold H84a jO0
 by_cases h2:y.v<bys.length
 ·have hd2:listD z 2 (bys.map levD) = .s 2 (bys.map levD) z.g:=aP0 h3 (by simpa using h2)
  have hb:y.v.toNat<bys.length:=by omega
  have hgb:bys[y.v.toNat]? = some bys[y.v.toNat]:=by simp[hb]
  generalize bys[y.v.toNat]=b at hgb
  have hr:=hv b
  rw[hgb]
  dsimp only
  refine⟨fun hp=> ?_,fun hp out h=> ?_⟩
  ·have hp':b.valid=false:=by simpa using hp
   rw[hp']at hr
   simp only[levV,dV,iV,bV,E84,O84,dO0,levC,Lev.d,hd,hd2]at hr ⊢
   (rw[gT1];simp only[B84,K84a,sub,f84,↓reduceIte,zG])
   simp only[zS,zD,aB0,aA0,zT30,zT36,zT34,aR0,zT3,h0,hl,Int.toNat_natCast,hk,h2,h3,hgb,levD,Lev.d,lvD,hr,simprocAttr]
   (refine .trans ?_ rfl;kernel_rfl)
  ·have hp':b.valid=true:=by simpa using hp
   rw[hp']at hr
   simp only[levV,dV,iV,bV,E84,O84,dO0,levC,Lev.d,hd,hd2]at hr h ⊢
   (rw[gT1];simp only[B84,K84a,sub,f84,↓reduceIte,zG])
   simp only[zS,zD,aB0,aA0,zT30,zT36,zT34,aR0,zT3,h0,hl,Int.toNat_natCast,hk,h2,h3,hgb,levD,Lev.d,lvD,hr,simprocAttr]
   (refine(aC0 ?_).trans h;kernel_rfl)
 ·have hgb:bys[y.v.toNat]? = none:=List.getElem?_eq_none (by omega)
  rw[hgb]
  dsimp only
  refine⟨fun hp=>(by cases hp),fun _ out h=> ?_⟩
  simp only[levV,dV,iV,bV,E84,O84,dO0,levC,Lev.d,hd]at h ⊢
  (rw[gT1];simp only[B84,K84a,sub,f84,↓reduceIte,zG])
  simp only[zS,zD,aB0,aA0,zT30,zT36,zT34,aR0,zT3,h0,hl,Int.toNat_natCast,hk,h2,lvD,simprocAttr]
  (refine(aC0 ?_).trans h;kernel_rfl)
theorem pV1 (k:Nat)(l:List (List D)):cA0 (.c (.d (.s k l)))=false:=id rfl
theorem uC0 (i slot k:Nat)(els:List (List D)):bB0 [] [i] slot (some (.ret [.c (.own 0)] [.arr k els]))=some ⟨.val (.c (.own slot)),[(slot,.arr k els),(i,.gone)],[i]⟩:=rfl
def E84b (z:Fl)(bys:List Lev)(c:Int)(zp:Bool)(p:List LV)(n k:Int):Env:=[(1,dV (listD z 2 (bys.map levD))),(4,.c (.ptr 0 0)),(8,iV c),(9,dV (listD zp 2 (p.map lvD))),(46,.c (.own 1)),(47,iV n),(48,iV k)]
def O84b (srt:List LV):List O:=[.box (levC zLev),.arr 2 (srt.map lvD)]
theorem jE0 (l:List LV):(cZ0 l).length=l.length:=by
 cases l with
 | nil=>rfl
 | cons a r=>unfold cZ0;rw[vA0];simp;omega
theorem in84b (hs:sT0 ext)(x:Lev)(a:LV)(r:List LV)(hx:x.vs=a::r)(hl:x.vs.length≤8)(z:Fl)(bys:List Lev)(out:Option Out)(h:H84b ext 0 (E84b z bys x.c true [] x.vs.length 0) (O84b (cZ0 x.vs))=out):H84a ext 0 (E84 z bys x x.vs.length) (O84 x)=out:=by
 have hr:=hs x.z x.vs hl
 rw[hx]at hr
 have hq:(cZ0 (a::r)).length=r.length+1:=by rw[jE0];rfl
 unfold H84b at h
 unfold H84a
 simp only[levV,dV,iV,bV,E84,O84,E84b,O84b,dO0,levC,Lev.d,kK0,hx,List.map_cons,List.map_nil,qE0]at h hr ⊢
 (rw[gT1];simp only[B84,K84a,sub,f84,↓reduceIte,zG])
 simp only[zS,zD,aB0,aA0,zT30,zT36,zT34,aQ0,aM0,aJ0,aZ0,aK0,aG0,aN0,aO0,aR0,zT3,Int.lt_irrefl,hr,hO0,hq,simprocAttr]
 (refine(aC0 ?_).trans h;kernel_rfl)
theorem none84 (hs:sT0 ext)(x:Lev)(hx:x.vs=[])(z:Fl)(bys:List Lev)(q:Lev)(e:Int)(hq:run prog ext (.call 125 [iV x.c,dV (listD true 2 [])] [])=some (.ret [levV q,iV e] [])):H84a ext 0 (E84 z bys x 0) (O84 x)=some (.ret [levV q,iV e] []):=by
 have hr:=hs x.z x.vs (by rw[hx];simp)
 rw[hx]at hr
 have hz:¬ ((0:Int)<0):=by decide
 unfold H84a
 simp only[levV,dV,iV,bV,E84,O84,dO0,levC,Lev.d,kK0,hx,List.map_nil,List.length_nil,Int.natCast_zero,qE0]at hr hq ⊢
 (rw[gT1];simp only[B84,K84a,sub,f84,↓reduceIte,zG])
 simp only[zS,zD,aB0,aA0,zT30,zT36,zT34,aQ0,aM0,aJ0,aZ0,aK0,aG0,aN0,aO0,aR0,zT3,hz,hr,Int.natCast_zero,simprocAttr]
 refine(aC0 (e:=[(1,V.c (.d (listD z 2 (bys.map levD)))),(4,.c (.ptr 0 0)),(8,.c (.d (.v (.int .i64 x.c)))),(9,.c (.d (.v (.slice none 0 0)))),(46,.c (.d (.s 2 []))),(47,.c (.d (.v (.int .i64 0)))),(48,.c (.d (.v (.int .i64 0))))]) (lo:=[.box (levC zLev)]) (by kernel_rfl)).trans ?_
 simp only[zS,zD,aB0,aA0,zT30,zT36,zT34,aQ0,aM0,aJ0,aZ0,aK0,aG0,aN0,aO0,aR0,zT3,hz,dO0,hq,pX0,simprocAttr]
 (refine .trans ?_ rfl;kernel_rfl)
def E84c (z:Fl)(bys:List Lev)(c:Int)(zp:Bool)(p:List LV)(n k m i:Int):Env:=[(1,dV (listD z 2 (bys.map levD))),(4,.c (.ptr 0 0)),(8,iV c),(9,dV (listD zp 2 (p.map lvD))),(11,.c (.ptr 1 0)),(12,.c (.ptr 2 0)),(13,.c (.own 3)),(46,.c (.own 4)),(47,iV n),(48,iV k),(71,iV m),(72,iV i)]
def O84c (y:LV)(bc:Int)(X:C)(q srt:List LV):List O:=[.box (levC zLev),.box (lvC y),.box [.d (.v (.int .i64 bc)),X],.arr 2 (q.map lvD),.arr 2 (srt.map lvD)]
def E84d (z:Fl)(bys:List Lev)(c:Int)(zp:Bool)(p:List LV)(n k:Int):Env:=[(1,dV (listD z 2 (bys.map levD))),(4,.c (.ptr 0 0)),(8,iV c),(9,dV (listD zp 2 (p.map lvD))),(11,.c (.ptr 1 0)),(12,.c (.ptr 2 0)),(13,dV (.s 2 [])),(46,.c (.own 3)),(47,iV n),(48,iV k),(71,iV 0),(72,iV 0)]
def O84d (y:LV)(bc:Int)(X:C)(srt:List LV):List O:=[.box (levC zLev),.box (lvC y),.box [.d (.v (.int .i64 bc)),X],.arr 2 (srt.map lvD)]
theorem a1_84 (hs:sT0 ext)(y:LV)(b:Lev)(srt:List LV)(hl:b.vs.length≤8)(a:LV)(r:List LV)(hbv:b.vs=a::r)(z:Fl)(zp:Bool)(bys:List Lev)(c:Int)(p:List LV)(k:Nat)(hk:srt[k]? = some y)(hql:(k:Int)<srt.length)(h2:y.v<bys.length)(h3:0≤y.v)(hgb:bys[y.v.toNat]? = some b)(out:Option Out)
  (h:H84c ext 0 (E84c z bys c zp p srt.length k (cZ0 b.vs).length 0) (O84c y b.c (.d b.d) (cZ0 b.vs) srt)=out):H84b ext 0 (E84b z bys c zp p srt.length k) (O84b srt)=out:=by
 have h0:(0:Int)≤k:=by omega
 have hd2:listD z 2 (bys.map levD) = .s 2 (bys.map levD) z.g:=aP0 h3 (by simpa using h2)
 have hr:=hs b.z b.vs hl
 rw[hbv]at hr
 unfold H84c at h
 unfold H84b
 simp only[levV,dV,iV,bV,dO0,levC,lvC,Lev.d,hd2,E84b,O84b,E84c,O84c,kK0,hbv,List.map_cons]at h hr ⊢
 (rw[mH1];simp only[B84,K84b,sub,f84,↓reduceIte,zG])
 simp only[zS,zD,aB0,aA0,zT30,zT36,zT34,aQ0,aM0,aJ0,aZ0,aK0,aG0,aN0,aO0,aR0,zT3,h0,hql,Int.toNat_natCast,hk,h2,h3,hgb,bsLV,toD,toDs,levD,Lev.d,lB0 y,hbv,List.map_cons,hr,hO0,simprocAttr]
 (refine(aC0 ?_).trans h;kernel_rfl)
theorem a2_84 (hs:sT0 ext)(y:LV)(b:Lev)(srt:List LV)(hbv:b.vs=[])(z:Fl)(zp:Bool)(bys:List Lev)(c:Int)(p:List LV)(k:Nat)(hk:srt[k]? = some y)(hql:(k:Int)<srt.length)(h2:y.v<bys.length)(h3:0≤y.v)(hgb:bys[y.v.toNat]? = some b)(out:Option Out)
  (h:H84c ext 0 (E84d z bys c zp p srt.length k) (O84d y b.c (.d b.d) srt)=out):H84b ext 0 (E84b z bys c zp p srt.length k) (O84b srt)=out:=by
 have h0:(0:Int)≤k:=by omega
 have hd2:listD z 2 (bys.map levD) = .s 2 (bys.map levD) z.g:=aP0 h3 (by simpa using h2)
 have hr:=hs b.z b.vs (by rw[hbv];simp)
 rw[hbv]at hr
 unfold H84c at h
 unfold H84b
 simp only[levV,dV,iV,bV,dO0,levC,lvC,Lev.d,hd2,E84b,O84b,E84d,O84d,kK0,hbv,List.map_nil]at h hr ⊢
 (rw[mH1];simp only[B84,K84b,sub,f84,↓reduceIte,zG])
 simp only[zS,zD,aB0,aA0,zT30,zT36,zT34,aQ0,aM0,aJ0,aZ0,aK0,aG0,aN0,aO0,aR0,zT3,h0,hql,Int.toNat_natCast,hk,h2,h3,hgb,bsLV,toD,toDs,levD,Lev.d,lB0 y,hbv,hr,Int.natCast_zero,simprocAttr]
 (refine(aC0 ?_).trans h;kernel_rfl)
theorem a3_84 (hs:sT0 ext)(y:LV)(srt:List LV)(z:Fl)(zp:Bool)(bys:List Lev)(c:Int)(p:List LV)(k:Nat)(hk:srt[k]? = some y)(hql:(k:Int)<srt.length)(h2:¬ y.v<bys.length)(out:Option Out)
  (h:H84c ext 0 (E84c z bys c zp p srt.length k 1 0) (O84c y 0 .any [⟨y.v,0⟩] srt)=out):H84b ext 0 (E84b z bys c zp p srt.length k) (O84b srt)=out:=by
 have h0:(0:Int)≤k:=by omega
 have hr:=hs false [⟨y.v,0⟩] (by simp)
 rw[cR0]at hr
 have hq1:cZ0 [(⟨y.v,0⟩:LV)]=[⟨y.v,0⟩]:=rfl
 rw[kK0,hq1]at hr
 unfold H84c at h
 unfold H84b
 simp only[levV,dV,iV,bV,dO0,levC,lvC,E84b,O84b,E84c,O84c,List.map_cons,List.map_nil,lB0 ⟨_,_⟩]at h hr ⊢
 (rw[mH1];simp only[B84,K84b,sub,f84,↓reduceIte,zG])
 simp only[zS,zD,aB0,aA0,zT30,zT36,zT34,aQ0,aM0,aJ0,aZ0,aK0,aG0,aN0,aO0,aR0,zT3,h0,hql,Int.toNat_natCast,hk,h2,bsLV,lB0 y,kU1,qW0,(id rfl:ownF 121=false),hr,uC0,Int.natCast_one,simprocAttr]
 (refine(aC0 ?_).trans h;kernel_rfl)
theorem vQ1 (z:Fl)(zp:Bool)(bys:List Lev)(c:Int)(p:List LV)(n k m:Int)(i:Nat)(y w:LV)(bc:Int)(X:C)(q srt:List LV)(hX:X = .any∨∃ x,X = .d x)(hi:q[i]? = some w)(him:(i:Int)<m)(out:Option Out)
  (h:H84c ext 0 (E84c z bys c zp p n k m (wr ((i:Int)+1))) (O84c y bc X (q.set i (iD0 y.p w)) srt)=out):H84c ext 0 (E84c z bys c zp p n k m i) (O84c y bc X q srt)=out:=by
 have hlt:=cT0 hi
 have h0:(0:Int)≤i:=by omega
 have hq:(i:Int)<q.length:=by omega
 have hi':(q.map lvD)[i]? = some [.v (.int .i64 w.v),.v (.int .i64 w.p)]:=by rw[List.getElem?_map,hi];rfl
 have hs:(q.set i (iD0 y.p w)).map lvD=(q.map lvD).set i [.v (.int .i64 w.v),.v (.int .i64 (wr (w.p+y.p)))]:=by rw[List.map_set];rfl
 unfold H84c at h ⊢
 rcases hX with rfl | ⟨X,rfl⟩
 ·simp only[levV,dV,iV,bV,dO0,levC,lvC,E84c,O84c,hs]at h ⊢
  (rw[gU1];simp only[B84,K84c,sub,f84,↓reduceIte,zG])
  simp only[zS,zD,aB0,aA0,zT36,zT34,aQ0,aM0,aJ0,aZ0,aK0,aG0,aN0,aO0,aR0,zT3,bD0,aH0,aI0,Array.size,List.length,h0,hq,him,Int.toNat_natCast,hi,lB0 w,stK,toDs,toD,aU0,List.contains_nil,simprocAttr]
  rw[aE0 _ _ _ _ (by kernel_rfl)]
  simp only[zS,zD,aB0,aA0,simprocAttr]
  (refine(aC0 ?_).trans h;kernel_rfl)
 ·simp only[levV,dV,iV,bV,dO0,levC,lvC,E84c,O84c,hs]at h ⊢
  (rw[gU1];simp only[B84,K84c,sub,f84,↓reduceIte,zG])
  simp only[zS,zD,aB0,aA0,zT36,zT34,aQ0,aM0,aJ0,aZ0,aK0,aG0,aN0,aO0,aR0,zT3,bD0,aH0,aI0,Array.size,List.length,h0,hq,him,Int.toNat_natCast,hi,lB0 w,stK,toDs,toD,aU0,List.contains_nil,simprocAttr]
  rw[aE0 _ _ _ _ (by kernel_rfl)]
  simp only[zS,zD,aB0,aA0,simprocAttr]
  (refine(aC0 ?_).trans h;kernel_rfl)
theorem rW1 (hx:ext 122=none)(h123:ext 123=none)(h124:ext 124=none)(h194:ext 194=none)(h238:ext 238=none)(z:Fl)(zp:Bool)(bys:List Lev)(c:Int)(p:List LV)(n k m:Int)(y:LV)(bc:Int)(X:C)(q srt:List LV)(hX:X = .any∨∃ x,X = .d x)(hl:p.length+q.length≤400000)(out:Option Out)
  (h:H84b ext 0 (E84b z bys (mx c (wr (bc+y.p))) false (iQ0 p q) n (wr (k+1))) (O84b srt)=out):H84c ext 0 (E84c z bys c zp p n k m m) (O84c y bc X q srt)=out:=by
 have hj:=vC0 ext hx h123 h124 h194 h238 zp false p q hl
 rw[cR0]at hj
 unfold H84b at h
 unfold H84c
 rcases hX with rfl | ⟨X,rfl⟩
 ·simp only[levV,dV,iV,bV,dO0,levC,lvC,E84c,O84c,E84b,O84b,mx,cR0]at h hj ⊢
  (rw[gU1];simp only[B84,K84c,sub,f84,↓reduceIte,zG])
  simp only[zS,zD,aB0,aA0,zT36,zT34,aQ0,aM0,aJ0,aZ0,aK0,aG0,aN0,aO0,aR0,zT3,bD0,aH0,aI0,Array.size,List.length,maxA,Int.lt_irrefl,uB0,qW0,(id rfl:ownF 122=false),hj,jY0,pV1,Bool.false_eq_true,if_false,aU0,simprocAttr]
  rw[aE0 _ _ _ _ (by kernel_rfl)]
  simp only[zS,zD,aB0,aA0,zT3,simprocAttr]
  (refine(aC0 ?_).trans h;kernel_rfl)
 ·simp only[levV,dV,iV,bV,dO0,levC,lvC,E84c,O84c,E84b,O84b,mx,cR0]at h hj ⊢
  (rw[gU1];simp only[B84,K84c,sub,f84,↓reduceIte,zG])
  simp only[zS,zD,aB0,aA0,zT36,zT34,aQ0,aM0,aJ0,aZ0,aK0,aG0,aN0,aO0,aR0,zT3,bD0,aH0,aI0,Array.size,List.length,maxA,Int.lt_irrefl,uB0,qW0,(id rfl:ownF 122=false),hj,jY0,pV1,Bool.false_eq_true,if_false,aU0,simprocAttr]
  rw[aE0 _ _ _ _ (by kernel_rfl)]
  simp only[zS,zD,aB0,aA0,zT3,simprocAttr]
  (refine(aC0 ?_).trans h;kernel_rfl)
theorem rX1 (hx:ext 122=none)(h123:ext 123=none)(h124:ext 124=none)(h194:ext 194=none)(h238:ext 238=none)(z:Fl)(zp:Bool)(bys:List Lev)(c:Int)(p:List LV)(n k:Int)(y:LV)(bc:Int)(x:D)(srt:List LV)(hl:p.length≤400000)(out:Option Out)
  (h:H84b ext 0 (E84b z bys (mx c (wr (bc+y.p))) false (iQ0 p []) n (wr (k+1))) (O84b srt)=out):H84c ext 0 (E84d z bys c zp p n k) (O84d y bc (.d x) srt)=out:=by
 have hj:=vC0 ext hx h123 h124 h194 h238 zp false p [] (by simpa using hl)
 rw[cR0]at hj
 have hz:¬ ((0:Int)<0):=by decide
 unfold H84b at h
 unfold H84c
 simp only[levV,dV,iV,bV,dO0,levC,lvC,E84d,O84d,E84b,O84b,mx,cR0,List.map_nil]at h hj ⊢
 (rw[gU1];simp only[B84,K84c,sub,f84,↓reduceIte,zG])
 simp only[zS,zD,aB0,aA0,zT36,zT34,aQ0,aM0,aJ0,aZ0,aK0,aG0,aN0,aO0,aR0,zT3,bD0,aH0,aI0,Array.size,List.length,maxA,hz,hj,simprocAttr]
 rw[aE0 _ _ _ _ (by kernel_rfl)]
 simp only[zS,zD,aB0,aA0,zT3,simprocAttr]
 (refine(aC0 ?_).trans h;kernel_rfl)
theorem rV1 (z:Fl)(zp:Bool)(bys:List Lev)(c:Int)(p:List LV)(n:Int)(srt:List LV)(q:Lev)(e:Int)(hq:run prog ext (.call 125 [iV c,dV (listD zp 2 (p.map lvD))] [])=some (.ret [levV q,iV e] [])):H84b ext 0 (E84b z bys c zp p n n) (O84b srt)=some (.ret [levV q,iV e] []):=by
 unfold H84b
 simp only[levV,dV,iV,bV,dO0,levC,Lev.d,E84b,O84b]at hq ⊢
 (rw[mH1];simp only[B84,K84b,sub,f84,↓reduceIte,zG])
 simp only[zS,zD,aB0,aA0,zT30,zT36,zT34,aQ0,aM0,aJ0,aZ0,aK0,aG0,aN0,aO0,aR0,zT3,Int.lt_irrefl,hq,pX0,simprocAttr]
 (refine .trans ?_ rfl;kernel_rfl)
theorem gY1 (hx:ext 122=none)(h123:ext 123=none)(h124:ext 124=none)(h194:ext 194=none)(h238:ext 238=none)(z:Fl)(zp:Bool)(bys:List Lev)(c:Int)(p:List LV)(n k:Int)(y:LV)(bc:Int)(X:C)(q srt:List LV)(hX:X = .any∨∃ x,X = .d x)(hl:p.length+q.length≤400000)(out:Option Out)
  (h:H84b ext 0 (E84b z bys (mx c (wr (bc+y.p))) false (iQ0 p (q.map (iD0 y.p))) n (wr (k+1))) (O84b srt)=out):H84c ext 0 (E84c z bys c zp p n k q.length 0) (O84c y bc X q srt)=out:=by
 have key:∀ (m i:Nat),i+m=q.length→H84c ext 0 (E84c z bys c zp p n k q.length i) (O84c y bc X ((q.take i).map (iD0 y.p)++q.drop i) srt)=out:=by
  intro m
  induction m with
  | zero=>
   intro i hi
   have:i=q.length:=by omega
   subst this
   rw[List.take_length,List.drop_length,List.append_nil]
   exact rW1 ext hx h123 h124 h194 h238 z zp bys c p n k _ y bc X _ srt hX (by simpa using hl) out h
  | succ m ih=>
   intro i hi
   have hlt:i<q.length:=by omega
   have hlen:((q.take i).map (iD0 y.p)).length=i:=by simp;omega
   have hget:((q.take i).map (iD0 y.p)++q.drop i)[i]? = some q[i]:=by
    rw[List.getElem?_append_right (by omega),hlen,Nat.sub_self,List.drop_eq_getElem_cons hlt];rfl
   refine vQ1 ext z zp bys c p n k q.length i y q[i] bc X _ srt hX hget (by omega) out ?_
   rw[zD0 (by omega)]
   have e:((q.take i).map (iD0 y.p)++q.drop i).set i (iD0 y.p q[i])=(q.take (i+1)).map (iD0 y.p)++q.drop (i+1):=by
    rw[List.set_append_right _ _ (by omega),hlen,Nat.sub_self,List.drop_eq_getElem_cons hlt,List.set_cons_zero,List.take_succ_eq_append_getElem hlt,List.map_append,List.append_assoc]
    rfl
   rw[e]
   exact ih (i+1) (by omega)
 simpa using key q.length 0 (by omega)
def bOf (bys:List Lev)(y:LV):Int × List LV:=match bys[y.v.toNat]? with | some b=>(b.c,b.vs) | none=>(0,[⟨y.v,0⟩])
def hX0 (bys:List Lev)(s:Int × List LV)(y:LV):Int × List LV:=(mx s.1 (wr ((bOf bys y).1+y.p)),iQ0 s.2 ((cZ0 (bOf bys y).2).map (iD0 y.p)))
def bW0 (x:Lev)(bys:List Lev):Lev × Int:=
 if x.valid then if x.vs.any (jO0 bys) then(zLev,4) else dN0 ((cZ0 x.vs).foldl (hX0 bys) (x.c,[])).1 ((cZ0 x.vs).foldl (hX0 bys) (x.c,[])).2 x.vs.isEmpty else(zLev,4)
theorem aD1 (x:LV):∀ (r s:List LV)(y:LV),y∈insR x r s↔y=x∨y∈r∨y∈s
 | [],s,y=>by simp[insR]
 | a::r,s,y=>by
  unfold insR
  split
  ·rw[aD1 x r]
   simp only[List.mem_cons]
   constructor
   ·rintro(h | h | h | h)
    ·exact .inl h
    ·exact .inr (.inl (.inr h))
    ·exact .inr (.inl (.inl h))
    ·exact .inr (.inr h)
   ·rintro(h | (h | h) | h)
    ·exact .inl h
    ·exact .inr (.inr (.inl h))
    ·exact .inr (.inl h)
    ·exact .inr (.inr (.inr h))
  ·simp only[List.mem_append,List.mem_reverse,List.mem_cons]
   constructor
   ·rintro((h | h) | h | h)
    ·exact .inr (.inl (.inl h))
    ·exact .inr (.inl (.inr h))
    ·exact .inl h
    ·exact .inr (.inr h)
   ·rintro(h | (h | h) | h)
    ·exact .inr (.inl h)
    ·exact .inl (.inl h)
    ·exact .inl (.inr h)
    ·exact .inr (.inr h)
theorem vB0 : ∀ (r acc:List LV)(y:LV),y∈oI0 acc r↔y∈acc∨y∈r
 | [],acc,y=>by simp[oI0]
 | x::r,acc,y=>by
  rw[oI0,vB0 r,aD1]
  simp only[List.mem_reverse,List.mem_cons,List.not_mem_nil,or_false]
  constructor
  ·rintro((h | h) | h)
   ·exact .inr (.inl h)
   ·exact .inl h
   ·exact .inr (.inr h)
  ·rintro(h | h | h)
   ·exact .inl (.inr h)
   ·exact .inl (.inl h)
   ·exact .inr h
theorem vV0 (l:List LV)(y:LV):y∈cZ0 l↔y∈l:=by
 cases l with
 | nil=>rfl
 | cons a r=>unfold cZ0;rw[vB0];simp
theorem hW1 (hs:sT0 ext)(hx:ext 122=none)(h123:ext 123=none)(h124:ext 124=none)(h194:ext 194=none)(h238:ext 238=none)(z:Fl)(bys:List Lev)(srt:List LV)(q:Lev)(e:Int)(hn:srt.length≤8)(hnn:∀ y∈srt,0≤y.v)(hb:∀ y∈srt,jO0 bys y=false) :
  ∀ (m k:Nat) (c:Int) (zp:Bool) (p:List LV),k+m=srt.length→p.length≤8*k →
  (run prog ext (.call 125 [iV ((srt.drop k).foldl (hX0 bys) (c,p)).1,dV (listD (zp&&decide (m=0)) 2 (((srt.drop k).foldl (hX0 bys) (c,p)).2.map lvD))] [])=some (.ret [levV q,iV e] [])) →
  H84b ext 0 (E84b z bys c zp p srt.length k) (O84b srt)=some (.ret [levV q,iV e] [])
 | 0,k,c,zp,p,hk,hp,h=>by
  have:k=srt.length:=by omega
  subst this
  rw[List.drop_length]at h
  exact rV1 ext z zp bys c p _ srt q e (by simpa using h)
 | m+1,k,c,zp,p,hk,hp,h=>by
  have hlt:k<srt.length:=by omega
  have hget:srt[k]? = some srt[k]:=by simp[hlt]
  have hmem:=List.getElem_mem hlt
  have hnn':=hnn _ hmem
  have hb':=hb _ hmem
  rw[List.drop_eq_getElem_cons hlt,List.foldl_cons]at h
  generalize hy:srt[k]=y at hget hnn' hb' h
  have next:H84b ext 0 (E84b z bys (hX0 bys (c,p) y).1 false (hX0 bys (c,p) y).2 srt.length (wr ((k:Int)+1))) (O84b srt)=some (.ret [levV q,iV e] []):=by
   rw[zD0 (by omega)]
   refine hW1 hs hx h123 h124 h194 h238 z bys srt q e hn hnn hb m (k+1) _ false _ (by omega) ?_ ?_
   ·have:=iR0 p ((cZ0 (bOf bys y).2).map (iD0 y.p))
    have hbl:(bOf bys y).2.length≤8:=by
     unfold bOf
     cases hg:bys[y.v.toNat]? with
     | none=>simp
     | some b=>unfold jO0 at hb';rw[hg]at hb';exact lL0 (by simpa using hb')
    simp only[List.length_map,jE0]at this
    simp only[hX0];omega
   ·simp only[Bool.false_and]at h ⊢
    have hd:(zp&&decide (m+1=0))=false:=by simp
    rw[hd]at h
    exact h
  unfold hX0 at next
  by_cases h2:y.v<bys.length
  ·have hbl:y.v.toNat<bys.length:=by omega
   have hgb:bys[y.v.toNat]? = some bys[y.v.toNat]:=by simp[hbl]
   generalize bys[y.v.toNat]=b at hgb
   have hval:b.valid=true:=by unfold jO0 at hb';rw[hgb]at hb';simpa using hb'
   have hv8:=lL0 hval
   have hbo:bOf bys y=(b.c,b.vs):=by unfold bOf;rw[hgb]
   rw[hbo]at next
   dsimp only at next
   cases hbv:b.vs with
   | nil=>
    refine a2_84 ext hs y b srt hbv z zp bys c p k hget (by omega) h2 hnn' hgb _ ?_
    refine rX1 ext hx h123 h124 h194 h238 z zp bys c p _ _ y b.c b.d srt (by omega) _ ?_
    rw[hbv]at next
    exact next
   | cons a r=>
    refine a1_84 ext hs y b srt hv8 a r hbv z zp bys c p k hget (by omega) h2 hnn' hgb _ ?_
    exact gY1 ext hx h123 h124 h194 h238 z zp bys c p _ _ y b.c (.d b.d) (cZ0 b.vs) srt (.inr ⟨_,rfl⟩) (by rw[jE0];omega) _ next
  ·have hgb:bys[y.v.toNat]? = none:=List.getElem?_eq_none (by omega)
   have hbo:bOf bys y=(0,[⟨y.v,0⟩]):=by unfold bOf;rw[hgb]
   rw[hbo]at next
   refine a3_84 ext hs y srt z zp bys c p k hget (by omega) h2 _ ?_
   exact gY1 ext hx h123 h124 h194 h238 z zp bys c p _ _ y 0 .any [⟨y.v,0⟩] srt (.inl rfl) (by simp;omega) _ next
theorem vV1 (h84:ext 84=none)(h120:ext 120=none)(h125:ext 125=none)(h190:ext 190=none)(h195:ext 195=none)(h234:ext 234=none)(h235:ext 235=none)(hs:sT0 ext)(hx:ext 122=none)(h123:ext 123=none)(h124:ext 124=none)(h194:ext 194=none)(h238:ext 238=none)(x:Lev)(z:Fl)(bys:List Lev) :
  run prog ext (.call 84 [levV x,dV (listD z 2 (bys.map levD))] [])=some (.ret [levV (bW0 x bys).1,iV (bW0 x bys).2] []):=by
 have hv:=oD1 ext h120 h190 h234 h235
 have hvx:=hv x
 unfold bW0
 cases hval:x.valid with
 | false=>
  rw[hval]at hvx
  rw[bad84 ext h84 x z bys hvx];rfl
 | true=>
  rw[hval]at hvx
  have hlen:=lL0 hval
  have hnn:∀ y∈x.vs,0≤y.v:=by
   intro y hy
   obtain⟨k,hk⟩:=List.getElem?_of_mem hy
   have:=rU0 hval hk
   simp[okLV]at this;omega
  refine sB1 ext h84 x z bys hvx _ ?_
  rw[if_pos rfl]
  have hfin:x.vs.any (jO0 bys)=false→H84a ext 0 (E84 z bys x x.vs.length) (O84 x)=some (.ret [levV (dN0 ((cZ0 x.vs).foldl (hX0 bys) (x.c,[])).1 ((cZ0 x.vs).foldl (hX0 bys) (x.c,[])).2 x.vs.isEmpty).1,iV (dN0 ((cZ0 x.vs).foldl (hX0 bys) (x.c,[])).1 ((cZ0 x.vs).foldl (hX0 bys) (x.c,[])).2 x.vs.isEmpty).2] []):=by
   intro hbad
   cases hxv:x.vs with
   | nil=>
    exact none84 ext hs x hxv z bys _ _ (by simpa [cZ0] using zQ0 ext h125 h195 x.c [] true (by simp))
   | cons a r=>
    rw[← hxv]
    refine in84b ext hs x a r hxv hlen z bys _ ?_
    have hsl:=jE0 x.vs
    have hb:∀ y∈cZ0 x.vs,jO0 bys y=false:=by
     intro y hy
     rw[vV0]at hy
     have:=List.any_eq_false.1 hbad y hy
     simpa using this
    have hnn':∀ y∈cZ0 x.vs,0≤y.v:=fun y hy=>hnn y ((vV0 _ _).1 hy)
    have hfl:∀ (l:List LV) (s:Int × List LV),(∀ y∈l,jO0 bys y=false)→(l.foldl (hX0 bys) s).2.length≤s.2.length+8*l.length:=by
     intro l
     induction l with
     | nil=>intro s _;simp
     | cons y l ih=>
      intro s hl
      have h1:=ih (hX0 bys s y) (fun w hw=>hl w (List.mem_cons_of_mem _ hw))
      have hby:=hl y List.mem_cons_self
      have h2:=iR0 s.2 ((cZ0 (bOf bys y).2).map (iD0 y.p))
      have hbl:(bOf bys y).2.length≤8:=by
       unfold bOf
       cases hg:bys[y.v.toNat]? with
       | none=>simp
       | some b=>unfold jO0 at hby;rw[hg]at hby;exact lL0 (by simpa using hby)
      simp only[List.length_map,jE0]at h2
      simp only[List.foldl_cons,List.length_cons]
      simp only[hX0]at h1 ⊢
      omega
    have hcl:=hfl (cZ0 x.vs) (x.c,[]) hb
    have hcan:=zQ0 ext h125 h195 ((cZ0 x.vs).foldl (hX0 bys) (x.c,[])).1 ((cZ0 x.vs).foldl (hX0 bys) (x.c,[])).2 false (by rw[hsl]at hcl;simp at hcl;omega)
    have hie:x.vs.isEmpty=false:=by rw[hxv];rfl
    rw[hie]
    have:=hW1 ext hs hx h123 h124 h194 h238 z bys (cZ0 x.vs) _ _ (by omega) hnn' hb (cZ0 x.vs).length 0 x.c true [] (by omega) (by simp) (by
     have hd:(true&&decide ((cZ0 x.vs).length=0))=false:=by rw[hsl,hxv];simp
     rw[hd,List.drop_zero]
     exact hcan)
    rw[hsl]at this
    exact this
  have:=oL0 x.vs (fun k=>H84a ext 0 (E84 z bys x k) (O84 x)) (jO0 bys) (fun _=>some (.ret [levV zLev,iV 4] [])) (H84a ext 0 (E84 z bys x x.vs.length) (O84 x)) (by omega) (fun k y hk hl=>vP1 ext x z bys y k hk hl (hnn y (List.mem_of_getElem? hk)) hv) rfl
  rw[this]
  have hany:=uV0 (l:=x.vs) (p:=jO0 bys)
  cases hf:x.vs.findIdx? (jO0 bys) with
  | none=>
   rw[hf]at hany
   have hany:x.vs.any (jO0 bys)=false:=hany.symm
   rw[hany]
   exact hfin hany
  | some i=>
   rw[hf]at hany
   have hany:x.vs.any (jO0 bys)=true:=hany.symm
   rw[hany];rfl
end
section
open Go
def E0 : Ext:=fun _=>none
theorem bits0 : ∀ n:Nat,n≤8→∃ m,run prog E0 (.call 237 [.c (.d (.v (.int .u64 (IntKind.u64.wrap n))))] [])=some (.ret [iV m] [])
 | 0,_=>⟨0,(cJ0 _ _ _ _).2 ⟨60,by kernel_rfl⟩⟩
 | 1,_=>⟨1,(cJ0 _ _ _ _).2 ⟨60,by kernel_rfl⟩⟩
 | 2,_=>⟨2,(cJ0 _ _ _ _).2 ⟨60,by kernel_rfl⟩⟩
 | 3,_=>⟨2,(cJ0 _ _ _ _).2 ⟨60,by kernel_rfl⟩⟩
 | 4,_=>⟨3,(cJ0 _ _ _ _).2 ⟨60,by kernel_rfl⟩⟩
 | 5,_=>⟨3,(cJ0 _ _ _ _).2 ⟨60,by kernel_rfl⟩⟩
 | 6,_=>⟨3,(cJ0 _ _ _ _).2 ⟨60,by kernel_rfl⟩⟩
 | 7,_=>⟨3,(cJ0 _ _ _ _).2 ⟨60,by kernel_rfl⟩⟩
 | 8,_=>⟨4,(cJ0 _ _ _ _).2 ⟨60,by kernel_rfl⟩⟩
 | n+9,h=>by omega
theorem sortN (g:Bool)(x:LV)(l:List LV)(hl:l.length<8):run prog E0 (.call 121 [dV (.s 2 ((x::l).map lvD) g)] [])=some (.ret [.c (.own 0)] (O254 (cZ0 (x::l)))):=by
 obtain⟨m,hm⟩:=bits0 (x::l).length (by simp;omega)
 exact iY1 E0 rfl rfl rfl rfl rfl rfl rfl rfl g x l (by omega) m hm
theorem sort0 (c:Nat):run prog E0 (.call 121 [dV (.v (.slice none 0 c))] [])=some (.ret [dV (.v (.slice none 0 0))] []):=
 (cJ0 _ _ _ _).2 ⟨400,by kernel_rfl⟩
theorem sort1 (a:Addr)(c:Nat):run prog E0 (.call 121 [dV (.v (.slice (some a) 0 c))] [])=some (.ret [.c (.own 0)] [.arr 2 []]):=
 (cJ0 _ _ _ _).2 ⟨400,by kernel_rfl⟩
end
section
open Go
variable [Guest]
theorem oV1 : run prog E0 (.call 14 [] [])=some (.ret [bV true] []):=(cJ0 _ _ _ _).2 ⟨20000,by kernel_rfl⟩
theorem iL0 : eC0 prog 121:=⟨f121,func121,by kernel_rfl⟩
theorem nA0 : eC0 prog 14:=⟨f14,func14,by kernel_rfl⟩
theorem lJ0 {f:FuncId}{args:List V}{objs:List O}{out:Out} (h:run prog E0 (.call f args objs)=some out)(hB:eC0 prog f):eI0 prog f args objs out:=
 iO1 dU0 (fun f g args objs out h1 _=>by cases h1) eW0 h hB
theorem oP0 {w w':World}{F:Nat→Prop}{β β':Int→Nat}{objs':List O}{v:Value}{y:V}{F':Nat→Prop} (hf:Sim w' F β' (lk objs'))(hst:St (· < ([]:List O).length) w β (lk []) w' β' (lk objs'))
  (hy:∀ β'' look,RVs w' F β'' look v y):OutOK w F β [] (.ret [y] []) (.returned v) w':=by
 refine⟨β',v,rfl,.inl ⟨y,rfl,hy _ _⟩,⟨hf.flt,fun id o h=>(by cases h),fun id id' o o' h=>(by cases h),⟨hf.laid.1,by rintro⟨id,o,h1,_⟩;cases h1⟩,hf.gst⟩,?_⟩
 exact⟨hst.os,hst.tape,hst.output,hst.size,hst.block,fun b h=>(by obtain⟨id,o,h1,_⟩:=h;cases h1),fun id s h=>absurd h (Nat.not_lt_zero id),hst.guest⟩
theorem repE {w:World}{N:Nat→Prop}{v:Value}{g:Bool} (h:RepD w N v (.s 2 [] g)):∃ a c,v = .slice a 0 c:=by
 cases h with
 | e a c k _=>exact⟨a,c,rfl⟩
 | s c h1 h2 h3 h4 h5=>exact⟨_,_,rfl⟩
theorem pP1 (g:Bool):eI0 prog 121 [dV (.s 2 [] g)] [] (.ret [dV (.s 2 [])] []):=by
 intro w F β vals hsim hall
 cases hall with
 | cons h t=>
  cases t
  obtain⟨a,c,rfl⟩:=repE h
  cases a with
  | none=>
   refine(lJ0 (sort0 c) iL0 w F β _ hsim (.cons (.v rfl) .nil)).mono ?_
   rintro e w' ⟨β',v,rfl,hres,hf,hst⟩
   refine oP0 (F':=F) hf hst fun β'' look=> ?_
   rcases hres with⟨y,hy,hv⟩ | ⟨hne,_⟩
   ·cases hy
    have hv':RepD w' _ v (.v (.slice none 0 0)):=hv
    cases hv'
    exact .e none 0 2 _
   ·exact absurd rfl hne
  | some a=>
   refine(lJ0 (sort1 a c) iL0 w F β _ hsim (.cons (.v rfl) .nil)).mono ?_
   rintro e w' ⟨β',v,rfl,hres,hf,hst⟩
   refine oP0 (F':=F) hf hst fun β'' look=> ?_
   rcases hres with⟨y,hy,hv⟩ | ⟨hne,_⟩
   ·cases hy
    have hv':RC w' (Nn w' F β' (lk [.arr 2 []])) β' (shL (lk [.arr 2 []])) v (.own 0):=hv
    rcases hv' with⟨k,n,cap,h1,rfl,_⟩ | ⟨h1,_⟩ | ⟨k,n,cap,h1,_⟩
    ·have:some (Sh.arr 2 0)=some (.arr k n):=h1
     cases this
     exact .e _ _ 2 _
    ·have:some (Sh.arr 2 0)=some .gone:=h1
     cases this
    ·have:some (Sh.arr 2 0)=some (.stk k n):=h1
     cases this
   ·exact absurd rfl hne
end
end Go.Proofs.YteenjodhmppgjaaGreatDoor.Am
