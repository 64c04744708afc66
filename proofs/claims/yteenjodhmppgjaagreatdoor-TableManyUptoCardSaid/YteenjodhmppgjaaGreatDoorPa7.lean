/- A part of the proof of a card. No conditions. -/
import Derived.Test.YteenjodhmppgjaaGreatDoorPa6
set_option linter.all false
set_option maxHeartbeats 16000000
set_option maxRecDepth 10000
namespace Go.Proofs.YteenjodhmppgjaaGreatDoor.Am
open Go.Proofs.Tryz
section
open Go
variable (ext:Ext)
noncomputable def B254 : Code:=(f254.body.getD .skip)
noncomputable def bJ2 : Code:=sub B254 [1,0,0]
theorem kE2 : It.code bJ2=It.code (sub B254 [1,0,0]):=rfl
noncomputable def lN2 : List It:=[.inBlock 0]
noncomputable def sB0 (ext:Ext)(m:Nat)(env:Env)(loc:List O):Option Out:=run prog ext (.k ⟨53,m,[],false⟩ (.code bJ2 :: .inLoop bJ2::lN2) env loc)
noncomputable def nI2 : Code:=sub B254 [1,0,0,1,0,0,1,0,0]
theorem wB1 : It.code nI2=It.code (sub B254 [1,0,0,1,0,0,1,0,0]):=rfl
noncomputable def bE2 : List It:=[.inBlock 2,.inBlock 1,.code (sub B254 [1,0,0,1,1]),.inLoop bJ2,.inBlock 0]
noncomputable def wT0 (ext:Ext)(m:Nat)(env:Env)(loc:List O):Option Out:=run prog ext (.k ⟨53,m,[],false⟩ (.code nI2 :: .inLoop nI2::bE2) env loc)
noncomputable def B236 : Code:=(f236.body.getD .skip)
noncomputable def nA2 : Code:=sub B236 [1,1,0,0]
theorem hL236a : It.code nA2=It.code (sub B236 [1,1,0,0]):=rfl
noncomputable def K236a : List It:=[.inBlock 0]
noncomputable def lE2 (ext:Ext)(m:Nat)(env:Env)(loc:List O):Option Out:=run prog ext (.k ⟨148,m,[],false⟩ (.code nA2 :: .inLoop nA2::K236a) env loc)
def cmpI (a b:Int):Int:=if a<b then -1 else if b<a then 1 else 0
theorem kK2 (hx:ext 238=none)(a:Int):run prog ext (.call 238 [iV a] [])=some (.ret [bV false] []):=by
 (rw[enT hx func238 rfl];simp only[f238,zR,simprocAttr,zE])
 simp only[iV,bV]
 simp only[zS,zD,simprocAttr]
 (refine .trans ?_ rfl;kernel_rfl)
theorem cmp194 (hx:ext 194=none)(h238:ext 238=none)(a b:Int):run prog ext (.call 194 [iV a,iV b] [])=some (.ret [iV (cmpI a b)] []):=by
 have h1:=kK2 ext h238 a
 have h2:=kK2 ext h238 b
 unfold cmpI
 by_cases c1:a<b
 ·rw[if_pos c1]
  (rw[enT hx func194 rfl];simp only[f194,zR,simprocAttr,zE])
  simp only[iV,bV]at h1 h2 ⊢
  simp only[zS,zD,h1,h2,c1,simprocAttr]
  (refine .trans ?_ rfl;kernel_rfl)
 by_cases c2:a>b
 ·rw[if_neg c1,if_pos c2]
  (rw[enT hx func194 rfl];simp only[f194,zR,simprocAttr,zE])
  simp only[iV,bV]at h1 h2 ⊢
  simp only[zS,zD,h1,h2,c1,c2,simprocAttr]
  (refine .trans ?_ rfl;kernel_rfl)
 rw[if_neg c1,if_neg c2]
 (rw[enT hx func194 rfl];simp only[f194,zR,simprocAttr,zE])
 simp only[iV,bV]at h1 h2 ⊢
 simp only[zS,zD,h1,h2,c1,c2,simprocAttr]
 (refine .trans ?_ rfl;kernel_rfl)
theorem cmp193 (hx:ext 193=none)(h194:ext 194=none)(h238:ext 238=none)(x y:LV):run prog ext (.call 193 [lvV x,lvV y] [])=some (.ret [iV (cmpI x.v y.v)] []):=by
 have h:=cmp194 ext h194 h238 x.v y.v
 (rw[enT hx func193 rfl];simp only[f193,zR,simprocAttr,zE])
 simp only[iV,lvV,lvC]at h ⊢
 simp only[zS,zD,jD0,zT3,h,simprocAttr]
 (refine .trans ?_ rfl;kernel_rfl)
def E254 (n i:Int):Env:=[(0,.c (.own 0)),(1,iV 0),(2,iV n),(3,.c (.fn 193 [] [])),(8,iV i)]
def O254 (l:List LV):List O:=[.arr 2 (l.map lvD)]
def wQ0 (n i j:Int):Env:=[(0,.c (.own 0)),(1,iV 0),(2,iV n),(3,.c (.fn 193 [] [])),(8,iV i),(9,iV j)]
theorem eB2 (hx:ext 254=none)(l:List LV)(n:Int)(out:Option Out)(h:sB0 ext 1 (E254 n 1) (O254 l)=out):run prog ext (.call 254 [.c (.own 0),iV 0,iV n,.c (.fn 193 [] [])] (O254 l))=out:=by
 unfold sB0 at h
 have e:wr (0+1)=1:=by rw[gL0 (by omega) (by omega)];rfl
 (rw[enT hx func254 rfl];simp only[f254,zR,simprocAttr,zE])
 simp only[iV,E254,O254]at h ⊢
 simp only[zS,zD,e,simprocAttr]
 (refine(aA0 ?_).trans h;kernel_rfl)
theorem in254 (l:List LV)(n i:Int)(h1:i<n)(out:Option Out)(h:wT0 ext 1 (wQ0 n i i) (O254 l)=out):sB0 ext 1 (E254 n i) (O254 l)=out:=by
 unfold wT0 at h
 unfold sB0
 simp only[iV,E254,wQ0,O254]at h ⊢
 (rw[kE2];simp only[B254,lN2,sub,f254,↓reduceIte,zG])
 simp only[zS,zD,h1,simprocAttr]
 (refine(aA0 ?_).trans h;kernel_rfl)
theorem kT2 (l:List LV)(n i:Int)(h1:¬ i<n):sB0 ext 1 (E254 n i) (O254 l)=some (.ret [] (O254 l)):=by
 unfold sB0
 simp only[iV,E254,O254]
 (rw[kE2];simp only[B254,lN2,sub,f254,↓reduceIte,zG])
 simp only[zS,zD,h1,simprocAttr]
 (refine .trans ?_ rfl;kernel_rfl)
theorem wO2 (l:List LV)(x y:LV)(n i:Int)(j:Nat)(hx:l[j+1]? = some x)(hy:l[j]? = some y)(hc:run prog ext (.call 193 [lvV x,lvV y] [])=some (.ret [iV (-1)] []))(hl:j<2^60)(out:Option Out)
  (h:wT0 ext 1 (wQ0 n i j) (O254 ((l.set (j+1) y).set j x))=out):wT0 ext 1 (wQ0 n i (j+1:Nat)) (O254 l)=out:=by
 have hlt:=vU0 hx
 have h1:((j+1:Nat):Int)>0:=by omega
 have h0:(0:Int)≤(j+1:Nat):=by omega
 have hk:((j+1:Nat):Int)<l.length:=by omega
 have e:wr (((j+1:Nat):Int) - 1)=(j:Int):=by rw[gL0 (by omega) (by omega)];omega
 have h0':(0:Int)≤(j:Int):=by omega
 have hk':(j:Int)<l.length:=by omega
 have hm:(1:Int)>0:=by decide
 have hx':(l.map lvD)[j+1]? = some [.v (.int .i64 x.v),.v (.int .i64 x.p)]:=by rw[List.getElem?_map,hx];rfl
 have hy':(l.map lvD)[j]? = some [.v (.int .i64 y.v),.v (.int .i64 y.p)]:=by rw[List.getElem?_map,hy];rfl
 have hs:((l.set (j+1) y).set j x).map lvD=((l.map lvD).set (j+1) [.v (.int .i64 y.v),.v (.int .i64 y.p)]).set j [.v (.int .i64 x.v),.v (.int .i64 x.p)]:=by rw[List.map_set,List.map_set];rfl
 have hy2:((l.map lvD).set (j+1) [.v (.int .i64 y.v),.v (.int .i64 y.p)])[j]? = some [.v (.int .i64 y.v),.v (.int .i64 y.p)]:=by rw[List.getElem?_set_ne (by omega),hy']
 unfold wT0 at h ⊢
 simp only[iV,wQ0,O254,lvV,lvC,hs]at h hc ⊢
 (rw[wB1];simp only[B254,bE2,sub,f254,↓reduceIte,zG])
 simp only[zS,zD,dB0,cV0,aK0,aC0,aD0,Array.size,List.length,h0,h1,hk,h0',hk',e,Int.toNat_natCast,hx,hy,lvD,hc,simprocAttr]
 rw[aB0 _ _ _ _ (by kernel_rfl)]
 simp only[zS,zD,dB0,cV0,aK0,aC0,aD0,Array.size,List.length,h0,hk,h0',hk',e,Int.toNat_natCast,hx',hy',hy2,stK,toDs,toD,bE0,List.length_set,List.contains_nil,simprocAttr]
 rw[aB0 _ _ _ _ (by kernel_rfl)]
 simp only[zS,zD,e,simprocAttr]
 (refine(aA0 ?_).trans h;kernel_rfl)
theorem wN2 (l:List LV)(x y:LV)(n i c:Int)(j:Nat)(hx:l[j+1]? = some x)(hy:l[j]? = some y)(hc:run prog ext (.call 193 [lvV x,lvV y] [])=some (.ret [iV c] []))(hcn:¬ c<0)(hl:j<2^60)(out:Option Out)
  (h:sB0 ext 1 (E254 n (wr (i+1))) (O254 l)=out):wT0 ext 1 (wQ0 n i (j+1:Nat)) (O254 l)=out:=by
 have hlt:=vU0 hx
 have h1:((j+1:Nat):Int)>0:=by omega
 have h0:(0:Int)≤(j+1:Nat):=by omega
 have hk:((j+1:Nat):Int)<l.length:=by omega
 have e:wr (((j+1:Nat):Int) - 1)=(j:Int):=by rw[gL0 (by omega) (by omega)];omega
 have h0':(0:Int)≤(j:Int):=by omega
 have hk':(j:Int)<l.length:=by omega
 unfold sB0 at h
 unfold wT0
 simp only[iV,E254,wQ0,O254,lvV,lvC]at h hc ⊢
 (rw[wB1];simp only[B254,bE2,sub,f254,↓reduceIte,zG])
 simp only[zS,zD,dB0,cV0,aK0,aC0,aD0,Array.size,List.length,h0,h1,hk,h0',hk',e,Int.toNat_natCast,hx,hy,lvD,hc,hcn,simprocAttr]
 rw[aB0 _ _ _ _ (by kernel_rfl)]
 simp only[zS,zD,simprocAttr]
 (refine(aA0 ?_).trans h;kernel_rfl)
theorem stop0 (l:List LV)(n i:Int)(out:Option Out)(h:sB0 ext 1 (E254 n (wr (i+1))) (O254 l)=out):wT0 ext 1 (wQ0 n i 0) (O254 l)=out:=by
 have h1:¬ ((0:Int)>0):=by decide
 unfold sB0 at h
 unfold wT0
 simp only[iV,E254,wQ0,O254]at h ⊢
 (rw[wB1];simp only[B254,bE2,sub,f254,↓reduceIte,zG])
 simp only[zS,zD,aK0,aC0,aD0,Array.size,List.length,h1,simprocAttr]
 rw[aB0 _ _ _ _ (by kernel_rfl)]
 simp only[zS,zD,simprocAttr]
 (refine(aA0 ?_).trans h;kernel_rfl)
def insR (x:LV):List LV→List LV→List LV
 | [],s=>x::s
 | y::r,s=>if x.v<y.v then insR x r (y::s) else(y::r).reverse++x::s
def pO0 : List LV→List LV→List LV
 | acc,[]=>acc
 | acc,x::r=>pO0 (insR x acc.reverse []) r
def gU0 : List LV→List LV
 | []=>[]
 | a::r=>pO0 [a] r
theorem sT0 (x:LV):∀ (r s:List LV),(insR x r s).length=r.length+s.length+1
 | [],s=>by simp[insR]
 | y::r,s=>by
  unfold insR
  split
  ·rw[sT0 x r];simp;omega
  ·simp;omega
theorem eL1 : ∀ (r acc:List LV),(pO0 acc r).length=acc.length+r.length
 | [],acc=>by simp[pO0]
 | x::r,acc=>by rw[pO0,eL1 r,sT0];simp;omega
theorem hM2 (A:List LV)(x y:LV)(B:List LV):((A++y::x::B).set (A.length+1) y).set A.length x=A++x::y::B:=by
 rw[List.set_append_right _ _ (by omega),Nat.add_sub_cancel_left]
 simp
theorem mE1 (h193:ext 193=none)(h194:ext 194=none)(h238:ext 238=none)(n i:Int)(x:LV)(rest:List LV)(out:Option Out):∀ (r s:List LV),r.length<2^60→sB0 ext 1 (E254 n (wr (i+1))) (O254 (insR x r s++rest))=out→wT0 ext 1 (wQ0 n i r.length) (O254 (r.reverse++x::(s++rest)))=out
 | [],s,_,h=>by
  have:=stop0 ext (x::(s++rest)) n i out (by simpa [insR] using h)
  simpa using this
 | y::r,s,hr,h=>by
  have hrl:r.reverse.length=r.length:=by simp
  have hx:((y::r).reverse++x::(s++rest))[r.length+1]? = some x:=by
   rw[List.getElem?_append_right (by simp)];simp
  have hy:((y::r).reverse++x::(s++rest))[r.length]? = some y:=by
   rw[List.getElem?_append_left (by simp),List.reverse_cons,List.getElem?_append_right (by simp)];simp
  have hc:=cmp193 ext h193 h194 h238 x y
  unfold insR at h
  by_cases hlt:x.v<y.v
  ·rw[if_pos hlt]at h
   have e:cmpI x.v y.v = -1:=by unfold cmpI;rw[if_pos hlt]
   rw[e]at hc
   refine wO2 ext _ x y n i r.length hx hy hc (by simp at hr;omega) _ ?_
   have hsw:=hM2 r.reverse x y (s++rest)
   rw[hrl]at hsw
   rw[List.reverse_cons,List.append_assoc,List.singleton_append,hsw]
   exact mE1 h193 h194 h238 n i x rest out r (y::s) (by simp at hr;omega) h
  ·rw[if_neg hlt]at h
   refine wN2 ext _ x y n i (cmpI x.v y.v) r.length hx hy hc (by unfold cmpI;rw[if_neg hlt];split <;> omega) (by simp at hr;omega) _ ?_
   simpa using h
theorem mP1 (h193:ext 193=none)(h194:ext 194=none)(h238:ext 238=none):∀ (rest acc:List LV)(n:Nat),n=acc.length+rest.length→n<2^60→sB0 ext 1 (E254 n acc.length) (O254 (acc++rest))=some (.ret [] (O254 (pO0 acc rest)))
 | [],acc,n,hn,_=>by
  rw[List.append_nil]
  exact kT2 ext acc n acc.length (by simp at hn;omega)
 | x::r,acc,n,hn,hlt=>by
  refine in254 ext _ n acc.length (by simp at hn;omega) _ ?_
  have:=mE1 ext h193 h194 h238 n acc.length x r (some (.ret [] (O254 (pO0 acc (x::r))))) acc.reverse [] (by simp at hn ⊢;omega) (by
   rw[xC2 (by simp at hn;omega)]
   have:=mP1 h193 h194 h238 r (insR x acc.reverse []) n (by rw[sT0];simp at hn ⊢;omega) hlt
   rw[sT0]at this
   simpa [pO0] using this)
  simpa using this
theorem vK2 (hx:ext 254=none)(h193:ext 193=none)(h194:ext 194=none)(h238:ext 238=none)(l:List LV)(hl:l.length<2^60):run prog ext (.call 254 [.c (.own 0),iV 0,iV l.length,.c (.fn 193 [] [])] (O254 l))=some (.ret [] (O254 (gU0 l))):=by
 refine eB2 ext hx l _ _ ?_
 cases l with
 | nil=>exact kT2 ext [] _ _ (by simp)
 | cons a r=>
  have:=mP1 ext h193 h194 h238 r [a] (a::r).length (by simp;omega) hl
  simpa [gU0] using this
def E236 (n lim:Int):Env:=[(0,.c (.own 0)),(1,iV 0),(2,iV n),(3,iV lim),(4,.c (.fn 193 [] [])),(10,bV true),(11,bV true)]
theorem dX2 (hx:ext 236=none)(l:List LV)(n lim:Int)(out:Option Out)(h:lE2 ext 1 (E236 n lim) (O254 l)=out):run prog ext (.call 236 [.c (.own 0),iV 0,iV n,iV lim,.c (.fn 193 [] [])] (O254 l))=out:=by
 unfold lE2 at h
 (rw[enT hx func236 rfl];simp only[f236,zR,simprocAttr,zE])
 simp only[iV,bV,E236,O254]at h ⊢
 simp only[zS,zD,simprocAttr]
 (refine(aA0 ?_).trans h;kernel_rfl)
theorem pdq236 (hx:ext 236=none)(h254:ext 254=none)(h193:ext 193=none)(h194:ext 194=none)(h238:ext 238=none)(l:List LV)(lim:Int)(hl:l.length≤12):run prog ext (.call 236 [.c (.own 0),iV 0,iV l.length,iV lim,.c (.fn 193 [] [])] (O254 l))=some (.ret [] (O254 (gU0 l))):=by
 refine dX2 ext hx l _ _ _ ?_
 have hr:=vK2 ext h254 h193 h194 h238 l (by omega)
 have e:wr ((l.length:Int) - 0)=l.length:=by rw[gL0 (by omega) (by omega)];omega
 have hle:(l.length:Int)≤12:=by omega
 unfold lE2
 simp only[iV,bV,E236,O254]at hr ⊢
 (rw[hL236a];simp only[B236,K236a,sub,f236,↓reduceIte,zG])
 simp only[zS,zD,e,hle,qW0,iF1,(id rfl:ownF 254=true),(id rfl:gJ0 254=false),hr,lW0,simprocAttr]
 (refine .trans ?_ rfl;kernel_rfl)
theorem vJ2 (hx:ext 192=none)(h236:ext 236=none)(h254:ext 254=none)(h193:ext 193=none)(h194:ext 194=none)(h238:ext 238=none)(l:List LV)(hl:l.length≤12)(m:Int)
  (h237:run prog ext (.call 237 [.c (.d (.v (.int .u64 (IntKind.u64.wrap l.length))))] [])=some (.ret [iV m] [])):run prog ext (.call 192 [.c (.own 0),.c (.fn 193 [] [])] (O254 l))=some (.ret [] (O254 (gU0 l))):=by
 have hr:=pdq236 ext h236 h254 h193 h194 h238 l m hl
 (rw[enT hx func192 rfl];simp only[f192,zR,simprocAttr,zE])
 simp only[iV,O254]at hr h237 ⊢
 simp only[zS,zD,pH0,hS0,und_3,wV2,pH0,h237,qW0,iF1,(id rfl:ownF 236=true),(id rfl:gJ0 236=false),hr,lW0,simprocAttr]
 (refine .trans ?_ rfl;kernel_rfl)
theorem cO2 (hx:ext 191=none)(x:LV)(l:List LV)(hl:l.length≤12):run prog ext (.call 191 [dV (.s 2 ((x::l).map lvD))] [])=some (.ret [.c (.own 0)] (O254 (x::l))):=by
 have hb:l.length+1≤1000000000:=by omega
 (rw[enT hx func191 rfl];simp only[f191,zR,simprocAttr,zE])
 simp only[dV,O254,List.map_cons]
 simp only[zS,zD,eJ1,bs0,os144,uO0,hb,Nat.zero_le,simprocAttr]
 (refine .trans ?_ rfl;kernel_rfl)
end
section
open Go
variable (ext:Ext)
theorem zM1 (hx:ext 121=none)(h191:ext 191=none)(h192:ext 192=none)(h236:ext 236=none)(h254:ext 254=none)(h193:ext 193=none)(h194:ext 194=none)(h238:ext 238=none)(x:LV)(l:List LV)(hl:l.length<12)(m:Int)
  (h237:run prog ext (.call 237 [.c (.d (.v (.int .u64 (IntKind.u64.wrap (x::l).length))))] [])=some (.ret [iV m] [])):run prog ext (.call 121 [dV (.s 2 ((x::l).map lvD))] [])=some (.ret [.c (.own 0)] (O254 (gU0 (x::l)))):=by
 have h1:=cO2 ext h191 x l (by omega)
 have h2:=vJ2 ext h192 h236 h254 h193 h194 h238 (x::l) (by simp;omega) m h237
 (rw[enT hx func121 rfl];simp only[f121,zR,simprocAttr,zE])
 simp only[dV,O254,List.map_cons]at h1 h2 ⊢
 simp only[zS,zD,h1,kU0,qW0,iF1,(id rfl:ownF 192=true),(id rfl:gJ0 192=false),h2,lW0,simprocAttr]
 (refine .trans ?_ rfl;kernel_rfl)
end
section
open Go
variable (ext:Ext)
def bC1 (l:List LV):Out:=match l with | []=> .ret [dV (.s 2 [])] [] | a::r=> .ret [.c (.own 0)] [.arr 2 ((gU0 (a::r)).map lvD)]
def lR0 : Prop:=∀ (z:Bool)(l:List LV),l.length≤8→run prog ext (.call 121 [dV (aJ0 z 2 (l.map lvD))] [])=some (bC1 l)
theorem gN1 (l:List LV):(gU0 l).length=l.length:=by
 cases l with
 | nil=>rfl
 | cons a r=>unfold gU0;rw[eL1];simp;omega
theorem zW0 (x:LV):∀ (r s:List LV)(y:LV),y∈insR x r s↔y=x∨y∈r∨y∈s
 | [],s,y=>by simp[insR]
 | a::r,s,y=>by
  unfold insR
  split
  ·rw[zW0 x r]
   simp only[List.mem_cons]
   constructor
   ·rintro(h | h | h | h)
    ·exact .inl h
    ·exact .inr (.inl (.inr h))
    ·exact .inr (.inl (.inl h))
    ·exact .inr (.inr h)
   ·rintro(h | (h | h) | h)
    ·exact .inl h
    ·exact .inr (.inr (.inl h))
    ·exact .inr (.inl h)
    ·exact .inr (.inr (.inr h))
  ·simp only[List.mem_append,List.mem_reverse,List.mem_cons]
   constructor
   ·rintro((h | h) | h | h)
    ·exact .inr (.inl (.inl h))
    ·exact .inr (.inl (.inr h))
    ·exact .inl h
    ·exact .inr (.inr h)
   ·rintro(h | (h | h) | h)
    ·exact .inr (.inl h)
    ·exact .inl (.inl h)
    ·exact .inl (.inr h)
    ·exact .inr (.inr h)
theorem eM1 : ∀ (r acc:List LV)(y:LV),y∈pO0 acc r↔y∈acc∨y∈r
 | [],acc,y=>by simp[pO0]
 | x::r,acc,y=>by
  rw[pO0,eM1 r,zW0]
  simp only[List.mem_reverse,List.mem_cons,List.not_mem_nil,or_false]
  constructor
  ·rintro((h | h) | h)
   ·exact .inr (.inl h)
   ·exact .inl h
   ·exact .inr (.inr h)
  ·rintro(h | h | h)
   ·exact .inl (.inr h)
   ·exact .inl (.inl h)
   ·exact .inr h
theorem wI0 (l:List LV)(y:LV):y∈gU0 l↔y∈l:=by
 cases l with
 | nil=>rfl
 | cons a r=>unfold gU0;rw[eM1];simp
end
section
open Go
def E0 : Ext:=fun _=>none
theorem bits0 : ∀ n:Nat,n≤8→∃ m,run prog E0 (.call 237 [.c (.d (.v (.int .u64 (IntKind.u64.wrap n))))] [])=some (.ret [iV m] [])
 | 0,_=>⟨0,(cY0 _ _ _ _).2 ⟨60,by kernel_rfl⟩⟩
 | 1,_=>⟨1,(cY0 _ _ _ _).2 ⟨60,by kernel_rfl⟩⟩
 | 2,_=>⟨2,(cY0 _ _ _ _).2 ⟨60,by kernel_rfl⟩⟩
 | 3,_=>⟨2,(cY0 _ _ _ _).2 ⟨60,by kernel_rfl⟩⟩
 | 4,_=>⟨3,(cY0 _ _ _ _).2 ⟨60,by kernel_rfl⟩⟩
 | 5,_=>⟨3,(cY0 _ _ _ _).2 ⟨60,by kernel_rfl⟩⟩
 | 6,_=>⟨3,(cY0 _ _ _ _).2 ⟨60,by kernel_rfl⟩⟩
 | 7,_=>⟨3,(cY0 _ _ _ _).2 ⟨60,by kernel_rfl⟩⟩
 | 8,_=>⟨4,(cY0 _ _ _ _).2 ⟨60,by kernel_rfl⟩⟩
 | n+9,h=>by omega
theorem sortN (x:LV)(l:List LV)(hl:l.length<8):run prog E0 (.call 121 [dV (.s 2 ((x::l).map lvD))] [])=some (.ret [.c (.own 0)] (O254 (gU0 (x::l)))):=by
 obtain⟨m,hm⟩:=bits0 (x::l).length (by simp;omega)
 exact zM1 E0 rfl rfl rfl rfl rfl rfl rfl rfl x l (by omega) m hm
theorem sort0 (c:Nat):run prog E0 (.call 121 [dV (.v (.slice none 0 c))] [])=some (.ret [dV (.v (.slice none 0 0))] []):=
 (cY0 _ _ _ _).2 ⟨400,by kernel_rfl⟩
theorem sort1 (a:Addr)(c:Nat):run prog E0 (.call 121 [dV (.v (.slice (some a) 0 c))] [])=some (.ret [.c (.own 0)] [.arr 2 []]):=
 (cY0 _ _ _ _).2 ⟨400,by kernel_rfl⟩
end
section
open Go
theorem awake0 : run prog E0 (.call 14 [] [])=some (.ret [bV true] []):=(cY0 _ _ _ _).2 ⟨20000,by kernel_rfl⟩
theorem pE0 : hT0 prog 121:=⟨f121,func121,by kernel_rfl⟩
theorem kY1 : hT0 prog 14:=⟨f14,func14,by kernel_rfl⟩
theorem oF0 {f:FuncId}{args:List V}{objs:List O}{out:Out} (h:run prog E0 (.call f args objs)=some out)(hB:hT0 prog f):dZ0 prog f args objs out:=
 zE1 named (fun f g args objs out h1 _=>by cases h1) mixes h hB
theorem wD0 {w w':World}{F:Nat→Prop}{β β':Int→Nat}{objs':List O}{v:Value}{y:V}{F':Nat→Prop} (hf:Sim w' F β' (lk objs'))(hst:St (· < ([]:List O).length) w β (lk []) w' β' (lk objs'))
  (hy:∀ β'' look,RVs w' F β'' look v y):OutOK w F β [] (.ret [y] []) (.returned v) w':=by
 refine⟨β',v,rfl,.inl ⟨y,rfl,hy _ _⟩,⟨hf.flt,fun id o h=>(by cases h),fun id id' o o' h=>(by cases h),hf.laid.1,by rintro⟨id,o,h1,_⟩;cases h1⟩,?_⟩
 exact⟨hst.os,hst.tape,hst.output,hst.size,hst.block,fun b h=>(by obtain⟨id,o,h1,_⟩:=h;cases h1),fun id s h=>absurd h (Nat.not_lt_zero id)⟩
theorem repE {w:World}{N:Nat→Prop}{v:Value} (h:RepD w N v (.s 2 [])):∃ a c,v = .slice a 0 c:=by
 cases h with
 | e a c k=>exact⟨a,c,rfl⟩
 | s c h1 h2 h3 h4 h5=>exact⟨_,_,rfl⟩
theorem kQ2 : dZ0 prog 121 [dV (.s 2 [])] [] (.ret [dV (.s 2 [])] []):=by
 intro w F β vals hsim hall
 cases hall with
 | cons h t=>
  cases t
  obtain⟨a,c,rfl⟩:=repE h
  cases a with
  | none=>
   refine(oF0 (sort0 c) pE0 w F β _ hsim (.cons (.v rfl) .nil)).mono ?_
   rintro e w' ⟨β',v,rfl,hres,hf,hst⟩
   refine wD0 (F':=F) hf hst fun β'' look=> ?_
   rcases hres with⟨y,hy,hv⟩ | ⟨hne,_⟩
   ·cases hy
    have hv':RepD w' _ v (.v (.slice none 0 0)):=hv
    cases hv'
    exact .e none 0 2
   ·exact absurd rfl hne
  | some a=>
   refine(oF0 (sort1 a c) pE0 w F β _ hsim (.cons (.v rfl) .nil)).mono ?_
   rintro e w' ⟨β',v,rfl,hres,hf,hst⟩
   refine wD0 (F':=F) hf hst fun β'' look=> ?_
   rcases hres with⟨y,hy,hv⟩ | ⟨hne,_⟩
   ·cases hy
    have hv':RC w' (Nn w' F β' (lk [.arr 2 []])) β' (shL (lk [.arr 2 []])) v (.own 0):=hv
    rcases hv' with⟨k,n,cap,h1,rfl,_⟩ | ⟨h1,_⟩ | ⟨k,n,cap,h1,_⟩
    ·have:some (Sh.arr 2 0)=some (.arr k n):=h1
     cases this
     exact .e _ _ 2
    ·have:some (Sh.arr 2 0)=some .gone:=h1
     cases this
    ·have:some (Sh.arr 2 0)=some (.stk k n):=h1
     cases this
   ·exact absurd rfl hne
end
end Go.Proofs.YteenjodhmppgjaaGreatDoor.Am
