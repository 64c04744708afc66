/- A part of the proof of a card. No conditions. -/
import Derived.Test.YteenjodhmppgjaaGreatDoorPb6
set_option linter.all false
set_option maxHeartbeats 16000000
set_option maxRecDepth 10000
namespace Go.Proofs.YteenjodhmppgjaaGreatDoor.Am
open Go.Proofs.Tryz
section
open Go
variable (ext:Ext)
noncomputable def B187 : Code:=(f187.body.getD .skip)
noncomputable def mJ2 : Code:=sub B187 [1,1,0,1,0,0]
theorem jZ2 : It.code mJ2=It.code (sub B187 [1,1,0,1,0,0]):=rfl
noncomputable def lI2 : List It:=[.inBlock 0,.code (sub B187 [1,1,1])]
noncomputable def bY1 (ext:Ext)(m:Nat)(env:Env)(loc:List O):Option Out:=run prog ext (.k ⟨38,m,[.tmp 2],false⟩ (.code mJ2 :: .inLoop mJ2::lI2) env loc)
noncomputable def mK2 : Code:=sub B187 [1,1,1,1,0,1,0,0]
theorem vN1 : It.code mK2=It.code (sub B187 [1,1,1,1,0,1,0,0]):=rfl
noncomputable def aQ2 : List It:=[.inBlock 2,.code (sub B187 [1,1,1,1,1])]
noncomputable def bZ1 (ext:Ext)(m:Nat)(env:Env)(loc:List O):Option Out:=run prog ext (.k ⟨38,m,[.tmp 2],false⟩ (.code mK2 :: .inLoop mK2::aQ2) env loc)
noncomputable def B188 : Code:=(f188.body.getD .skip)
noncomputable def mL2 : Code:=sub B188 [1,1,1,0,1,0,0]
theorem lY0 : It.code mL2=It.code (sub B188 [1,1,1,0,1,0,0]):=rfl
noncomputable def sC0 : List It:=[.inBlock 0,.code (sub B188 [1,1,1,1])]
noncomputable def cA1 (ext:Ext)(m:Nat)(env:Env)(loc:List O):Option Out:=run prog ext (.k ⟨48,m,[.tmp 4],false⟩ (.code mL2 :: .inLoop mL2::sC0) env loc)
def dX0 (n:Int)(s:List Int × Bool)(a:Int):List Int × Bool:=
 if s.2=false∧n≤a then(if n=a then(s.1++[n],true) else(s.1++[n]++[a],true)) else(s.1++[a],s.2)
def ordL (l:List Int)(n:Int):List Int:=if(l.foldl (dX0 n) ([],false)).2=true then(l.foldl (dX0 n) ([],false)).1 else(l.foldl (dX0 n) ([],false)).1++[n]
theorem wC0 (n:Int)(s:List Int × Bool)(a:Int)(k:Nat)(h:s.1.length≤k+s.2.toNat):(dX0 n s a).1.length≤k+1+(dX0 n s a).2.toNat:=by
 obtain⟨l,b⟩:=s
 unfold dX0
 dsimp only at h ⊢
 split
 ·rename_i c
  rw[c.1]at h
  split <;> simp at h ⊢ <;> omega
 ·cases b <;> simp at h ⊢ <;> omega
theorem mN1 (n:Int):∀ (l:List Int)(s:List Int × Bool)(k:Nat),s.1.length≤k+s.2.toNat→(l.foldl (dX0 n) s).1.length≤k+l.length+(l.foldl (dX0 n) s).2.toNat
 | [],s,k,h=>h
 | a::l,s,k,h=>by
  have:=mN1 n l (dX0 n s a) (k+1) (wC0 n s a k h)
  simp only[List.foldl_cons,List.length_cons];omega
theorem mO1 (l:List Int)(n:Int):(ordL l n).length≤l.length+1:=by
 have:=mN1 n l ([],false) 0 (by simp)
 unfold ordL
 split
 ·rename_i h;rw[h]at this;simp at this;omega
 ·rename_i h
  have h':(l.foldl (dX0 n) ([],false)).2=false:=by simpa using h
  rw[h']at this;simp at this ⊢;omega
def E188 (z:Bool)(l els:List Int)(n:Int)(d:Bool)(k:Int):Env:=[(0,dV (aJ0 z 1 (l.map inD))),(1,iV n),(5,mkV 0 (els.map inD)),(6,bV d),(7,iV k)]
theorem dR2 (hx:ext 188=none)(z:Bool)(l:List Int)(n:Int)(out:Option Out)(h:cA1 ext 0 (E188 z l [] n false 0) []=out):run prog ext (.call 188 [dV (aJ0 z 1 (l.map inD)),iV n] [])=out:=by
 unfold cA1 at h
 (rw[enT hx func188 rfl];simp only[f188,zR,simprocAttr,zE])
 simp only[dV,iV,bV,E188,List.map_nil,cF0]at h ⊢
 simp only[zS,zD,simprocAttr]
 (refine(aA0 ?_).trans h;kernel_rfl)
theorem vX2 (z:Bool)(l els:List Int)(n a:Int)(d:Bool)(k:Nat)(hb:els.length<100000000)(hk:l[k]? = some a)(hl:(k:Int)<l.length)(out:Option Out)
  (h:cA1 ext 0 (E188 z l (dX0 n (els,d) a).1 n (dX0 n (els,d) a).2 (wr ((k:Int)+1))) (mkO 1 ((dX0 n (els,d) a).1.map inD))=out):cA1 ext 0 (E188 z l els n d k) (mkO 1 (els.map inD))=out:=by
 have h0:(0:Int)≤k:=by omega
 have hd:aJ0 z 1 (l.map inD) = .s 1 (l.map inD):=aM0 h0 (by simpa using hl)
 unfold cA1 at h ⊢
 simp only[dV,iV,bV,E188,hd,dX0]at h ⊢
 cases d with
 | true=>
  simp only[Bool.true_eq_false,false_and,if_false,List.map_append,List.map_cons,List.map_nil,iC0,iB0,gP0 a]at h ⊢
  cases els with
  | nil=>
   simp only[List.map_nil,cF0,cR0,List.nil_append]at h ⊢
   (rw[lY0];simp only[B188,sC0,sub,f188,↓reduceIte,zG])
   simp only[zS,zD,dN0,zT3,h0,hl,Int.toNat_natCast,hk,inD,bsIn,no43,dL0,Nat.zero_le,simprocAttr]
   (refine(aA0 ?_).trans h;kernel_rfl)
  | cons a r=>
   have hb':r.length+1≤1000000000:=by simp only[List.length_cons]at hb;omega
   have hb2:r.length+1+1≤1000000000:=by simp only[List.length_cons]at hb;omega
   simp only[List.map_cons,cA0,bZ0,List.cons_append]at h ⊢
   (rw[lY0];simp only[B188,sC0,sub,f188,↓reduceIte,zG])
   simp only[zS,zD,dN0,zT3,h0,hl,Int.toNat_natCast,hk,inD,bsIn,oo43,dP0,hb',simprocAttr]
   (refine(aA0 ?_).trans h;kernel_rfl)
 | false=>
  by_cases h1:n≤a
  ·by_cases h2:n=a
   ·subst h2
    simp only[Int.le_refl,true_and,if_true,List.map_append,List.map_cons,List.map_nil,iC0,iB0,gP0 n]at h ⊢
    cases els with
    | nil=>
     simp only[List.map_nil,cF0,cR0,List.nil_append]at h ⊢
     (rw[lY0];simp only[B188,sC0,sub,f188,↓reduceIte,zG])
     simp only[zS,zD,dN0,zT3,h0,hl,Int.le_refl,Int.toNat_natCast,hk,inD,bsIn,no43,dL0,Nat.zero_le,simprocAttr]
     (refine(aA0 ?_).trans h;kernel_rfl)
    | cons a r=>
     have hb':r.length+1≤1000000000:=by simp only[List.length_cons]at hb;omega
     have hb2:r.length+1+1≤1000000000:=by simp only[List.length_cons]at hb;omega
     simp only[List.map_cons,cA0,bZ0,List.cons_append]at h ⊢
     (rw[lY0];simp only[B188,sC0,sub,f188,↓reduceIte,zG])
     simp only[zS,zD,dN0,zT3,h0,hl,Int.le_refl,Int.toNat_natCast,hk,inD,bsIn,oo43,dP0,hb',simprocAttr]
     (refine(aA0 ?_).trans h;kernel_rfl)
   ·simp only[h1,h2,true_and,if_true,if_false,List.map_append,List.map_cons,List.map_nil,iC0,iB0,gP0 n,gP0 a]at h ⊢
    cases els with
    | nil=>
     simp only[List.map_nil,cF0,cR0,List.nil_append]at h ⊢
     (rw[lY0];simp only[B188,sC0,sub,f188,↓reduceIte,zG])
     simp only[zS,zD,dN0,zT3,h0,hl,h1,h2,Int.toNat_natCast,hk,inD,bsIn,no43,dL0,oo43,dP0,Nat.zero_le,simprocAttr]
     (refine(aA0 ?_).trans h;kernel_rfl)
    | cons a r=>
     have hb':r.length+1≤1000000000:=by simp only[List.length_cons]at hb;omega
     have hb2:r.length+1+1≤1000000000:=by simp only[List.length_cons]at hb;omega
     simp only[List.map_cons,cA0,bZ0,List.cons_append]at h ⊢
     (rw[lY0];simp only[B188,sC0,sub,f188,↓reduceIte,zG])
     simp only[zS,zD,dN0,zT3,h0,hl,h1,h2,Int.toNat_natCast,hk,inD,bsIn,oo43,dP0,hb',hb2,simprocAttr]
     (refine(aA0 ?_).trans h;kernel_rfl)
  ·simp only[h1,and_false,if_false,List.map_append,List.map_cons,List.map_nil,iC0,iB0,gP0 a]at h ⊢
   cases els with
   | nil=>
    simp only[List.map_nil,cF0,cR0,List.nil_append]at h ⊢
    (rw[lY0];simp only[B188,sC0,sub,f188,↓reduceIte,zG])
    simp only[zS,zD,dN0,zT3,h0,hl,h1,Int.toNat_natCast,hk,inD,bsIn,no43,dL0,Nat.zero_le,simprocAttr]
    (refine(aA0 ?_).trans h;kernel_rfl)
   | cons a r=>
    have hb':r.length+1≤1000000000:=by simp only[List.length_cons]at hb;omega
    have hb2:r.length+1+1≤1000000000:=by simp only[List.length_cons]at hb;omega
    simp only[List.map_cons,cA0,bZ0,List.cons_append]at h ⊢
    (rw[lY0];simp only[B188,sC0,sub,f188,↓reduceIte,zG])
    simp only[zS,zD,dN0,zT3,h0,hl,h1,Int.toNat_natCast,hk,inD,bsIn,oo43,dP0,hb',simprocAttr]
    (refine(aA0 ?_).trans h;kernel_rfl)
theorem pS2 (z:Bool)(l els:List Int)(n:Int)(d:Bool)(hb:els.length<100000000):cA1 ext 0 (E188 z l els n d l.length) (mkO 1 (els.map inD))=some (.ret [dV (aJ0 true 1 ((if d=true then els else els++[n]).map inD))] []):=by
 unfold cA1
 cases d with
 | true=>
  cases els
  all_goals
   simp only[dV,iV,bV,E188,if_true,List.map_cons,List.map_nil,cF0,cA0,cR0,bZ0,sV0,pR0]
   (rw[lY0];simp only[B188,sC0,sub,f188,↓reduceIte,zG])
   simp only[zS,zD,dN0,Int.lt_irrefl,simprocAttr]
   (refine .trans ?_ rfl;kernel_rfl)
 | false=>
  cases els with
  | nil=>
   simp only[dV,iV,bV,E188,Bool.false_eq_true,if_false,List.nil_append,List.map_cons,List.map_nil,cF0,cR0,pR0,gP0 n]
   (rw[lY0];simp only[B188,sC0,sub,f188,↓reduceIte,zG])
   simp only[zS,zD,dN0,Int.lt_irrefl,bsIn,no43,dL0,Nat.zero_le,simprocAttr]
   (refine .trans ?_ rfl;kernel_rfl)
  | cons a r=>
   have hb':r.length+1≤1000000000:=by simp only[List.length_cons]at hb;omega
   simp only[dV,iV,bV,E188,Bool.false_eq_true,if_false,List.map_append,List.cons_append,List.map_cons,List.map_nil,cA0,bZ0,pR0,gP0 n]
   (rw[lY0];simp only[B188,sC0,sub,f188,↓reduceIte,zG])
   simp only[zS,zD,dN0,Int.lt_irrefl,bsIn,oo43,dP0,hb',simprocAttr]
   (refine .trans ?_ rfl;kernel_rfl)
theorem kS2 (hx:ext 188=none)(z:Bool)(l:List Int)(n:Int)(hs:l.length<50000000):run prog ext (.call 188 [dV (aJ0 z 1 (l.map inD)),iV n] [])=some (.ret [dV (aJ0 true 1 ((ordL l n).map inD))] []):=by
 refine dR2 ext hx z l n _ ?_
 have:=gS0 l (fun k (s:List Int × Bool)=>cA1 ext 0 (E188 z l s.1 n s.2 k) (mkO 1 (s.1.map inD))) (fun k s=>s=(l.take k).foldl (dX0 n) ([],false)∧s.1.length≤k+s.2.toNat) (fun o=>o=some (.ret [dV (aJ0 true 1 ((ordL l n).map inD))] [])) (by omega)
  (fun k a s hI hk hl=>by
   obtain⟨hI,hlen⟩:=hI
   have hb:s.1.length<100000000:=by
    have:s.2.toNat≤1:=by cases s.2 <;> simp
    omega
   exact⟨dX0 n s a,⟨by rw[List.take_add_one,hk,List.foldl_append,← hI];rfl,wC0 n s a k hlen⟩,fun out ho=>vX2 ext z l s.1 n a s.2 k hb hk hl out ho⟩) (fun s hI=>by
   obtain⟨hI,hlen⟩:=hI
   have hb:s.1.length<100000000:=by
    have:s.2.toNat≤1:=by cases s.2 <;> simp
    omega
   rw[List.take_length]at hI
   rw[pS2 ext z l s.1 n s.2 hb,hI]
   rfl) ([],false) ⟨rfl,by simp⟩
 exact this
def bP1 (vs:List LV)(k:Int):Env:=[(1,.c (.ptr 0 0)),(3,dV (aJ0 true 2 (vs.map lvD))),(4,iV k)]
theorem dQ2 (hx:ext 187=none)(u:Lev)(out:Option Out)(h:bY1 ext 0 (bP1 [] 0) [.box (levC u)]=out):run prog ext (.call 187 [levV u] [])=out:=by
 have e:aJ0 true 2 [] = .v (.slice none 0 0):=rfl
 unfold bY1 at h
 (rw[enT hx func187 rfl];simp only[f187,zR,simprocAttr,zE])
 simp only[levV,levC,dV,iV,bP1,List.map_nil,e]at h ⊢
 simp only[zS,zD,simprocAttr]
 (refine(aA0 ?_).trans h;kernel_rfl)
theorem eP1 (l:List LV)(x:LV):aJ0 true 2 ((putL l x).map lvD) = .s 2 ((putL l x).map lvD):=dV0 (by simp[yT1])
theorem vdN_lt {u:Lev}{k:Nat} (h:(k:Int)<u.vs.length):u.d = .s 2 (u.vs.map lvD):=by unfold Lev.d;exact aM0 (b:=k) (by omega) (by simpa using h)
theorem iA2 (hp:ext 196=none)(u:Lev)(y:LV)(vs:List LV)(hb:vs.length<40000000)(k:Nat)(hk:u.vs[k]? = some y)(hl:(k:Int)<u.vs.length)(out:Option Out)
  (h:bY1 ext 0 (bP1 (putL vs ⟨y.v,0⟩) (wr ((k:Int)+1))) [.box (levC u)]=out):bY1 ext 0 (bP1 vs k) [.box (levC u)]=out:=by
 have h0:(0:Int)≤k:=by omega
 have hr:=kY2 ext hp true vs ⟨y.v,0⟩ hb
 rw[← eP1]at hr
 unfold bY1 at h ⊢
 simp only[levC,lvV,lvC,dV,iV,bP1,eP1,vdN_lt hl]at h hr ⊢
 (rw[jZ2];simp only[B187,lI2,sub,f187,↓reduceIte,zG])
 simp only[zS,zD,bF0,zT34,cV0,zT3,h0,hl,Int.toNat_natCast,hk,lvD,hr,simprocAttr]
 (refine(aA0 ?_).trans h;kernel_rfl)
def yH0 (vs:List LV)(ns:List Int)(k:Int):Env:=[(3,dV (aJ0 true 2 (vs.map lvD))),(5,mkV 0 (ns.map inD)),(6,iV k)]
theorem mid187 (u:Lev)(vs:List LV)(out:Option Out)(h:bZ1 ext 0 (yH0 vs [] 0) []=out):bY1 ext 0 (bP1 vs u.vs.length) [.box (levC u)]=out:=by
 unfold bZ1 at h
 unfold bY1
 simp only[levC,dV,iV,bP1,yH0,List.map_nil,cF0]at h ⊢
 (rw[jZ2];simp only[B187,lI2,sub,f187,↓reduceIte,zG])
 simp only[zS,zD,bF0,zT34,gQ0,Int.lt_irrefl,simprocAttr]
 (refine(aA0 ?_).trans h;kernel_rfl)
theorem iB2 (vs:List LV)(y:LV)(ns:List Int)(hb:ns.length<100000000)(k:Nat)(hk:vs[k]? = some y)(hl:(k:Int)<vs.length)(out:Option Out)
  (h:bZ1 ext 0 (yH0 vs (ns++[y.v]) (wr ((k:Int)+1))) (mkO 1 ((ns++[y.v]).map inD))=out):bZ1 ext 0 (yH0 vs ns k) (mkO 1 (ns.map inD))=out:=by
 have h0:(0:Int)≤k:=by omega
 have hd:aJ0 true 2 (vs.map lvD) = .s 2 (vs.map lvD):=aM0 h0 (by simpa using hl)
 unfold bZ1 at h ⊢
 cases ns with
 | nil=>
  simp only[dV,iV,yH0,hd,List.map_cons,List.map_nil,cF0,cR0,List.nil_append,gP0]at h ⊢
  (rw[vN1];simp only[B187,aQ2,sub,f187,↓reduceIte,zG])
  simp only[zS,zD,dB0,cV0,zT3,h0,hl,Int.toNat_natCast,hk,lvD,bsIn,no43,dL0,Nat.zero_le,simprocAttr]
  (refine(aA0 ?_).trans h;kernel_rfl)
 | cons a r=>
  have hb':r.length+1≤1000000000:=by simp only[List.length_cons]at hb;omega
  simp only[dV,iV,yH0,hd,List.map_append,List.map_cons,List.map_nil,cA0,bZ0,List.cons_append,gP0]at h ⊢
  (rw[vN1];simp only[B187,aQ2,sub,f187,↓reduceIte,zG])
  simp only[zS,zD,dB0,cV0,zT3,h0,hl,Int.toNat_natCast,hk,lvD,bsIn,oo43,dP0,hb',simprocAttr]
  (refine(aA0 ?_).trans h;kernel_rfl)
theorem pR2 (vs:List LV)(ns:List Int):bZ1 ext 0 (yH0 vs ns vs.length) (mkO 1 (ns.map inD))=some (.ret [dV (aJ0 true 1 (ns.map inD))] []):=by
 unfold bZ1
 cases ns
 all_goals
  simp only[dV,iV,yH0,List.map_cons,List.map_nil,cF0,cA0,cR0,bZ0]
  (rw[vN1];simp only[B187,aQ2,sub,f187,↓reduceIte,zG])
  simp only[zS,zD,dB0,Int.lt_irrefl,simprocAttr]
  (refine .trans ?_ rfl;kernel_rfl)
def nU0 (u:Lev):List Int:=(u.vs.foldl (fun l y=>putL l ⟨y.v,0⟩) []).map LV.v
theorem uC0 (f:List LV→LV→List LV)(hf:∀ l y,(f l y).length≤l.length+1):∀ (l:List LV)(s:List LV),(l.foldl f s).length≤s.length+l.length
 | [],s=>Nat.le_refl _
 | a::l,s=>by have:=uC0 f hf l (f s a);have:=hf s a;simp only[List.foldl_cons,List.length_cons];omega
theorem aC2 (u:Lev):(nU0 u).length≤u.vs.length:=by
 have:=uC0 (fun l y=>putL l ⟨y.v,0⟩) (fun l y=>uD0 l _) u.vs []
 simpa [nU0] using this
theorem xA2 (hx:ext 187=none)(hp:ext 196=none)(u:Lev)(hs:u.vs.length<40000000):run prog ext (.call 187 [levV u] [])=some (.ret [dV (aJ0 true 1 ((nU0 u).map inD))] []):=by
 refine dQ2 ext hx u _ ?_
 have:=gS0 u.vs (fun k vs=>bY1 ext 0 (bP1 vs k) [.box (levC u)]) (fun k vs=>vs=(u.vs.take k).foldl (fun l y=>putL l ⟨y.v,0⟩) []) (fun o=>o=some (.ret [dV (aJ0 true 1 ((nU0 u).map inD))] [])) (by omega)
  (fun k y vs hI hk hl=>by
   have hb:=uC0 (fun l y=>putL l ⟨y.v,0⟩) (fun l y=>uD0 l _) (u.vs.take k) []
   rw[← hI]at hb
   exact⟨putL vs ⟨y.v,0⟩,by rw[List.take_add_one,hk,List.foldl_append,← hI];rfl,fun out ho=>iA2 ext hp u y vs (by simp at hb;omega) k hk hl out ho⟩) (fun vs hI=>by
   rw[List.take_length]at hI
   have hb:=uC0 (fun l y=>putL l ⟨y.v,0⟩) (fun l y=>uD0 l _) u.vs []
   rw[← hI]at hb
   refine mid187 ext u vs _ ?_
   have h2:=gS0 vs (fun k ns=>bZ1 ext 0 (yH0 vs ns k) (mkO 1 (ns.map inD))) (fun k ns=>ns=(vs.take k).map LV.v) (fun o=>o=some (.ret [dV (aJ0 true 1 ((nU0 u).map inD))] [])) (by simp at hb;omega)
    (fun k y ns hI2 hk hl=>⟨ns++[y.v],by rw[List.take_add_one,hk,List.map_append,← hI2];rfl,fun out ho=>iB2 ext vs y ns (by rw[hI2];simp at hb ⊢;omega) k hk hl out ho⟩) (fun ns hI2=>by
     rw[List.take_length]at hI2
     rw[pR2,hI2,hI]
     rfl) [] rfl
   exact h2) [] rfl
 exact this
end
section
open Go
variable (ext:Ext)
noncomputable def B119 : Code:=(f119.body.getD .skip)
noncomputable def bF2 : Code:=sub B119 [1,0,1,0,0]
theorem nZ0 : It.code bF2=It.code (sub B119 [1,0,1,0,0]):=rfl
noncomputable def uI0 : List It:=[.inBlock 0,.code (sub B119 [1,1])]
noncomputable def eH0 (ext:Ext)(m:Nat)(env:Env)(loc:List O):Option Out:=run prog ext (.k ⟨85,m,[.tmp 8,.tmp 9,.tmp 10],true⟩ (.code bF2 :: .inLoop bF2::uI0) env loc)
noncomputable def lU2 : Code:=sub B119 [1,0,1,0,0,1,0,0,1,1,0,0]
theorem mC1 : It.code lU2=It.code (sub B119 [1,0,1,0,0,1,0,0,1,1,0,0]):=rfl
noncomputable def rE1 : List It:=[.inBlock 2,.inBlock 1,.code (sub B119 [1,0,1,0,0,1,1]),.inLoop bF2,.inBlock 0,.code (sub B119 [1,1])]
noncomputable def kQ0 (ext:Ext)(m:Nat)(env:Env)(loc:List O):Option Out:=run prog ext (.k ⟨85,m,[.tmp 8,.tmp 9,.tmp 10],true⟩ (.code lU2 :: .inLoop lU2::rE1) env loc)
noncomputable def lV2 : Code:=sub B119 [1,1,1,1,0,1,0,0]
theorem lK0 : It.code lV2=It.code (sub B119 [1,1,1,1,0,1,0,0]):=rfl
noncomputable def qE0 : List It:=[.inBlock 4,.code (sub B119 [1,1,1,1,1])]
noncomputable def dD0 (ext:Ext)(m:Nat)(env:Env)(loc:List O):Option Out:=run prog ext (.k ⟨85,m,[.tmp 8,.tmp 9,.tmp 10],true⟩ (.code lV2 :: .inLoop lV2::qE0) env loc)
theorem sE2 (hx:ext 177=none)(x:Tm):run prog ext (.call 177 [iV x.op] [])=some (.ret [bV (wL1 x)] []):=by
 unfold wL1
 cases h2:(x.op==2) with
 | true=>
  (rw[enT hx func177 rfl];simp only[f177,zR,simprocAttr,zE])
  simp only[iV,bV]
  simp only[zS,zD,h2,simprocAttr]
  (refine .trans ?_ rfl;kernel_rfl)
 | false=>
 cases h26:(x.op==26) with
 | true=>
  (rw[enT hx func177 rfl];simp only[f177,zR,simprocAttr,zE])
  simp only[iV,bV]
  simp only[zS,zD,h2,h26,simprocAttr]
  (refine .trans ?_ rfl;kernel_rfl)
 | false=>
 cases h27:(x.op==27) with
 | true=>
  (rw[enT hx func177 rfl];simp only[f177,zR,simprocAttr,zE])
  simp only[iV,bV]
  simp only[zS,zD,h2,h26,h27,simprocAttr]
  (refine .trans ?_ rfl;kernel_rfl)
 | false=>
  cases h28:(x.op==28)
  all_goals
   (rw[enT hx func177 rfl];simp only[f177,zR,simprocAttr,zE])
   simp only[iV,bV]
   simp only[zS,zD,h2,h26,h27,h28,simprocAttr]
   (refine .trans ?_ rfl;kernel_rfl)
theorem rJ2 (l:List ByteArray)(s:ByteArray):(ixOf (l.findIdx? fun a=>a.toList==s.toList)<0)=(hasN l s=false):=by
 have e:hasN l s=l.any fun a=>a.toList==s.toList:=by
  unfold hasN;congr 1;funext a
  rw[Bool.eq_iff_iff,beq_iff_eq,beq_iff_eq];exact⟨Eq.symm,Eq.symm⟩
 rw[e,nV0,decide_eq_false_iff_not,Int.not_le]
def bx (l:List ByteArray):Nat:=match l with | []=>0 | _::_=>1
def nO (x:Tm)(l:List ByteArray):List O:=mkO 1 (l.map stD)++[.box (tmC x)]
def nV (l:List ByteArray):V:=mkV 0 (l.map stD)
theorem jE0 : nV [] = .c (.d (.v (.slice none 0 0))):=rfl
theorem eB0 (a:ByteArray)(r:List ByteArray):nV (a::r) = .c (.own 0):=rfl
theorem mC0 (x:Tm):nO x []=[.box (tmC x)]:=rfl
theorem eX0 (x:Tm)(a:ByteArray)(r:List ByteArray):nO x (a::r)=[.arr 1 (stD a::r.map stD),.box (tmC x)]:=rfl
theorem lV0 : bx []=0:=rfl
theorem eW0 (a:ByteArray)(r:List ByteArray):bx (a::r)=1:=rfl
def nArg (l:List ByteArray):List O:=mkO 1 (l.map stD)
theorem lE0 : nArg []=[]:=rfl
theorem kG0 (a:ByteArray)(r:List ByteArray):nArg (a::r)=[.arr 1 (stD a::r.map stD)]:=rfl
def eG0 (L:D)(l:List ByteArray)(H:D)(k:Int):Env:=[(1,dV L),(2,nV l),(3,dV H),(4,.c (.ptr (bx l) 0)),(11,iV k)]
def kP0 (L:D)(l:List ByteArray)(H:D)(k:Int)(W:D)(j:Int):Env:=[(1,dV L),(2,nV l),(3,dV H),(4,.c (.ptr (bx l) 0)),(11,iV k),(12,dV W),(13,iV j)]
def eC0 (L:D)(l:List ByteArray)(H:D)(k:Int):Env:=[(1,dV L),(2,nV l),(3,dV H),(4,.c (.ptr (bx l) 0)),(14,iV k)]
def pZ0 (L:D)(H:D)(k:Int):Env:=[(1,dV L),(2,.c (.own 1)),(3,dV H),(4,.c (.ptr 2 0)),(14,iV k)]
def qH0 (x:Tm)(l:List ByteArray):List O:=[.gone,.arr 1 (l.map stD),.box (tmC x)]
theorem en119n (hx:ext 119=none)(x:Tm)(L H:D)  (out:Option Out)(h:eH0 ext 0 (eG0 L [] H 0) (nO x [])=out):run prog ext (.call 119 [tmV x,dV L,nV [],dV H] (nArg []))=out:=by
 unfold eH0 at h
 (rw[enT hx func119 rfl];simp only[f119,zR,simprocAttr,zE])
 simp only[tmV,tmC,dV,iV,eG0,jE0,mC0,lV0,lE0]at h ⊢
 simp only[zS,zD,simprocAttr]
 (refine(aA0 ?_).trans h;kernel_rfl)
theorem sa119n (x:Tm)(u:Lev)(L H W:D)  (k:Nat)(hk:x.u[k]? = some u)(hl:(k:Int)<x.u.length)(hr:run prog ext (.call 187 [levV u] [])=some (.ret [dV W] []))(out:Option Out)
  (h:kQ0 ext 0 (kP0 L [] H k W 0) (nO x [])=out):eH0 ext 0 (eG0 L [] H k) (nO x [])=out:=by
 have h0:(0:Int)≤k:=by omega
 unfold kQ0 at h
 unfold eH0
 simp only[tmC,levV,levC,dV,iV,eG0,kP0,bK1 hl,jE0,mC0,lV0]at h hr ⊢
 (rw[nZ0];simp only[B119,uI0,sub,f119,↓reduceIte,zG])
 simp only[zS,zD,aT0,zT30,zT36,h0,hl,Int.toNat_natCast,hk,iR0 u,hr,simprocAttr]
 (refine(aA0 ?_).trans h;kernel_rfl)
theorem sb119n (x:Tm)(L L' H:D)(z:Bool)(w:List Int)(n:Int)  (k:Int)(j:Nat)(hk:w[j]? = some n)(hl:(j:Int)<w.length)(hr:run prog ext (.call 188 [dV L,iV n] [])=some (.ret [dV L'] []))(out:Option Out)
  (h:kQ0 ext 0 (kP0 L' [] H k (aJ0 z 1 (w.map inD)) (wr ((j:Int)+1))) (nO x [])=out):kQ0 ext 0 (kP0 L [] H k (aJ0 z 1 (w.map inD)) j) (nO x [])=out:=by
 have h0:(0:Int)≤j:=by omega
 have hd:aJ0 z 1 (w.map inD) = .s 1 (w.map inD):=aM0 h0 (by simpa using hl)
 unfold kQ0 at h ⊢
 simp only[tmC,dV,iV,kP0,hd,jE0,mC0,lV0]at h hr ⊢
 (rw[mC1];simp only[B119,rE1,sub,f119,↓reduceIte,zG])
 simp only[zS,zD,dN0,zT3,h0,hl,Int.toNat_natCast,hk,inD,hr,simprocAttr]
 (refine(aA0 ?_).trans h;kernel_rfl)
theorem db119n (x:Tm)(L H:D)(z:Bool)(w:List Int)  (k:Int)(out:Option Out)
  (h:eH0 ext 0 (eG0 L [] H (wr (k+1))) (nO x [])=out):kQ0 ext 0 (kP0 L [] H k (aJ0 z 1 (w.map inD)) w.length) (nO x [])=out:=by
 unfold eH0 at h
 unfold kQ0
 simp only[tmC,dV,iV,eG0,kP0,jE0,mC0,lV0]at h ⊢
 (rw[mC1];simp only[B119,rE1,sub,f119,↓reduceIte,zG])
 simp only[zS,zD,dN0,Int.lt_irrefl,simprocAttr]
 (refine(aA0 ?_).trans h;kernel_rfl)
theorem en119c (hx:ext 119=none)(x:Tm)(L H:D)(a:ByteArray)(r:List ByteArray)(out:Option Out)(h:eH0 ext 1 (eG0 L (a::r) H 0) (nO x (a::r))=out):run prog ext (.call 119 [tmV x,dV L,nV (a::r),dV H] (nArg (a::r)))=out:=by
 unfold eH0 at h
 (rw[enT hx func119 rfl];simp only[f119,zR,simprocAttr,zE])
 simp only[tmV,tmC,dV,iV,eG0,eB0,eX0,eW0,kG0]at h ⊢
 simp only[zS,zD,simprocAttr]
 (refine(aA0 ?_).trans h;kernel_rfl)
theorem sa119c (x:Tm)(u:Lev)(L H W:D)(a:ByteArray)(r:List ByteArray)(k:Nat)(hk:x.u[k]? = some u)(hl:(k:Int)<x.u.length)(hr:run prog ext (.call 187 [levV u] [])=some (.ret [dV W] []))(out:Option Out)
  (h:kQ0 ext 1 (kP0 L (a::r) H k W 0) (nO x (a::r))=out):eH0 ext 1 (eG0 L (a::r) H k) (nO x (a::r))=out:=by
 have h0:(0:Int)≤k:=by omega
 unfold kQ0 at h
 unfold eH0
 simp only[tmC,levV,levC,dV,iV,eG0,kP0,bK1 hl,eB0,eX0,eW0]at h hr ⊢
 (rw[nZ0];simp only[B119,uI0,sub,f119,↓reduceIte,zG])
 simp only[zS,zD,aT0,zT30,zT36,h0,hl,Int.toNat_natCast,hk,iR0 u,hr,simprocAttr]
 (refine(aA0 ?_).trans h;kernel_rfl)
theorem sb119c (x:Tm)(L L' H:D)(z:Bool)(w:List Int)(n:Int)(a:ByteArray)(r:List ByteArray)(k:Int)(j:Nat)(hk:w[j]? = some n)(hl:(j:Int)<w.length)(hr:run prog ext (.call 188 [dV L,iV n] [])=some (.ret [dV L'] []))(out:Option Out)
  (h:kQ0 ext 1 (kP0 L' (a::r) H k (aJ0 z 1 (w.map inD)) (wr ((j:Int)+1))) (nO x (a::r))=out):kQ0 ext 1 (kP0 L (a::r) H k (aJ0 z 1 (w.map inD)) j) (nO x (a::r))=out:=by
 have h0:(0:Int)≤j:=by omega
 have hd:aJ0 z 1 (w.map inD) = .s 1 (w.map inD):=aM0 h0 (by simpa using hl)
 unfold kQ0 at h ⊢
 simp only[tmC,dV,iV,kP0,hd,eB0,eX0,eW0]at h hr ⊢
 (rw[mC1];simp only[B119,rE1,sub,f119,↓reduceIte,zG])
 simp only[zS,zD,dN0,zT3,h0,hl,Int.toNat_natCast,hk,inD,hr,simprocAttr]
 (refine(aA0 ?_).trans h;kernel_rfl)
theorem db119c (x:Tm)(L H:D)(z:Bool)(w:List Int)(a:ByteArray)(r:List ByteArray)(k:Int)(out:Option Out)
  (h:eH0 ext 1 (eG0 L (a::r) H (wr (k+1))) (nO x (a::r))=out):kQ0 ext 1 (kP0 L (a::r) H k (aJ0 z 1 (w.map inD)) w.length) (nO x (a::r))=out:=by
 unfold eH0 at h
 unfold kQ0
 simp only[tmC,dV,iV,eG0,kP0,eB0,eX0,eW0]at h ⊢
 (rw[mC1];simp only[B119,rE1,sub,f119,↓reduceIte,zG])
 simp only[zS,zD,dN0,Int.lt_irrefl,simprocAttr]
 (refine(aA0 ?_).trans h;kernel_rfl)
theorem sG2 (x:Tm)(L H:D)  (hm:run prog ext (.call 177 [iV x.op] [])=some (.ret [bV true] []))(n:Int)(hh:run prog ext (.call 189 [dV (aJ0 true 1 []),sV x.s] [])=some (.ret [iV n] []))(hn:n<0)(h29:(x.op==29)=false)(out:Option Out)(h:dD0 ext 0 (eC0 L [x.s] H 0) (nO x [x.s])=out):eH0 ext 0 (eG0 L [] H x.u.length) (nO x [])=out:=by
 unfold dD0 at h
 unfold eH0
 simp only[tmC,dV,iV,bV,sV,eG0,eC0,List.map_nil,jE0,eB0,mC0,eX0,lV0,eW0,sV0,lC2 x.s]at hm hh h ⊢
 (rw[nZ0];simp only[B119,uI0,sub,f119,↓reduceIte,zG])
 simp only[zS,zD,zT33,zT30,zT9,zT3,eM0,Int.lt_irrefl,hm,hh,hn,h29,bsSt,no52,dL0,Nat.zero_le,simprocAttr]
 (refine(aA0 ?_).trans h;kernel_rfl)
theorem sI2 (x:Tm)(L H:D)  (hm:run prog ext (.call 177 [iV x.op] [])=some (.ret [bV false] []))(h29:(x.op==29)=true)(H':D)(hr:run prog ext (.call 188 [dV H,iV x.n] [])=some (.ret [dV H'] []))(out:Option Out)(h:dD0 ext 0 (eC0 L [] H' 0) (nO x [])=out):eH0 ext 0 (eG0 L [] H x.u.length) (nO x [])=out:=by
 unfold dD0 at h
 unfold eH0
 simp only[tmC,dV,iV,bV,eG0,eC0,jE0,mC0,lV0]at hm hr h ⊢
 (rw[nZ0];simp only[B119,uI0,sub,f119,↓reduceIte,zG])
 simp only[zS,zD,zT33,zT30,zT3,eM0,Int.lt_irrefl,hm,h29,hr,simprocAttr]
 (refine(aA0 ?_).trans h;kernel_rfl)
theorem sK2 (x:Tm)(L H:D)  (hm:run prog ext (.call 177 [iV x.op] [])=some (.ret [bV false] []))(h29:(x.op==29)=false)(out:Option Out)(h:dD0 ext 0 (eC0 L [] H 0) (nO x [])=out):eH0 ext 0 (eG0 L [] H x.u.length) (nO x [])=out:=by
 unfold dD0 at h
 unfold eH0
 simp only[tmC,dV,iV,bV,eG0,eC0,jE0,mC0,lV0]at hm h ⊢
 (rw[nZ0];simp only[B119,uI0,sub,f119,↓reduceIte,zG])
 simp only[zS,zD,zT33,zT30,zT3,eM0,Int.lt_irrefl,hm,h29,simprocAttr]
 (refine(aA0 ?_).trans h;kernel_rfl)
theorem sM2 (x:Tm)(L H:D)  (hm:run prog ext (.call 177 [iV x.op] [])=some (.ret [bV true] []))(n:Int)(hh:run prog ext (.call 189 [dV (aJ0 true 1 []),sV x.s] [])=some (.ret [iV n] []))(hn:¬ n<0)(h29:(x.op==29)=false)(out:Option Out)(h:dD0 ext 0 (eC0 L [] H 0) (nO x [])=out):eH0 ext 0 (eG0 L [] H x.u.length) (nO x [])=out:=by
 unfold dD0 at h
 unfold eH0
 simp only[tmC,dV,iV,bV,sV,eG0,eC0,jE0,mC0,lV0,sV0]at hm hh h ⊢
 (rw[nZ0];simp only[B119,uI0,sub,f119,↓reduceIte,zG])
 simp only[zS,zD,zT33,zT30,zT9,zT3,eM0,Int.lt_irrefl,hm,hh,hn,h29,simprocAttr]
 (refine(aA0 ?_).trans h;kernel_rfl)
theorem sF2 (x:Tm)(L H:D)(a:ByteArray)(r:List ByteArray)(hb:r.length<2^28)(hm:run prog ext (.call 177 [iV x.op] [])=some (.ret [bV true] []))(n:Int)(hh:run prog ext (.call 189 [dV (.s 1 (stD a::r.map stD)),sV x.s] [])=some (.ret [iV n] []))(hn:n<0)(h29:(x.op==29)=false)(out:Option Out)(h:dD0 ext 1 (pZ0 L H 0) (qH0 x (a::r++[x.s]))=out):eH0 ext 1 (eG0 L (a::r) H x.u.length) (nO x (a::r))=out:=by
 unfold dD0 at h
 unfold eH0
 have hC:=fun o1 slot=>aL0 (rec:=run prog ext) (look:=lk [.arr 1 (stD a::r.map stD),o1]) (slot:=slot) (f:=189) (args:=[.c (.own 0),sV x.s]) (ids:=[]) (bor:=[0]) (e:=⟨.val (iV n),[],[0]⟩) (by kernel_rfl) hh (by kernel_rfl)
 have hb':r.length+1≤1000000000:=by omega
 simp only[tmC,dV,iV,bV,sV,eG0,pZ0,qH0,List.map_append,List.map_cons,List.map_nil,List.cons_append,eB0,eX0,eW0,lC2 x.s]at hm hC h ⊢
 (rw[nZ0];simp only[B119,uI0,sub,f119,↓reduceIte,zG])
 simp only[zS,zD,zT33,zT30,zT9,zT3,eM0,Int.lt_irrefl,hm,hC,hn,h29,bsSt,oo52,dP0,hb',simprocAttr]
 (refine(aA0 ?_).trans h;kernel_rfl)
theorem sH2 (x:Tm)(L H:D)(a:ByteArray)(r:List ByteArray)(hm:run prog ext (.call 177 [iV x.op] [])=some (.ret [bV false] []))(h29:(x.op==29)=true)(H':D)(hr:run prog ext (.call 188 [dV H,iV x.n] [])=some (.ret [dV H'] []))(out:Option Out)(h:dD0 ext 1 (eC0 L (a::r) H' 0) (nO x (a::r))=out):eH0 ext 1 (eG0 L (a::r) H x.u.length) (nO x (a::r))=out:=by
 unfold dD0 at h
 unfold eH0
 simp only[tmC,dV,iV,bV,eG0,eC0,eB0,eX0,eW0]at hm hr h ⊢
 (rw[nZ0];simp only[B119,uI0,sub,f119,↓reduceIte,zG])
 simp only[zS,zD,zT33,zT30,zT3,eM0,Int.lt_irrefl,hm,h29,hr,simprocAttr]
 (refine(aA0 ?_).trans h;kernel_rfl)
theorem sJ2 (x:Tm)(L H:D)(a:ByteArray)(r:List ByteArray)(hm:run prog ext (.call 177 [iV x.op] [])=some (.ret [bV false] []))(h29:(x.op==29)=false)(out:Option Out)(h:dD0 ext 1 (eC0 L (a::r) H 0) (nO x (a::r))=out):eH0 ext 1 (eG0 L (a::r) H x.u.length) (nO x (a::r))=out:=by
 unfold dD0 at h
 unfold eH0
 simp only[tmC,dV,iV,bV,eG0,eC0,eB0,eX0,eW0]at hm h ⊢
 (rw[nZ0];simp only[B119,uI0,sub,f119,↓reduceIte,zG])
 simp only[zS,zD,zT33,zT30,zT3,eM0,Int.lt_irrefl,hm,h29,simprocAttr]
 (refine(aA0 ?_).trans h;kernel_rfl)
theorem sL2 (x:Tm)(L H:D)(a:ByteArray)(r:List ByteArray)(hm:run prog ext (.call 177 [iV x.op] [])=some (.ret [bV true] []))(n:Int)(hh:run prog ext (.call 189 [dV (.s 1 (stD a::r.map stD)),sV x.s] [])=some (.ret [iV n] []))(hn:¬ n<0)(h29:(x.op==29)=false)(out:Option Out)(h:dD0 ext 1 (eC0 L (a::r) H 0) (nO x (a::r))=out):eH0 ext 1 (eG0 L (a::r) H x.u.length) (nO x (a::r))=out:=by
 unfold dD0 at h
 unfold eH0
 have hC:=fun o1 slot=>aL0 (rec:=run prog ext) (look:=lk [.arr 1 (stD a::r.map stD),o1]) (slot:=slot) (f:=189) (args:=[.c (.own 0),sV x.s]) (ids:=[]) (bor:=[0]) (e:=⟨.val (iV n),[],[0]⟩) (by kernel_rfl) hh (by kernel_rfl)
 simp only[tmC,dV,iV,bV,sV,eG0,eC0,eB0,eX0,eW0]at hm hC h ⊢
 (rw[nZ0];simp only[B119,uI0,sub,f119,↓reduceIte,zG])
 simp only[zS,zD,zT33,zT30,zT9,zT3,eM0,Int.lt_irrefl,hm,hC,hn,h29,simprocAttr]
 (refine(aA0 ?_).trans h;kernel_rfl)
def nRet (g:Bool)(l:List ByteArray):V:=match g with | true=> .c (.own 1) | false=>nV l
def nOut (g:Bool)(l:List ByteArray):List O:=match g with | true=>[.gone,.arr 1 (l.map stD)] | false=>nArg l
section
variable (rec:Rec) (y:Tm) (o1:O) (L H L' H':D) (slot:Nat)
theorem c119A (hr:rec (.call 119 [tmV y,dV L,nV [],dV H] (nArg []))=some (.ret [dV L',nRet false [],dV H'] (nOut false []))):aY0 [] [] slot (rec (.call 119 [tmV y,dV L,nV [],dV H] (nArg [])))=some ⟨.val (.tup [(false,[.d L']),(false,[.d (.v (.slice none 0 0))]),(false,[.d H'])]),[],[]⟩:=by
 rw[hr]
 simp[aY0,bW0,nRet,nOut,jE0,lE0,dV,mapO,renV,renC,back,bQ0,aZ0,comp,bE0]
theorem c119B (b:ByteArray)(q:List ByteArray)(hr:rec (.call 119 [tmV y,dV L,nV [],dV H] (nArg []))=some (.ret [dV L',nRet false (b::q),dV H'] (nOut false (b::q)))):aY0 [] [] slot (rec (.call 119 [tmV y,dV L,nV [],dV H] (nArg [])))=some ⟨.val (.tup [(false,[.d L']),(false,[.own slot]),(false,[.d H'])]),[(slot,.arr 1 (stD b::q.map stD))],[]⟩:=by
 rw[hr]
 simp[aY0,bW0,nRet,nOut,eB0,kG0,dV,mapO,renV,renO,renC,back,bQ0,aZ0,comp,bE0]
theorem c119C (a:ByteArray)(r:List ByteArray)(hr:rec (.call 119 [tmV y,dV L,nV (a::r),dV H] (nArg (a::r)))=some (.ret [dV L',nRet false (a::r),dV H'] (nOut false (a::r)))):cH0 rec (lk [.arr 1 (stD a::r.map stD),o1]) slot 119 [tmV y,dV L,.c (.own 0),dV H]=some ⟨.val (.tup [(false,[.d L']),(false,[.own 0]),(false,[.d H'])]),[(0,.arr 1 (stD a::r.map stD))],[0]⟩:=
 aL0 (ids:=[0]) (bor:=[]) (by kernel_rfl) hr (by simp[bW0,nRet,nOut,eB0,kG0,dV,mapO,renV,renO,renC,back,bQ0,aZ0,comp,bE0])
theorem c119D (a b:ByteArray)(r q:List ByteArray)(hr:rec (.call 119 [tmV y,dV L,nV (a::r),dV H] (nArg (a::r)))=some (.ret [dV L',nRet true (b::q),dV H'] (nOut true (b::q)))):cH0 rec (lk [.arr 1 (stD a::r.map stD),o1]) slot 119 [tmV y,dV L,.c (.own 0),dV H]=some ⟨.val (.tup [(false,[.d L']),(false,[.own slot]),(false,[.d H'])]),[(0,.gone),(slot,.arr 1 (stD b::q.map stD))],[0]⟩:=
 aL0 (ids:=[0]) (bor:=[]) (by kernel_rfl) hr (by simp[bW0,nRet,nOut,dV,mapO,renV,renO,renC,back,bQ0,aZ0,comp,bE0])
theorem c119E (a:ByteArray)(r:List ByteArray)(hr:rec (.call 119 [tmV y,dV L,nV (a::r),dV H] (nArg (a::r)))=some (.ret [dV L',nRet false (a::r),dV H'] (nOut false (a::r)))):cH0 rec (lk [.gone,.arr 1 (stD a::r.map stD),o1]) slot 119 [tmV y,dV L,.c (.own 1),dV H]=some ⟨.val (.tup [(false,[.d L']),(false,[.own 1]),(false,[.d H'])]),[(1,.arr 1 (stD a::r.map stD))],[1]⟩:=
 aL0 (ids:=[1]) (bor:=[]) (by kernel_rfl) hr (by simp[bW0,nRet,nOut,eB0,kG0,dV,mapO,renV,renO,renC,back,bQ0,aZ0,comp,bE0])
theorem c119F (a b:ByteArray)(r q:List ByteArray)(hr:rec (.call 119 [tmV y,dV L,nV (a::r),dV H] (nArg (a::r)))=some (.ret [dV L',nRet true (b::q),dV H'] (nOut true (b::q)))):cH0 rec (lk [.gone,.arr 1 (stD a::r.map stD),o1]) slot 119 [tmV y,dV L,.c (.own 1),dV H]=some ⟨.val (.tup [(false,[.d L']),(false,[.own slot]),(false,[.d H'])]),[(1,.gone),(slot,.arr 1 (stD b::q.map stD))],[1]⟩:=
 aL0 (ids:=[1]) (bor:=[]) (by kernel_rfl) hr (by simp[bW0,nRet,nOut,dV,mapO,renV,renO,renC,back,bQ0,aZ0,comp,bE0])
end
theorem uZ2 (x y:Tm)(L H L' H':D)  (k:Nat)(hk:x.l[k]? = some y)(hl:(k:Int)<x.l.length)(hr:run prog ext (.call 119 [tmV y,dV L,nV [],dV H] (nArg []))=some (.ret [dV L',nRet false [],dV H'] (nOut false [])))(out:Option Out)
  (h:dD0 ext 0 (eC0 L' [] H' (wr ((k:Int)+1))) (nO x [])=out):dD0 ext 0 (eC0 L [] H k) (nO x [])=out:=by
 have h0:(0:Int)≤k:=by omega
 have hC:=fun slot=>c119A (run prog ext) y L H L' H' slot hr
 unfold dD0 at h ⊢
 simp only[tmV,tmC,dV,iV,eC0,bC0 hl,jE0,mC0,lV0,lE0]at h hC ⊢
 (rw[lK0];simp only[B119,qE0,sub,f119,↓reduceIte,zG])
 simp only[zS,zD,zT33,zT31,h0,hl,Int.toNat_natCast,hk,aH0 y,hC,simprocAttr]
 (refine(aA0 ?_).trans h;kernel_rfl)
theorem vA2 (x y:Tm)(L H L' H':D)(b:ByteArray)(q:List ByteArray)(k:Nat)(hk:x.l[k]? = some y)(hl:(k:Int)<x.l.length)(hr:run prog ext (.call 119 [tmV y,dV L,nV [],dV H] (nArg []))=some (.ret [dV L',nRet false (b::q),dV H'] (nOut false (b::q))))(out:Option Out)
  (h:dD0 ext 0 (eC0 L' (b::q) H' (wr ((k:Int)+1))) (nO x (b::q))=out):dD0 ext 0 (eC0 L [] H k) (nO x [])=out:=by
 have h0:(0:Int)≤k:=by omega
 have hC:=fun slot=>c119B (run prog ext) y L H L' H' slot b q hr
 unfold dD0 at h ⊢
 simp only[tmV,tmC,dV,iV,eC0,bC0 hl,jE0,eB0,mC0,eX0,lV0,eW0,lE0]at h hC ⊢
 (rw[lK0];simp only[B119,qE0,sub,f119,↓reduceIte,zG])
 simp only[zS,zD,zT33,zT31,h0,hl,Int.toNat_natCast,hk,aH0 y,hC,simprocAttr]
 (refine(aA0 ?_).trans h;kernel_rfl)
theorem vB2 (x y:Tm)(L H L' H':D)(a:ByteArray)(r:List ByteArray)(k:Nat)(hk:x.l[k]? = some y)(hl:(k:Int)<x.l.length)(hr:run prog ext (.call 119 [tmV y,dV L,nV (a::r),dV H] (nArg (a::r)))=some (.ret [dV L',nRet false (a::r),dV H'] (nOut false (a::r))))(out:Option Out)
  (h:dD0 ext 0 (eC0 L' (a::r) H' (wr ((k:Int)+1))) (nO x (a::r))=out):dD0 ext 0 (eC0 L (a::r) H k) (nO x (a::r))=out:=by
 have h0:(0:Int)≤k:=by omega
 have hC:=fun o1 slot=>c119C (run prog ext) y o1 L H L' H' slot a r hr
 unfold dD0 at h ⊢
 simp only[tmV,tmC,dV,iV,eC0,bC0 hl,eB0,eX0,eW0]at h hC ⊢
 (rw[lK0];simp only[B119,qE0,sub,f119,↓reduceIte,zG])
 simp only[zS,zD,zT33,zT31,h0,hl,Int.toNat_natCast,hk,aH0 y,hC,simprocAttr]
 (refine(aA0 ?_).trans h;kernel_rfl)
theorem vC2 (x y:Tm)(L H L' H':D)(a b:ByteArray)(r q:List ByteArray)(k:Nat)(hk:x.l[k]? = some y)(hl:(k:Int)<x.l.length)(hr:run prog ext (.call 119 [tmV y,dV L,nV (a::r),dV H] (nArg (a::r)))=some (.ret [dV L',nRet true (b::q),dV H'] (nOut true (b::q))))(out:Option Out)
  (h:dD0 ext 0 (eC0 L' (b::q) H' (wr ((k:Int)+1))) (nO x (b::q))=out):dD0 ext 0 (eC0 L (a::r) H k) (nO x (a::r))=out:=by
 have h0:(0:Int)≤k:=by omega
 have hC:=fun o1 slot=>c119D (run prog ext) y o1 L H L' H' slot a b r q hr
 unfold dD0 at h ⊢
 simp only[tmV,tmC,dV,iV,eC0,bC0 hl,eB0,eX0,eW0]at h hC ⊢
 (rw[lK0];simp only[B119,qE0,sub,f119,↓reduceIte,zG])
 simp only[zS,zD,zT33,zT31,h0,hl,Int.toNat_natCast,hk,aH0 y,hC,simprocAttr]
 (refine(aA0 ?_).trans h;kernel_rfl)
theorem vD2 (x y:Tm)(L H L' H':D)(a:ByteArray)(r:List ByteArray)(k:Nat)(hk:x.l[k]? = some y)(hl:(k:Int)<x.l.length)(hr:run prog ext (.call 119 [tmV y,dV L,nV (a::r),dV H] (nArg (a::r)))=some (.ret [dV L',nRet false (a::r),dV H'] (nOut false (a::r))))(out:Option Out)
  (h:dD0 ext 1 (eC0 L' (a::r) H' (wr ((k:Int)+1))) (nO x (a::r))=out):dD0 ext 1 (eC0 L (a::r) H k) (nO x (a::r))=out:=by
 have h0:(0:Int)≤k:=by omega
 have hC:=fun o1 slot=>c119C (run prog ext) y o1 L H L' H' slot a r hr
 unfold dD0 at h ⊢
 simp only[tmV,tmC,dV,iV,eC0,bC0 hl,eB0,eX0,eW0]at h hC ⊢
 (rw[lK0];simp only[B119,qE0,sub,f119,↓reduceIte,zG])
 simp only[zS,zD,zT33,zT31,h0,hl,Int.toNat_natCast,hk,aH0 y,hC,simprocAttr]
 (refine(aA0 ?_).trans h;kernel_rfl)
theorem vE2 (x y:Tm)(L H L' H':D)(a b:ByteArray)(r q:List ByteArray)(k:Nat)(hk:x.l[k]? = some y)(hl:(k:Int)<x.l.length)(hr:run prog ext (.call 119 [tmV y,dV L,nV (a::r),dV H] (nArg (a::r)))=some (.ret [dV L',nRet true (b::q),dV H'] (nOut true (b::q))))(out:Option Out)
  (h:dD0 ext 1 (pZ0 L' H' (wr ((k:Int)+1))) (qH0 x (b::q))=out):dD0 ext 1 (eC0 L (a::r) H k) (nO x (a::r))=out:=by
 have h0:(0:Int)≤k:=by omega
 have hC:=fun o1 slot=>c119D (run prog ext) y o1 L H L' H' slot a b r q hr
 unfold dD0 at h ⊢
 simp only[tmV,tmC,dV,iV,eC0,pZ0,qH0,List.map_cons,bC0 hl,eB0,eX0,eW0]at h hC ⊢
 (rw[lK0];simp only[B119,qE0,sub,f119,↓reduceIte,zG])
 simp only[zS,zD,zT33,zT31,h0,hl,Int.toNat_natCast,hk,aH0 y,hC,simprocAttr]
 (refine(aA0 ?_).trans h;kernel_rfl)
theorem vF2 (x y:Tm)(L H L' H':D)(a:ByteArray)(r:List ByteArray)(k:Nat)(hk:x.l[k]? = some y)(hl:(k:Int)<x.l.length)(hr:run prog ext (.call 119 [tmV y,dV L,nV (a::r),dV H] (nArg (a::r)))=some (.ret [dV L',nRet false (a::r),dV H'] (nOut false (a::r))))(out:Option Out)
  (h:dD0 ext 1 (pZ0 L' H' (wr ((k:Int)+1))) (qH0 x (a::r))=out):dD0 ext 1 (pZ0 L H k) (qH0 x (a::r))=out:=by
 have h0:(0:Int)≤k:=by omega
 have hC:=fun o1 slot=>c119E (run prog ext) y o1 L H L' H' slot a r hr
 unfold dD0 at h ⊢
 simp only[tmV,tmC,dV,iV,pZ0,qH0,List.map_cons,bC0 hl]at h hC ⊢
 (rw[lK0];simp only[B119,qE0,sub,f119,↓reduceIte,zG])
 simp only[zS,zD,zT33,zT31,h0,hl,Int.toNat_natCast,hk,aH0 y,hC,simprocAttr]
 (refine(aA0 ?_).trans h;kernel_rfl)
theorem vG2 (x y:Tm)(L H L' H':D)(a b:ByteArray)(r q:List ByteArray)(k:Nat)(hk:x.l[k]? = some y)(hl:(k:Int)<x.l.length)(hr:run prog ext (.call 119 [tmV y,dV L,nV (a::r),dV H] (nArg (a::r)))=some (.ret [dV L',nRet true (b::q),dV H'] (nOut true (b::q))))(out:Option Out)
  (h:dD0 ext 1 (pZ0 L' H' (wr ((k:Int)+1))) (qH0 x (b::q))=out):dD0 ext 1 (pZ0 L H k) (qH0 x (a::r))=out:=by
 have h0:(0:Int)≤k:=by omega
 have hC:=fun o1 slot=>c119F (run prog ext) y o1 L H L' H' slot a b r q hr
 unfold dD0 at h ⊢
 simp only[tmV,tmC,dV,iV,pZ0,qH0,List.map_cons,bC0 hl]at h hC ⊢
 (rw[lK0];simp only[B119,qE0,sub,f119,↓reduceIte,zG])
 simp only[zS,zD,zT33,zT31,h0,hl,Int.toNat_natCast,hk,aH0 y,hC,simprocAttr]
 (refine(aA0 ?_).trans h;kernel_rfl)
theorem pH2 (x:Tm)(L H:D)  : dD0 ext 0 (eC0 L [] H x.l.length) (nO x [])=some (.ret [dV L,nRet false [],dV H] (nOut false [])):=by
 unfold dD0
 simp only[tmC,dV,iV,eC0,nRet,nOut,jE0,mC0,lV0,lE0]
 (rw[lK0];simp only[B119,qE0,sub,f119,↓reduceIte,zG])
 simp only[zS,zD,bD0,zT31,aI0,Int.lt_irrefl,simprocAttr]
 (refine .trans ?_ rfl;kernel_rfl)
theorem pG2 (x:Tm)(L H:D)(a:ByteArray)(r:List ByteArray):dD0 ext 0 (eC0 L (a::r) H x.l.length) (nO x (a::r))=some (.ret [dV L,nRet false (a::r),dV H] (nOut false (a::r))):=by
 unfold dD0
 simp only[tmC,dV,iV,eC0,nRet,nOut,eB0,eX0,eW0,kG0]
 (rw[lK0];simp only[B119,qE0,sub,f119,↓reduceIte,zG])
 simp only[zS,zD,bD0,zT31,aI0,Int.lt_irrefl,simprocAttr]
 (refine .trans ?_ rfl;kernel_rfl)
theorem pI2 (x:Tm)(L H:D)(a:ByteArray)(r:List ByteArray):dD0 ext 1 (eC0 L (a::r) H x.l.length) (nO x (a::r))=some (.ret [dV L,nRet false (a::r),dV H] (nOut false (a::r))):=by
 unfold dD0
 simp only[tmC,dV,iV,eC0,nRet,nOut,eB0,eX0,eW0,kG0]
 (rw[lK0];simp only[B119,qE0,sub,f119,↓reduceIte,zG])
 simp only[zS,zD,bD0,zT31,aI0,Int.lt_irrefl,simprocAttr]
 (refine .trans ?_ rfl;kernel_rfl)
theorem pJ2 (x:Tm)(L H:D)(a:ByteArray)(r:List ByteArray):dD0 ext 1 (pZ0 L H x.l.length) (qH0 x (a::r))=some (.ret [dV L,nRet true (a::r),dV H] (nOut true (a::r))):=by
 unfold dD0
 simp only[tmC,dV,iV,pZ0,qH0,nRet,nOut,List.map_cons]
 (rw[lK0];simp only[B119,qE0,sub,f119,↓reduceIte,zG])
 simp only[zS,zD,bD0,zT31,aI0,Int.lt_irrefl,simprocAttr]
 (refine .trans ?_ rfl;kernel_rfl)
end
section
open Go
def cO0 (n:Int)(l:List Int):Bool:=l.any fun v=>decide (n≤v)
theorem xY0 (n m:Int):∀ (l:List Int)(s:List Int × Bool),cO0 m (if(l.foldl (dX0 n) s).2=true then(l.foldl (dX0 n) s).1 else(l.foldl (dX0 n) s).1++[n])=(cO0 m s.1||(cO0 m l||(!s.2&&decide (m≤n))))
 | [],(s,b)=>by cases b <;> simp[cO0]
 | a::l,(s,b)=>by
  rw[List.foldl_cons,xY0 n m l]
  unfold dX0
  by_cases h:b=false∧n≤a
  ·dsimp only
   rw[if_pos h]
   obtain⟨rfl,h2⟩:=h
   by_cases e:n=a
   ·subst e
    rw[if_pos rfl]
    simp only[cO0,List.any_append,List.any_cons,List.any_nil,Bool.or_false,Bool.not_true,Bool.false_and,Bool.not_false,Bool.true_and]
    cases s.any (fun v=>decide (m≤v)) <;> cases l.any (fun v=>decide (m≤v)) <;> cases decide (m≤n) <;> rfl
   ·rw[if_neg e]
    simp only[cO0,List.any_append,List.any_cons,List.any_nil,Bool.or_false,Bool.not_true,Bool.false_and,Bool.not_false,Bool.true_and]
    cases s.any (fun v=>decide (m≤v)) <;> cases l.any (fun v=>decide (m≤v)) <;> cases decide (m≤n) <;> cases decide (m≤a) <;> rfl
  ·dsimp only
   rw[if_neg h]
   simp only[cO0,List.any_append,List.any_cons,List.any_nil,Bool.or_false]
   cases s.any (fun v=>decide (m≤v)) <;> cases l.any (fun v=>decide (m≤v)) <;> cases decide (m≤a) <;> cases b <;> cases decide (m≤n) <;> rfl
theorem uO2 (m:Int)(l:List Int)(n:Int):cO0 m (ordL l n)=(cO0 m l||decide (m≤n)):=by
 unfold ordL
 rw[xY0 n m l ([],false)]
 simp[cO0]
def geV (m:Int)(l:List LV):Bool:=l.any fun y=>decide (m≤y.v)
theorem yC0 (x:LV)(m:Int):∀ (l:List LV)(s:List LV × Bool),geV m (if(l.foldl (bY0 x) s).2=true then(l.foldl (bY0 x) s).1 else(l.foldl (bY0 x) s).1++[x])=(geV m s.1||(geV m l||(!s.2&&decide (m≤x.v))))
 | [],(s,b)=>by cases b <;> simp[geV]
 | a::l,(s,b)=>by
  rw[List.foldl_cons,yC0 x m l]
  unfold bY0
  by_cases h:b=false∧x.v<a.v
  ·dsimp only
   rw[if_pos h]
   obtain⟨rfl,h2⟩:=h
   rw[if_neg (by omega)]
   simp only[geV,List.any_append,List.any_cons,List.any_nil,Bool.or_false,Bool.not_true,Bool.false_and,Bool.not_false,Bool.true_and]
   cases s.any (fun v=>decide (m≤v.v)) <;> cases l.any (fun v=>decide (m≤v.v)) <;> cases decide (m≤x.v) <;> cases decide (m≤a.v) <;> rfl
  ·dsimp only
   rw[if_neg h]
   dsimp only
   by_cases e:x.v=a.v
   ·rw[if_pos e,e]
    simp only[geV,List.any_append,List.any_cons,List.any_nil,Bool.or_false,Bool.not_true,Bool.false_and]
    cases s.any (fun v=>decide (m≤v.v)) <;> cases l.any (fun v=>decide (m≤v.v)) <;> cases decide (m≤a.v) <;> cases b <;> rfl
   ·rw[if_neg e]
    simp only[geV,List.any_append,List.any_cons,List.any_nil,Bool.or_false]
    cases s.any (fun v=>decide (m≤v.v)) <;> cases l.any (fun v=>decide (m≤v.v)) <;> cases decide (m≤a.v) <;> cases b <;> cases decide (m≤x.v) <;> rfl
theorem uU2 (m:Int)(l:List LV)(x:LV):geV m (putL l x)=(geV m l||decide (m≤x.v)):=by
 have:=yC0 x m l ([],false)
 unfold putL
 dsimp only
 rw[this]
 simp[geV]
theorem iU2 (m:Int)(u:Lev):cO0 m (nU0 u)=geV m u.vs:=by
 have h:∀ (vs acc:List LV),geV m (vs.foldl (fun l y=>putL l ⟨y.v,0⟩) acc)=(geV m acc||geV m vs):=by
  intro vs
  induction vs with
  | nil=>intro acc;simp[geV]
  | cons y r ih=>
   intro acc
   rw[List.foldl_cons,ih,uU2]
   simp only[geV,List.any_cons,Bool.or_assoc]
 have e:cO0 m (nU0 u)=geV m (u.vs.foldl (fun l y=>putL l ⟨y.v,0⟩) []):=by
  unfold cO0 nU0 geV
  rw[List.any_map]
  rfl
 rw[e,h]
 rfl
def lvGe (n:Int):Tm→Bool
 | .mk _ _ _ u _ l _=>(u.any fun x=>geV n x.vs)||lvGes l
where lvGes:List Tm→Bool
 | []=>false
 | x::r=>lvGe n x||lvGes r
theorem eZ2 (n:Int)(l:List Tm):lvGe.lvGes n l=l.any (lvGe n):=by induction l <;> simp_all [lvGe.lvGes]
theorem xE1 (n:Int)(x:Tm):lvGe n x=((x.u.any fun y=>geV n y.vs)||x.l.any (lvGe n)):=by cases x;simp only[lvGe,eZ2,Tm.u,Tm.l]
theorem cL1 (m:Int){l l':List Int} (h:∀ v,v∈l↔v∈l'):cO0 m l=cO0 m l':=by
 rw[Bool.eq_iff_iff]
 simp only[cO0,List.any_eq_true]
 constructor
 ·rintro⟨v,h1,h2⟩;exact⟨v,(h v).1 h1,h2⟩
 ·rintro⟨v,h1,h2⟩;exact⟨v,(h v).2 h1,h2⟩
theorem yY0 {α:Type} (p:α→Bool)(l:List α)(k:Nat)(y:α)(hk:l[k]? = some y):(l.take (k+1)).any p=((l.take k).any p||p y):=by
 rw[List.take_add_one,hk]
 simp
end
section
open Go
variable (ext:Ext)
def inL (s:Bool × List Int):D:=aJ0 s.1 1 (s.2.map inD)
theorem en119 (hx:ext 119=none)(x:Tm)(L H:D)(l:List ByteArray)(out:Option Out)(h:eH0 ext (bx l) (eG0 L l H 0) (nO x l)=out):run prog ext (.call 119 [tmV x,dV L,nV l,dV H] (nArg l))=out:=by
 cases l with
 | nil=>exact en119n ext hx x L H out h
 | cons a r=>exact en119c ext hx x L H a r out h
theorem sa119 (x:Tm)(u:Lev)(L H W:D)(l:List ByteArray)(k:Nat)(hk:x.u[k]? = some u)(hl:(k:Int)<x.u.length)(hr:run prog ext (.call 187 [levV u] [])=some (.ret [dV W] [])):eH0 ext (bx l) (eG0 L l H k) (nO x l)=kQ0 ext (bx l) (kP0 L l H k W 0) (nO x l):=by
 cases l with
 | nil=>exact sa119n ext x u L H W k hk hl hr _ rfl
 | cons a r=>exact sa119c ext x u L H W a r k hk hl hr _ rfl
theorem sb119 (x:Tm)(L L' H:D)(z:Bool)(w:List Int)(n:Int)(l:List ByteArray)(k:Int)(j:Nat)(hk:w[j]? = some n)(hl:(j:Int)<w.length)(hr:run prog ext (.call 188 [dV L,iV n] [])=some (.ret [dV L'] []))(out:Option Out)
  (h:kQ0 ext (bx l) (kP0 L' l H k (aJ0 z 1 (w.map inD)) (wr ((j:Int)+1))) (nO x l)=out):kQ0 ext (bx l) (kP0 L l H k (aJ0 z 1 (w.map inD)) j) (nO x l)=out:=by
 cases l with
 | nil=>exact sb119n ext x L L' H z w n k j hk hl hr out h
 | cons a r=>exact sb119c ext x L L' H z w n a r k j hk hl hr out h
theorem db119 (x:Tm)(L H:D)(z:Bool)(w:List Int)(l:List ByteArray)(k:Int):kQ0 ext (bx l) (kP0 L l H k (aJ0 z 1 (w.map inD)) w.length) (nO x l)=eH0 ext (bx l) (eG0 L l H (wr (k+1))) (nO x l):=by
 cases l with
 | nil=>exact db119n ext x L H z w k _ rfl
 | cons a r=>exact db119c ext x L H z w a r k _ rfl
structure Cs where
 g:Bool
 L:Bool × List Int
 l:List ByteArray
 H:Bool × List Int
noncomputable def SC (m:Nat)(x:Tm)(k:Int)(s:Cs):Option Out:=match s.g with
 | true=>dD0 ext m (pZ0 (inL s.L) (inL s.H) k) (qH0 x s.l)
 | false=>dD0 ext m (eC0 (inL s.L) s.l (inL s.H) k) (nO x s.l)
theorem mid119 (h177:ext 177=none)(h189:ext 189=none)(h188:ext 188=none)(x:Tm)(L H:Bool × List Int)(l:List ByteArray)(hl:l.length<2^27)(hH:H.2.length<50000000) :
  ∃ s:Cs,s.l=nm1 l x∧(s.g=false→l=[]∨s.l=l)∧(s.g=true→l≠[]∧s.l≠[])∧s.L=L∧s.H.2.length≤H.2.length+1∧eH0 ext (bx l) (eG0 (inL L) l (inL H) x.u.length) (nO x l)=SC ext (bx l) x 0 s:=by
 have hm:=sE2 ext h177 x
 cases c:wL1 x with
 | false=>
  rw[c]at hm
  have e:nm1 l x=l:=by unfold nm1;rw[c];rfl
  cases h29:(x.op==29) with
  | true=>
   have hr:=kS2 ext h188 H.1 H.2 x.n hH
   refine⟨⟨false,L,l,(true,ordL H.2 x.n)⟩,e.symm,fun _=> .inr rfl,fun h=>(by cases h),rfl,mO1 _ _,?_⟩
   cases l with
   | nil=>exact sI2 ext x (inL L) (inL H) hm h29 (inL (true,ordL H.2 x.n)) hr _ rfl
   | cons a r=>exact sH2 ext x (inL L) (inL H) a r hm h29 (inL (true,ordL H.2 x.n)) hr _ rfl
  | false=>
   refine⟨⟨false,L,l,H⟩,e.symm,fun _=> .inr rfl,fun h=>(by cases h),rfl,Nat.le_succ _,?_⟩
   cases l with
   | nil=>exact sK2 ext x (inL L) (inL H) hm h29 _ rfl
   | cons a r=>exact sJ2 ext x (inL L) (inL H) a r hm h29 _ rfl
 | true=>
  rw[c]at hm
  have h29:(x.op==29)=false:=by
   cases h:(x.op==29) with
   | false=>rfl
   | true=>
    have e:=beq_iff_eq.1 h
    unfold wL1 at c
    rw[e]at c
    simp at c
  have hh:=has189 ext h189 true l x.s (by omega)
  have hn:=rJ2 l x.s
  generalize ixOf (l.findIdx? fun a=>a.toList==x.s.toList)=n at hh hn
  cases d:hasN l x.s with
  | false=>
   have hn':n<0:=by rw[hn];exact d
   have e:nm1 l x=l++[x.s]:=by unfold nm1;rw[c,d];rfl
   cases l with
   | nil=>exact⟨⟨false,L,[x.s],H⟩,e.symm,fun _=> .inl rfl,fun h=>(by cases h),rfl,Nat.le_succ _,sG2 ext x (inL L) (inL H) hm n hh hn' h29 _ rfl⟩
   | cons a r=>
    rw[List.map_cons,pR0]at hh
    exact⟨⟨true,L,a::r++[x.s],H⟩,e.symm,fun h=>(by cases h),fun _=>⟨by simp,by simp⟩,rfl,Nat.le_succ _,sF2 ext x (inL L) (inL H) a r (by simp at hl;omega) hm n hh hn' h29 _ rfl⟩
  | true=>
   have hn':¬ n<0:=by rw[hn,d];simp
   have e:nm1 l x=l:=by unfold nm1;rw[c,d];rfl
   refine⟨⟨false,L,l,H⟩,e.symm,fun _=> .inr rfl,fun h=>(by cases h),rfl,Nat.le_succ _,?_⟩
   cases l with
   | nil=>exact sM2 ext x (inL L) (inL H) hm n hh hn' h29 _ rfl
   | cons a r=>
    rw[List.map_cons,pR0]at hh
    exact sL2 ext x (inL L) (inL H) a r hm n hh hn' h29 _ rfl
theorem vM2 (l:List ByteArray)(x y:Tm)(k:Nat)(s s':Cs)(hk:x.l[k]? = some y)(hlt:(k:Int)<x.l.length)(hg0:s.g=false→l=[]∨s.l=l)(hg1:s.g=true→l≠[]∧s.l≠[])(g':Bool)(hn:s'.l=nms s.l y)(hc:chg' s.l s'.l g')(hs':s'.g=(s.g||(g' && !l.isEmpty)))
  (hr:run prog ext (.call 119 [tmV y,dV (inL s.L),nV s.l,dV (inL s.H)] (nArg s.l))=some (.ret [dV (inL s'.L),nRet g' s'.l,dV (inL s'.H)] (nOut g' s'.l))) :
  ∀ out,SC ext (bx l) x (wr ((k:Int)+1)) s'=out→SC ext (bx l) x k s=out:=by
 intro out h
 obtain⟨g,L,l1,H⟩:=s
 obtain⟨g2,L2,l2,H2⟩:=s'
 dsimp only at hg0 hg1 hn hc hs' hr
 obtain⟨c1,c2⟩:=hc
 cases l with
 | nil=>
  have e1:g=false:=by cases g with | false=>rfl | true=>exact absurd rfl (hg1 rfl).1
  subst e1
  have e2:g2=false:=by rw[hs'];simp
  subst e2
  unfold SC at h ⊢
  dsimp only at h ⊢
  cases l1 with
  | nil=>
   have e3:g'=false:=by cases g' with | false=>rfl | true=>exact absurd rfl (c2 rfl).1
   subst e3
   cases l2 with
   | nil=>exact uZ2 ext x y _ _ _ _ k hk hlt hr out h
   | cons b q=>exact vA2 ext x y _ _ _ _ b q k hk hlt hr out h
  | cons a r=>
   cases g' with
   | false=>
    have e:l2=a::r:=by rcases c1 rfl with h | h;(· cases h);(· exact h)
    subst e
    exact vB2 ext x y _ _ _ _ a r k hk hlt hr out h
   | true=>
    cases l2 with
    | nil=>exact absurd rfl (c2 rfl).2
    | cons b q=>exact vC2 ext x y _ _ _ _ a b r q k hk hlt hr out h
 | cons a0 r0=>
  have hb:(!(a0::r0).isEmpty)=true:=rfl
  rw[hb,Bool.and_true]at hs'
  cases l1 with
  | nil=>
   cases g with
   | false=>rcases hg0 rfl with h | h <;> cases h
   | true=>exact absurd rfl (hg1 rfl).2
  | cons a r=>
   cases g with
   | false=>
    cases g' with
    | false=>
     have e:l2=a::r:=by rcases c1 rfl with h | h;(· cases h);(· exact h)
     subst e hs'
     exact vD2 ext x y _ _ _ _ a r k hk hlt hr out h
    | true=>
     subst hs'
     cases l2 with
     | nil=>exact absurd rfl (c2 rfl).2
     | cons b q=>exact vE2 ext x y _ _ _ _ a b r q k hk hlt hr out h
   | true=>
    have e2:g2=true:=by rw[hs'];rfl
    subst e2
    cases g' with
    | false=>
     have e:l2=a::r:=by rcases c1 rfl with h | h;(· cases h);(· exact h)
     subst e
     exact vF2 ext x y _ _ _ _ a r k hk hlt hr out h
    | true=>
     cases l2 with
     | nil=>exact absurd rfl (c2 rfl).2
     | cons b q=>exact vG2 ext x y _ _ _ _ a b r q k hk hlt hr out h
theorem pM2 (l:List ByteArray)(x:Tm)(s:Cs)(hg0:s.g=false→l=[]∨s.l=l)(hg1:s.g=true→l≠[]∧s.l≠[]) :
  SC ext (bx l) x x.l.length s=some (.ret [dV (inL s.L),nRet s.g s.l,dV (inL s.H)] (nOut s.g s.l)):=by
 obtain⟨g,L,l1,H⟩:=s
 dsimp only at hg0 hg1
 unfold SC
 cases l with
 | nil=>
  have e1:g=false:=by cases g with | false=>rfl | true=>exact absurd rfl (hg1 rfl).1
  subst e1
  cases l1 with
  | nil=>exact pH2 ext x _ _
  | cons a r=>exact pG2 ext x _ _ a r
 | cons a0 r0=>
  cases l1 with
  | nil=>
   cases g with
   | false=>rcases hg0 rfl with h | h <;> cases h
   | true=>exact absurd rfl (hg1 rfl).2
  | cons a r=>
   cases g with
   | false=>exact pI2 ext x _ _ a r
   | true=>exact pJ2 ext x _ _ a r
theorem kE1 (f:Tm→Nat)(l:List Tm)(k:Nat)(y:Tm)(hk:l[k]? = some y):((l.take k).map f).sum+f y≤(l.map f).sum:=by
 have h1:((l.take (k+1)).map f).sum+((l.drop (k+1)).map f).sum=(l.map f).sum:=by
  rw[← List.sum_append,← List.map_append,List.take_append_drop]
 have h2:((l.take (k+1)).map f).sum=((l.take k).map f).sum+f y:=by
  rw[List.take_add_one,hk];simp
 omega
theorem gQ1 (f:Lev→Nat)(l:List Lev)(k:Nat)(y:Lev)(hk:l[k]? = some y):((l.take (k+1)).map f).sum=((l.take k).map f).sum+f y∧((l.take k).map f).sum+f y≤(l.map f).sum:=by
 have h1:((l.take (k+1)).map f).sum+((l.drop (k+1)).map f).sum=(l.map f).sum:=by
  rw[← List.sum_append,← List.map_append,List.take_append_drop]
 have h2:((l.take (k+1)).map f).sum=((l.take k).map f).sum+f y:=by
  rw[List.take_add_one,hk];simp
 exact⟨h2,by omega⟩
theorem rX2 (h187:ext 187=none)(h196:ext 196=none)(h188:ext 188=none)(x:Tm)(hs:x.sz<2^24)(l:List ByteArray)(H:D)(L:Bool × List Int)(hL:L.2.length+x.sz<50000000) :
  ∃ L':Bool × List Int,(L'.2.length≤L.2.length+(x.u.map Lev.sz).sum∧∀ n,cO0 n L'.2=(cO0 n L.2||x.u.any fun u=>geV n u.vs))∧eH0 ext (bx l) (eG0 (inL L) l H 0) (nO x l)=eH0 ext (bx l) (eG0 (inL L') l H x.u.length) (nO x l):=by
 have hsz:=x.sz_eq
 have hul:=x.ulen_lt
 have:=gS0 x.u (fun k L=>eH0 ext (bx l) (eG0 (inL L) l H k) (nO x l)) (fun k (s:Bool × List Int)=>s.2.length≤L.2.length+((x.u.take k).map Lev.sz).sum∧∀ n,cO0 n s.2=(cO0 n L.2||(x.u.take k).any fun u=>geV n u.vs))
  (fun o=>∃ L':Bool × List Int,(L'.2.length≤L.2.length+(x.u.map Lev.sz).sum∧∀ n,cO0 n L'.2=(cO0 n L.2||x.u.any fun u=>geV n u.vs))∧o=eH0 ext (bx l) (eG0 (inL L') l H x.u.length) (nO x l)) (by omega)
  (fun k u s hIA hk hl=>by
   obtain⟨hI,hA⟩:=hIA
   obtain⟨e1,e2⟩:=gQ1 Lev.sz x.u k u hk
   have hu:=Tm.lev_lt (List.mem_of_getElem? hk)
   have hu':u.sz=1+u.vs.length:=rfl
   have hv:=xA2 ext h187 h196 u (by omega)
   have hvl:=aC2 u
   rw[sa119 ext x u (inL s) H (aJ0 true 1 ((nU0 u).map inD)) l k hk hl hv]
   have hin:=gS0 (nU0 u) (fun j s=>kQ0 ext (bx l) (kP0 (inL s) l H k (aJ0 true 1 ((nU0 u).map inD)) j) (nO x l)) (fun j (s':Bool × List Int)=>s'.2.length≤s.2.length+j∧∀ n,cO0 n s'.2=(cO0 n s.2||cO0 n ((nU0 u).take j)))
    (fun o=>∃ s':Bool × List Int,(s'.2.length≤s.2.length+(nU0 u).length∧∀ n,cO0 n s'.2=(cO0 n s.2||cO0 n (nU0 u)))∧o=eH0 ext (bx l) (eG0 (inL s') l H (wr ((k:Int)+1))) (nO x l)) (by omega)
    (fun j n s' hIA' hj hjl=>by
     obtain⟨hI',hA'⟩:=hIA'
     have hr:=kS2 ext h188 s'.1 s'.2 n (by omega)
     refine⟨(true,ordL s'.2 n),⟨?_,fun m=>by dsimp only;rw[uO2,hA' m];unfold cO0;rw[yY0 _ _ _ _ hj,Bool.or_assoc]⟩,fun out ho=>sb119 ext x (inL s') (inL (true,ordL s'.2 n)) H true (nU0 u) n l k j hj hjl hr out ho⟩
     have:=mO1 s'.2 n
     dsimp only;omega) (fun s' hI'=>⟨s',by rw[List.take_length]at hI';exact hI',db119 ext x (inL s') H true (nU0 u) l k⟩) s ⟨by simp,fun n=>by simp[cO0]⟩
   obtain⟨s',⟨q1,qA⟩,q2⟩:=hin
   refine⟨s',⟨?_,fun n=>by rw[qA n,hA n,iU2,yY0 _ _ _ _ hk,Bool.or_assoc]⟩,fun out ho=> ?_⟩
   ·omega
   ·rw[← ho];exact q2) (fun s hI=>⟨s,by rw[List.take_length]at hI;exact hI,rfl⟩) L ⟨by simp,fun n=>by simp⟩
 exact this
theorem jM2 (hx:ext 119=none)(h177:ext 177=none)(h187:ext 187=none)(h188:ext 188=none)(h189:ext 189=none)(h196:ext 196=none):∀ (N:Nat)(x:Tm),x.sz≤N→N<2^24→∀ (l:List ByteArray)(L H:Bool × List Int),l.length+x.sz<2^27→L.2.length+x.sz<50000000→H.2.length+x.sz<50000000 →
  ∃ s:Cs,s.l=nms l x∧chg' l s.l s.g∧(s.L.2.length≤L.2.length+x.sz∧∀ n,cO0 n s.L.2=(cO0 n L.2||lvGe n x))∧s.H.2.length≤H.2.length+x.sz ∧
   run prog ext (.call 119 [tmV x,dV (inL L),nV l,dV (inL H)] (nArg l))=some (.ret [dV (inL s.L),nRet s.g s.l,dV (inL s.H)] (nOut s.g s.l))
 | 0,x,h,_,_,_,_,_,_,_=>by have:=x.sz_pos;omega
 | N+1,x,h,hN,l,L,H,bl,bL,bH=>by
  have hsz:=x.sz_eq
  have hll:=x.len_lt
  obtain⟨L1,⟨hL1,hA1⟩,e1⟩:=rX2 ext h187 h196 h188 x (by omega) l (inL H) L bL
  obtain⟨s0,p1,p2,p3,p4,p5,e2⟩:=mid119 ext h177 h189 h188 x L1 H l (by omega) (by omega)
  have hloop:=gS0 x.l (fun k s=>SC ext (bx l) x k s) (fun k s=>s.l=(x.l.take k).foldl nms (nm1 l x)∧(s.g=false→l=[]∨s.l=l)∧(s.g=true→l≠[]∧s.l≠[])∧(s.L.2.length≤L1.2.length+((x.l.take k).map Tm.sz).sum∧∀ n,cO0 n s.L.2=(cO0 n L1.2||(x.l.take k).any (lvGe n)))∧s.H.2.length≤H.2.length+1+((x.l.take k).map Tm.sz).sum)
   (fun o=>∃ s:Cs,s.l=nms l x∧chg' l s.l s.g∧(s.L.2.length≤L.2.length+x.sz∧∀ n,cO0 n s.L.2=(cO0 n L.2||lvGe n x))∧s.H.2.length≤H.2.length+x.sz∧o=some (.ret [dV (inL s.L),nRet s.g s.l,dV (inL s.H)] (nOut s.g s.l))) (by omega)
   (fun k y s hI hk hlt=>by
    obtain⟨i1,i2,i3,⟨i4,iA⟩,i5⟩:=hI
    have hsum:=kE1 Tm.sz x.l k y hk
    have hys:=Tm.sz_lt (List.mem_of_getElem? hk)
    have f1:=zT0 (x.l.take k) (nm1 l x) (fun y hy=>yA1 y.sz y (Nat.le_refl _))
    have f2:=xY1 l x
    rw[← i1]at f1
    obtain⟨t,q1,q2,⟨q3,qA⟩,q4,q5⟩:=jM2 hx h177 h187 h188 h189 h196 N y (by omega) (by omega) s.l s.L s.H (by omega) (by omega) (by omega)
    have tk:((x.l.take (k+1)).map Tm.sz).sum=((x.l.take k).map Tm.sz).sum+y.sz:=by rw[List.take_add_one,hk];simp
    refine⟨⟨s.g||(t.g && !l.isEmpty),t.L,t.l,t.H⟩,⟨?_,?_,?_,?_,?_⟩,vM2 ext l x y k s ⟨s.g||(t.g && !l.isEmpty),t.L,t.l,t.H⟩ hk hlt i2 i3 t.g q1 q2 rfl q5⟩
    ·dsimp only;rw[q1,i1,zU1 _ hk]
    ·intro hg
     dsimp only at hg ⊢
     cases l with
     | nil=>exact .inl rfl
     | cons a r=>
      have hb:(!(a::r).isEmpty)=true:=rfl
      rw[hb,Bool.and_true,Bool.or_eq_false_iff]at hg
      rcases i2 hg.1 with h | h
      ·cases h
      ·rcases q2.1 hg.2 with h' | h'
       ·rw[h]at h';cases h'
       ·exact .inr (by rw[h',h])
    ·intro hg
     dsimp only at hg ⊢
     cases l with
     | nil=>
      have hb:(!([]:List ByteArray).isEmpty)=false:=rfl
      rw[hb,Bool.and_false,Bool.or_false]at hg
      exact absurd rfl (i3 hg).1
     | cons a r=>
      have hb:(!(a::r).isEmpty)=true:=rfl
      rw[hb,Bool.and_true]at hg
      refine⟨by simp,?_⟩
      rw[q1]
      refine kL2 y.sz y (Nat.le_refl _) _ ?_
      cases hgs:s.g with
      | true=>exact(i3 hgs).2
      | false=>
       rcases i2 hgs with h | h
       ·cases h
       ·rw[h];simp
    ·refine⟨by dsimp only;omega,fun n=> ?_⟩
     dsimp only;rw[qA n,iA n,yY0 _ _ _ _ hk,Bool.or_assoc]
    ·dsimp only;omega) (fun s hI=>by
    obtain⟨i1,i2,i3,⟨i4,iA⟩,i5⟩:=hI
    rw[List.take_length]at i1 i4 i5 iA
    exact⟨s,by rw[i1,xZ1],⟨i2,i3⟩,⟨by omega,fun n=>by rw[iA n,hA1 n,xE1,Bool.or_assoc]⟩,by omega,pM2 ext l x s i2 i3⟩) s0 ⟨by rw[p1];rfl,p2,p3,⟨by rw[p4];simp,fun n=>by rw[p4];simp⟩,by simp;omega⟩
  obtain⟨s,q1,q2,q3,q4,q5⟩:=hloop
  exact⟨s,q1,q2,q3,q4,en119 ext hx x (inL L) (inL H) l _ (by rw[e1,e2];exact q5)⟩
end
end Go.Proofs.YteenjodhmppgjaaGreatDoor.Am
