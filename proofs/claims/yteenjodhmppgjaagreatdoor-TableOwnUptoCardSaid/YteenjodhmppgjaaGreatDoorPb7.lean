/- A part of the proof of a card. No conditions. -/
import Derived.Test.YteenjodhmppgjaaGreatDoorPb6
set_option linter.all false
set_option maxHeartbeats 16000000
set_option maxRecDepth 10000
namespace Go.Proofs.YteenjodhmppgjaaGreatDoor.Am
open Go.Proofs.Tryz
section
open Go
variable (ext:Ext)
noncomputable def B198 : Code:=(f198.body.getD .skip)
noncomputable def qH1 : Code:=sub B198 [1,1,1,0,1,0,0]
theorem pH1 : It.code qH1=It.code (sub B198 [1,1,1,0,1,0,0]):=rfl
noncomputable def qB1 : List It:=[.inBlock 0,.code (sub B198 [1,1,1,1])]
noncomputable def sR0 (ext:Ext)(m:Nat)(env:Env)(loc:List O):Option Out:=run prog ext (.k ⟨27,m,[.tmp 2],false⟩ (.code qH1 :: .inLoop qH1::qB1) env loc)
theorem bs0_34 {look:Look}{slot:Nat}:aS0 prog look slot 34 0 []=some ⟨.val (.c (.own slot)),[(slot,.arr 2 [])],[]⟩:=by
 simp only[aS0,gQ0,aR0];rfl
theorem bs0_30 {look:Look}{slot:Nat}:aS0 prog look slot 30 0 []=some ⟨.val (.c (.own slot)),[(slot,.arr 2 [])],[]⟩:=by
 simp only[aS0,jI0,zT36];rfl
theorem os30 {look:Look}{slot id:Nat}{new:List (List D)}{gc:Bool}:bH0 prog look slot [30,30] [.c (.own id),.c (.d (.s 2 new gc))]=apI 2 32 slot id new (look id) (apD prog look slot 30 (.c (.own id)) (.c (.d (.s 2 new gc)))):=dZ1 jI0 lI0 kT0 z30 (by decide) id new gc
def clU (u:Lev):Lev:=⟨u.c,u.vs,⟨u.z.z,false⟩⟩
def clL (l:List Lev):List Lev:=l.map clU
def nL0 : Prop:=∀ (z:Fl)(l:List LV),l.length<2^29→run prog ext (.call 240 [dV (listD z 2 (l.map lvD))] [])=some (.ret [dV (listD ⟨z.z,false⟩ 2 (l.map lvD))] [])
theorem lK1 (hx:ext 240=none)(g:Bool)(x:LV)(l:List LV)(hl:l.length<2^29):run prog ext (.call 240 [dV (.s 2 ((x::l).map lvD) g)] [])=some (.ret [dV (.s 2 ((x::l).map lvD))] []):=by
 have hb:l.length+1≤1000000000:=by omega
 (rw[enT hx func240 rfl];simp only[f240,zR,Nat.zero_le,simprocAttr,zE])
 simp only[dV,iV,bV,List.map_cons]
 simp only[zS,zD,aB0,aA0,aQ0,aM0,aJ0,aZ0,aK0,aG0,aN0,aO0,zT34,aR0,zT3,bs0_34,os34,nN0,hb,Nat.zero_le,simprocAttr]
 (refine .trans ?_ rfl;kernel_rfl)
theorem lJ1 (hx:ext 239=none)(g:Bool)(x:Lev)(l:List Lev)(hl:l.length<2^29):run prog ext (.call 239 [dV (.s 2 ((x::l).map levD) g)] [])=some (.ret [.c (.own 0)] [.arr 2 ((x::l).map levD)]):=by
 have hb:l.length+1≤1000000000:=by omega
 (rw[enT hx func239 rfl];simp only[f239,zR,Nat.zero_le,simprocAttr,zE])
 simp only[dV,iV,bV,List.map_cons]
 simp only[zS,zD,aB0,aA0,zT30,zT36,zT3,bs0_30,os30,nN0,hb,Nat.zero_le,simprocAttr]
 (refine .trans ?_ rfl;kernel_rfl)
def E198 (n k:Int):Env:=[(3,.c (.own 0)),(11,iV n),(12,iV k)]
def O198 (l:List Lev):List O:=[.arr 2 (l.map levD)]
theorem uO1 (hx:ext 198=none)(z:Fl):run prog ext (.call 198 [dV (listD z 2 [])] [])=some (.ret [dV (.v (.slice none 0 0))] []):=by
 have e0:((0:Nat):Int)=0:=rfl
 (rw[enT hx func198 rfl];simp only[f198,zR,Nat.zero_le,simprocAttr,zE])
 simp only[dV]
 simp only[zS,zD,aB0,aA0,zT30,zT36,zT3,e0,simprocAttr]
 (refine .trans ?_ rfl;kernel_rfl)
theorem mA1 (hx:ext 198=none)(h239:ext 239=none)(g:Bool)(x:Lev)(l:List Lev)(hl:l.length<2^29)(out:Option Out)(h:sR0 ext 0 (E198 (x::l).length 0) (O198 (x::l))=out):run prog ext (.call 198 [dV (.s 2 ((x::l).map levD) g)] [])=out:=by
 have hr:=lJ1 ext h239 g x l hl
 have hne:¬ ((l.length+1:Nat):Int)=0:=by omega
 unfold sR0 at h
 (rw[enT hx func198 rfl];simp only[f198,zR,Nat.zero_le,simprocAttr,zE])
 simp only[dV,iV,E198,O198,List.map_cons,List.length_cons]at h hr ⊢
 simp only[zS,zD,aB0,aA0,zT30,zT36,zT3,hne,hr,hO0,simprocAttr]
 (refine(aC0 ?_).trans h;kernel_rfl)
theorem vJ1 (hc:nL0 ext)(l:List Lev)(u:Lev)(k:Nat)(hk:l[k]? = some u)(hl:(k:Int)<l.length)(hv:u.vs.length<2^29)(out:Option Out)(h:sR0 ext 0 (E198 l.length (wr ((k:Int)+1))) (O198 (l.set k (clU u)))=out):sR0 ext 0 (E198 l.length k) (O198 l)=out:=by
 have h0:(0:Int)≤k:=by omega
 have hr:=hc u.z u.vs hv
 have e:listD u.z 2 (u.vs.map lvD)=u.d:=rfl
 have e':listD ⟨u.z.z,false⟩ 2 (u.vs.map lvD)=(clU u).d:=rfl
 rw[e,e']at hr
 have hs:(l.map levD).set k [.v (.int .i64 u.c),(clU u).d]=(l.set k (clU u)).map levD:=by rw[List.map_set];rfl
 unfold sR0 at h ⊢
 simp only[dV,iV,E198,O198,← hs]at h hr ⊢
 clear hs
 (rw[pH1];simp only[B198,qB1,sub,f198,↓reduceIte,zG])
 simp only[zS,zD,aB0,aA0,zT30,zT36,zT34,zT3,h0,hl,Int.toNat_natCast,hk,gG0 u,hr,stK,toDs,toD,aU0,List.contains_nil,simprocAttr]
 (refine(aC0 ?_).trans h;kernel_rfl)
theorem rS1 (l:List Lev):sR0 ext 0 (E198 l.length l.length) (O198 l)=some (.ret [dV (.s 2 (l.map levD))] []):=by
 unfold sR0
 simp only[dV,iV,E198,O198]
 (rw[pH1];simp only[B198,qB1,sub,f198,↓reduceIte,zG])
 simp only[zS,zD,aB0,aA0,zT30,zT36,zT34,zT3,Int.lt_irrefl,simprocAttr]
 (refine .trans ?_ rfl;kernel_rfl)
theorem wrk {k:Nat}{n:Nat} (h:(k:Int)<n)(hn:n<2^62):wr ((k:Int)+1)=((k+1:Nat):Int):=by rw[hK0 (by omega) (by omega)];omega
theorem jO1 (hc:nL0 ext)(l:List Lev)(hl:l.length<2^29)(hv:∀ u∈l,u.vs.length<2^29):∀ (r pre:List Lev),pre++r=l→sR0 ext 0 (E198 l.length pre.length) (O198 (clL pre++r))=some (.ret [dV (.s 2 ((clL l).map levD))] [])
 | [],pre,e=>by
  simp only[List.append_nil]at e ⊢
  subst e
  have hlen:(clL pre).length=pre.length:=by simp[clL]
  have:=rS1 ext (clL pre)
  rw[hlen]at this
  exact this
 | u::r,pre,e=>by
  have hlen:(clL pre++u::r).length=l.length:=by rw[← e];simp[clL]
  have hk:(clL pre++u::r)[pre.length]? = some u:=by rw[List.getElem?_append_right (by simp[clL])];simp[clL]
  have hlt:(pre.length:Int)<(clL pre++u::r).length:=by simp[clL];omega
  have hmem:u∈l:=by rw[← e];simp
  have ih:=jO1 hc l hl hv r (pre++[u]) (by rw[List.append_assoc];exact e)
  have hset:(clL pre++u::r).set pre.length (clU u)=clL (pre++[u])++r:=by
   have:(clL pre).length=pre.length:=by simp[clL]
   rw[← this,List.set_append_right _ _ (Nat.le_refl _)]
   first | (simp[clL];done) | simp
  have:=vJ1 ext hc (clL pre++u::r) u pre.length hk hlt (hv u hmem) (some (.ret [dV (.s 2 ((clL l).map levD))] [])) (by
   rw[wrk hlt (by omega),hset,hlen]
   have h2:(pre++[u]).length=pre.length+1:=by simp
   rw[h2]at ih
   exact ih)
  rw[hlen]at this
  exact this
theorem uM0 (hx:ext 198=none)(h239:ext 239=none)(hc:nL0 ext)(z:Fl)(l:List Lev)(hl:l.length<2^29)(hv:∀ u∈l,u.vs.length<2^29):run prog ext (.call 198 [dV (listD z 2 (l.map levD))] [])=some (.ret [dV (listD true 2 ((clL l).map levD))] []):=by
 cases l with
 | nil=>exact uO1 ext hx z
 | cons x r=>
  have e1:listD z 2 ((x::r).map levD) = .s 2 ((x::r).map levD) z.g:=dY0 (by simp)
  have e2:listD true 2 ((clL (x::r)).map levD) = .s 2 ((clL (x::r)).map levD):=dY0 (by simp[clL])
  rw[e1,e2]
  refine mA1 ext hx h239 z.g x r (by simp at hl;omega) _ ?_
  exact jO1 ext hc (x::r) hl hv (x::r) [] rfl
end
section
open Go
variable (ext:Ext)
noncomputable def B197 : Code:=(f197.body.getD .skip)
noncomputable def qG1 : Code:=sub B197 [1,1,1,0,1,0,0]
theorem iC0 : It.code qG1=It.code (sub B197 [1,1,1,0,1,0,0]):=rfl
noncomputable def lO0 : List It:=[.inBlock 0,.code (sub B197 [1,1,1,1])]
noncomputable def gO0 (ext:Ext)(m:Nat)(env:Env)(loc:List O):Option Out:=run prog ext (.k ⟨43,m,[.cell 6 33],false⟩ (.code qG1 :: .inLoop qG1::lO0) env loc)
def M131 (A:Tm):List O:=[.box [.fn 197 [] [0,1]],.box [.fn 131 [] [2]],.box [.d (argD A)]]
def zC0 (x:Tm):Tm:= .mk x.op x.n x.s (clL x.u) true x.l x.zl
def E197 (x:Tm)(d:Int)(ls:List Tm)(k:Int):Env:=[(1,iV d),(2,.c (.ptr 0 0)),(3,.c (.ptr 1 0)),(4,.c (.ptr 3 0)),(6,.c (.ptr 4 0)),(7,mkV 5 (ls.map tmD)),(15,dV x.lD),(16,iV x.l.length),(17,iV k)]
def O197 (x A:Tm)(ls:List Tm):List O:= .box [.fn 197 [] [0,1]] :: .box [.fn 131 [] [2]] :: .box [.d (argD A)] :: .box (tmC (zC0 x)) :: .box (tmC zTm)::mkO 5 (ls.map tmD)
theorem cI0 (x:Tm):tmC (zC0 x)=[.d (.v (.int .i64 x.op)),.d (.v (.int .i64 x.n)),.d (.v (.string x.s)),.d (listD true 2 ((clL x.u).map levD)),.d x.lD]:=rfl
theorem lZ1 (hx:ext 197=none)(x A:Tm)(d:Int)(hr:run prog ext (.call 198 [dV x.uD] [])=some (.ret [dV (listD true 2 ((clL x.u).map levD))] []))(out:Option Out)
  (h:gO0 ext 3 (E197 x d [] 0) (O197 x A [])=out):run prog ext (.call 197 [tmV x,iV d,.c (.ptr 0 0),.c (.ptr 1 0)] (M131 A))=out:=by
 unfold gO0 at h
 (rw[enT hx func197 rfl];simp only[f197,zR,Nat.zero_le,simprocAttr,zE])
 simp only[tmV,cI0,dA0,tmC,dV,iV,M131,E197,O197,List.map_nil,bZ0,bT0]at h hr ⊢
 simp only[zS,zD,aB0,aA0,zT33,zT30,zT31,zT9,zT3,hr,bJ0,simprocAttr]
 (refine(aC0 ?_).trans h;kernel_rfl)
theorem lE1 (rec:Rec)(A t y:Tm)(e:Int)(slot:Nat)(rest:List O)(hr:rec (.call 197 [tmV t,iV e,.c (.ptr 0 0),.c (.ptr 1 0)] (M131 A))=some (.ret [tmV y] (M131 A))) :
  dD0 rec (lk (M131 A++rest)) slot 197 [tmV t,iV e,.c (.ptr 0 0),.c (.ptr 1 0)]=some ⟨.val (tmV y),[(0,.box [.fn 197 [] [0,1]]),(1,.box [.fn 131 [] [2]]),(2,.box [.d (argD A)])],[0,1,2]⟩:=
 cF0 (ids:=[0,1,2]) (bor:=[]) (by kernel_rfl) hr (by
  obtain⟨_,_,h3⟩:=bU0 (look:=fun _=>none) (v:=tmV y) rfl
  cases hsc:cA0 (tmV y) <;> (simp only[cK0,mapO,h3,bK0,hsc,List.all_cons,List.all_nil,Bool.and_true];rfl))
theorem vI1 (h199:ext 199=none)(x t y A:Tm)(d:Int)(ls:List Tm)(k:Nat)(hb:ls.length<2^29)(hk:x.l[k]? = some t)(hl:(k:Int)<x.l.length)
  (hr:run prog ext (.call 197 [tmV t,iV (wr (d+binds x.op x.l.length k)),.c (.ptr 0 0),.c (.ptr 1 0)] (M131 A))=some (.ret [tmV y] (M131 A)))(out:Option Out)
  (h:gO0 ext 3 (E197 x d (ls++[y]) (wr ((k:Int)+1))) (O197 x A (ls++[y]))=out):gO0 ext 3 (E197 x d ls k) (O197 x A ls)=out:=by
 have h0:(0:Int)≤k:=by omega
 have hB:run prog ext (.call 199 [tmV (zC0 x),iV k] [])=some (.ret [iV (binds x.op x.l.length k)] []):=zJ0 ext h199 (zC0 x) k
 generalize binds x.op x.l.length k=bd at hB hr
 have hC:=fun rest slot=>lE1 (run prog ext) A t y (wr (d+bd)) slot rest hr
 unfold gO0 at h ⊢
 cases ls with
 | nil=>
  simp only[tmV,cI0,dA0,tmC,dV,iV,bV,E197,O197,M131,mV0 hl,List.map_append,List.map_cons,List.map_nil,bZ0,dC0,cP0,bT0,List.cons_append,List.nil_append,aX0 y]at h hB hC ⊢
  (rw[iC0];simp only[B197,lO0,sub,f197,↓reduceIte,zG])
  simp only[zS,zD,aB0,aA0,zT33,zT31,cM0,bV0,bF0,bX0,bY0,zT3,bD0,aH0,aI0,Array.size,List.length,h0,hl,Int.toNat_natCast,hk,aX0 t,hB,hC,bsTm,no31,iK0,Nat.zero_le,simprocAttr]
  rw[aE0 _ _ _ _ (by kernel_rfl)]
  simp only[zS,zD,aB0,aA0,zT33,zT31,zT3,simprocAttr]
  (refine(aC0 ?_).trans h;kernel_rfl)
 | cons a r=>
  have hb':r.length+1≤1000000000:=by simp only[List.length_cons]at hb;omega
  simp only[tmV,cI0,dA0,tmC,dV,iV,bV,E197,O197,M131,mV0 hl,List.map_append,List.map_cons,List.map_nil,cC0,dC0,cP0,bS0,List.cons_append,List.nil_append,aX0 y]at h hB hC ⊢
  (rw[iC0];simp only[B197,lO0,sub,f197,↓reduceIte,zG])
  simp only[zS,zD,aB0,aA0,zT33,zT31,cM0,bV0,bF0,bX0,bY0,zT3,bD0,aH0,aI0,Array.size,List.length,h0,hl,Int.toNat_natCast,hk,aX0 t,hB,hC,bsTm,oo31,gD0,hb',simprocAttr]
  rw[aE0 _ _ _ _ (by kernel_rfl)]
  simp only[zS,zD,aB0,aA0,zT33,zT31,zT3,simprocAttr]
  (refine(aC0 ?_).trans h;kernel_rfl)
theorem kX1 (rec:Rec)(A t y:Tm)(e:Int)(slot:Nat)(rest:List O)(hr:rec (.call 131 [tmV t,iV e,.c (.ptr 0 0)] [.box [.d (argD A)]])=some (.ret [tmV y] [.box [.d (argD A)]])) :
  dD0 rec (lk (M131 A++rest)) slot 131 [tmV t,iV e,.c (.ptr 2 0)]=some ⟨.val (tmV y),[(2,.box [.d (argD A)])],[2]⟩:=
 cF0 (ids:=[2]) (bor:=[]) (by kernel_rfl) hr (by
  obtain⟨_,_,h3⟩:=bU0 (look:=fun _=>none) (v:=tmV y) rfl
  cases hsc:cA0 (tmV y) <;> (simp only[cK0,mapO,h3,bK0,hsc,List.all_cons,List.all_nil,Bool.and_true];rfl))
def mkT (x:Tm)(ls:List Tm):Tm:= .mk x.op x.n x.s (clL x.u) true ls true
end
section
open Go
variable (ext:Ext)
theorem jJ0 (x:List D)(l:List (List D)):listD true 5 (x::l) = .s 5 (x::l):=dY0 (by simp)
theorem nD0 : listD true 5 [] = .v (.slice none 0 0):=rfl
theorem zP0 (rec:Rec)(o0 o1 o2 o3 o4:O)(els:List (List D))(rest:List O)(a b:Int)(s:ByteArray)(ud:D)(bb:Bool)(slot:Nat)(hr:rec (.call 200 [.agg [.d (.v (.int .i64 a)),.d (.v (.int .i64 b)),.d (.v (.string s)),.d ud,.d (.s 5 els)]] [])=some (.ret [bV bb] [])) :
  dD0 rec (lk (o0::o1::o2::o3::o4 :: .arr 5 els::rest)) slot 200 [.agg [.d (.v (.int .i64 a)),.d (.v (.int .i64 b)),.d (.v (.string s)),.d ud,.own 5]]=some ⟨.val (bV bb),[],[5]⟩:=
 cF0 (ids:=[]) (bor:=[5]) (by kernel_rfl) hr (by kernel_rfl)
theorem kZ1 (rec:Rec)(A y:Tm)(o0 o1 o3 o4:O)(els:List (List D))(rest:List O)(a b d:Int)(s:ByteArray)(ud:D)(slot:Nat)(hr:rec (.call 131 [.agg [.d (.v (.int .i64 a)),.d (.v (.int .i64 b)),.d (.v (.string s)),.d ud,.d (.s 5 els)],iV d,.c (.ptr 0 0)] [.box [.d (argD A)]])=some (.ret [tmV y] [.box [.d (argD A)]])) :
  dD0 rec (lk (o0::o1 :: .box [.d (argD A)]::o3::o4 :: .arr 5 els::rest)) slot 131 [.agg [.d (.v (.int .i64 a)),.d (.v (.int .i64 b)),.d (.v (.string s)),.d ud,.own 5],iV d,.c (.ptr 2 0)]=some ⟨.val (tmV y),[(2,.box [.d (argD A)]),(5,.gone)],[2,5]⟩:=
 cF0 (ids:=[2]) (bor:=[5]) (by kernel_rfl) hr (by
  obtain⟨_,_,h3⟩:=bU0 (look:=fun _=>none) (v:=tmV y) rfl
  cases hsc:cA0 (tmV y) <;> (simp only[cK0,mapO,h3,bK0,hsc,List.all_cons,List.all_nil,Bool.and_true];rfl))
theorem rR1 (h200:ext 200=none)(x A:Tm)(d:Int)(ls:List Tm)(c:eO0 x=false):gO0 ext 3 (E197 x d ls x.l.length) (O197 x A ls)=some (.ret [tmV (mkT x ls)] (M131 A)):=by
 have hv:run prog ext (.call 200 [tmV (mkT x ls)] [])=some (.ret [bV false] []):=by
  have:=bH1 ext h200 (mkT x ls)
  have e:eO0 (mkT x ls)=eO0 x:=rfl
  rw[this,e,c]
 unfold gO0
 cases ls with
 | nil=>
  simp only[tmV,mkT,hI0,cI0,dA0,dV,iV,bV,E197,O197,M131,List.map_nil,bZ0,bT0,nD0]at hv ⊢
  (rw[iC0];simp only[B197,lO0,sub,f197,↓reduceIte,zG])
  simp only[zS,zD,aB0,aA0,zT33,zT31,cM0,bV0,bF0,bX0,bY0,zT3,Int.lt_irrefl,hv,simprocAttr]
  (refine .trans ?_ rfl;kernel_rfl)
 | cons a r=>
  simp only[tmV,mkT,hI0,List.map_cons,jJ0]at hv
  have hC:=fun o0 o1 o2 o3 o4 rest slot=>zP0 (run prog ext) o0 o1 o2 o3 o4 (tmD a::r.map tmD) rest x.op x.n x.s (listD true 2 ((clL x.u).map levD)) false slot hv
  simp only[tmV,mkT,hI0,cI0,dA0,dV,iV,bV,E197,O197,M131,List.map_cons,cC0,bS0,jJ0]at hC ⊢
  (rw[iC0];simp only[B197,lO0,sub,f197,↓reduceIte,zG])
  simp only[zS,zD,aB0,aA0,zT33,zT31,cM0,bV0,bF0,bX0,bY0,zT3,Int.lt_irrefl,hC,simprocAttr]
  (refine .trans ?_ rfl;kernel_rfl)
theorem var197 (h200:ext 200=none)(x A y:Tm)(d:Int)(ls:List Tm)(c:eO0 x=true)(hg:run prog ext (.call 131 [tmV (mkT x ls),iV d,.c (.ptr 0 0)] [.box [.d (argD A)]])=some (.ret [tmV y] [.box [.d (argD A)]])) :
  gO0 ext 3 (E197 x d ls x.l.length) (O197 x A ls)=some (.ret [tmV y] (M131 A)):=by
 have hv:run prog ext (.call 200 [tmV (mkT x ls)] [])=some (.ret [bV true] []):=by
  have:=bH1 ext h200 (mkT x ls)
  have e:eO0 (mkT x ls)=eO0 x:=rfl
  rw[this,e,c]
 unfold gO0
 cases ls with
 | nil=>
  have hC:=fun rest slot=>kX1 (run prog ext) A (mkT x []) y d slot rest hg
  have ey:tmV y = .agg [.d (.v (.int .i64 y.op)),.d (.v (.int .i64 y.n)),.d (.v (.string y.s)),.d y.uD,.d y.lD]:=rfl
  rw[ey]
  simp only[ey]at hC
  simp only[tmV,mkT,hI0,cI0,dA0,dV,iV,bV,E197,O197,M131,List.map_nil,bZ0,bT0,List.cons_append,List.nil_append,nD0]at hv hC ⊢
  (rw[iC0];simp only[B197,lO0,sub,f197,↓reduceIte,zG])
  simp only[zS,zD,aB0,aA0,zT33,zT31,cM0,bV0,bF0,bX0,bY0,zT3,Int.lt_irrefl,hv,hC,simprocAttr]
  (refine .trans ?_ rfl;kernel_rfl)
 | cons a r=>
  simp only[tmV,mkT,hI0,List.map_cons,jJ0]at hv
  have hg':=hg
  have ey:tmV y = .agg [.d (.v (.int .i64 y.op)),.d (.v (.int .i64 y.n)),.d (.v (.string y.s)),.d y.uD,.d y.lD]:=rfl
  have em:tmV (mkT x (a::r)) = .agg [.d (.v (.int .i64 x.op)),.d (.v (.int .i64 x.n)),.d (.v (.string x.s)),.d (listD true 2 ((clL x.u).map levD)),.d (.s 5 (tmD a::r.map tmD))]:=rfl
  rw[em]at hg'
  have hC:=fun o0 o1 o2 o3 o4 rest slot=>zP0 (run prog ext) o0 o1 o2 o3 o4 (tmD a::r.map tmD) rest x.op x.n x.s (listD true 2 ((clL x.u).map levD)) true slot hv
  have hD:=fun o0 o1 o3 o4 rest slot=>kZ1 (run prog ext) A y o0 o1 o3 o4 (tmD a::r.map tmD) rest x.op x.n d x.s (listD true 2 ((clL x.u).map levD)) slot hg'
  rw[ey]
  simp only[ey]at hD
  simp only[cI0,dA0,dV,iV,bV,E197,O197,M131,List.map_cons,cC0,bS0]at hC hD ⊢
  (rw[iC0];simp only[B197,lO0,sub,f197,↓reduceIte,zG])
  simp only[zS,zD,aB0,aA0,zT33,zT31,cM0,bV0,bF0,bX0,bY0,zT3,Int.lt_irrefl,hC,hD,simprocAttr]
  (refine .trans ?_ rfl;kernel_rfl)
end
section
open Go
variable (ext:Ext)
def M201 (fr bb_:Int):List O:=[.box [.fn 197 [] [0,1]],.box [.fn 201 [] [2,3,4]],.box [.d (.v (.int .i64 fr))],.box [.d (.v (.int .i64 bb_))],.box [.d (.v (.bool true))]]
theorem uD0 (rec:Rec)(o0 o1 o2 o3 o4 o5 o6:O)(els:List (List D))(rest:List O)(a b:Int)(s:ByteArray)(ud:D)(bb:Bool)(slot:Nat)(hr:rec (.call 200 [.agg [.d (.v (.int .i64 a)),.d (.v (.int .i64 b)),.d (.v (.string s)),.d ud,.d (.s 5 els)]] [])=some (.ret [bV bb] [])) :
  dD0 rec (lk (o0::o1::o2::o3::o4::o5::o6 :: .arr 5 els::rest)) slot 200 [.agg [.d (.v (.int .i64 a)),.d (.v (.int .i64 b)),.d (.v (.string s)),.d ud,.own 7]]=some ⟨.val (bV bb),[],[7]⟩:=
 cF0 (ids:=[]) (bor:=[7]) (by kernel_rfl) hr (by kernel_rfl)
def kM0 (x:Tm)(d:Int)(ls:List Tm)(k:Int):Env:=[(1,iV d),(2,.c (.ptr 0 0)),(3,.c (.ptr 1 0)),(4,.c (.ptr 5 0)),(6,.c (.ptr 6 0)),(7,mkV 7 (ls.map tmD)),(15,dV x.lD),(16,iV x.l.length),(17,iV k)]
def kN0 (x:Tm)(fr bb_:Int)(ls:List Tm):List O:= .box [.fn 197 [] [0,1]] :: .box [.fn 201 [] [2,3,4]] :: .box [.d (.v (.int .i64 fr))] :: .box [.d (.v (.int .i64 bb_))] :: .box [.d (.v (.bool true))] :: .box (tmC (zC0 x)) :: .box (tmC zTm)::mkO 5 (ls.map tmD)
theorem gI1 (hx:ext 197=none)(x:Tm)(fr bb_:Int)(d:Int)(hr:run prog ext (.call 198 [dV x.uD] [])=some (.ret [dV (listD true 2 ((clL x.u).map levD))] []))(out:Option Out)
  (h:gO0 ext 5 (kM0 x d [] 0) (kN0 x fr bb_ [])=out):run prog ext (.call 197 [tmV x,iV d,.c (.ptr 0 0),.c (.ptr 1 0)] (M201 fr bb_))=out:=by
 unfold gO0 at h
 (rw[enT hx func197 rfl];simp only[f197,zR,Nat.zero_le,simprocAttr,zE])
 simp only[tmV,cI0,dA0,tmC,dV,iV,M201,kM0,kN0,List.map_nil,bZ0,bT0]at h hr ⊢
 simp only[zS,zD,aB0,aA0,zT33,zT30,zT31,zT9,zT3,hr,bJ0,simprocAttr]
 (refine(aC0 ?_).trans h;kernel_rfl)
theorem lF1 (rec:Rec)(fr bb_:Int)(t y:Tm)(e:Int)(slot:Nat)(rest:List O)(hr:rec (.call 197 [tmV t,iV e,.c (.ptr 0 0),.c (.ptr 1 0)] (M201 fr bb_))=some (.ret [tmV y] (M201 fr bb_))) :
  dD0 rec (lk (M201 fr bb_++rest)) slot 197 [tmV t,iV e,.c (.ptr 0 0),.c (.ptr 1 0)]=some ⟨.val (tmV y),[(0,.box [.fn 197 [] [0,1]]),(1,.box [.fn 201 [] [2,3,4]]),(2,.box [.d (.v (.int .i64 fr))]),(3,.box [.d (.v (.int .i64 bb_))]),(4,.box [.d (.v (.bool true))])],[0,1,2,3,4]⟩:=
 cF0 (ids:=[0,1,2,3,4]) (bor:=[]) (by kernel_rfl) hr (by
  obtain⟨_,_,h3⟩:=bU0 (look:=fun _=>none) (v:=tmV y) rfl
  cases hsc:cA0 (tmV y) <;> (simp only[cK0,mapO,h3,bK0,hsc,List.all_cons,List.all_nil,Bool.and_true];rfl))
theorem nX1 (h199:ext 199=none)(x t y:Tm)(fr bb_:Int)(d:Int)(ls:List Tm)(k:Nat)(hb:ls.length<2^29)(hk:x.l[k]? = some t)(hl:(k:Int)<x.l.length)
  (hr:run prog ext (.call 197 [tmV t,iV (wr (d+binds x.op x.l.length k)),.c (.ptr 0 0),.c (.ptr 1 0)] (M201 fr bb_))=some (.ret [tmV y] (M201 fr bb_)))(out:Option Out)
  (h:gO0 ext 5 (kM0 x d (ls++[y]) (wr ((k:Int)+1))) (kN0 x fr bb_ (ls++[y]))=out):gO0 ext 5 (kM0 x d ls k) (kN0 x fr bb_ ls)=out:=by
 have h0:(0:Int)≤k:=by omega
 have hB:run prog ext (.call 199 [tmV (zC0 x),iV k] [])=some (.ret [iV (binds x.op x.l.length k)] []):=zJ0 ext h199 (zC0 x) k
 generalize binds x.op x.l.length k=bd at hB hr
 have hC:=fun rest slot=>lF1 (run prog ext) fr bb_ t y (wr (d+bd)) slot rest hr
 unfold gO0 at h ⊢
 cases ls with
 | nil=>
  simp only[tmV,cI0,dA0,tmC,dV,iV,bV,kM0,kN0,M201,mV0 hl,List.map_append,List.map_cons,List.map_nil,bZ0,dC0,cP0,bT0,List.cons_append,List.nil_append,aX0 y]at h hB hC ⊢
  (rw[iC0];simp only[B197,lO0,sub,f197,↓reduceIte,zG])
  simp only[zS,zD,aB0,aA0,zT33,zT31,cM0,bV0,bF0,bX0,bY0,zT3,bD0,aH0,aI0,Array.size,List.length,h0,hl,Int.toNat_natCast,hk,aX0 t,hB,hC,bsTm,no31,iK0,Nat.zero_le,simprocAttr]
  rw[aE0 _ _ _ _ (by kernel_rfl)]
  simp only[zS,zD,aB0,aA0,zT33,zT31,zT3,simprocAttr]
  (refine(aC0 ?_).trans h;kernel_rfl)
 | cons a r=>
  have hb':r.length+1≤1000000000:=by simp only[List.length_cons]at hb;omega
  simp only[tmV,cI0,dA0,tmC,dV,iV,bV,kM0,kN0,M201,mV0 hl,List.map_append,List.map_cons,List.map_nil,cC0,dC0,cP0,bS0,List.cons_append,List.nil_append,aX0 y]at h hB hC ⊢
  (rw[iC0];simp only[B197,lO0,sub,f197,↓reduceIte,zG])
  simp only[zS,zD,aB0,aA0,zT33,zT31,cM0,bV0,bF0,bX0,bY0,zT3,bD0,aH0,aI0,Array.size,List.length,h0,hl,Int.toNat_natCast,hk,aX0 t,hB,hC,bsTm,oo31,gD0,hb',simprocAttr]
  rw[aE0 _ _ _ _ (by kernel_rfl)]
  simp only[zS,zD,aB0,aA0,zT33,zT31,zT3,simprocAttr]
  (refine(aC0 ?_).trans h;kernel_rfl)
theorem kY1 (rec:Rec)(fr bb_:Int)(t y:Tm)(e:Int)(slot:Nat)(rest:List O)(hr:rec (.call 201 [tmV t,iV e,.c (.ptr 0 0),.c (.ptr 1 0),.c (.ptr 2 0)] [.box [.d (.v (.int .i64 fr))],.box [.d (.v (.int .i64 bb_))],.box [.d (.v (.bool true))]])=some (.ret [tmV y] [.box [.d (.v (.int .i64 fr))],.box [.d (.v (.int .i64 bb_))],.box [.d (.v (.bool true))]])) :
  dD0 rec (lk (M201 fr bb_++rest)) slot 201 [tmV t,iV e,.c (.ptr 2 0),.c (.ptr 3 0),.c (.ptr 4 0)]=some ⟨.val (tmV y),[(2,.box [.d (.v (.int .i64 fr))]),(3,.box [.d (.v (.int .i64 bb_))]),(4,.box [.d (.v (.bool true))])],[2,3,4]⟩:=
 cF0 (ids:=[2,3,4]) (bor:=[]) (by kernel_rfl) hr (by
  obtain⟨_,_,h3⟩:=bU0 (look:=fun _=>none) (v:=tmV y) rfl
  cases hsc:cA0 (tmV y) <;> (simp only[cK0,mapO,h3,bK0,hsc,List.all_cons,List.all_nil,Bool.and_true];rfl))
theorem lA1 (rec:Rec)(fr bb_:Int)(y:Tm)(o0 o1 o3 o4:O)(els:List (List D))(rest:List O)(a b d:Int)(s:ByteArray)(ud:D)(slot:Nat)(hr:rec (.call 201 [.agg [.d (.v (.int .i64 a)),.d (.v (.int .i64 b)),.d (.v (.string s)),.d ud,.d (.s 5 els)],iV d,.c (.ptr 0 0),.c (.ptr 1 0),.c (.ptr 2 0)] [.box [.d (.v (.int .i64 fr))],.box [.d (.v (.int .i64 bb_))],.box [.d (.v (.bool true))]])=some (.ret [tmV y] [.box [.d (.v (.int .i64 fr))],.box [.d (.v (.int .i64 bb_))],.box [.d (.v (.bool true))]])) :
  dD0 rec (lk (o0::o1 :: .box [.d (.v (.int .i64 fr))] :: .box [.d (.v (.int .i64 bb_))] :: .box [.d (.v (.bool true))]::o3::o4 :: .arr 5 els::rest)) slot 201 [.agg [.d (.v (.int .i64 a)),.d (.v (.int .i64 b)),.d (.v (.string s)),.d ud,.own 7],iV d,.c (.ptr 2 0),.c (.ptr 3 0),.c (.ptr 4 0)]=some ⟨.val (tmV y),[(2,.box [.d (.v (.int .i64 fr))]),(3,.box [.d (.v (.int .i64 bb_))]),(4,.box [.d (.v (.bool true))]),(7,.gone)],[2,3,4,7]⟩:=
 cF0 (ids:=[2,3,4]) (bor:=[7]) (by kernel_rfl) hr (by
  obtain⟨_,_,h3⟩:=bU0 (look:=fun _=>none) (v:=tmV y) rfl
  cases hsc:cA0 (tmV y) <;> (simp only[cK0,mapO,h3,bK0,hsc,List.all_cons,List.all_nil,Bool.and_true];rfl))
theorem lT1 (h200:ext 200=none)(x:Tm)(fr bb_:Int)(d:Int)(ls:List Tm)(c:eO0 x=false):gO0 ext 5 (kM0 x d ls x.l.length) (kN0 x fr bb_ ls)=some (.ret [tmV (mkT x ls)] (M201 fr bb_)):=by
 have hv:run prog ext (.call 200 [tmV (mkT x ls)] [])=some (.ret [bV false] []):=by
  have:=bH1 ext h200 (mkT x ls)
  have e:eO0 (mkT x ls)=eO0 x:=rfl
  rw[this,e,c]
 unfold gO0
 cases ls with
 | nil=>
  simp only[tmV,mkT,hI0,cI0,dA0,dV,iV,bV,kM0,kN0,M201,List.map_nil,bZ0,bT0,nD0]at hv ⊢
  (rw[iC0];simp only[B197,lO0,sub,f197,↓reduceIte,zG])
  simp only[zS,zD,aB0,aA0,zT33,zT31,cM0,bV0,bF0,bX0,bY0,zT3,Int.lt_irrefl,hv,simprocAttr]
  (refine .trans ?_ rfl;kernel_rfl)
 | cons a r=>
  simp only[tmV,mkT,hI0,List.map_cons,jJ0]at hv
  have hC:=fun o0 o1 o2 o3 o4 o5 o6 rest slot=>uD0 (run prog ext) o0 o1 o2 o3 o4 o5 o6 (tmD a::r.map tmD) rest x.op x.n x.s (listD true 2 ((clL x.u).map levD)) false slot hv
  simp only[tmV,mkT,hI0,cI0,dA0,dV,iV,bV,kM0,kN0,M201,List.map_cons,cC0,bS0,jJ0]at hC ⊢
  (rw[iC0];simp only[B197,lO0,sub,f197,↓reduceIte,zG])
  simp only[zS,zD,aB0,aA0,zT33,zT31,cM0,bV0,bF0,bX0,bY0,zT3,Int.lt_irrefl,hC,simprocAttr]
  (refine .trans ?_ rfl;kernel_rfl)
theorem wF1 (h200:ext 200=none)(x y:Tm)(fr bb_:Int)(d:Int)(ls:List Tm)(c:eO0 x=true)(hg:run prog ext (.call 201 [tmV (mkT x ls),iV d,.c (.ptr 0 0),.c (.ptr 1 0),.c (.ptr 2 0)] [.box [.d (.v (.int .i64 fr))],.box [.d (.v (.int .i64 bb_))],.box [.d (.v (.bool true))]])=some (.ret [tmV y] [.box [.d (.v (.int .i64 fr))],.box [.d (.v (.int .i64 bb_))],.box [.d (.v (.bool true))]])) :
  gO0 ext 5 (kM0 x d ls x.l.length) (kN0 x fr bb_ ls)=some (.ret [tmV y] (M201 fr bb_)):=by
 have hv:run prog ext (.call 200 [tmV (mkT x ls)] [])=some (.ret [bV true] []):=by
  have:=bH1 ext h200 (mkT x ls)
  have e:eO0 (mkT x ls)=eO0 x:=rfl
  rw[this,e,c]
 unfold gO0
 cases ls with
 | nil=>
  have hC:=fun rest slot=>kY1 (run prog ext) fr bb_ (mkT x []) y d slot rest hg
  have ey:tmV y = .agg [.d (.v (.int .i64 y.op)),.d (.v (.int .i64 y.n)),.d (.v (.string y.s)),.d y.uD,.d y.lD]:=rfl
  rw[ey]
  simp only[ey]at hC
  simp only[tmV,mkT,hI0,cI0,dA0,dV,iV,bV,kM0,kN0,M201,List.map_nil,bZ0,bT0,List.cons_append,List.nil_append,nD0]at hv hC ⊢
  (rw[iC0];simp only[B197,lO0,sub,f197,↓reduceIte,zG])
  simp only[zS,zD,aB0,aA0,zT33,zT31,cM0,bV0,bF0,bX0,bY0,zT3,Int.lt_irrefl,hv,hC,simprocAttr]
  (refine .trans ?_ rfl;kernel_rfl)
 | cons a r=>
  simp only[tmV,mkT,hI0,List.map_cons,jJ0]at hv
  have hg':=hg
  have ey:tmV y = .agg [.d (.v (.int .i64 y.op)),.d (.v (.int .i64 y.n)),.d (.v (.string y.s)),.d y.uD,.d y.lD]:=rfl
  have em:tmV (mkT x (a::r)) = .agg [.d (.v (.int .i64 x.op)),.d (.v (.int .i64 x.n)),.d (.v (.string x.s)),.d (listD true 2 ((clL x.u).map levD)),.d (.s 5 (tmD a::r.map tmD))]:=rfl
  rw[em]at hg'
  have hC:=fun o0 o1 o2 o3 o4 o5 o6 rest slot=>uD0 (run prog ext) o0 o1 o2 o3 o4 o5 o6 (tmD a::r.map tmD) rest x.op x.n x.s (listD true 2 ((clL x.u).map levD)) true slot hv
  have hD:=fun o0 o1 o3 o4 rest slot=>lA1 (run prog ext) fr bb_ y o0 o1 o3 o4 (tmD a::r.map tmD) rest x.op x.n d x.s (listD true 2 ((clL x.u).map levD)) slot hg'
  rw[ey]
  simp only[ey]at hD
  simp only[cI0,dA0,dV,iV,bV,kM0,kN0,M201,List.map_cons,cC0,bS0]at hC hD ⊢
  (rw[iC0];simp only[B197,lO0,sub,f197,↓reduceIte,zG])
  simp only[zS,zD,aB0,aA0,zT33,zT31,cM0,bV0,bF0,bX0,bY0,zT3,Int.lt_irrefl,hC,hD,simprocAttr]
  (refine .trans ?_ rfl;kernel_rfl)
end
section
open Go
variable (ext:Ext)
def shC (by_:Int)(x:Tm)(d:Int):Tm:=if 0≤x.n - d then .mk x.op (wr (x.n+by_)) x.s x.u x.zu x.l x.zl else x
theorem clo201 (hx:ext 201=none)(x:Tm)(d by_:Int)(c:eO0 x=true)(h0:0≤d)(h1:d<2^40)(h2:0≤by_)(h3:by_<2^40) :
  run prog ext (.call 201 [tmV x,iV d,.c (.ptr 0 0),.c (.ptr 1 0),.c (.ptr 2 0)] [.box [.d (.v (.int .i64 0))],.box [.d (.v (.int .i64 by_))],.box [.d (.v (.bool true))]])=some (.ret [tmV (shC by_ x d)] [.box [.d (.v (.int .i64 0))],.box [.d (.v (.int .i64 by_))],.box [.d (.v (.bool true))]]):=by
 simp only[eO0,Bool.and_eq_true,decide_eq_true_eq]at c
 obtain⟨_,c1,c2⟩:=c
 have e1:wr (x.n - d)=x.n - d:=hK0 (by omega) (by omega)
 have e2:wr (x.n+by_)=x.n+by_:=hK0 (by omega) (by omega)
 have e3:wr (x.n+by_ - d)=x.n+by_ - d:=hK0 (by omega) (by omega)
 unfold shC
 by_cases g:0≤x.n - d
 ·have g2:0≤x.n+by_ - d:=by omega
  rw[if_pos g,e2]
  (rw[enT hx func201 rfl];simp only[f201,zR,Nat.zero_le,simprocAttr,zE])
  simp only[tmV,hI0,iV]
  simp only[tmC]
  simp only[zS,zD,aB0,aA0,zT33,zT31,zT30,zT9,eU0,dJ0,cN0,jR0,dK0,dL0,zT3,ge_iff_le,e1,e2,e3,g,g2,simprocAttr]
  (refine .trans ?_ rfl;kernel_rfl)
 ·rw[if_neg g]
  (rw[enT hx func201 rfl];simp only[f201,zR,Nat.zero_le,simprocAttr,zE])
  simp only[tmV,iV]
  simp only[tmC]
  simp only[zS,zD,aB0,aA0,zT33,zT31,zT30,zT9,eU0,dJ0,cN0,jR0,dK0,dL0,zT3,ge_iff_le,e1,g,simprocAttr]
  (refine .trans ?_ rfl;kernel_rfl)
def flC (up:Int→Tm)(x:Tm)(d:Int):Tm:=if x.n - d<0 then x else if x.n - d<1 then up d else .mk x.op (wr (x.n - 1)) x.s x.u x.zu x.l x.zl
theorem clo131 (hx:ext 131=none)(up:Int→Tm)(x A:Tm)(d:Int)(b:Bool)(c:eO0 x=true)(h0:0≤d)(h1:d<2^40)(hu:run prog ext (.call 132 [tmV A,iV d,iV 0] [])=some (.ret [tmV (up d),bV b] [])) :
  run prog ext (.call 131 [tmV x,iV d,.c (.ptr 0 0)] [.box [.d (argD A)]])=some (.ret [tmV (flC up x d)] [.box [.d (argD A)]]):=by
 simp only[eO0,Bool.and_eq_true,decide_eq_true_eq]at c
 obtain⟨_,c1,c2⟩:=c
 have e1:wr (x.n - d)=x.n - d:=hK0 (by omega) (by omega)
 have k1:((1:Nat):Int)=1:=rfl
 unfold flC
 by_cases g:x.n - d<0
 ·rw[if_pos g]
  (rw[enT hx func131 rfl];simp only[f131,zR,Nat.zero_le,simprocAttr,zE])
  simp only[tmV,tmC,iV,argD]
  simp only[zS,zD,aB0,aA0,zT33,zT31,zT30,zT9,zT3,e1,g,simprocAttr]
  (refine .trans ?_ rfl;kernel_rfl)
 rw[if_neg g]
 by_cases g1:x.n - d<1
 ·rw[if_pos g1]
  have e0:x.n - d=0:=by omega
  have ew:wr 0=0:=hK0 (by omega) (by omega)
  generalize up d=y at hu
  (rw[enT hx func131 rfl];simp only[f131,zR,Nat.zero_le,simprocAttr,zE])
  simp only[tmV,tmC,iV,bV,argD]at hu ⊢
  simp only[zS,zD,aB0,aA0,zT33,zT31,zT30,zT9,zT3,ew,e0,k1,Int.le_refl,Int.toNat_zero,aX0 A,hu,aL0,simprocAttr]
  (refine .trans ?_ rfl;kernel_rfl)
 ·rw[if_neg g1]
  (rw[enT hx func131 rfl];simp only[f131,zR,Nat.zero_le,simprocAttr,zE])
  simp only[tmV,hI0,iV,argD]
  simp only[tmC]
  simp only[zS,zD,aB0,aA0,zT33,zT31,zT30,zT9,zT3,e1,g,g1,k1,simprocAttr]
  (refine .trans ?_ rfl;kernel_rfl)
end
section
open Go
variable (ext:Ext)
def mapP (g:Tm→Int→Tm):Nat→Tm→Int→Tm
 | 0,_,_=>zTm
 | N+1,x,d=>if eO0 x then g (mkT x (x.l.zipIdx.map fun p=>mapP g N p.1 (wr (d+binds x.op x.l.length p.2)))) d else mkT x (x.l.zipIdx.map fun p=>mapP g N p.1 (wr (d+binds x.op x.l.length p.2)))
theorem pN1 (hx:ext 197=none)(h198:ext 198=none)(h239:ext 239=none)(hc:nL0 ext)(h199:ext 199=none)(h200:ext 200=none)(g:Tm→Int→Tm)(A:Tm)
  (hg:∀ (y:Tm) (d:Int),eO0 y=true→0≤d→d<2^31→run prog ext (.call 131 [tmV y,iV d,.c (.ptr 0 0)] [.box [.d (argD A)]])=some (.ret [tmV (g y d)] [.box [.d (argD A)]])):∀ (N:Nat) (x:Tm) (d:Int),x.sz≤N→0≤d→d+3*N<2^31→N<2^29 →
  run prog ext (.call 197 [tmV x,iV d,.c (.ptr 0 0),.c (.ptr 1 0)] (M131 A))=some (.ret [tmV (mapP g N x d)] (M131 A))
 | 0,x,d,h,_,_,_=>by have:=x.sz_pos;omega
 | N+1,x,d,h,h0,h1,hN=>by
  have hll:=x.len_lt
  have hr:=uM0 ext h198 h239 hc x.zu x.u (by have:=x.ulen_lt;omega) (fun u hu=>by have:=Tm.lev_lt hu;unfold Lev.sz at this;omega)
  have e:listD x.zu 2 (x.u.map levD)=x.uD:=rfl
  rw[e]at hr
  refine lZ1 ext hx x A d hr _ ?_
  have ha:=gH0 (fun p:Tm × Nat=>(mapP g N p.1 (wr (d+binds x.op x.l.length p.2)),(0:Int))) x.l.zipIdx (fun k ls=>gO0 ext 3 (E197 x d ls k) (O197 x A ls)) (fun _=>none)
   (fun ls=>some (.ret [tmV (if eO0 x then g (mkT x ls) d else mkT x ls)] (M131 A))) (by rw[List.length_zipIdx];omega) (fun k p ls hk hl he=>by
    obtain⟨hk',hp⟩:=qO0 hk
    rw[List.length_zipIdx]at hl
    have hbd:=zK0 x.op x.l.length p.2
    have hwd:wr (d+binds x.op x.l.length p.2)=d+binds x.op x.l.length p.2:=hK0 (by omega) (by omega)
    have hr:=pN1 hx h198 h239 hc h199 h200 g A hg N p.1 (wr (d+binds x.op x.l.length p.2)) (by have:=Tm.sz_lt (List.mem_of_getElem? hk');omega) (by omega) (by omega) (by omega)
    rw[hp]at hr ⊢
    exact⟨fun _ out ho=>vI1 ext h199 x p.1 _ A d ls k (by omega) hk' hl hr out ho,fun h=>absurd rfl h⟩) (fun ls _=>by
    rw[List.length_zipIdx]
    cases c:eO0 x with
    | true=>exact var197 ext h200 x A _ d ls c (hg (mkT x ls) d c h0 (by omega))
    | false=>exact rR1 ext h200 x A d ls c)
  rw[hF0 (fun p:Tm × Nat=>mapP g N p.1 (wr (d+binds x.op x.l.length p.2)))]at ha
  rw[mapP]
  have ha':gO0 ext 3 (E197 x d [] 0) (O197 x A [])=_:=ha
  rw[ha']

theorem hJ1 (hx:ext 197=none)(h198:ext 198=none)(h239:ext 239=none)(hc:nL0 ext)(h199:ext 199=none)(h200:ext 200=none)(g:Tm→Int→Tm)(fr bb_:Int)
  (hg:∀ (y:Tm) (d:Int),eO0 y=true→0≤d→d<2^31→run prog ext (.call 201 [tmV y,iV d,.c (.ptr 0 0),.c (.ptr 1 0),.c (.ptr 2 0)] [.box [.d (.v (.int .i64 fr))],.box [.d (.v (.int .i64 bb_))],.box [.d (.v (.bool true))]])=some (.ret [tmV (g y d)] [.box [.d (.v (.int .i64 fr))],.box [.d (.v (.int .i64 bb_))],.box [.d (.v (.bool true))]])):∀ (N:Nat) (x:Tm) (d:Int),x.sz≤N→0≤d→d+3*N<2^31→N<2^29 →
  run prog ext (.call 197 [tmV x,iV d,.c (.ptr 0 0),.c (.ptr 1 0)] (M201 fr bb_))=some (.ret [tmV (mapP g N x d)] (M201 fr bb_))
 | 0,x,d,h,_,_,_=>by have:=x.sz_pos;omega
 | N+1,x,d,h,h0,h1,hN=>by
  have hll:=x.len_lt
  have hr:=uM0 ext h198 h239 hc x.zu x.u (by have:=x.ulen_lt;omega) (fun u hu=>by have:=Tm.lev_lt hu;unfold Lev.sz at this;omega)
  have e:listD x.zu 2 (x.u.map levD)=x.uD:=rfl
  rw[e]at hr
  refine gI1 ext hx x fr bb_ d hr _ ?_
  have ha:=gH0 (fun p:Tm × Nat=>(mapP g N p.1 (wr (d+binds x.op x.l.length p.2)),(0:Int))) x.l.zipIdx (fun k ls=>gO0 ext 5 (kM0 x d ls k) (kN0 x fr bb_ ls)) (fun _=>none)
   (fun ls=>some (.ret [tmV (if eO0 x then g (mkT x ls) d else mkT x ls)] (M201 fr bb_))) (by rw[List.length_zipIdx];omega) (fun k p ls hk hl he=>by
    obtain⟨hk',hp⟩:=qO0 hk
    rw[List.length_zipIdx]at hl
    have hbd:=zK0 x.op x.l.length p.2
    have hwd:wr (d+binds x.op x.l.length p.2)=d+binds x.op x.l.length p.2:=hK0 (by omega) (by omega)
    have hr:=hJ1 hx h198 h239 hc h199 h200 g fr bb_ hg N p.1 (wr (d+binds x.op x.l.length p.2)) (by have:=Tm.sz_lt (List.mem_of_getElem? hk');omega) (by omega) (by omega) (by omega)
    rw[hp]at hr ⊢
    exact⟨fun _ out ho=>nX1 ext h199 x p.1 _ fr bb_ d ls k (by omega) hk' hl hr out ho,fun h=>absurd rfl h⟩) (fun ls _=>by
    rw[List.length_zipIdx]
    cases c:eO0 x with
    | true=>exact wF1 ext h200 x _ fr bb_ d ls c (hg (mkT x ls) d c h0 (by omega))
    | false=>exact lT1 ext h200 x fr bb_ d ls c)
  rw[hF0 (fun p:Tm × Nat=>mapP g N p.1 (wr (d+binds x.op x.l.length p.2)))]at ha
  rw[mapP]
  have ha':gO0 ext 5 (kM0 x d [] 0) (kN0 x fr bb_ [])=_:=ha
  rw[ha']
end
section
open Go
variable (ext:Ext)
theorem lB1 (rec:Rec)(A t y:Tm)(o1 o3:O)(slot:Nat)(hr:rec (.call 197 [tmV t,iV 0,.c (.ptr 0 0),.c (.ptr 1 0)] (M131 A))=some (.ret [tmV y] (M131 A))) :
  dD0 rec (lk [.box [.d (argD A)],o1,.box [.fn 131 [] [0]],o3,.box [.fn 197 [] [4,2]]]) slot 197 [tmV t,iV 0,.c (.ptr 4 0),.c (.ptr 2 0)]=some ⟨.val (tmV y),[(4,.box [.fn 197 [] [4,2]]),(2,.box [.fn 131 [] [0]]),(0,.box [.d (argD A)])],[4,2,0]⟩:=
 cF0 (ids:=[4,2,0]) (bor:=[]) (by kernel_rfl) hr (by
  obtain⟨_,_,h3⟩:=bU0 (look:=fun _=>none) (v:=tmV y) rfl
  cases hsc:cA0 (tmV y) <;> (simp only[cK0,mapO,h3,bK0,hsc,List.all_cons,List.all_nil,Bool.and_true];rfl))
theorem hM1 (hx:ext 130=none)(x A y:Tm)(hr:run prog ext (.call 197 [tmV x,iV 0,.c (.ptr 0 0),.c (.ptr 1 0)] (M131 A))=some (.ret [tmV y] (M131 A))) :
  run prog ext (.call 130 [tmV x,.c (.fn 131 [] [0])] [.box [.d (argD A)]])=some (.ret [tmV y] [.box [.d (argD A)]]):=by
 have hC:=fun o1 o3 slot=>lB1 (run prog ext) A x y o1 o3 slot hr
 (rw[enT hx func130 rfl];simp only[f130,zR,Nat.zero_le,simprocAttr,zE])
 simp only[tmV,tmC,iV]at hC ⊢
 simp only[zS,zD,aB0,aA0,zT33,zT31,cM0,bV0,bF0,bX0,bY0,zT9,zT30,zT3,hC,simprocAttr]
 (refine .trans ?_ rfl;kernel_rfl)
theorem lC1 (rec:Rec)(fr bb_:Int)(t y:Tm)(o3 o5:O)(slot:Nat)(hr:rec (.call 197 [tmV t,iV 0,.c (.ptr 0 0),.c (.ptr 1 0)] (M201 fr bb_))=some (.ret [tmV y] (M201 fr bb_))) :
  dD0 rec (lk [.box [.d (.v (.int .i64 fr))],.box [.d (.v (.int .i64 bb_))],.box [.d (.v (.bool true))],o3,.box [.fn 201 [] [0,1,2]],o5,.box [.fn 197 [] [6,4]]]) slot 197 [tmV t,iV 0,.c (.ptr 6 0),.c (.ptr 4 0)]=some ⟨.val (tmV y),[(6,.box [.fn 197 [] [6,4]]),(4,.box [.fn 201 [] [0,1,2]]),(0,.box [.d (.v (.int .i64 fr))]),(1,.box [.d (.v (.int .i64 bb_))]),(2,.box [.d (.v (.bool true))])],[6,4,0,1,2]⟩:=
 cF0 (ids:=[6,4,0,1,2]) (bor:=[]) (by kernel_rfl) hr (by
  obtain⟨_,_,h3⟩:=bU0 (look:=fun _=>none) (v:=tmV y) rfl
  cases hsc:cA0 (tmV y) <;> (simp only[cK0,mapO,h3,bK0,hsc,List.all_cons,List.all_nil,Bool.and_true];rfl))
theorem cT1 (hx:ext 130=none)(x y:Tm)(fr bb_:Int)(hr:run prog ext (.call 197 [tmV x,iV 0,.c (.ptr 0 0),.c (.ptr 1 0)] (M201 fr bb_))=some (.ret [tmV y] (M201 fr bb_))) :
  run prog ext (.call 130 [tmV x,.c (.fn 201 [] [0,1,2])] [.box [.d (.v (.int .i64 fr))],.box [.d (.v (.int .i64 bb_))],.box [.d (.v (.bool true))]])=some (.ret [tmV y] [.box [.d (.v (.int .i64 fr))],.box [.d (.v (.int .i64 bb_))],.box [.d (.v (.bool true))]]):=by
 have hC:=fun o1 o3 slot=>lC1 (run prog ext) fr bb_ x y o1 o3 slot hr
 (rw[enT hx func130 rfl];simp only[f130,zR,Nat.zero_le,simprocAttr,zE])
 simp only[tmV,tmC,iV]at hC ⊢
 simp only[zS,zD,aB0,aA0,zT33,zT31,cM0,bV0,bF0,bX0,bY0,zT9,zT30,zT3,hC,simprocAttr]
 (refine .trans ?_ rfl;kernel_rfl)
end
section
open Go
variable (ext:Ext)
theorem lD1 (rec:Rec)(fr bb_:Int)(t y:Tm)(o0 o3:O)(slot:Nat)(hr:rec (.call 130 [tmV t,.c (.fn 201 [] [0,1,2])] [.box [.d (.v (.int .i64 fr))],.box [.d (.v (.int .i64 bb_))],.box [.d (.v (.bool true))]])=some (.ret [tmV y] [.box [.d (.v (.int .i64 fr))],.box [.d (.v (.int .i64 bb_))],.box [.d (.v (.bool true))]])) :
  dD0 rec (lk [o0,.box [.d (.v (.int .i64 bb_))],.box [.d (.v (.int .i64 fr))],o3,.box [.d (.v (.bool true))]]) slot 130 [tmV t,.c (.fn 201 [] [2,1,4])]=some ⟨.val (tmV y),[(2,.box [.d (.v (.int .i64 fr))]),(1,.box [.d (.v (.int .i64 bb_))]),(4,.box [.d (.v (.bool true))])],[2,1,4]⟩:=
 cF0 (ids:=[2,1,4]) (bor:=[]) (by kernel_rfl) hr (by
  obtain⟨_,_,h3⟩:=bU0 (look:=fun _=>none) (v:=tmV y) rfl
  cases hsc:cA0 (tmV y) <;> (simp only[cK0,mapO,h3,bK0,hsc,List.all_cons,List.all_nil,Bool.and_true];rfl))
theorem nI1 (hx:ext 132=none)(x y:Tm)(bb_:Int)(h0:0≤bb_)(h1:bb_≤2147483648)(hr:run prog ext (.call 130 [tmV x,.c (.fn 201 [] [0,1,2])] [.box [.d (.v (.int .i64 0))],.box [.d (.v (.int .i64 bb_))],.box [.d (.v (.bool true))]])=some (.ret [tmV y] [.box [.d (.v (.int .i64 0))],.box [.d (.v (.int .i64 bb_))],.box [.d (.v (.bool true))]])) :
  run prog ext (.call 132 [tmV x,iV bb_,iV 0] [])=some (.ret [tmV y,bV true] []):=by
 have hC:=fun o1 o3 slot=>lD1 (run prog ext) 0 bb_ x y o1 o3 slot hr
 have h2:¬ bb_ < -2147483648:=by omega
 have h3:¬ bb_>2147483648:=by omega
 (rw[enT hx func132 rfl];simp only[f132,zR,Nat.zero_le,simprocAttr,zE])
 simp only[tmV,tmC,iV,bV]at hC ⊢
 simp only[zS,zD,aB0,aA0,zT33,zT31,cM0,bV0,bF0,bX0,bY0,eU0,dJ0,cN0,jR0,dK0,dL0,zT9,zT30,zT3,h2,h3,hC,simprocAttr]
 (refine .trans ?_ rfl;kernel_rfl)
theorem kW1 (rec:Rec)(A t y:Tm)(o0 o2:O)(slot:Nat)(hr:rec (.call 130 [tmV t,.c (.fn 131 [] [0])] [.box [.d (argD A)]])=some (.ret [tmV y] [.box [.d (argD A)]])) :
  dD0 rec (lk [o0,.box [.d (argD A)],o2]) slot 130 [tmV t,.c (.fn 131 [] [1])]=some ⟨.val (tmV y),[(1,.box [.d (argD A)])],[1]⟩:=
 cF0 (ids:=[1]) (bor:=[]) (by kernel_rfl) hr (by
  obtain⟨_,_,h3⟩:=bU0 (look:=fun _=>none) (v:=tmV y) rfl
  cases hsc:cA0 (tmV y) <;> (simp only[cK0,mapO,h3,bK0,hsc,List.all_cons,List.all_nil,Bool.and_true];rfl))
theorem fill86 (hx:ext 86=none)(x A y:Tm)(hr:run prog ext (.call 130 [tmV x,.c (.fn 131 [] [0])] [.box [.d (argD A)]])=some (.ret [tmV y] [.box [.d (argD A)]])) :
  run prog ext (.call 86 [tmV x,dV (argD A)] [])=some (.ret [tmV y] []):=by
 have hC:=fun o1 o3 slot=>kW1 (run prog ext) A x y o1 o3 slot hr
 (rw[enT hx func86 rfl];simp only[f86,zR,Nat.zero_le,simprocAttr,zE])
 simp only[tmV,tmC,iV,dV]at hC ⊢
 simp only[zS,zD,aB0,aA0,zT33,zT31,cM0,bV0,bF0,bX0,bY0,zT9,zT30,zT3,hC,simprocAttr]
 (refine .trans ?_ rfl;kernel_rfl)
end
section
open Go
variable (ext:Ext)
def upP (A:Tm)(d:Int):Tm:=mapP (shC d) A.sz A 0
def flP (A x:Tm):Tm:=mapP (flC (upP A)) x.sz x 0
theorem fillP (h86:ext 86=none)(h130:ext 130=none)(h131:ext 131=none)(h132:ext 132=none)(h201:ext 201=none)(hx:ext 197=none)(h198:ext 198=none)(h239:ext 239=none)(hc:nL0 ext)(h199:ext 199=none)(h200:ext 200=none)
  (x A:Tm) (hs:x.sz<2^29) (hA:A.sz<2^29):run prog ext (.call 86 [tmV x,dV (argD A)] [])=some (.ret [tmV (flP A x)] []):=by
 refine fill86 ext h86 x A _ (hM1 ext h130 x A _ ?_)
 refine pN1 ext hx h198 h239 hc h199 h200 (flC (upP A)) A (fun y d c h0 h1=> ?_) x.sz x 0 (Nat.le_refl _) (by omega) (by omega) hs
 refine clo131 ext h131 (upP A) y A d true c h0 (by omega) ?_
 refine nI1 ext h132 A _ d h0 (by omega) (cT1 ext h130 A _ 0 d ?_)
 exact hJ1 ext hx h198 h239 hc h199 h200 (shC d) 0 d (fun y e c' k0 k1=>clo201 ext h201 y e d c' k0 (by omega) h0 (by omega)) A.sz A 0 (Nat.le_refl _) (by omega) (by omega) hA
end
section
open Go
variable (ext:Ext)
theorem arg46 (hx:ext 46=none)(f:Lev→Lev × Int)(fl:Tm→Tm)(x:Tb)(s:ByteArray)(z:Fl)(l:List Lev)(i:Int)(A:Tm)(ht:run prog ext (.call 83 [tbV x,sV s,dV (listD z 2 (l.map levD))] [])=some (.ret [dcV (inst x s l.length).1,iV (inst x s l.length).2] []))
  (hr:run prog ext (.call 79 [tmV (gE0 (inst x s l.length).1 i),dV (listD z 2 (l.map levD))] [])=some (.ret [tmV (setL f (gE0 (inst x s l.length).1 i)).1,iV (setL f (gE0 (inst x s l.length).1 i)).2] []))
  (hf:(setL f (gE0 (inst x s l.length).1 i)).2=0→run prog ext (.call 86 [tmV (setL f (gE0 (inst x s l.length).1 i)).1,dV (argD A)] [])=some (.ret [tmV (fl (setL f (gE0 (inst x s l.length).1 i)).1)] [])) :
  run prog ext (.call 46 [tbV x,sV s,dV (listD z 2 (l.map levD)),iV i,tmV A] [])=some (.ret [tmV (pH0 f fl x s l.length i).1,iV (pH0 f fl x s l.length i).2] []):=by
 unfold pH0 mK0
 generalize inst x s l.length=p at ht hr hf ⊢
 obtain⟨d,e⟩:=p
 dsimp only at ht hr hf ⊢
 by_cases c:e=0
 ·subst c
  rw[if_pos rfl]
  by_cases c1:i<0
  ·have hq:(if 0≤i∧i<(d.cons.length:Int) then setL f (gE0 d i) else(zTm,42))=(zTm,(42:Int)):=if_neg (by omega)
   rw[hq]
   rw[if_neg (show ¬ ((zTm,(42:Int)).2=0) by simp)]
   (rw[enT hx func46 rfl];simp only[f46,zR,Nat.zero_le,simprocAttr,zE])
   simp only[dcV,dcC,tbV,tbC,tmV,dA0,tmC,sV,iV,bV,dV]at ht ⊢
   simp only[zS,zD,aB0,aA0,zT24,zT39,zT33,zT36,zT37,zT30,zT27,zT9,zT3,ht,aL0,c1,simprocAttr]
   (refine .trans ?_ rfl;kernel_rfl)
  by_cases c2:(d.cons.length:Int)≤i
  ·have hq:(if 0≤i∧i<(d.cons.length:Int) then setL f (gE0 d i) else(zTm,42))=(zTm,(42:Int)):=if_neg (by omega)
   rw[hq]
   rw[if_neg (show ¬ ((zTm,(42:Int)).2=0) by simp)]
   (rw[enT hx func46 rfl];simp only[f46,zR,Nat.zero_le,simprocAttr,zE])
   simp only[dcV,dcC,tbV,tbC,tmV,dA0,tmC,sV,iV,bV,dV]at ht ⊢
   simp only[zS,zD,aB0,aA0,zT24,zT39,zT33,zT36,zT37,zT30,zT27,zT9,zT3,ht,aL0,c1,c2,gV0,ge_iff_le,simprocAttr]
   (refine .trans ?_ rfl;kernel_rfl)
  have hq:(if 0≤i∧i<(d.cons.length:Int) then setL f (gE0 d i) else(zTm,42))=setL f (gE0 d i):=if_pos ⟨by omega,by omega⟩
  rw[hq]
  clear hq
  obtain⟨k,rfl⟩:∃ k:Nat,i=k:=⟨i.toNat,by omega⟩
  have h0:(0:Int)≤k:=by omega
  have hl:(k:Int)<d.cons.length:=by omega
  have hk:d.cons[k]? = some (d.cons[k]'(by omega)):=by simp
  generalize d.cons[k]'(by omega)=y at hk
  have ey:gE0 d k=y.arg:=by simp[gE0,hk]
  rw[ey]at hr hf ⊢
  generalize setL f y.arg=q at hr hf ⊢
  obtain⟨t,e⟩:=q
  dsimp only at hr hf ⊢
  have hd:=nB0 hl
  by_cases c3:e=0
  ·subst c3
   have hf:=hf rfl
   rw[if_pos rfl]
   generalize fl t=w at hf ⊢
   cases hsc:cA0 (tmV w)
   all_goals
    (rw[enT hx func46 rfl];simp only[f46,zR,Nat.zero_le,simprocAttr,zE])
    simp only[dcV,dcC,tbV,tbC,tmV,tmC,sV,iV,bV,dV,hd,argD,aX0 A]at ht hr hf hsc ⊢
    simp only[zS,zD,aB0,aA0,zT24,zT39,zT33,zT36,zT37,zT98,zT31,zT30,zT27,zT9,zT3,ht,aL0,c1,c2,ge_iff_le,h0,hl,Int.toNat_natCast,hk,lT0 y,hr,simprocAttr]
    simp only[zS,zD,aB0,aA0,zT33,zT31,zT27,zT3,bsTm,kV1,qW0,(id rfl:ownF 86=false),hf,jY0,hsc,aU0,simprocAttr]
    (refine .trans ?_ rfl;kernel_rfl)
  ·rw[if_neg c3]
   (rw[enT hx func46 rfl];simp only[f46,zR,Nat.zero_le,simprocAttr,zE])
   simp only[dcV,dcC,tbV,tbC,tmV,dA0,tmC,sV,iV,bV,dV,hd]at ht hr ⊢
   simp only[zS,zD,aB0,aA0,zT24,zT39,zT33,zT36,zT37,zT98,zT30,zT27,zT9,zT3,ht,aL0,c1,c2,ge_iff_le,h0,hl,Int.toNat_natCast,hk,lT0 y,hr,c3,simprocAttr]
   (refine .trans ?_ rfl;kernel_rfl)
 ·rw[if_neg c,if_neg c]
  (rw[enT hx func46 rfl];simp only[f46,zR,Nat.zero_le,simprocAttr,zE])
  simp only[dcV,dcC,tbV,tbC,tmV,dA0,tmC,sV,iV,bV,dV]at ht ⊢
  simp only[zS,zD,aB0,aA0,zT24,zT39,zT33,zT36,zT30,zT27,zT9,zT3,ht,aL0,c,simprocAttr]
  (refine .trans ?_ rfl;kernel_rfl)
end
section
open Go
variable (ext:Ext)
noncomputable def B90 : Code:=(f90.body.getD .skip)
noncomputable def L90a : Code:=sub B90 [1,1,0,1,0,0]
theorem sV1 : It.code L90a=It.code (sub B90 [1,1,0,1,0,0]):=rfl
noncomputable def K90a : List It:=[.inBlock 0,.code (sub B90 [1,1,1])]
noncomputable def H90a (ext:Ext)(m:Nat)(env:Env)(loc:List O):Option Out:=run prog ext (.k ⟨20,m,[.tmp 2],false⟩ (.code L90a :: .inLoop L90a::K90a) env loc)
def cpTm : Tm→Tm
 | .mk a b s u _ l _=> .mk a b s (u.map jP0) true (cpTms l) true
where cpTms:List Tm→List Tm
 | []=>[]
 | x::r=>cpTm x::cpTms r
theorem lP1 (l:List Tm):cpTm.cpTms l=l.map cpTm:=by induction l <;> simp_all [cpTm.cpTms]
theorem qY0 (x:Tm):cpTm x = .mk x.op x.n x.s (x.u.map jP0) true (x.l.map cpTm) true:=by
 cases x;simp[cpTm,lP1,Tm.op,Tm.n,Tm.s,Tm.u,Tm.l]
def E90 (D:D)(ls:List Tm)(k:Int):Env:=[(0,dV D),(3,mkV 0 (ls.map tmD)),(4,iV k)]
theorem sD1 (hx:ext 90=none)(D:D)(out:Option Out)(h:H90a ext 0 (E90 D [] 0) []=out):run prog ext (.call 90 [dV D] [])=out:=by
 unfold H90a at h
 (rw[enT hx func90 rfl];simp only[f90,zR,Nat.zero_le,simprocAttr,zE])
 simp only[dV,iV,E90,List.map_nil,bZ0]at h ⊢
 simp only[zS,zD,aB0,aA0,zT33,zT31,zT3,simprocAttr]
 (refine(aC0 ?_).trans h;kernel_rfl)
theorem step90 (z:Fl)(l:List Tm)(t y:Tm)(ls:List Tm)(k:Nat)(hb:ls.length<2^29)(hk:l[k]? = some t)(hl:(k:Int)<l.length)(hr:run prog ext (.call 48 [tmV t] [])=some (.ret [tmV y] []))(out:Option Out)
  (h:H90a ext 0 (E90 (listD z 5 (l.map tmD)) (ls++[y]) (wr ((k:Int)+1))) (mkO 5 ((ls++[y]).map tmD))=out):H90a ext 0 (E90 (listD z 5 (l.map tmD)) ls k) (mkO 5 (ls.map tmD))=out:=by
 have h0:(0:Int)≤k:=by omega
 have hd:listD z 5 (l.map tmD) = .s 5 (l.map tmD) z.g:=aP0 h0 (by simpa using hl)
 unfold H90a at h ⊢
 cases ls with
 | nil=>
  simp only[tmV,tmC,dV,iV,E90,hd,List.map_append,List.map_cons,List.map_nil,bZ0,dC0,cP0,bT0,List.nil_append,aX0 y]at h hr ⊢
  (rw[sV1];simp only[B90,K90a,sub,f90,↓reduceIte,zG])
  simp only[zS,zD,aB0,aA0,zT33,zT31,zT3,h0,hl,Int.toNat_natCast,hk,aX0 t,hr,bsTm,no31,iK0,Nat.zero_le,simprocAttr]
  (refine(aC0 ?_).trans h;kernel_rfl)
 | cons a r=>
  have hb':r.length+1≤1000000000:=by simp only[List.length_cons]at hb;omega
  simp only[tmV,tmC,dV,iV,E90,hd,List.map_append,List.map_cons,List.map_nil,cC0,dC0,cP0,bS0,List.cons_append,List.nil_append,aX0 y]at h hr ⊢
  (rw[sV1];simp only[B90,K90a,sub,f90,↓reduceIte,zG])
  simp only[zS,zD,aB0,aA0,zT33,zT31,zT3,h0,hl,Int.toNat_natCast,hk,aX0 t,hr,bsTm,oo31,gD0,hb',simprocAttr]
  (refine(aC0 ?_).trans h;kernel_rfl)
theorem done90 (z:Fl)(l ls:List Tm):H90a ext 0 (E90 (listD z 5 (l.map tmD)) ls l.length) (mkO 5 (ls.map tmD))=some (.ret [dV (listD true 5 (ls.map tmD))] []):=by
 unfold H90a
 cases ls
 all_goals
  simp only[dV,iV,E90,List.map_cons,List.map_nil,bZ0,cC0,bT0,bS0]
  (rw[sV1];simp only[B90,K90a,sub,f90,↓reduceIte,zG])
  simp only[zS,zD,aB0,aA0,zT31,zT3,Int.lt_irrefl,simprocAttr]
  (refine .trans ?_ rfl;kernel_rfl)
theorem copy90 (hx:ext 90=none)(z:Fl)(l:List Tm)(hs:l.length<2^29)(hr:∀ t∈l,run prog ext (.call 48 [tmV t] [])=some (.ret [tmV (cpTm t)] [])):run prog ext (.call 90 [dV (listD z 5 (l.map tmD))] [])=some (.ret [dV (listD true 5 ((l.map cpTm).map tmD))] []):=by
 refine sD1 ext hx _ _ ?_
 have:=gH0 (fun t:Tm=>(cpTm t,(0:Int))) l (fun k ls=>H90a ext 0 (E90 (listD z 5 (l.map tmD)) ls k) (mkO 5 (ls.map tmD))) (fun _=>none) (fun ls=>some (.ret [dV (listD true 5 (ls.map tmD))] [])) (by omega)
  (fun k t ls hk hl he=>⟨fun _ out ho=>step90 ext z l t _ ls k (by omega) hk hl (hr t (List.mem_of_getElem? hk)) out ho,fun h=>absurd rfl h⟩) (fun ls _=>done90 ext z l ls)
 rw[hF0 cpTm]at this
 exact this
end
end Go.Proofs.YteenjodhmppgjaaGreatDoor.Am
