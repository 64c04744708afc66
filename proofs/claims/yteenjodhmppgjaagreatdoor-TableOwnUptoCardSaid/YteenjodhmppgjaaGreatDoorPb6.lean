/- A part of the proof of a card. No conditions. -/
import Derived.Test.YteenjodhmppgjaaGreatDoorPb4
set_option linter.all false
set_option maxHeartbeats 16000000
set_option maxRecDepth 10000
namespace Go.Proofs.YteenjodhmppgjaaGreatDoor.Am
open Go.Proofs.Tryz
section
open Go
variable (ext:Ext)
def iP0 (x:Tb)(s:ByteArray):Dc × Bool:=match x.ds.find? (isNm s) with
 | none=>(zDc,false)
 | some d=>if d.kind=4 then(d,true) else(zDc,false)
theorem fam71 (hx:ext 71=none)(h22:ext 22=none)(h69:ext 69=none)(h70:ext 70=none)(x:Tb)(s:ByteArray)(hs:x.ds.length<2^50):run prog ext (.call 71 [tbV x,sV s] [])=some (.ret [dcV (iP0 x s).1,bV (iP0 x s).2] []):=by
 have hr:=pD1 ext h22 h69 h70 x s hs
 unfold iP0
 cases hf:x.ds.find? (isNm s) with
 | none=>
  rw[uU0 hf]at hr
  (rw[enT hx func71 rfl];simp only[f71,zR,Nat.zero_le,simprocAttr,zE])
  simp only[dcV,tbV,tbC,sV,iV,bV]at hr ⊢
  simp only[zS,zD,aB0,aA0,zT24,zT39,zT22,zT9,zT3,hr,simprocAttr]
  (refine .trans ?_ rfl;kernel_rfl)
 | some d=>
  obtain⟨k,e1,hk,hl⟩:=qA0 hf
  have h0:(0:Int)≤k:=by omega
  have h0':¬ ((k:Int)<0):=by omega
  rw[e1]at hr
  dsimp only
  by_cases c1:d.kind=4
  ·rw[if_pos c1]
   (rw[enT hx func71 rfl];simp only[f71,zR,Nat.zero_le,simprocAttr,zE])
   simp only[dcV,dcC,tbV,tbC,sV,iV,bV,jV0 h0 hl]at hr ⊢
   simp only[zS,zD,aB0,aA0,zT24,zT39,zT22,zT9,zT3,hr,h0,h0',hl,Int.toNat_natCast,hk,iN0 d,c1,simprocAttr]
   (refine .trans ?_ rfl;kernel_rfl)
  ·rw[if_neg c1]
   (rw[enT hx func71 rfl];simp only[f71,zR,Nat.zero_le,simprocAttr,zE])
   simp only[dcV,tbV,tbC,sV,iV,bV,jV0 h0 hl]at hr ⊢
   simp only[zS,zD,aB0,aA0,zT24,zT39,zT22,zT9,zT3,hr,h0,h0',hl,Int.toNat_natCast,hk,iN0 d,c1,simprocAttr]
   (refine .trans ?_ rfl;kernel_rfl)
def inst (x:Tb)(s:ByteArray)(n:Nat):Dc × Int:=((iP0 x s).1,if(iP0 x s).2=true then if(n:Int)=(iP0 x s).1.levels then 0 else 42 else 3)
theorem inst83 (hx:ext 83=none)(x:Tb)(s:ByteArray)(z:Fl)(l:List Lev)(ht:run prog ext (.call 71 [tbV x,sV s] [])=some (.ret [dcV (iP0 x s).1,bV (iP0 x s).2] [])) :
  run prog ext (.call 83 [tbV x,sV s,dV (listD z 2 (l.map levD))] [])=some (.ret [dcV (inst x s l.length).1,iV (inst x s l.length).2] []):=by
 unfold inst
 generalize iP0 x s=p at ht ⊢
 obtain⟨d,b⟩:=p
 cases b with
 | false=>
  (rw[enT hx func83 rfl];simp only[f83,zR,Nat.zero_le,simprocAttr,zE])
  simp only[dcV,dcC,tbV,tbC,sV,iV,bV,dV]at ht ⊢
  simp only[zS,zD,aB0,aA0,zT24,zT39,zT33,zT30,zT27,zT9,zT3,ht,aL0,simprocAttr]
  (refine .trans ?_ rfl;kernel_rfl)
 | true=>
  by_cases c:(l.length:Int)=d.levels
  ·rw[if_pos rfl,if_pos c]
   (rw[enT hx func83 rfl];simp only[f83,zR,Nat.zero_le,simprocAttr,zE])
   simp only[dcV,dcC,tbV,tbC,sV,iV,bV,dV]at ht ⊢
   simp only[zS,zD,aB0,aA0,zT24,zT39,zT33,zT30,zT27,zT9,zT3,ht,aL0,c,simprocAttr]
   (refine .trans ?_ rfl;kernel_rfl)
  ·rw[if_pos rfl,if_neg c]
   (rw[enT hx func83 rfl];simp only[f83,zR,Nat.zero_le,simprocAttr,zE])
   simp only[dcV,dcC,tbV,tbC,sV,iV,bV,dV]at ht ⊢
   simp only[zS,zD,aB0,aA0,zT24,zT39,zT33,zT30,zT27,zT9,zT3,ht,aL0,c,simprocAttr]
   (refine .trans ?_ rfl;kernel_rfl)
def iX0 (f:Lev→Lev × Int)(x:Tb)(s:ByteArray)(n:Nat):Tm × Int:=if(inst x s n).2=0 then setL f (inst x s n).1.param else(zTm,(inst x s n).2)
def mM0 (f:Lev→Lev × Int)(x:Tb)(s:ByteArray)(n:Nat):Lev × Int:=if(inst x s n).2=0 then f (inst x s n).1.over else(zL0,(inst x s n).2)
theorem f39_ (hx:ext 39=none)(f:Lev→Lev × Int)(x:Tb)(s:ByteArray)(z:Fl)(l:List Lev)(ht:run prog ext (.call 83 [tbV x,sV s,dV (listD z 2 (l.map levD))] [])=some (.ret [dcV (inst x s l.length).1,iV (inst x s l.length).2] []))
  (hr:run prog ext (.call 79 [tmV (inst x s l.length).1.param,dV (listD z 2 (l.map levD))] [])=some (.ret [tmV (setL f (inst x s l.length).1.param).1,iV (setL f (inst x s l.length).1.param).2] [])) :
  run prog ext (.call 39 [tbV x,sV s,dV (listD z 2 (l.map levD))] [])=some (.ret [tmV (iX0 f x s l.length).1,iV (iX0 f x s l.length).2] []):=by
 unfold iX0
 generalize inst x s l.length=p at ht hr ⊢
 obtain⟨d,e⟩:=p
 by_cases c:e=0
 ·subst c
  rw[if_pos rfl]
  generalize setL f d.param=q at hr ⊢
  (rw[enT hx func39 rfl];simp only[f39,zR,Nat.zero_le,simprocAttr,zE])
  simp only[dcV,dcC,tbV,tbC,tmV,tmC,sV,iV,bV,dV]at ht hr ⊢
  simp only[zS,zD,aB0,aA0,zT24,zT39,zT33,zT36,zT30,zT27,zT9,zT3,ht,aL0,hr,simprocAttr]
  (refine .trans ?_ rfl;kernel_rfl)
 ·rw[if_neg c]
  (rw[enT hx func39 rfl];simp only[f39,zR,Nat.zero_le,simprocAttr,zE])
  simp only[dcV,dcC,tbV,tbC,tmV,dA0,tmC,sV,iV,bV,dV]at ht ⊢
  simp only[zS,zD,aB0,aA0,zT24,zT39,zT33,zT36,zT30,zT27,zT9,zT3,ht,aL0,c,simprocAttr]
  (refine .trans ?_ rfl;kernel_rfl)
theorem f41_ (hx:ext 41=none)(f:Lev→Lev × Int)(x:Tb)(s:ByteArray)(z:Fl)(l:List Lev)(ht:run prog ext (.call 83 [tbV x,sV s,dV (listD z 2 (l.map levD))] [])=some (.ret [dcV (inst x s l.length).1,iV (inst x s l.length).2] []))
  (hr:run prog ext (.call 84 [levV (inst x s l.length).1.over,dV (listD z 2 (l.map levD))] [])=some (.ret [levV (f (inst x s l.length).1.over).1,iV (f (inst x s l.length).1.over).2] [])) :
  run prog ext (.call 41 [tbV x,sV s,dV (listD z 2 (l.map levD))] [])=some (.ret [levV (mM0 f x s l.length).1,iV (mM0 f x s l.length).2] []):=by
 unfold mM0
 generalize inst x s l.length=p at ht hr ⊢
 obtain⟨d,e⟩:=p
 by_cases c:e=0
 ·subst c
  rw[if_pos rfl]
  generalize f d.over=q at hr ⊢
  (rw[enT hx func41 rfl];simp only[f41,zR,Nat.zero_le,simprocAttr,zE])
  simp only[dcV,dcC,tbV,tbC,levV,levC,sV,iV,bV,dV]at ht hr ⊢
  simp only[zS,zD,aB0,aA0,zT24,zT39,zT33,zT36,zT30,zT27,zT9,zT3,ht,aL0,hr,simprocAttr]
  (refine .trans ?_ rfl;kernel_rfl)
 ·rw[if_neg c]
  (rw[enT hx func41 rfl];simp only[f41,zR,Nat.zero_le,simprocAttr,zE])
  simp only[dcV,dcC,tbV,tbC,levV,levC,sV,iV,bV,dV]at ht ⊢
  simp only[zS,zD,aB0,aA0,zT24,zT39,zT33,zT36,zT30,zT27,zT9,zT3,ht,aL0,c,simprocAttr]
  (refine .trans ?_ rfl;kernel_rfl)
end
section
open Go
variable (ext:Ext)
noncomputable def B49 : Code:=(f49.body.getD .skip)
noncomputable def L49a : Code:=sub B49 [1,1,0,1,0,0]
theorem sO1 : It.code L49a=It.code (sub B49 [1,1,0,1,0,0]):=rfl
noncomputable def K49a : List It:=[.inBlock 0,.code (sub B49 [1,1,1])]
noncomputable def H49a (ext:Ext)(m:Nat)(env:Env)(loc:List O):Option Out:=run prog ext (.k ⟨26,m,[.cell 2 36],false⟩ (.code L49a :: .inLoop L49a::K49a) env loc)
noncomputable def B89 : Code:=(f89.body.getD .skip)
noncomputable def L89a : Code:=sub B89 [1,1,0,1,0,0]
theorem sU1 : It.code L89a=It.code (sub B89 [1,1,0,1,0,0]):=rfl
noncomputable def K89a : List It:=[.inBlock 0,.code (sub B89 [1,1,1])]
noncomputable def H89a (ext:Ext)(m:Nat)(env:Env)(loc:List O):Option Out:=run prog ext (.k ⟨20,m,[.tmp 2],false⟩ (.code L89a :: .inLoop L89a::K89a) env loc)
theorem hF0 {α β:Type} (g:α→β):∀ l:List α,mapE (fun x=>(g x,0)) l = .inl (l.map g)
 | []=>rfl
 | x::l=>by simp only[mapE,hF0 g l,if_true,List.map_cons]
def jP0 (u:Lev):Lev:=⟨u.c,u.vs,true⟩
def E49 (k:Int):Env:=[(1,.c (.ptr 0 0)),(2,.c (.ptr 1 0)),(3,.c (.ptr 2 0)),(4,iV k)]
def O49 (u:Lev)(vs:List LV):List O:= .box (levC u) :: .box (levC zL0) :: .box [.d (.v (.int .i64 u.c)),mkC 3 (vs.map lvD)]::mkO 2 (vs.map lvD)
theorem rE0 : levC zL0=[.d (.v (.int .i64 0)),.d (.v (.slice none 0 0))]:=rfl
theorem rH0 (x:LV):lvD x=[.v (.int .i64 x.v),.v (.int .i64 x.p)]:=rfl
theorem vd_lt {u:Lev}{k:Nat} (h:(k:Int)<u.vs.length):u.d = .s 2 (u.vs.map lvD) u.z.g:=by unfold Lev.d;exact aP0 (b:=k) (by omega) (by simpa using h)
theorem rY1 (hx:ext 49=none)(u:Lev)(out:Option Out)(h:H49a ext 0 (E49 0) (O49 u [])=out):run prog ext (.call 49 [levV u] [])=out:=by
 unfold H49a at h
 (rw[enT hx func49 rfl];simp only[f49,zR,Nat.zero_le,simprocAttr,zE])
 simp only[levV,rE0,levC,dV,iV,E49,O49,List.map_nil,yL0,bT0]at h ⊢
 simp only[zS,zD,aB0,aA0,zT36,zT34,zT30,zT3,simprocAttr]
 (refine(aC0 ?_).trans h;kernel_rfl)
theorem step49 (u:Lev)(x:LV)(vs:List LV)(k:Nat)(hb:vs.length<2^29)(hk:u.vs[k]? = some x)(hl:(k:Int)<u.vs.length)(out:Option Out)
  (h:H49a ext 0 (E49 (wr ((k:Int)+1))) (O49 u (vs++[x]))=out):H49a ext 0 (E49 k) (O49 u vs)=out:=by
 have h0:(0:Int)≤k:=by omega
 unfold H49a at h ⊢
 cases vs with
 | nil=>
  simp only[rE0,levC,dV,iV,E49,O49,vd_lt hl,List.map_append,List.map_cons,List.map_nil,yL0,aK1,cP0,bT0,List.nil_append,rH0 x]at h ⊢
  (rw[sO1];simp only[B49,K49a,sub,f49,↓reduceIte,zG])
  simp only[zS,zD,aB0,aA0,zT36,zT34,aR0,zT3,bD0,aH0,aI0,Array.size,List.length,cY0,h0,hl,Int.toNat_natCast,hk,rH0 x,bsLV,no34,iK0,Nat.zero_le,simprocAttr]
  rw[aE0 _ _ _ _ (by kernel_rfl)]
  simp only[zS,zD,aB0,aA0,zT3,simprocAttr]
  (refine(aC0 ?_).trans h;kernel_rfl)
 | cons a r=>
  have hb':r.length+1≤1000000000:=by simp only[List.length_cons]at hb;omega
  simp only[rE0,levC,dV,iV,E49,O49,vd_lt hl,List.map_append,List.map_cons,List.map_nil,aJ1,aK1,cP0,bS0,List.cons_append,List.nil_append,rH0 x]at h ⊢
  (rw[sO1];simp only[B49,K49a,sub,f49,↓reduceIte,zG])
  simp only[zS,zD,aB0,aA0,zT36,zT34,aR0,zT3,bD0,aH0,aI0,Array.size,List.length,cY0,h0,hl,Int.toNat_natCast,hk,rH0 x,bsLV,oo34,gD0,hb',simprocAttr]
  rw[aE0 _ _ _ _ (by kernel_rfl)]
  simp only[zS,zD,aB0,aA0,zT3,simprocAttr]
  (refine(aC0 ?_).trans h;kernel_rfl)
theorem done49 (u:Lev)(vs:List LV):H49a ext 0 (E49 u.vs.length) (O49 u vs)=some (.ret [levV ⟨u.c,vs,true⟩] []):=by
 unfold H49a
 cases vs
 all_goals
  simp only[levV,levC,rE0,dV,iV,E49,O49,List.map_cons,List.map_nil,yL0,aJ1,bT0,bS0]
  (rw[sO1];simp only[B49,K49a,sub,f49,↓reduceIte,zG])
  simp only[zS,zD,aB0,aA0,zT36,zT34,zT3,cY0,Int.lt_irrefl,simprocAttr]
  (refine .trans ?_ rfl;kernel_rfl)
theorem oZ1 (hx:ext 49=none)(u:Lev)(hs:u.vs.length<2^29):run prog ext (.call 49 [levV u] [])=some (.ret [levV (jP0 u)] []):=by
 refine rY1 ext hx u _ ?_
 have:=gH0 (fun x:LV=>(x,(0:Int))) u.vs (fun k vs=>H49a ext 0 (E49 k) (O49 u vs)) (fun _=>none) (fun vs=>some (.ret [levV ⟨u.c,vs,true⟩] [])) (by omega)
  (fun k x vs hk hl he=>⟨fun _ out ho=>step49 ext u x vs k (by omega) hk hl out ho,fun h=>absurd rfl h⟩) (fun vs _=>done49 ext u vs)
 rw[this,hF0 (fun x=>x)]
 simp[jP0]
def E89 (D:D)(us:List Lev)(k:Int):Env:=[(0,dV D),(3,mkV 0 (us.map levD)),(4,iV k)]
theorem sC1 (hx:ext 89=none)(D:D)(out:Option Out)(h:H89a ext 0 (E89 D [] 0) []=out):run prog ext (.call 89 [dV D] [])=out:=by
 unfold H89a at h
 (rw[enT hx func89 rfl];simp only[f89,zR,Nat.zero_le,simprocAttr,zE])
 simp only[dV,iV,E89,List.map_nil,bZ0]at h ⊢
 simp only[zS,zD,aB0,aA0,zT36,zT30,zT3,simprocAttr]
 (refine(aC0 ?_).trans h;kernel_rfl)
theorem step89 (z:Fl)(l:List Lev)(u y:Lev)(us:List Lev)(k:Nat)(hb:us.length<2^29)(hk:l[k]? = some u)(hl:(k:Int)<l.length)(hr:run prog ext (.call 49 [levV u] [])=some (.ret [levV y] []))(out:Option Out)
  (h:H89a ext 0 (E89 (listD z 2 (l.map levD)) (us++[y]) (wr ((k:Int)+1))) (mkO 2 ((us++[y]).map levD))=out):H89a ext 0 (E89 (listD z 2 (l.map levD)) us k) (mkO 2 (us.map levD))=out:=by
 have h0:(0:Int)≤k:=by omega
 have hd:listD z 2 (l.map levD) = .s 2 (l.map levD) z.g:=aP0 h0 (by simpa using hl)
 unfold H89a at h ⊢
 cases us with
 | nil=>
  simp only[levV,levC,dV,iV,E89,hd,List.map_append,List.map_cons,List.map_nil,bZ0,dC0,cP0,bT0,List.nil_append,gG0 y]at h hr ⊢
  (rw[sU1];simp only[B89,K89a,sub,f89,↓reduceIte,zG])
  simp only[zS,zD,aB0,aA0,zT36,zT30,zT3,h0,hl,Int.toNat_natCast,hk,gG0 u,hr,kQ1,no30,iK0,Nat.zero_le,simprocAttr]
  (refine(aC0 ?_).trans h;kernel_rfl)
 | cons a r=>
  have hb':r.length+1≤1000000000:=by simp only[List.length_cons]at hb;omega
  simp only[levV,levC,dV,iV,E89,hd,List.map_append,List.map_cons,List.map_nil,cC0,dC0,cP0,bS0,List.cons_append,List.nil_append,gG0 y]at h hr ⊢
  (rw[sU1];simp only[B89,K89a,sub,f89,↓reduceIte,zG])
  simp only[zS,zD,aB0,aA0,zT36,zT30,zT3,h0,hl,Int.toNat_natCast,hk,gG0 u,hr,kQ1,oo30,gD0,hb',simprocAttr]
  (refine(aC0 ?_).trans h;kernel_rfl)
theorem done89 (z:Fl)(l us:List Lev):H89a ext 0 (E89 (listD z 2 (l.map levD)) us l.length) (mkO 2 (us.map levD))=some (.ret [dV (listD true 2 (us.map levD))] []):=by
 unfold H89a
 cases us
 all_goals
  simp only[dV,iV,E89,List.map_cons,List.map_nil,bZ0,cC0,bT0,bS0]
  (rw[sU1];simp only[B89,K89a,sub,f89,↓reduceIte,zG])
  simp only[zS,zD,aB0,aA0,zT30,zT3,Int.lt_irrefl,simprocAttr]
  (refine .trans ?_ rfl;kernel_rfl)
theorem copy89 (hx:ext 89=none)(h49:ext 49=none)(z:Fl)(l:List Lev)(hs:l.length<2^29)(hv:∀ u∈l,u.vs.length<2^29):run prog ext (.call 89 [dV (listD z 2 (l.map levD))] [])=some (.ret [dV (listD true 2 ((l.map jP0).map levD))] []):=by
 refine sC1 ext hx _ _ ?_
 have:=gH0 (fun u:Lev=>(jP0 u,(0:Int))) l (fun k us=>H89a ext 0 (E89 (listD z 2 (l.map levD)) us k) (mkO 2 (us.map levD))) (fun _=>none) (fun us=>some (.ret [dV (listD true 2 (us.map levD))] [])) (by omega)
  (fun k u us hk hl he=>⟨fun _ out ho=>step89 ext z l u _ us k (by omega) hk hl (oZ1 ext h49 u (hv u (List.mem_of_getElem? hk))) out ho,fun h=>absurd rfl h⟩) (fun us _=>done89 ext z l us)
 rw[hF0 jP0]at this
 exact this
def eO0 (x:Tm):Bool:=decide (x.op=1)&&(decide (0≤x.n)&&decide (x.n≤2147483648))
theorem bH1 (hx:ext 200=none)(x:Tm):run prog ext (.call 200 [tmV x] [])=some (.ret [bV (eO0 x)] []):=by
 unfold eO0
 by_cases a:x.op=1
 ·by_cases b:0≤x.n
  ·by_cases c:x.n≤2147483648
   ·(rw[enT hx func200 rfl];simp only[f200,zR,Nat.zero_le,simprocAttr,zE])
    simp only[tmV,tmC,bV]
    simp only[zS,zD,aB0,aA0,zT33,zT3,ge_iff_le,a,b,c,simprocAttr]
    (refine .trans ?_ rfl;kernel_rfl)
   ·(rw[enT hx func200 rfl];simp only[f200,zR,Nat.zero_le,simprocAttr,zE])
    simp only[tmV,tmC,bV]
    simp only[zS,zD,aB0,aA0,zT33,zT3,ge_iff_le,a,b,c,simprocAttr]
    (refine .trans ?_ rfl;kernel_rfl)
  ·(rw[enT hx func200 rfl];simp only[f200,zR,Nat.zero_le,simprocAttr,zE])
   simp only[tmV,tmC,bV]
   simp only[zS,zD,aB0,aA0,zT33,zT3,ge_iff_le,a,b,simprocAttr]
   (refine .trans ?_ rfl;kernel_rfl)
 ·(rw[enT hx func200 rfl];simp only[f200,zR,Nat.zero_le,simprocAttr,zE])
  simp only[tmV,tmC,bV]
  simp only[zS,zD,aB0,aA0,zT33,zT3,ge_iff_le,a,simprocAttr]
  (refine .trans ?_ rfl;kernel_rfl)
end
section
open Go
variable (ext:Ext)
def binds (op:Int)(len:Nat)(i:Int):Int:=
 if i<0∨i≥len then 0
 else if op=5∨op=6∨op=8∨op=9∨op=20 then if i=1 then 1 else 0
 else if op=23 then if i=1 then 2 else 0
 else if op=25 then if i=1∨i=2 then 1 else 0
 else if op=28 then if i=0 then 2 else if i<wr ((len:Int) - 2) then 3 else 0
 else 0
theorem zJ0 (hx:ext 199=none)(x:Tm)(i:Int):run prog ext (.call 199 [tmV x,iV i] [])=some (.ret [iV (binds x.op x.l.length i)] []):=by
 by_cases a:i<0
 ·have e:binds x.op x.l.length i=0:=by unfold binds;simp[a]
  rw[e]
  (rw[enT hx func199 rfl];simp only[f199,zR,Nat.zero_le,simprocAttr,zE])
  simp only[tmV,tmC,iV]
  simp only[zS,zD,aB0,aA0,zT33,zT31,zT3,bJ0,ge_iff_le,a,simprocAttr]
  (refine .trans ?_ rfl;kernel_rfl)
 by_cases b:(x.l.length:Int)≤i
 ·have e:binds x.op x.l.length i=0:=by unfold binds;simp[a,b]
  rw[e]
  (rw[enT hx func199 rfl];simp only[f199,zR,Nat.zero_le,simprocAttr,zE])
  simp only[tmV,tmC,iV]
  simp only[zS,zD,aB0,aA0,zT33,zT31,zT3,bJ0,ge_iff_le,a,b,simprocAttr]
  (refine .trans ?_ rfl;kernel_rfl)
 by_cases o5:x.op=5
 ·by_cases c:i=1
  ·subst c
   have e:binds x.op x.l.length 1=1:=by unfold binds;simp[a,b,o5]
   rw[e]
   (rw[enT hx func199 rfl];simp only[f199,zR,Nat.zero_le,simprocAttr,zE])
   simp only[tmV,tmC,iV]
   simp only[zS,zD,aB0,aA0,zT33,zT31,zT3,bJ0,ge_iff_le,a,b,o5,simprocAttr]
   (refine .trans ?_ rfl;kernel_rfl)
  ·have e:binds x.op x.l.length i=0:=by unfold binds;simp[a,b,o5,c]
   rw[e]
   (rw[enT hx func199 rfl];simp only[f199,zR,Nat.zero_le,simprocAttr,zE])
   simp only[tmV,tmC,iV]
   simp only[zS,zD,aB0,aA0,zT33,zT31,zT3,bJ0,ge_iff_le,a,b,o5,c,simprocAttr]
   (refine .trans ?_ rfl;kernel_rfl)
 by_cases o6:x.op=6
 ·by_cases c:i=1
  ·subst c
   have e:binds x.op x.l.length 1=1:=by unfold binds;simp[a,b,o6]
   rw[e]
   (rw[enT hx func199 rfl];simp only[f199,zR,Nat.zero_le,simprocAttr,zE])
   simp only[tmV,tmC,iV]
   simp only[zS,zD,aB0,aA0,zT33,zT31,zT3,bJ0,ge_iff_le,a,b,o6,simprocAttr]
   (refine .trans ?_ rfl;kernel_rfl)
  ·have e:binds x.op x.l.length i=0:=by unfold binds;simp[a,b,o6,c]
   rw[e]
   (rw[enT hx func199 rfl];simp only[f199,zR,Nat.zero_le,simprocAttr,zE])
   simp only[tmV,tmC,iV]
   simp only[zS,zD,aB0,aA0,zT33,zT31,zT3,bJ0,ge_iff_le,a,b,o6,c,simprocAttr]
   (refine .trans ?_ rfl;kernel_rfl)
 by_cases o8:x.op=8
 ·by_cases c:i=1
  ·subst c
   have e:binds x.op x.l.length 1=1:=by unfold binds;simp[a,b,o8]
   rw[e]
   (rw[enT hx func199 rfl];simp only[f199,zR,Nat.zero_le,simprocAttr,zE])
   simp only[tmV,tmC,iV]
   simp only[zS,zD,aB0,aA0,zT33,zT31,zT3,bJ0,ge_iff_le,a,b,o8,simprocAttr]
   (refine .trans ?_ rfl;kernel_rfl)
  ·have e:binds x.op x.l.length i=0:=by unfold binds;simp[a,b,o8,c]
   rw[e]
   (rw[enT hx func199 rfl];simp only[f199,zR,Nat.zero_le,simprocAttr,zE])
   simp only[tmV,tmC,iV]
   simp only[zS,zD,aB0,aA0,zT33,zT31,zT3,bJ0,ge_iff_le,a,b,o8,c,simprocAttr]
   (refine .trans ?_ rfl;kernel_rfl)
 by_cases o9:x.op=9
 ·by_cases c:i=1
  ·subst c
   have e:binds x.op x.l.length 1=1:=by unfold binds;simp[a,b,o9]
   rw[e]
   (rw[enT hx func199 rfl];simp only[f199,zR,Nat.zero_le,simprocAttr,zE])
   simp only[tmV,tmC,iV]
   simp only[zS,zD,aB0,aA0,zT33,zT31,zT3,bJ0,ge_iff_le,a,b,o9,simprocAttr]
   (refine .trans ?_ rfl;kernel_rfl)
  ·have e:binds x.op x.l.length i=0:=by unfold binds;simp[a,b,o9,c]
   rw[e]
   (rw[enT hx func199 rfl];simp only[f199,zR,Nat.zero_le,simprocAttr,zE])
   simp only[tmV,tmC,iV]
   simp only[zS,zD,aB0,aA0,zT33,zT31,zT3,bJ0,ge_iff_le,a,b,o9,c,simprocAttr]
   (refine .trans ?_ rfl;kernel_rfl)
 by_cases o20:x.op=20
 ·by_cases c:i=1
  ·subst c
   have e:binds x.op x.l.length 1=1:=by unfold binds;simp[a,b,o20]
   rw[e]
   (rw[enT hx func199 rfl];simp only[f199,zR,Nat.zero_le,simprocAttr,zE])
   simp only[tmV,tmC,iV]
   simp only[zS,zD,aB0,aA0,zT33,zT31,zT3,bJ0,ge_iff_le,a,b,o20,simprocAttr]
   (refine .trans ?_ rfl;kernel_rfl)
  ·have e:binds x.op x.l.length i=0:=by unfold binds;simp[a,b,o20,c]
   rw[e]
   (rw[enT hx func199 rfl];simp only[f199,zR,Nat.zero_le,simprocAttr,zE])
   simp only[tmV,tmC,iV]
   simp only[zS,zD,aB0,aA0,zT33,zT31,zT3,bJ0,ge_iff_le,a,b,o20,c,simprocAttr]
   (refine .trans ?_ rfl;kernel_rfl)
 by_cases o23:x.op=23
 ·by_cases c:i=1
  ·subst c
   have e:binds x.op x.l.length 1=2:=by unfold binds;simp[a,b,o23]
   rw[e]
   (rw[enT hx func199 rfl];simp only[f199,zR,Nat.zero_le,simprocAttr,zE])
   simp only[tmV,tmC,iV]
   simp only[zS,zD,aB0,aA0,zT33,zT31,zT3,bJ0,ge_iff_le,a,b,o23,simprocAttr]
   (refine .trans ?_ rfl;kernel_rfl)
  ·have e:binds x.op x.l.length i=0:=by unfold binds;simp[a,b,o23,c]
   rw[e]
   (rw[enT hx func199 rfl];simp only[f199,zR,Nat.zero_le,simprocAttr,zE])
   simp only[tmV,tmC,iV]
   simp only[zS,zD,aB0,aA0,zT33,zT31,zT3,bJ0,ge_iff_le,a,b,o23,c,simprocAttr]
   (refine .trans ?_ rfl;kernel_rfl)
 by_cases o25:x.op=25
 ·by_cases c:i=1
  ·subst c
   have e:binds x.op x.l.length 1=1:=by unfold binds;simp[a,b,o25]
   rw[e]
   (rw[enT hx func199 rfl];simp only[f199,zR,Nat.zero_le,simprocAttr,zE])
   simp only[tmV,tmC,iV]
   simp only[zS,zD,aB0,aA0,zT33,zT31,zT3,bJ0,ge_iff_le,a,b,o25,simprocAttr]
   (refine .trans ?_ rfl;kernel_rfl)
  by_cases d:i=2
  ·subst d
   have e:binds x.op x.l.length 2=1:=by unfold binds;simp[a,b,o25]
   rw[e]
   (rw[enT hx func199 rfl];simp only[f199,zR,Nat.zero_le,simprocAttr,zE])
   simp only[tmV,tmC,iV]
   simp only[zS,zD,aB0,aA0,zT33,zT31,zT3,bJ0,ge_iff_le,a,b,o25,simprocAttr]
   (refine .trans ?_ rfl;kernel_rfl)
  have e:binds x.op x.l.length i=0:=by unfold binds;simp[a,b,o25,c,d]
  rw[e]
  (rw[enT hx func199 rfl];simp only[f199,zR,Nat.zero_le,simprocAttr,zE])
  simp only[tmV,tmC,iV]
  simp only[zS,zD,aB0,aA0,zT33,zT31,zT3,bJ0,ge_iff_le,a,b,o25,c,d,simprocAttr]
  (refine .trans ?_ rfl;kernel_rfl)
 by_cases o28:x.op=28
 ·by_cases c:i=0
  ·subst c
   have e:binds x.op x.l.length 0=2:=by unfold binds;rw[if_neg (by omega)];simp[o28]
   rw[e]
   (rw[enT hx func199 rfl];simp only[f199,zR,Nat.zero_le,simprocAttr,zE])
   simp only[tmV,tmC,iV]
   simp only[zS,zD,aB0,aA0,zT33,zT31,zT3,bJ0,ge_iff_le,a,b,o28,simprocAttr]
   (refine .trans ?_ rfl;kernel_rfl)
  by_cases d:i<wr ((x.l.length:Int) - 2)
  ·have e:binds x.op x.l.length i=3:=by unfold binds;simp[a,b,o28,c,d]
   rw[e]
   (rw[enT hx func199 rfl];simp only[f199,zR,Nat.zero_le,simprocAttr,zE])
   simp only[tmV,tmC,iV]
   simp only[zS,zD,aB0,aA0,zT33,zT31,zT3,bJ0,ge_iff_le,a,b,o28,c,d,simprocAttr]
   (refine .trans ?_ rfl;kernel_rfl)
  have e:binds x.op x.l.length i=0:=by unfold binds;simp[a,b,o28,c,d]
  rw[e]
  (rw[enT hx func199 rfl];simp only[f199,zR,Nat.zero_le,simprocAttr,zE])
  simp only[tmV,tmC,iV]
  simp only[zS,zD,aB0,aA0,zT33,zT31,zT3,bJ0,ge_iff_le,a,b,o28,c,d,simprocAttr]
  (refine .trans ?_ rfl;kernel_rfl)
 have e:binds x.op x.l.length i=0:=by unfold binds;simp[a,b,o5,o6,o8,o9,o20,o23,o25,o28]
 rw[e]
 (rw[enT hx func199 rfl];simp only[f199,zR,Nat.zero_le,simprocAttr,zE])
 simp only[tmV,tmC,iV]
 simp only[zS,zD,aB0,aA0,zT33,zT31,zT3,bJ0,ge_iff_le,a,b,o5,o6,o8,o9,o20,o23,o25,o28,simprocAttr]
 (refine .trans ?_ rfl;kernel_rfl)
end
section
open Go
variable (ext:Ext)
theorem qO0 {α:Type}{l:List α}{k:Nat}{p:α × Nat} (h:l.zipIdx[k]? = some p):l[k]? = some p.1∧p.2=k:=by
 rw[List.getElem?_zipIdx]at h
 cases hk:l[k]? with
 | none=>rw[hk]at h;cases h
 | some a=>rw[hk]at h;simp at h;subst h;exact⟨rfl,rfl⟩
end
section
open Go
variable (ext:Ext)
theorem zK0 (op:Int)(len:Nat)(i:Int):0≤binds op len i∧binds op len i≤3:=by
 unfold binds
 repeat' split
 all_goals omega
def argD (A:Tm):D:= .s 5 [tmD A]
end
section
open Go
variable (ext:Ext)
def gE0 (d:Dc)(i:Int):Tm:=match d.cons[i.toNat]? with | some c=>c.arg | none=>zTm
def mK0 (f:Lev→Lev × Int)(x:Tb)(s:ByteArray)(n:Nat)(i:Int):Tm × Int:=
 if(inst x s n).2=0 then if 0≤i∧i<(inst x s n).1.cons.length then setL f (gE0 (inst x s n).1 i) else(zTm,42) else(zTm,(inst x s n).2)
def pH0 (f:Lev→Lev × Int)(fl:Tm→Tm)(x:Tb)(s:ByteArray)(n:Nat)(i:Int):Tm × Int:=
 if(mK0 f x s n i).2=0 then(fl (mK0 f x s n i).1,0) else(zTm,(mK0 f x s n i).2)
end
end Go.Proofs.YteenjodhmppgjaaGreatDoor.Am
