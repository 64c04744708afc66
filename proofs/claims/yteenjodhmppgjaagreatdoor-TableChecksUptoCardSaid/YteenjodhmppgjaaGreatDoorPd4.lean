/- A part of the proof of a card. No conditions. -/
import Derived.Test.YteenjodhmppgjaaGreatDoorPb2
import Derived.Test.YteenjodhmppgjaaGreatDoorPd3
set_option linter.all false
set_option maxHeartbeats 16000000
set_option maxRecDepth 10000
namespace Go.Proofs.YteenjodhmppgjaaGreatDoor.Am
open Go.Proofs.Tryz
section
open Go
variable (ext:Ext)
theorem eR1 {σ:Type} (n:Nat)(S:Int→σ→Option Out)(Inv:Nat→σ→Prop)(Q:Out→Prop)(hn:n<2^62)
  (hstep:∀ (k:Nat) (s:σ),(k:Int)<n→Inv k s→∃ s',Inv (k+1) s'∧∀ out,S (wr ((k:Int)+1)) s'=out→S k s=out)
  (hdone:∀ s,Inv n s→∃ o,S n s=some o∧Q o) (s0:σ) (h0:Inv 0 s0):∃ o,S 0 s0=some o∧Q o:=by
 have key:∀ (m k:Nat) (s:σ),k+m=n→Inv k s→∃ o,S k s=some o∧Q o:=by
  intro m
  induction m with
  | zero=>intro k s hk hi;rw[show k=n by omega]at hi ⊢;exact hdone s hi
  | succ m ih=>
   intro k s hk hi
   obtain⟨s',hi',hs⟩:=hstep k s (by omega) hi
   obtain⟨o,h1,h2⟩:=ih (k+1) s' (by omega) hi'
   refine⟨o,hs _ ?_,h2⟩
   rw[gL0 (by omega) (by omega)]
   exact_mod_cast h1
 exact key n 0 s0 (by omega) h0
def jA0 {κ:Type} (up:Int→Int→κ→κ):Nat→Tm→Int→κ→κ
 | 0,_,_,q=>q
 | N+1,x,d,q=>if gK0 x=true then up x.n d (x.l.zipIdx.foldl (fun q p=>jA0 up N p.1 (wr (d+binds x.op x.l.length p.2)) q) q) else x.l.zipIdx.foldl (fun q p=>jA0 up N p.1 (wr (d+binds x.op x.l.length p.2)) q) q
theorem eK1 (x:Tm)(ls:List Tm):gK0 (mkT x ls)=gK0 x:=rfl
theorem vG0 {α κ:Type} (f:κ→α→κ)(l:List α)(k:Nat)(a:α)(q:κ)(h:l[k]? = some a):(l.take (k+1)).foldl f q=f ((l.take k).foldl f q) a:=by
 rw[List.take_succ,h,Option.toList_some,List.foldl_append,List.foldl_cons,List.foldl_nil]
def iK0 (q:Int):List O:=[.box [.fn 197 [] [0,1]],.box [.fn 245 [] [2]],.box [.d (.v (.int .i64 q))]]
def qB0 (x:Tm)(d:Int)(ls:List Tm)(k:Int):Env:=[(1,iV d),(2,.c (.ptr 0 0)),(3,.c (.ptr 1 0)),(4,.c (.ptr 3 0)),(6,.c (.ptr 4 0)),(7,mkV 5 (ls.map tmD)),(15,dV x.lD),(16,iV x.l.length),(17,iV k)]
def qJ0 (x:Tm)(q:Int)(ls:List Tm):List O:= .box [.fn 197 [] [0,1]] :: .box [.fn 245 [] [2]] :: .box [.d (.v (.int .i64 q))] :: .box (tmC (kI1 x)) :: .box (tmC zTm)::mkO 5 (ls.map tmD)
theorem dE1 (rec:Rec)(o0 o1 o2 o3 o4:O)(els:List (List D))(rest:List O)(a b:Int)(s:ByteArray)(ud:D)(bb:Bool)(slot:Nat)(hr:rec (.call 200 [.agg [.d (.v (.int .i64 a)),.d (.v (.int .i64 b)),.d (.v (.string s)),.d ud,.d (.s 5 els)]] [])=some (.ret [bV bb] [])) :
  cH0 rec (lk (o0::o1::o2::o3::o4 :: .arr 5 els::rest)) slot 200 [.agg [.d (.v (.int .i64 a)),.d (.v (.int .i64 b)),.d (.v (.string s)),.d ud,.own 5]]=some ⟨.val (bV bb),[],[5]⟩:=
 aL0 (ids:=[]) (bor:=[5]) (by kernel_rfl) hr (by kernel_rfl)
theorem sZ1 (hx:ext 197=none)(x:Tm)(q:Int)(d:Int)(hr:run prog ext (.call 198 [dV x.uD] [])=some (.ret [dV (aJ0 true 2 (x.u.map levD))] []))(out:Option Out)
  (h:jM0 ext 3 (qB0 x d [] 0) (qJ0 x q [])=out):run prog ext (.call 197 [tmV x,iV d,.c (.ptr 0 0),.c (.ptr 1 0)] (iK0 q))=out:=by
 unfold jM0 at h
 (rw[enT hx func197 rfl];simp only[f197,zR,simprocAttr,zE])
 simp only[tmV,tmC,dV,iV,iK0,qB0,qJ0,List.map_nil,cF0,cR0]at h hr ⊢
 simp only[zS,zD,zT33,zT30,zT31,hr,aI0,simprocAttr]
 (refine(aA0 ?_).trans h;kernel_rfl)
theorem callMf (rec:Rec)(q q':Int)(t y:Tm)(e:Int)(slot:Nat)(rest:List O)(hr:rec (.call 197 [tmV t,iV e,.c (.ptr 0 0),.c (.ptr 1 0)] (iK0 q))=some (.ret [tmV y] (iK0 q'))) :
  cH0 rec (lk (iK0 q++rest)) slot 197 [tmV t,iV e,.c (.ptr 0 0),.c (.ptr 1 0)]=some ⟨.val (tmV y),[(0,.box [.fn 197 [] [0,1]]),(1,.box [.fn 245 [] [2]]),(2,.box [.d (.v (.int .i64 q'))])],[0,1,2]⟩:=
 aL0 (ids:=[0,1,2]) (bor:=[]) (by kernel_rfl) hr (by
  obtain⟨_,_,h3⟩:=bR0 (look:=fun _=>none) (v:=tmV y) rfl
  cases hsc:cS0 (tmV y) <;> (simp only[bW0,mapO,h3,aZ0,hsc,List.all_cons,List.all_nil,Bool.and_true];rfl))
theorem iD2 (h199:ext 199=none)(x t y:Tm)(q q':Int)(d:Int)(ls:List Tm)(k:Nat)(hb:ls.length<2^29)(hk:x.l[k]? = some t)(hl:(k:Int)<x.l.length)
  (hr:run prog ext (.call 197 [tmV t,iV (wr (d+binds x.op x.l.length k)),.c (.ptr 0 0),.c (.ptr 1 0)] (iK0 q))=some (.ret [tmV y] (iK0 q')))(out:Option Out)
  (h:jM0 ext 3 (qB0 x d (ls++[y]) (wr ((k:Int)+1))) (qJ0 x q' (ls++[y]))=out):jM0 ext 3 (qB0 x d ls k) (qJ0 x q ls)=out:=by
 have h0:(0:Int)≤k:=by omega
 have hB:run prog ext (.call 199 [tmV (kI1 x),iV k] [])=some (.ret [iV (binds x.op x.l.length k)] []):=kV1 ext h199 (kI1 x) k
 generalize binds x.op x.l.length k=bd at hB hr
 have hC:=fun rest slot=>callMf (run prog ext) q q' t y (wr (d+bd)) slot rest hr
 unfold jM0 at h ⊢
 cases ls with
 | nil=>
  simp only[tmV,tmC,dV,iV,qB0,qJ0,iK0,bC0 hl,List.map_cons,List.map_nil,cF0,cR0,List.cons_append,List.nil_append,aH0 y]at h hB hC ⊢
  (rw[lM0];simp only[B197,qG0,sub,f197,↓reduceIte,zG])
  simp only[zS,zD,zT33,bL0,hD0,gB0,aK0,aC0,aD0,Array.size,List.length,h0,hl,Int.toNat_natCast,hk,aH0 t,hB,hC,bsTm,no31,dL0,Nat.zero_le,simprocAttr]
  rw[aB0 _ _ _ _ (by kernel_rfl)]
  simp only[zS,zD,simprocAttr]
  (refine(aA0 ?_).trans h;kernel_rfl)
 | cons a r=>
  have hb':r.length+1≤1000000000:=by simp only[List.length_cons]at hb;omega
  simp only[tmV,tmC,dV,iV,qB0,qJ0,iK0,bC0 hl,List.map_append,List.map_cons,List.map_nil,cA0,bZ0,List.cons_append,List.nil_append,aH0 y]at h hB hC ⊢
  (rw[lM0];simp only[B197,qG0,sub,f197,↓reduceIte,zG])
  simp only[zS,zD,zT33,bL0,hD0,gB0,aK0,aC0,aD0,Array.size,List.length,h0,hl,Int.toNat_natCast,hk,aH0 t,hB,hC,bsTm,oo31,dP0,hb',simprocAttr]
  rw[aB0 _ _ _ _ (by kernel_rfl)]
  simp only[zS,zD,simprocAttr]
  (refine(aA0 ?_).trans h;kernel_rfl)
theorem callGf (rec:Rec)(q q':Int)(t y:Tm)(e:Int)(slot:Nat)(rest:List O)(hr:rec (.call 245 [tmV t,iV e,.c (.ptr 0 0)] [.box [.d (.v (.int .i64 q))]])=some (.ret [tmV y] [.box [.d (.v (.int .i64 q'))]])) :
  cH0 rec (lk (iK0 q++rest)) slot 245 [tmV t,iV e,.c (.ptr 2 0)]=some ⟨.val (tmV y),[(2,.box [.d (.v (.int .i64 q'))])],[2]⟩:=
 aL0 (ids:=[2]) (bor:=[]) (by kernel_rfl) hr (by
  obtain⟨_,_,h3⟩:=bR0 (look:=fun _=>none) (v:=tmV y) rfl
  cases hsc:cS0 (tmV y) <;> (simp only[bW0,mapO,h3,aZ0,hsc,List.all_cons,List.all_nil,Bool.and_true];rfl))
theorem callHf (rec:Rec)(q q':Int)(y:Tm)(o0 o1 o3 o4:O)(els:List (List D))(rest:List O)(a b d:Int)(s:ByteArray)(ud:D)(slot:Nat)(hr:rec (.call 245 [.agg [.d (.v (.int .i64 a)),.d (.v (.int .i64 b)),.d (.v (.string s)),.d ud,.d (.s 5 els)],iV d,.c (.ptr 0 0)] [.box [.d (.v (.int .i64 q))]])=some (.ret [tmV y] [.box [.d (.v (.int .i64 q'))]])) :
  cH0 rec (lk (o0::o1 :: .box [.d (.v (.int .i64 q))]::o3::o4 :: .arr 5 els::rest)) slot 245 [.agg [.d (.v (.int .i64 a)),.d (.v (.int .i64 b)),.d (.v (.string s)),.d ud,.own 5],iV d,.c (.ptr 2 0)]=some ⟨.val (tmV y),[(2,.box [.d (.v (.int .i64 q'))]),(5,.gone)],[2,5]⟩:=
 aL0 (ids:=[2]) (bor:=[5]) (by kernel_rfl) hr (by
  obtain⟨_,_,h3⟩:=bR0 (look:=fun _=>none) (v:=tmV y) rfl
  cases hsc:cS0 (tmV y) <;> (simp only[bW0,mapO,h3,aZ0,hsc,List.all_cons,List.all_nil,Bool.and_true];rfl))
theorem dE2 (h200:ext 200=none)(x:Tm)(q:Int)(d:Int)(ls:List Tm)(c:gK0 x=false):jM0 ext 3 (qB0 x d ls x.l.length) (qJ0 x q ls)=some (.ret [tmV (mkT x ls)] (iK0 q)):=by
 have hv:run prog ext (.call 200 [tmV (mkT x ls)] [])=some (.ret [bV false] []):=by
  have:=nS1 ext h200 (mkT x ls)
  have e:gK0 (mkT x ls)=gK0 x:=rfl
  rw[this,e,c]
 unfold jM0
 cases ls with
 | nil=>
  simp only[tmV,mkT,mJ0,hM0,xG0,dV,iV,bV,qB0,qJ0,iK0,List.map_nil,cF0,cR0,sW0]at hv ⊢
  (rw[lM0];simp only[B197,qG0,sub,f197,↓reduceIte,zG])
  simp only[zS,zD,zT33,eS0,Int.lt_irrefl,hv,simprocAttr]
  (refine .trans ?_ rfl;kernel_rfl)
 | cons a r=>
  simp only[tmV,mkT,mJ0,List.map_cons,nJ0]at hv
  have hC:=fun o0 o1 o2 o3 o4 rest slot=>dE1 (run prog ext) o0 o1 o2 o3 o4 (tmD a::r.map tmD) rest x.op x.n x.s (aJ0 true 2 (x.u.map levD)) false slot hv
  simp only[tmV,mkT,mJ0,hM0,xG0,dV,iV,bV,qB0,qJ0,iK0,List.map_cons,cA0,bZ0,nJ0]at hC ⊢
  (rw[lM0];simp only[B197,qG0,sub,f197,↓reduceIte,zG])
  simp only[zS,zD,zT33,eS0,Int.lt_irrefl,hC,simprocAttr]
  (refine .trans ?_ rfl;kernel_rfl)
theorem wZ2 (h200:ext 200=none)(x y:Tm)(q q':Int)(d:Int)(ls:List Tm)(c:gK0 x=true)(hg:run prog ext (.call 245 [tmV (mkT x ls),iV d,.c (.ptr 0 0)] [.box [.d (.v (.int .i64 q))]])=some (.ret [tmV y] [.box [.d (.v (.int .i64 q'))]])) :
  jM0 ext 3 (qB0 x d ls x.l.length) (qJ0 x q ls)=some (.ret [tmV y] (iK0 q')):=by
 have hv:run prog ext (.call 200 [tmV (mkT x ls)] [])=some (.ret [bV true] []):=by
  have:=nS1 ext h200 (mkT x ls)
  have e:gK0 (mkT x ls)=gK0 x:=rfl
  rw[this,e,c]
 unfold jM0
 cases ls with
 | nil=>
  have hC:=fun rest slot=>callGf (run prog ext) q q' (mkT x []) y d slot rest hg
  have ey:tmV y = .agg [.d (.v (.int .i64 y.op)),.d (.v (.int .i64 y.n)),.d (.v (.string y.s)),.d y.uD,.d y.lD]:=rfl
  rw[ey]
  simp only[ey]at hC
  simp only[tmV,mkT,mJ0,hM0,xG0,dV,iV,bV,qB0,qJ0,iK0,List.map_nil,cF0,cR0,List.cons_append,List.nil_append,sW0]at hv hC ⊢
  (rw[lM0];simp only[B197,qG0,sub,f197,↓reduceIte,zG])
  simp only[zS,zD,zT33,eS0,hD0,gB0,Int.lt_irrefl,hv,hC,simprocAttr]
  (refine .trans ?_ rfl;kernel_rfl)
 | cons a r=>
  simp only[tmV,mkT,mJ0,List.map_cons,nJ0]at hv
  have hg':=hg
  have ey:tmV y = .agg [.d (.v (.int .i64 y.op)),.d (.v (.int .i64 y.n)),.d (.v (.string y.s)),.d y.uD,.d y.lD]:=rfl
  have em:tmV (mkT x (a::r)) = .agg [.d (.v (.int .i64 x.op)),.d (.v (.int .i64 x.n)),.d (.v (.string x.s)),.d (aJ0 true 2 (x.u.map levD)),.d (.s 5 (tmD a::r.map tmD))]:=rfl
  rw[em]at hg'
  have hC:=fun o0 o1 o2 o3 o4 rest slot=>dE1 (run prog ext) o0 o1 o2 o3 o4 (tmD a::r.map tmD) rest x.op x.n x.s (aJ0 true 2 (x.u.map levD)) true slot hv
  have hD:=fun o0 o1 o3 o4 rest slot=>callHf (run prog ext) q q' y o0 o1 o3 o4 (tmD a::r.map tmD) rest x.op x.n d x.s (aJ0 true 2 (x.u.map levD)) slot hg'
  rw[ey]
  simp only[ey]at hD
  simp only[hM0,xG0,dV,iV,bV,qB0,qJ0,iK0,List.map_cons,cA0,bZ0]at hC hD ⊢
  (rw[lM0];simp only[B197,qG0,sub,f197,↓reduceIte,zG])
  simp only[zS,zD,zT33,eS0,hD0,gB0,Int.lt_irrefl,hC,hD,simprocAttr]
  (refine .trans ?_ rfl;kernel_rfl)
theorem xG1 (hx:ext 197=none)(h198:ext 198=none)(h239:ext 239=none)(hc:iI0 ext)(h199:ext 199=none)(h200:ext 200=none)(up:Int→Int→Int→Int)
  (hg:∀ (y:Tm) (d:Int) (q:Int),gK0 y=true→0≤d→d<2^31→∃ y',run prog ext (.call 245 [tmV y,iV d,.c (.ptr 0 0)] [.box [.d (.v (.int .i64 q))]])=some (.ret [tmV y'] [.box [.d (.v (.int .i64 (up y.n d q)))]])):∀ (N:Nat) (x:Tm) (d:Int) (q:Int),x.sz≤N→0≤d→d+3*N<2^31→N<2^29 →
  ∃ y,run prog ext (.call 197 [tmV x,iV d,.c (.ptr 0 0),.c (.ptr 1 0)] (iK0 q))=some (.ret [tmV y] (iK0 (jA0 up N x d q)))
 | 0,x,d,q,h,_,_,_=>by have:=x.sz_pos;omega
 | N+1,x,d,q,h,h0,h1,hN=>by
  have hll:=x.len_lt
  have hr:=dM1 ext h198 h239 hc x.zu x.u (by have:=x.ulen_lt;omega) (fun u hu=>by have:=Tm.lev_lt hu;unfold Lev.sz at this;omega)
  have e:aJ0 x.zu 2 (x.u.map levD)=x.uD:=rfl
  rw[e]at hr
  have ha:=eR1 x.l.length (fun k s=>jM0 ext 3 (qB0 x d s.1 k) (qJ0 x s.2 s.1)) (fun k (s:List Tm × Int)=>s.1.length≤k∧s.2=(x.l.zipIdx.take k).foldl (fun q p=>jA0 up N p.1 (wr (d+binds x.op x.l.length p.2)) q) q)
   (fun o=>∃ y,o = .ret [tmV y] (iK0 (jA0 up (N+1) x d q))) (by omega) (fun k s hl hi=>by
    have hlt:k<x.l.length:=by omega
    have hk:x.l[k]? = some x.l[k]:=by simp[hlt]
    have hz:x.l.zipIdx[k]? = some (x.l[k],k):=by rw[List.getElem?_zipIdx,hk];simp
    have hbd:=zF0 x.op x.l.length k
    have hwd:wr (d+binds x.op x.l.length k)=d+binds x.op x.l.length k:=gL0 (by omega) (by omega)
    obtain⟨y,hy⟩:=xG1 hx h198 h239 hc h199 h200 up hg N x.l[k] (wr (d+binds x.op x.l.length k)) s.2 (by have:=Tm.sz_lt (List.mem_of_getElem? hk);omega) (by omega) (by omega) (by omega)
    refine⟨(s.1++[y],_),⟨by simp only[List.length_append,List.length_cons,List.length_nil];have:=hi.1;omega,?_⟩,fun out ho=>iD2 ext h199 x x.l[k] y s.2 _ d s.1 k (by have:=hi.1;omega) hk hl hy out ho⟩
    dsimp only
    rw[vG0 _ _ _ _ _ hz,hi.2]) (fun s hi=>by
    have e2:x.l.zipIdx.take x.l.length=x.l.zipIdx:=List.take_of_length_le (by rw[List.length_zipIdx];exact Nat.le_refl _)
    rw[e2]at hi
    rw[jA0,← hi.2]
    cases c:gK0 x with
    | true=>
     obtain⟨y',hy'⟩:=hg (mkT x s.1) d s.2 (by rw[eK1,c]) h0 (by omega)
     exact⟨_,wZ2 ext h200 x y' s.2 _ d s.1 c hy',y',rfl⟩
    | false=>exact⟨_,dE2 ext h200 x s.2 d s.1 c,_,rfl⟩) ([],q) ⟨Nat.le_refl _,rfl⟩
  obtain⟨o,h2,y,rfl⟩:=ha
  exact⟨y,sZ1 ext hx x q d hr _ h2⟩
theorem callKf (rec:Rec)(q q':Int)(t y:Tm)(ka kb:O)(slot:Nat)(hr:rec (.call 197 [tmV t,iV 0,.c (.ptr 0 0),.c (.ptr 1 0)] (iK0 q))=some (.ret [tmV y] (iK0 q'))) :
  cH0 rec (lk [.box [.d (.v (.int .i64 q))],ka,.box [.fn 245 [] [0]],kb,.box [.fn 197 [] [4,2]]]) slot 197 [tmV t,iV 0,.c (.ptr 4 0),.c (.ptr 2 0)]=some ⟨.val (tmV y),[(4,.box [.fn 197 [] [4,2]]),(2,.box [.fn 245 [] [0]]),(0,.box [.d (.v (.int .i64 q'))])],[4,2,0]⟩:=
 aL0 (ids:=[4,2,0]) (bor:=[]) (by kernel_rfl) hr (by
  obtain⟨_,_,h3⟩:=bR0 (look:=fun _=>none) (v:=tmV y) rfl
  cases hsc:cS0 (tmV y) <;> (simp only[bW0,mapO,h3,aZ0,hsc,List.all_cons,List.all_nil,Bool.and_true];rfl))
theorem pN1 (hx:ext 130=none)(x y:Tm)(q q':Int)(hr:run prog ext (.call 197 [tmV x,iV 0,.c (.ptr 0 0),.c (.ptr 1 0)] (iK0 q))=some (.ret [tmV y] (iK0 q'))) :
  run prog ext (.call 130 [tmV x,.c (.fn 245 [] [0])] [.box [.d (.v (.int .i64 q))]])=some (.ret [tmV y] [.box [.d (.v (.int .i64 q'))]]):=by
 have hC:=fun ka kb slot=>callKf (run prog ext) q q' x y ka kb slot hr
 (rw[enT hx func130 rfl];simp only[f130,zR,simprocAttr,zE])
 simp only[tmV,tmC,iV]at hC ⊢
 simp only[zS,zD,cE0,zT33,hD0,gB0,gT1,hC,simprocAttr]
 (refine .trans ?_ rfl;kernel_rfl)
def iJ0 (q:Bool):List O:=[.box [.fn 197 [] [0,1]],.box [.fn 201 [] [2,3,4]],.box [.d (.v (.int .i64 0))],.box [.d (.v (.int .i64 (-1)))],.box [.d (.v (.bool q))]]
def qA0 (x:Tm)(d:Int)(ls:List Tm)(k:Int):Env:=[(1,iV d),(2,.c (.ptr 0 0)),(3,.c (.ptr 1 0)),(4,.c (.ptr 5 0)),(6,.c (.ptr 6 0)),(7,mkV 7 (ls.map tmD)),(15,dV x.lD),(16,iV x.l.length),(17,iV k)]
def qI0 (x:Tm)(q:Bool)(ls:List Tm):List O:= .box [.fn 197 [] [0,1]] :: .box [.fn 201 [] [2,3,4]] :: .box [.d (.v (.int .i64 0))] :: .box [.d (.v (.int .i64 (-1)))] :: .box [.d (.v (.bool q))] :: .box (tmC (kI1 x)) :: .box (tmC zTm)::mkO 5 (ls.map tmD)
theorem dD1 (rec:Rec)(o0 o1 o2 o3 o4 o5 o6:O)(els:List (List D))(rest:List O)(a b:Int)(s:ByteArray)(ud:D)(bb:Bool)(slot:Nat)(hr:rec (.call 200 [.agg [.d (.v (.int .i64 a)),.d (.v (.int .i64 b)),.d (.v (.string s)),.d ud,.d (.s 5 els)]] [])=some (.ret [bV bb] [])) :
  cH0 rec (lk (o0::o1::o2::o3::o4::o5::o6 :: .arr 5 els::rest)) slot 200 [.agg [.d (.v (.int .i64 a)),.d (.v (.int .i64 b)),.d (.v (.string s)),.d ud,.own 7]]=some ⟨.val (bV bb),[],[7]⟩:=
 aL0 (ids:=[]) (bor:=[7]) (by kernel_rfl) hr (by kernel_rfl)
theorem sY1 (hx:ext 197=none)(x:Tm)(q:Bool)(d:Int)(hr:run prog ext (.call 198 [dV x.uD] [])=some (.ret [dV (aJ0 true 2 (x.u.map levD))] []))(out:Option Out)
  (h:jM0 ext 5 (qA0 x d [] 0) (qI0 x q [])=out):run prog ext (.call 197 [tmV x,iV d,.c (.ptr 0 0),.c (.ptr 1 0)] (iJ0 q))=out:=by
 unfold jM0 at h
 (rw[enT hx func197 rfl];simp only[f197,zR,simprocAttr,zE])
 simp only[tmV,tmC,dV,iV,iJ0,qA0,qI0,List.map_nil,cF0,cR0]at h hr ⊢
 simp only[zS,zD,zT33,zT30,zT31,hr,aI0,simprocAttr]
 (refine(aA0 ?_).trans h;kernel_rfl)
theorem callMb (rec:Rec)(q q':Bool)(t y:Tm)(e:Int)(slot:Nat)(rest:List O)(hr:rec (.call 197 [tmV t,iV e,.c (.ptr 0 0),.c (.ptr 1 0)] (iJ0 q))=some (.ret [tmV y] (iJ0 q'))) :
  cH0 rec (lk (iJ0 q++rest)) slot 197 [tmV t,iV e,.c (.ptr 0 0),.c (.ptr 1 0)]=some ⟨.val (tmV y),[(0,.box [.fn 197 [] [0,1]]),(1,.box [.fn 201 [] [2,3,4]]),(2,.box [.d (.v (.int .i64 0))]),(3,.box [.d (.v (.int .i64 (-1)))]),(4,.box [.d (.v (.bool q'))])],[0,1,2,3,4]⟩:=
 aL0 (ids:=[0,1,2,3,4]) (bor:=[]) (by kernel_rfl) hr (by
  obtain⟨_,_,h3⟩:=bR0 (look:=fun _=>none) (v:=tmV y) rfl
  cases hsc:cS0 (tmV y) <;> (simp only[bW0,mapO,h3,aZ0,hsc,List.all_cons,List.all_nil,Bool.and_true];rfl))
theorem iC2 (h199:ext 199=none)(x t y:Tm)(q q':Bool)(d:Int)(ls:List Tm)(k:Nat)(hb:ls.length<2^29)(hk:x.l[k]? = some t)(hl:(k:Int)<x.l.length)
  (hr:run prog ext (.call 197 [tmV t,iV (wr (d+binds x.op x.l.length k)),.c (.ptr 0 0),.c (.ptr 1 0)] (iJ0 q))=some (.ret [tmV y] (iJ0 q')))(out:Option Out)
  (h:jM0 ext 5 (qA0 x d (ls++[y]) (wr ((k:Int)+1))) (qI0 x q' (ls++[y]))=out):jM0 ext 5 (qA0 x d ls k) (qI0 x q ls)=out:=by
 have h0:(0:Int)≤k:=by omega
 have hB:run prog ext (.call 199 [tmV (kI1 x),iV k] [])=some (.ret [iV (binds x.op x.l.length k)] []):=kV1 ext h199 (kI1 x) k
 generalize binds x.op x.l.length k=bd at hB hr
 have hC:=fun rest slot=>callMb (run prog ext) q q' t y (wr (d+bd)) slot rest hr
 unfold jM0 at h ⊢
 cases ls with
 | nil=>
  simp only[tmV,tmC,dV,iV,qA0,qI0,iJ0,bC0 hl,List.map_cons,List.map_nil,cF0,cR0,List.cons_append,List.nil_append,aH0 y]at h hB hC ⊢
  (rw[lM0];simp only[B197,qG0,sub,f197,↓reduceIte,zG])
  simp only[zS,zD,zT33,bL0,hD0,gB0,aK0,aC0,aD0,Array.size,List.length,h0,hl,Int.toNat_natCast,hk,aH0 t,hB,hC,bsTm,no31,dL0,Nat.zero_le,simprocAttr]
  rw[aB0 _ _ _ _ (by kernel_rfl)]
  simp only[zS,zD,simprocAttr]
  (refine(aA0 ?_).trans h;kernel_rfl)
 | cons a r=>
  have hb':r.length+1≤1000000000:=by simp only[List.length_cons]at hb;omega
  simp only[tmV,tmC,dV,iV,qA0,qI0,iJ0,bC0 hl,List.map_append,List.map_cons,List.map_nil,cA0,bZ0,List.cons_append,List.nil_append,aH0 y]at h hB hC ⊢
  (rw[lM0];simp only[B197,qG0,sub,f197,↓reduceIte,zG])
  simp only[zS,zD,zT33,bL0,hD0,gB0,aK0,aC0,aD0,Array.size,List.length,h0,hl,Int.toNat_natCast,hk,aH0 t,hB,hC,bsTm,oo31,dP0,hb',simprocAttr]
  rw[aB0 _ _ _ _ (by kernel_rfl)]
  simp only[zS,zD,simprocAttr]
  (refine(aA0 ?_).trans h;kernel_rfl)
theorem callGb (rec:Rec)(q q':Bool)(t y:Tm)(e:Int)(slot:Nat)(rest:List O)(hr:rec (.call 201 [tmV t,iV e,.c (.ptr 0 0),.c (.ptr 1 0),.c (.ptr 2 0)] [.box [.d (.v (.int .i64 0))],.box [.d (.v (.int .i64 (-1)))],.box [.d (.v (.bool q))]])=some (.ret [tmV y] [.box [.d (.v (.int .i64 0))],.box [.d (.v (.int .i64 (-1)))],.box [.d (.v (.bool q'))]])) :
  cH0 rec (lk (iJ0 q++rest)) slot 201 [tmV t,iV e,.c (.ptr 2 0),.c (.ptr 3 0),.c (.ptr 4 0)]=some ⟨.val (tmV y),[(2,.box [.d (.v (.int .i64 0))]),(3,.box [.d (.v (.int .i64 (-1)))]),(4,.box [.d (.v (.bool q'))])],[2,3,4]⟩:=
 aL0 (ids:=[2,3,4]) (bor:=[]) (by kernel_rfl) hr (by
  obtain⟨_,_,h3⟩:=bR0 (look:=fun _=>none) (v:=tmV y) rfl
  cases hsc:cS0 (tmV y) <;> (simp only[bW0,mapO,h3,aZ0,hsc,List.all_cons,List.all_nil,Bool.and_true];rfl))
theorem callHb (rec:Rec)(q q':Bool)(y:Tm)(o0 o1 o3 o4:O)(els:List (List D))(rest:List O)(a b d:Int)(s:ByteArray)(ud:D)(slot:Nat)(hr:rec (.call 201 [.agg [.d (.v (.int .i64 a)),.d (.v (.int .i64 b)),.d (.v (.string s)),.d ud,.d (.s 5 els)],iV d,.c (.ptr 0 0),.c (.ptr 1 0),.c (.ptr 2 0)] [.box [.d (.v (.int .i64 0))],.box [.d (.v (.int .i64 (-1)))],.box [.d (.v (.bool q))]])=some (.ret [tmV y] [.box [.d (.v (.int .i64 0))],.box [.d (.v (.int .i64 (-1)))],.box [.d (.v (.bool q'))]])) :
  cH0 rec (lk (o0::o1 :: .box [.d (.v (.int .i64 0))] :: .box [.d (.v (.int .i64 (-1)))] :: .box [.d (.v (.bool q))]::o3::o4 :: .arr 5 els::rest)) slot 201 [.agg [.d (.v (.int .i64 a)),.d (.v (.int .i64 b)),.d (.v (.string s)),.d ud,.own 7],iV d,.c (.ptr 2 0),.c (.ptr 3 0),.c (.ptr 4 0)]=some ⟨.val (tmV y),[(2,.box [.d (.v (.int .i64 0))]),(3,.box [.d (.v (.int .i64 (-1)))]),(4,.box [.d (.v (.bool q'))]),(7,.gone)],[2,3,4,7]⟩:=
 aL0 (ids:=[2,3,4]) (bor:=[7]) (by kernel_rfl) hr (by
  obtain⟨_,_,h3⟩:=bR0 (look:=fun _=>none) (v:=tmV y) rfl
  cases hsc:cS0 (tmV y) <;> (simp only[bW0,mapO,h3,aZ0,hsc,List.all_cons,List.all_nil,Bool.and_true];rfl))
theorem dD2 (h200:ext 200=none)(x:Tm)(q:Bool)(d:Int)(ls:List Tm)(c:gK0 x=false):jM0 ext 5 (qA0 x d ls x.l.length) (qI0 x q ls)=some (.ret [tmV (mkT x ls)] (iJ0 q)):=by
 have hv:run prog ext (.call 200 [tmV (mkT x ls)] [])=some (.ret [bV false] []):=by
  have:=nS1 ext h200 (mkT x ls)
  have e:gK0 (mkT x ls)=gK0 x:=rfl
  rw[this,e,c]
 unfold jM0
 cases ls with
 | nil=>
  simp only[tmV,mkT,mJ0,hM0,xG0,dV,iV,bV,qA0,qI0,iJ0,List.map_nil,cF0,cR0,sW0]at hv ⊢
  (rw[lM0];simp only[B197,qG0,sub,f197,↓reduceIte,zG])
  simp only[zS,zD,zT33,eS0,Int.lt_irrefl,hv,simprocAttr]
  (refine .trans ?_ rfl;kernel_rfl)
 | cons a r=>
  simp only[tmV,mkT,mJ0,List.map_cons,nJ0]at hv
  have hC:=fun o0 o1 o2 o3 o4 o5 o6 rest slot=>dD1 (run prog ext) o0 o1 o2 o3 o4 o5 o6 (tmD a::r.map tmD) rest x.op x.n x.s (aJ0 true 2 (x.u.map levD)) false slot hv
  simp only[tmV,mkT,mJ0,hM0,xG0,dV,iV,bV,qA0,qI0,iJ0,List.map_cons,cA0,bZ0,nJ0]at hC ⊢
  (rw[lM0];simp only[B197,qG0,sub,f197,↓reduceIte,zG])
  simp only[zS,zD,zT33,eS0,Int.lt_irrefl,hC,simprocAttr]
  (refine .trans ?_ rfl;kernel_rfl)
theorem wY2 (h200:ext 200=none)(x y:Tm)(q q':Bool)(d:Int)(ls:List Tm)(c:gK0 x=true)(hg:run prog ext (.call 201 [tmV (mkT x ls),iV d,.c (.ptr 0 0),.c (.ptr 1 0),.c (.ptr 2 0)] [.box [.d (.v (.int .i64 0))],.box [.d (.v (.int .i64 (-1)))],.box [.d (.v (.bool q))]])=some (.ret [tmV y] [.box [.d (.v (.int .i64 0))],.box [.d (.v (.int .i64 (-1)))],.box [.d (.v (.bool q'))]])) :
  jM0 ext 5 (qA0 x d ls x.l.length) (qI0 x q ls)=some (.ret [tmV y] (iJ0 q')):=by
 have hv:run prog ext (.call 200 [tmV (mkT x ls)] [])=some (.ret [bV true] []):=by
  have:=nS1 ext h200 (mkT x ls)
  have e:gK0 (mkT x ls)=gK0 x:=rfl
  rw[this,e,c]
 unfold jM0
 cases ls with
 | nil=>
  have hC:=fun rest slot=>callGb (run prog ext) q q' (mkT x []) y d slot rest hg
  have ey:tmV y = .agg [.d (.v (.int .i64 y.op)),.d (.v (.int .i64 y.n)),.d (.v (.string y.s)),.d y.uD,.d y.lD]:=rfl
  rw[ey]
  simp only[ey]at hC
  simp only[tmV,mkT,mJ0,hM0,xG0,dV,iV,bV,qA0,qI0,iJ0,List.map_nil,cF0,cR0,List.cons_append,List.nil_append,sW0]at hv hC ⊢
  (rw[lM0];simp only[B197,qG0,sub,f197,↓reduceIte,zG])
  simp only[zS,zD,zT33,eS0,hD0,gB0,Int.lt_irrefl,hv,hC,simprocAttr]
  (refine .trans ?_ rfl;kernel_rfl)
 | cons a r=>
  simp only[tmV,mkT,mJ0,List.map_cons,nJ0]at hv
  have hg':=hg
  have ey:tmV y = .agg [.d (.v (.int .i64 y.op)),.d (.v (.int .i64 y.n)),.d (.v (.string y.s)),.d y.uD,.d y.lD]:=rfl
  have em:tmV (mkT x (a::r)) = .agg [.d (.v (.int .i64 x.op)),.d (.v (.int .i64 x.n)),.d (.v (.string x.s)),.d (aJ0 true 2 (x.u.map levD)),.d (.s 5 (tmD a::r.map tmD))]:=rfl
  rw[em]at hg'
  have hC:=fun o0 o1 o2 o3 o4 o5 o6 rest slot=>dD1 (run prog ext) o0 o1 o2 o3 o4 o5 o6 (tmD a::r.map tmD) rest x.op x.n x.s (aJ0 true 2 (x.u.map levD)) true slot hv
  have hD:=fun o0 o1 o3 o4 rest slot=>callHb (run prog ext) q q' y o0 o1 o3 o4 (tmD a::r.map tmD) rest x.op x.n d x.s (aJ0 true 2 (x.u.map levD)) slot hg'
  rw[ey]
  simp only[ey]at hD
  simp only[hM0,xG0,dV,iV,bV,qA0,qI0,iJ0,List.map_cons,cA0,bZ0]at hC hD ⊢
  (rw[lM0];simp only[B197,qG0,sub,f197,↓reduceIte,zG])
  simp only[zS,zD,zT33,eS0,hD0,gB0,Int.lt_irrefl,hC,hD,simprocAttr]
  (refine .trans ?_ rfl;kernel_rfl)
theorem xF1 (hx:ext 197=none)(h198:ext 198=none)(h239:ext 239=none)(hc:iI0 ext)(h199:ext 199=none)(h200:ext 200=none)(up:Int→Int→Bool→Bool)
  (hg:∀ (y:Tm) (d:Int) (q:Bool),gK0 y=true→0≤d→d<2^31→∃ y',run prog ext (.call 201 [tmV y,iV d,.c (.ptr 0 0),.c (.ptr 1 0),.c (.ptr 2 0)] [.box [.d (.v (.int .i64 0))],.box [.d (.v (.int .i64 (-1)))],.box [.d (.v (.bool q))]])=some (.ret [tmV y'] [.box [.d (.v (.int .i64 0))],.box [.d (.v (.int .i64 (-1)))],.box [.d (.v (.bool (up y.n d q)))]])):∀ (N:Nat) (x:Tm) (d:Int) (q:Bool),x.sz≤N→0≤d→d+3*N<2^31→N<2^29 →
  ∃ y,run prog ext (.call 197 [tmV x,iV d,.c (.ptr 0 0),.c (.ptr 1 0)] (iJ0 q))=some (.ret [tmV y] (iJ0 (jA0 up N x d q)))
 | 0,x,d,q,h,_,_,_=>by have:=x.sz_pos;omega
 | N+1,x,d,q,h,h0,h1,hN=>by
  have hll:=x.len_lt
  have hr:=dM1 ext h198 h239 hc x.zu x.u (by have:=x.ulen_lt;omega) (fun u hu=>by have:=Tm.lev_lt hu;unfold Lev.sz at this;omega)
  have e:aJ0 x.zu 2 (x.u.map levD)=x.uD:=rfl
  rw[e]at hr
  have ha:=eR1 x.l.length (fun k s=>jM0 ext 5 (qA0 x d s.1 k) (qI0 x s.2 s.1)) (fun k (s:List Tm × Bool)=>s.1.length≤k∧s.2=(x.l.zipIdx.take k).foldl (fun q p=>jA0 up N p.1 (wr (d+binds x.op x.l.length p.2)) q) q)
   (fun o=>∃ y,o = .ret [tmV y] (iJ0 (jA0 up (N+1) x d q))) (by omega) (fun k s hl hi=>by
    have hlt:k<x.l.length:=by omega
    have hk:x.l[k]? = some x.l[k]:=by simp[hlt]
    have hz:x.l.zipIdx[k]? = some (x.l[k],k):=by rw[List.getElem?_zipIdx,hk];simp
    have hbd:=zF0 x.op x.l.length k
    have hwd:wr (d+binds x.op x.l.length k)=d+binds x.op x.l.length k:=gL0 (by omega) (by omega)
    obtain⟨y,hy⟩:=xF1 hx h198 h239 hc h199 h200 up hg N x.l[k] (wr (d+binds x.op x.l.length k)) s.2 (by have:=Tm.sz_lt (List.mem_of_getElem? hk);omega) (by omega) (by omega) (by omega)
    refine⟨(s.1++[y],_),⟨by simp only[List.length_append,List.length_cons,List.length_nil];have:=hi.1;omega,?_⟩,fun out ho=>iC2 ext h199 x x.l[k] y s.2 _ d s.1 k (by have:=hi.1;omega) hk hl hy out ho⟩
    dsimp only
    rw[vG0 _ _ _ _ _ hz,hi.2]) (fun s hi=>by
    have e2:x.l.zipIdx.take x.l.length=x.l.zipIdx:=List.take_of_length_le (by rw[List.length_zipIdx];exact Nat.le_refl _)
    rw[e2]at hi
    rw[jA0,← hi.2]
    cases c:gK0 x with
    | true=>
     obtain⟨y',hy'⟩:=hg (mkT x s.1) d s.2 (by rw[eK1,c]) h0 (by omega)
     exact⟨_,wY2 ext h200 x y' s.2 _ d s.1 c hy',y',rfl⟩
    | false=>exact⟨_,dD2 ext h200 x s.2 d s.1 c,_,rfl⟩) ([],q) ⟨Nat.le_refl _,rfl⟩
  obtain⟨o,h2,y,rfl⟩:=ha
  exact⟨y,sY1 ext hx x q d hr _ h2⟩
theorem callKb (rec:Rec)(q q':Bool)(t y:Tm)(ka kb:O)(slot:Nat)(hr:rec (.call 197 [tmV t,iV 0,.c (.ptr 0 0),.c (.ptr 1 0)] (iJ0 q))=some (.ret [tmV y] (iJ0 q'))) :
  cH0 rec (lk [.box [.d (.v (.int .i64 0))],.box [.d (.v (.int .i64 (-1)))],.box [.d (.v (.bool q))],ka,.box [.fn 201 [] [0,1,2]],kb,.box [.fn 197 [] [6,4]]]) slot 197 [tmV t,iV 0,.c (.ptr 6 0),.c (.ptr 4 0)]=some ⟨.val (tmV y),[(6,.box [.fn 197 [] [6,4]]),(4,.box [.fn 201 [] [0,1,2]]),(0,.box [.d (.v (.int .i64 0))]),(1,.box [.d (.v (.int .i64 (-1)))]),(2,.box [.d (.v (.bool q'))])],[6,4,0,1,2]⟩:=
 aL0 (ids:=[6,4,0,1,2]) (bor:=[]) (by kernel_rfl) hr (by
  obtain⟨_,_,h3⟩:=bR0 (look:=fun _=>none) (v:=tmV y) rfl
  cases hsc:cS0 (tmV y) <;> (simp only[bW0,mapO,h3,aZ0,hsc,List.all_cons,List.all_nil,Bool.and_true];rfl))
theorem pM1 (hx:ext 130=none)(x y:Tm)(q q':Bool)(hr:run prog ext (.call 197 [tmV x,iV 0,.c (.ptr 0 0),.c (.ptr 1 0)] (iJ0 q))=some (.ret [tmV y] (iJ0 q'))) :
  run prog ext (.call 130 [tmV x,.c (.fn 201 [] [0,1,2])] [.box [.d (.v (.int .i64 0))],.box [.d (.v (.int .i64 (-1)))],.box [.d (.v (.bool q))]])=some (.ret [tmV y] [.box [.d (.v (.int .i64 0))],.box [.d (.v (.int .i64 (-1)))],.box [.d (.v (.bool q'))]]):=by
 have hC:=fun ka kb slot=>callKb (run prog ext) q q' x y ka kb slot hr
 (rw[enT hx func130 rfl];simp only[f130,zR,simprocAttr,zE])
 simp only[tmV,tmC,iV]at hC ⊢
 simp only[zS,zD,cE0,zT33,hD0,gB0,gT1,hC,simprocAttr]
 (refine .trans ?_ rfl;kernel_rfl)
def upF (n d q:Int):Int:=if wr (wr (n - d)+1)>q then wr (wr (n - d)+1) else q
theorem clo245 (hx:ext 245=none)(x:Tm)(d q:Int):run prog ext (.call 245 [tmV x,iV d,.c (.ptr 0 0)] [.box [.d (.v (.int .i64 q))]])=some (.ret [tmV x] [.box [.d (.v (.int .i64 (upF x.n d q)))]]):=by
 unfold upF
 (rw[enT hx func245 rfl];simp only[f245,zR,simprocAttr,zE])
 simp only[tmV,tmC,iV]
 simp only[zS,zD,zT33,zT3,maxA,simprocAttr]
 (refine .trans ?_ rfl;kernel_rfl)
theorem cG2 (rec:Rec)(q q':Int)(t y:Tm)(o0:O)(slot:Nat)(hr:rec (.call 130 [tmV t,.c (.fn 245 [] [0])] [.box [.d (.v (.int .i64 q))]])=some (.ret [tmV y] [.box [.d (.v (.int .i64 q'))]])) :
  cH0 rec (lk [o0,.box [.d (.v (.int .i64 q))]]) slot 130 [tmV t,.c (.fn 245 [] [1])]=some ⟨.val (tmV y),[(1,.box [.d (.v (.int .i64 q'))])],[1]⟩:=
 aL0 (ids:=[1]) (bor:=[]) (by kernel_rfl) hr (by
  obtain⟨_,_,h3⟩:=bR0 (look:=fun _=>none) (v:=tmV y) rfl
  cases hsc:cS0 (tmV y) <;> (simp only[bW0,mapO,h3,aZ0,hsc,List.all_cons,List.all_nil,Bool.and_true];rfl))
theorem qM2 (hx:ext 216=none)(x y:Tm)(q:Int)(hr:run prog ext (.call 130 [tmV x,.c (.fn 245 [] [0])] [.box [.d (.v (.int .i64 0))]])=some (.ret [tmV y] [.box [.d (.v (.int .i64 q))]])):run prog ext (.call 216 [tmV x] [])=some (.ret [iV q] []):=by
 have hC:=fun o0 slot=>cG2 (run prog ext) 0 q x y o0 slot hr
 (rw[enT hx func216 rfl];simp only[f216,zR,simprocAttr,zE])
 simp only[tmV,tmC,iV]at hC ⊢
 simp only[zS,zD,cE0,zT33,zT3,hC,simprocAttr]
 (refine .trans ?_ rfl;kernel_rfl)
theorem freeP (hx:ext 216=none)(h130:ext 130=none)(h245:ext 245=none)(h197:ext 197=none)(h198:ext 198=none)(h239:ext 239=none)(hc:iI0 ext)(h199:ext 199=none)(h200:ext 200=none)(x:Tm)(hs:x.sz<2^28) :
  run prog ext (.call 216 [tmV x] [])=some (.ret [iV (jA0 upF x.sz x 0 0)] []):=by
 obtain⟨y,hy⟩:=xG1 ext h197 h198 h239 hc h199 h200 upF (fun y d q _ _ _=>⟨y,clo245 ext h245 y d q⟩) x.sz x 0 0 (Nat.le_refl _) (Int.le_refl _) (by omega) (by omega)
 exact qM2 ext hx x y _ (pN1 ext h130 x y 0 _ hy)
def upB (n d:Int)(q:Bool):Bool:=if 0≤wr (n - d) then(if q=true then decide (0≤wr (wr (n + -1) - d)) else false) else q
theorem oX2 (hx:ext 201=none)(x:Tm)(d:Int)(q:Bool):∃ y,run prog ext (.call 201 [tmV x,iV d,.c (.ptr 0 0),.c (.ptr 1 0),.c (.ptr 2 0)] [.box [.d (.v (.int .i64 0))],.box [.d (.v (.int .i64 (-1)))],.box [.d (.v (.bool q))]])=some (.ret [tmV y] [.box [.d (.v (.int .i64 0))],.box [.d (.v (.int .i64 (-1)))],.box [.d (.v (.bool (upB x.n d q)))]]):=by
 unfold upB
 by_cases g:0≤wr (x.n - d)
 ·rw[if_pos g]
  refine⟨.mk x.op (wr (x.n + -1)) x.s x.u x.zu x.l x.zl,?_⟩
  cases q
  all_goals
   (rw[enT hx func201 rfl];simp only[f201,zR,simprocAttr,zE])
   simp only[tmV,mJ0,iV]
   simp only[tmC]
   simp only[zS,zD,zT33,rK1,jY1,zT3,ge_iff_le,g,simprocAttr]
   (refine .trans ?_ rfl;kernel_rfl)
 ·rw[if_neg g]
  refine⟨x,?_⟩
  (rw[enT hx func201 rfl];simp only[f201,zR,simprocAttr,zE])
  simp only[tmV,iV]
  simp only[tmC]
  simp only[zS,zD,zT33,zT3,ge_iff_le,g,simprocAttr]
  (refine .trans ?_ rfl;kernel_rfl)
theorem sH1 (rec:Rec)(q':Bool)(t y:Tm)(o0 o3:O)(slot:Nat)(hr:rec (.call 130 [tmV t,.c (.fn 201 [] [0,1,2])] [.box [.d (.v (.int .i64 0))],.box [.d (.v (.int .i64 (-1)))],.box [.d (.v (.bool true))]])=some (.ret [tmV y] [.box [.d (.v (.int .i64 0))],.box [.d (.v (.int .i64 (-1)))],.box [.d (.v (.bool q'))]])) :
  cH0 rec (lk [o0,.box [.d (.v (.int .i64 (-1)))],.box [.d (.v (.int .i64 0))],o3,.box [.d (.v (.bool true))]]) slot 130 [tmV t,.c (.fn 201 [] [2,1,4])]=some ⟨.val (tmV y),[(2,.box [.d (.v (.int .i64 0))]),(1,.box [.d (.v (.int .i64 (-1)))]),(4,.box [.d (.v (.bool q'))])],[2,1,4]⟩:=
 aL0 (ids:=[2,1,4]) (bor:=[]) (by kernel_rfl) hr (by
  obtain⟨_,_,h3⟩:=bR0 (look:=fun _=>none) (v:=tmV y) rfl
  cases hsc:cS0 (tmV y) <;> (simp only[bW0,mapO,h3,aZ0,hsc,List.all_cons,List.all_nil,Bool.and_true];rfl))
theorem zF1 (hx:ext 132=none)(x y:Tm)(q:Bool)(hr:run prog ext (.call 130 [tmV x,.c (.fn 201 [] [0,1,2])] [.box [.d (.v (.int .i64 0))],.box [.d (.v (.int .i64 (-1)))],.box [.d (.v (.bool true))]])=some (.ret [tmV y] [.box [.d (.v (.int .i64 0))],.box [.d (.v (.int .i64 (-1)))],.box [.d (.v (.bool q))]])) :
  ∃ z,run prog ext (.call 132 [tmV x,iV (-1),iV 0] [])=some (.ret [tmV z,bV q] []):=by
 have hC:=fun o1 o3 slot=>sH1 (run prog ext) q x y o1 o3 slot hr
 cases q with
 | true=>
  refine⟨y,?_⟩
  (rw[enT hx func132 rfl];simp only[f132,zR,simprocAttr,zE])
  simp only[tmV,tmC,iV,bV]at hC ⊢
  simp only[zS,zD,cE0,zT33,rK1,jY1,aG2,zT3,hC,simprocAttr]
  (refine .trans ?_ rfl;kernel_rfl)
 | false=>
  refine⟨zTm,?_⟩
  (rw[enT hx func132 rfl];simp only[f132,zR,simprocAttr,zE])
  simp only[tmV,xG0,iV,bV]at hC ⊢
  simp only[tmC]at hC ⊢
  simp only[zS,zD,cE0,zT33,rK1,jY1,aG2,zT3,hC,simprocAttr]
  (refine .trans ?_ rfl;kernel_rfl)
theorem cC2 (hx:ext 184=none)(x z:Tm)(q:Bool)(hr:run prog ext (.call 132 [tmV x,iV (-1),iV 0] [])=some (.ret [tmV z,bV q] [])):run prog ext (.call 184 [tmV x] [])=some (.ret [bV (!q)] []):=by
 (rw[enT hx func184 rfl];simp only[f184,zR,simprocAttr,zE])
 simp only[tmV,tmC,iV,bV]at hr ⊢
 simp only[zS,zD,zT33,hr,aF0,simprocAttr]
 (refine .trans ?_ rfl;kernel_rfl)
theorem boundP (hx:ext 184=none)(h132:ext 132=none)(h130:ext 130=none)(h201:ext 201=none)(h197:ext 197=none)(h198:ext 198=none)(h239:ext 239=none)(hc:iI0 ext)(h199:ext 199=none)(h200:ext 200=none)(x:Tm)(hs:x.sz<2^28) :
  run prog ext (.call 184 [tmV x] [])=some (.ret [bV (!jA0 upB x.sz x 0 true)] []):=by
 obtain⟨y,hy⟩:=xF1 ext h197 h198 h239 hc h199 h200 upB (fun y d q _ _ _=>oX2 ext h201 y d q) x.sz x 0 true (Nat.le_refl _) (Int.le_refl _) (by omega) (by omega)
 obtain⟨z,hz⟩:=zF1 ext h132 x y _ (pM1 ext h130 x y true _ hy)
 exact cC2 ext hx x z _ hz
end
end Go.Proofs.YteenjodhmppgjaaGreatDoor.Am
