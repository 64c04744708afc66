/- A part of the proof of a card. No conditions. -/
import Derived.Test.YteenjodhmppgjaaGreatDoorPb8
import Derived.Test.YteenjodhmppgjaaGreatDoorPa4
set_option linter.all false
set_option maxHeartbeats 16000000
set_option maxRecDepth 10000
namespace Go.Proofs.YteenjodhmppgjaaGreatDoor.Am
open Go.Proofs.Tryz
section
open Go
variable (ext:Ext)
theorem sY1 (hx:ext 10=none)(x:Tb)(q:Ask)(b1 b2:Bool)(r13:run prog ext (.call 13 [tbV x] [])=some (.ret [bV b1] []))(r38:run prog ext (.call 38 [askV q] [])=some (.ret [bV b2] []))
  (r14:run prog ext (.call 14 [] [])=some (.ret [bV true] []))(h:b1=true∨b2=true):run prog ext (.call 10 [tbV x,askV q] [])=some (.ret [bV true] []):=by
 cases b1 with
 | true=>
  (rw[enT hx func10 rfl];simp only[f10,zR,Nat.zero_le,simprocAttr,zE])
  simp only[tbV,tbC,askV,askC,bV]at r13 r38 r14 ⊢
  simp only[zS,zD,aB0,aA0,zT67,zT24,zT9,zT30,zT3,r13,r14,simprocAttr]
  (refine .trans ?_ rfl;kernel_rfl)
 | false=>
  have h2:b2=true:=by rcases h with h | h;(· cases h);(· exact h)
  rw[h2]at r38
  (rw[enT hx func10 rfl];simp only[f10,zR,Nat.zero_le,simprocAttr,zE])
  simp only[tbV,tbC,askV,askC,bV]at r13 r38 r14 ⊢
  simp only[zS,zD,aB0,aA0,zT67,zT24,zT9,zT30,zT3,r13,r38,r14,simprocAttr]
  (refine .trans ?_ rfl;kernel_rfl)
noncomputable def B10 : Code:=f10.body.getD .skip
noncomputable def Q10 (p:List Nat):Code:=sub B10 p
def pv (i:Nat):V:= .c (.ptr i 0)
theorem xW0 {all:Array Oper}{env:Env}{loc:List O}{fps:List (List Nat × List Nat)} (h:nZ0 all fps=true):uW0 all (some (env,loc,fps))=some (env,loc):=by simp only[uW0,h,if_true]
theorem pa0 (x:Tb)(q:Ask):dM0 (goC prog (run prog ext) 161 (Q10 [0]) [(0,tbV x),(1,askV q)] []) [(2,pv 0),(3,pv 1)] [.box (tbC x),.box (askC q)]:=by
 simp only[Q10,B10,sub,f10,↓reduceIte,zG]
 simp only[tbV,tbC,askV,askC,pv]
 simp only[dM0,goC,eJ0,zS,zD,aB0,aA0,zT67,zT24,eU0,dJ0,cN0,jR0,dK0,dL0,zT3,simprocAttr]
 exact aD0 rfl (aD0 rfl (bR0 _))
theorem pa1 (x:Tb)(q:Ask)(r13:run prog ext (.call 13 [tbV x] [])=some (.ret [bV false] []))(r38:run prog ext (.call 38 [askV q] [])=some (.ret [bV false] [])) :
  dM0 (goC prog (run prog ext) 161 (Q10 [1,0]) [(2,pv 0),(3,pv 1)] [.box (tbC x),.box (askC q)]) [(2,pv 0),(3,pv 1)] [.box (tbC x),.box (askC q)]:=by
 simp only[Q10,B10,sub,f10,↓reduceIte,zG]
 simp only[tbV,tbC,askV,askC,pv,bV]at r13 r38 ⊢
 simp only[dM0,goC,eJ0,zS,zD,aB0,aA0,zT67,zT24,zT9,zT30,zT3,r13,simprocAttr]
 simp only[dM0,goC,eJ0,zS,zD,aB0,aA0,zT67,zT24,zT9,zT30,zT3,r38,simprocAttr]
 exact aD0 rfl (aD0 rfl (bR0 _))
theorem bsTm4 {look:Look}{slot:Nat}{a1 b1 a2 b2 a3 b3 a4 b4:Int}{s1 s2 s3 s4:ByteArray}{x1 y1 x2 y2 x3 y3 x4 y4:D} :
  aS0 prog look slot 31 4 [(0,.agg [.d (.v (.int .i64 a1)),.d (.v (.int .i64 b1)),.d (.v (.string s1)),.d x1,.d y1]),(1,.agg [.d (.v (.int .i64 a2)),.d (.v (.int .i64 b2)),.d (.v (.string s2)),.d x2,.d y2]),(2,.agg [.d (.v (.int .i64 a3)),.d (.v (.int .i64 b3)),.d (.v (.string s3)),.d x3,.d y3]),(3,.agg [.d (.v (.int .i64 a4)),.d (.v (.int .i64 b4)),.d (.v (.string s4)),.d x4,.d y4])] =
   some ⟨.val (.c (.own slot)),[(slot,.arr 5 [[.v (.int .i64 a1),.v (.int .i64 b1),.v (.string s1),x1,y1],[.v (.int .i64 a2),.v (.int .i64 b2),.v (.string s2),x2,y2],[.v (.int .i64 a3),.v (.int .i64 b3),.v (.string s3),x3,y3],[.v (.int .i64 a4),.v (.int .i64 b4),.v (.string s4),x4,y4]])],[]⟩:=by
 simp only[aS0,kW0,lH0,List.map_cons,List.map_nil,hZ0,cells,List.all_cons,List.all_nil,okC,Bool.and_self,if_true,toDs,toD,List.append_nil]
 rw[if_pos]
 ·rfl
 ·exact⟨rfl,by decide,by decide,rfl,i31⟩
theorem rD1 (rec:Rec)(o0 o1 o2 o3 o4 o5 o6 o16 o17:O)(l m:List (List D))(slot:Nat)(hr:rec (.call 52 [dV (.s 5 l),dV (.s 5 m)] [])=some (.ret [bV true] [])) :
  dD0 rec (lk [o0,o1,o2,o3,o4,o5,o6,.hole,.hole,.hole,.hole,.hole,.hole,.hole,.hole,.arr 5 l,o16,o17,.arr 5 m]) slot 52 [.c (.own 15),.c (.own 18)]=some ⟨.val (bV true),[],[15,18]⟩:=
 cF0 (ids:=[]) (bor:=[15,18]) (by kernel_rfl) hr (by kernel_rfl)
theorem pa3 (x:Tb)(q:Ask)  (a:Tm)(e:Int)(bb:Bool)(r:run prog ext (.call 32 [tbV x,sV q.s,dV q.d] [])=some (.ret [tmV a,iV e] [])) :
  dM0 (goC prog (run prog ext) 161 (Q10 [1,1,0]) [(2,pv 0),(3,pv 1)] [.box (tbC x),.box (askC q)]) [(2,pv 0),(3,pv 1),(5,pv 2)] [.box (tbC x),.box (askC q),.box (tmC a)]:=by
 simp only[Q10,B10,sub,f10,↓reduceIte,zG]
 simp only[tbV,tbC,askC,sV,dV,iV,bV,tmV,tmC,levV,levC,pv]at r ⊢
 simp only[dM0,goC,eJ0,zS,zD,aB0,aA0,zT67,zT24,zT9,zT30,zT31,zT33,zT36,zT34,zT27,eU0,dJ0,cN0,jR0,dK0,dL0,zT3,r,aL0,simprocAttr]
 exact aD0 rfl (aD0 rfl (aD0 rfl (bR0 _)))
theorem pa4 (x:Tb)(q:Ask)(o2:O)(a:Tm)(e:Int)(bb:Bool)(r:run prog ext (.call 34 [tbV x,sV q.s,dV q.d] [])=some (.ret [tmV a,bV bb,iV e] [])) :
  dM0 (goC prog (run prog ext) 161 (Q10 [1,1,1,0]) [(2,pv 0),(3,pv 1),(5,pv 2)] [.box (tbC x),.box (askC q),o2]) [(2,pv 0),(3,pv 1),(5,pv 2),(7,pv 3)] [.box (tbC x),.box (askC q),o2,.box (tmC a)]:=by
 simp only[Q10,B10,sub,f10,↓reduceIte,zG]
 simp only[tbV,tbC,askC,sV,dV,iV,bV,tmV,tmC,levV,levC,pv]at r ⊢
 simp only[dM0,goC,eJ0,zS,zD,aB0,aA0,zT67,zT24,zT9,zT30,zT31,zT33,zT36,zT34,zT27,eU0,dJ0,cN0,jR0,dK0,dL0,zT3,r,nW0,simprocAttr]
 exact aD0 rfl (aD0 rfl (aD0 rfl (aD0 rfl (bR0 _))))
theorem pa5 (x:Tb)(q:Ask)(o2:O)(o3:O)(a:Tm)(e:Int)(bb:Bool)(r:run prog ext (.call 39 [tbV x,sV q.s,dV q.d] [])=some (.ret [tmV a,iV e] [])) :
  dM0 (goC prog (run prog ext) 161 (Q10 [1,1,1,1,0]) [(2,pv 0),(3,pv 1),(5,pv 2),(7,pv 3)] [.box (tbC x),.box (askC q),o2,o3]) [(2,pv 0),(3,pv 1),(5,pv 2),(7,pv 3),(10,pv 4)] [.box (tbC x),.box (askC q),o2,o3,.box (tmC a)]:=by
 simp only[Q10,B10,sub,f10,↓reduceIte,zG]
 simp only[tbV,tbC,askC,sV,dV,iV,bV,tmV,tmC,levV,levC,pv]at r ⊢
 simp only[dM0,goC,eJ0,zS,zD,aB0,aA0,zT67,zT24,zT9,zT30,zT31,zT33,zT36,zT34,zT27,eU0,dJ0,cN0,jR0,dK0,dL0,zT3,r,aL0,simprocAttr]
 exact aD0 rfl (aD0 rfl (aD0 rfl (aD0 rfl (aD0 rfl (bR0 _)))))
theorem pa6 (x:Tb)(q:Ask)(o2:O)(o3:O)(o4:O)(a:Tm)(e:Int)(bb:Bool)(r:run prog ext (.call 46 [tbV x,sV q.s,dV q.d,iV q.n,tmV q.a] [])=some (.ret [tmV a,iV e] [])) :
  dM0 (goC prog (run prog ext) 161 (Q10 [1,1,1,1,1,0]) [(2,pv 0),(3,pv 1),(5,pv 2),(7,pv 3),(10,pv 4)] [.box (tbC x),.box (askC q),o2,o3,o4]) [(2,pv 0),(3,pv 1),(5,pv 2),(7,pv 3),(10,pv 4),(12,pv 5)] [.box (tbC x),.box (askC q),o2,o3,o4,.box (tmC a)]:=by
 simp only[Q10,B10,sub,f10,↓reduceIte,zG]
 simp only[tbV,tbC,askC,sV,dV,iV,bV,tmV,tmC,levV,levC,pv]at r ⊢
 simp only[dM0,goC,eJ0,zS,zD,aB0,aA0,zT67,zT24,zT9,zT30,zT31,zT33,zT36,zT34,zT27,eU0,dJ0,cN0,jR0,dK0,dL0,zT3,r,aL0,simprocAttr]
 exact aD0 rfl (aD0 rfl (aD0 rfl (aD0 rfl (aD0 rfl (aD0 rfl (bR0 _))))))
theorem pa7 (x:Tb)(q:Ask)(o2:O)(o3:O)(o4:O)(o5:O)(l:Lev)(e:Int)(bb:Bool)(r:run prog ext (.call 41 [tbV x,sV q.s,dV q.d] [])=some (.ret [levV l,iV e] [])) :
  dM0 (goC prog (run prog ext) 161 (Q10 [1,1,1,1,1,1,0]) [(2,pv 0),(3,pv 1),(5,pv 2),(7,pv 3),(10,pv 4),(12,pv 5)] [.box (tbC x),.box (askC q),o2,o3,o4,o5]) [(2,pv 0),(3,pv 1),(5,pv 2),(7,pv 3),(10,pv 4),(12,pv 5),(14,pv 6)] [.box (tbC x),.box (askC q),o2,o3,o4,o5,.box (levC l)]:=by
 simp only[Q10,B10,sub,f10,↓reduceIte,zG]
 simp only[tbV,tbC,askC,sV,dV,iV,bV,tmV,tmC,levV,levC,pv]at r ⊢
 simp only[dM0,goC,eJ0,zS,zD,aB0,aA0,zT67,zT24,zT9,zT30,zT31,zT33,zT36,zT34,zT27,eU0,dJ0,cN0,jR0,dK0,dL0,zT3,r,aL0,simprocAttr]
 exact aD0 rfl (aD0 rfl (aD0 rfl (aD0 rfl (aD0 rfl (aD0 rfl (aD0 rfl (bR0 _)))))))
theorem pb8 (o0 o1 o6:O)(a b c d a' b' c' d':Tm)(ra:run prog ext (.call 48 [tmV a] [])=some (.ret [tmV a'] []))(rb:run prog ext (.call 48 [tmV b] [])=some (.ret [tmV b'] []))(rc:run prog ext (.call 48 [tmV c] [])=some (.ret [tmV c'] []))(rd:run prog ext (.call 48 [tmV d] [])=some (.ret [tmV d'] [])) :
  dM0 (goC prog (run prog ext) 161 (Q10 [1,1,1,1,1,1,1,0]) [(2,pv 0),(3,pv 1),(5,pv 2),(7,pv 3),(10,pv 4),(12,pv 5),(14,pv 6)] [o0,o1,.box (tmC a),.box (tmC b),.box (tmC c),.box (tmC d),o6]) [(2,pv 0),(3,pv 1),(5,pv 2),(7,pv 3),(10,pv 4),(12,pv 5),(14,pv 6),(16,.c (.own 15))] [o0,o1,.box (tmC a),.box (tmC b),.box (tmC c),.box (tmC d),o6,.hole,.hole,.hole,.hole,.hole,.hole,.hole,.hole,.arr 5 [tmD a',tmD b',tmD c',tmD d'],.hole]:=by
 simp only[Q10,B10,sub,f10,↓reduceIte,zG]
 simp only[tmV,tmC,pv,aX0]at ra rb rc rd ⊢
 simp only[dM0,goC,zS,zD,aB0,aA0,zT33,zT31,zT9,zT3,bD0,aH0,aI0,Array.size,List.length,bsTm4,ra,rb,rc,rd,simprocAttr]
 rw[xW0 (by kernel_rfl)]
 simp only[zS,zD,aB0,aA0,simprocAttr]
 exact aD0 rfl (aD0 rfl (aD0 rfl (aD0 rfl (aD0 rfl (aD0 rfl (aD0 rfl (aD0 rfl (bR0 _))))))))
theorem pb9 (o0 o1 o2 o3 o4 o5 o15:O)(l l':Lev)(r:run prog ext (.call 49 [levV l] [])=some (.ret [levV l'] [])) :
  dM0 (goC prog (run prog ext) 161 (Q10 [1,1,1,1,1,1,1,1,0]) [(2,pv 0),(3,pv 1),(5,pv 2),(7,pv 3),(10,pv 4),(12,pv 5),(14,pv 6),(16,.c (.own 15))] [o0,o1,o2,o3,o4,o5,.box (levC l),.hole,.hole,.hole,.hole,.hole,.hole,.hole,.hole,o15,.hole]) [(2,pv 0),(3,pv 1),(5,pv 2),(7,pv 3),(10,pv 4),(12,pv 5),(14,pv 6),(16,.c (.own 15)),(17,pv 17)] [o0,o1,o2,o3,o4,o5,.box (levC l),.hole,.hole,.hole,.hole,.hole,.hole,.hole,.hole,o15,.hole,.box (levC l')]:=by
 simp only[Q10,B10,sub,f10,↓reduceIte,zG]
 simp only[levV,levC,pv]at r ⊢
 simp only[dM0,goC,eJ0,zS,zD,aB0,aA0,zT36,zT34,zT3,r,simprocAttr]
 exact aD0 rfl (aD0 rfl (aD0 rfl (aD0 rfl (aD0 rfl (aD0 rfl (aD0 rfl (aD0 rfl (aD0 rfl (bR0 _)))))))))
theorem pd15 (x:Tb)(q:Ask)(a b c d a' b' c' d':Tm)(l l':Lev)(e1 e2 e3 e4 e5:Int)(bb:Bool)(x00 x01 x02 x03 x04 x10 x11 x12 x13 x14 x20 x21 x22 x23 x24 x30 x31 x32 x33 x34 y0 y1:C)
  (r32:run prog ext (.call 32 [tbV x,sV q.s,dV q.d] [])=some (.ret [tmV a,iV e1] []))(r34:run prog ext (.call 34 [tbV x,sV q.s,dV q.d] [])=some (.ret [tmV b,bV bb,iV e2] []))(r39:run prog ext (.call 39 [tbV x,sV q.s,dV q.d] [])=some (.ret [tmV c,iV e3] []))
  (r46:run prog ext (.call 46 [tbV x,sV q.s,dV q.d,iV q.n,tmV q.a] [])=some (.ret [tmV d,iV e4] []))(r41:run prog ext (.call 41 [tbV x,sV q.s,dV q.d] [])=some (.ret [levV l,iV e5] []))
  (r52:run prog ext (.call 52 [dV (.s 5 [tmD a',tmD b',tmD c',tmD d']),dV (.s 5 [tmD a,tmD b,tmD c,tmD d])] [])=some (.ret [bV true] []))(r43:run prog ext (.call 43 [levV l',levV l] [])=some (.ret [bV true] []))(r14:run prog ext (.call 14 [] [])=some (.ret [bV true] [])) :
  run prog ext (.k ⟨161,0,[.tmp 4],false⟩ [.code (Q10 [1,1,1,1,1,1,1,1,1,1,1,1,1,1])] [(2,pv 0),(3,pv 1),(5,pv 2),(7,pv 3),(10,pv 4),(12,pv 5),(14,pv 6),(16,.c (.own 15)),(17,pv 17)] [.box (tbC x),.box (askC q),.box [x00,x01,x02,x03,x04],.box [x10,x11,x12,x13,x14],.box [x20,x21,x22,x23,x24],.box [x30,x31,x32,x33,x34],.box [y0,y1],.hole,.hole,.hole,.hole,.hole,.hole,.hole,.hole,.arr 5 [tmD a',tmD b',tmD c',tmD d'],.hole,.box (levC l')])=some (.ret [bV true] []):=by
 have hC:=fun o0 o1 o2 o3 o4 o5 o6 o16 o17 slot=>rD1 (run prog ext) o0 o1 o2 o3 o4 o5 o6 o16 o17 [tmD a',tmD b',tmD c',tmD d'] [tmD a,tmD b,tmD c,tmD d] slot r52
 simp only[Q10,B10,sub,f10,↓reduceIte,zG]
 simp only[tbV,tbC,askC,sV,dV,iV,bV,tmV,tmC,levV,levC,pv,aX0]at r32 r34 r39 r46 r41 hC r43 r14 ⊢
 simp only[zS,zD,aB0,aA0,zT67,zT24,zT9,zT30,zT31,zT33,zT36,zT34,zT27,eU0,dJ0,cN0,jR0,dK0,dL0,zT3,r32,aL0,simprocAttr]
 simp only[zS,zD,aB0,aA0,zT67,zT24,zT9,zT30,zT31,zT33,zT36,zT34,zT27,eU0,dJ0,cN0,jR0,dK0,dL0,zT3,r34,nW0,simprocAttr]
 simp only[zS,zD,aB0,aA0,zT67,zT24,zT9,zT30,zT31,zT33,zT36,zT34,zT27,eU0,dJ0,cN0,jR0,dK0,dL0,zT3,r39,aL0,simprocAttr]
 simp only[zS,zD,aB0,aA0,zT67,zT24,zT9,zT30,zT31,zT33,zT36,zT34,zT27,eU0,dJ0,cN0,jR0,dK0,dL0,zT3,r46,aL0,simprocAttr]
 simp only[zS,zD,aB0,aA0,zT67,zT24,zT9,zT30,zT31,zT33,zT36,zT34,zT27,eU0,dJ0,cN0,jR0,dK0,dL0,zT3,r41,aL0,simprocAttr]
 simp only[zS,zD,aB0,aA0,zT67,zT24,zT9,zT30,zT31,zT33,zT36,zT34,zT27,eU0,dJ0,cN0,jR0,dK0,dL0,zT3,bsTm4,hC,simprocAttr]
 simp only[zS,zD,aB0,aA0,zT67,zT24,zT9,zT30,zT31,zT33,zT36,zT34,zT27,eU0,dJ0,cN0,jR0,dK0,dL0,zT3,r43,r14,simprocAttr]
 (refine .trans ?_ rfl;kernel_rfl)
end
section
open Go
mutual
def recD : D→D
 | .v x=> .v x
 | .s k els _=> .s k (aU1 els) true
 | .i t xs=> .i t (iJ1 xs)
def iJ1 : List D→List D
 | []=>[]
 | x::r=>recD x::iJ1 r
def aU1 : List (List D)→List (List D)
 | []=>[]
 | x::r=>iJ1 x::aU1 r
end
theorem aT1 (l:List D):iJ1 l=l.map recD:=by induction l <;> simp_all [iJ1]
theorem vO0 (l:List (List D)):aU1 l=l.map (·.map recD):=by induction l <;> simp_all [aU1,aT1]
inductive Cd : D→Prop
 | v (x:Value):Cd (.v x)
 | e (k:Nat) (g:Bool):Cd (.s k [] g)
 | s (k:Nat) (els:List (List D)):(∀ l∈els,∀ d∈l,Cd d)→Cd (.s k els true)
section
variable {w w':World}{N N':Nat→Prop}
theorem RepD.swap {g g':Guest}{v:Value}{x:D} (h : @RepD g w N v x)(hk:∀ b,N b→N' b∧w'.heap[b]? = w.heap[b]?):Pd x → @RepD g' w' N' v x:=by
 induction h with
 | v hx=>exact fun _=> @RepD.v g' _ _ _ hx
 | e a cap k gg=>exact fun _=> @RepD.e g' _ _ a cap k gg
 | @s b o cap k els gg c hb hc hl hcell hrep ih=>
  intro hp
  cases hp with
  | e=>exact @RepD.e g' _ _ _ cap k gg
  | s _ _ hp=>
   have hb':N b:=hb
   refine @RepD.s g' w' N' b o cap k els false c (hk b hb').1 hc hl (fun i l j x h1 h2=> ?_) (fun i l j x h1 h2=>ih i l j x h1 h2 (hp l (List.mem_of_getElem? h1) x (List.mem_of_getElem? h2)))
   rw[World.cell?_of_block (w:=w) (hk b hb').2]
   exact hcell i l j x h1 h2
 | i hn _ ih=>intro hp;cases hp
theorem RepD.keepC {g g':Guest}{v:Value}{x:D} (h : @RepD g w N v x)(hk:∀ b,g.G b→g'.G b∧w'.heap[b]? = w.heap[b]?):Cd x → @RepD g' w' N' v x:=by
 induction h with
 | v hx=>exact fun _=> @RepD.v g' _ _ _ hx
 | e a cap k gg=>exact fun _=> @RepD.e g' _ _ a cap k gg
 | @s b o cap k els gg c hb hc hl hcell hrep ih=>
  intro hp
  cases hp with
  | e=>exact @RepD.e g' _ _ _ cap k gg
  | s _ _ hp=>
   have hb':g.G b:=hb
   refine @RepD.s g' w' N' b o cap k els true c (hk b hb').1 hc hl (fun i l j x h1 h2=> ?_) (fun i l j x h1 h2=>ih i l j x h1 h2 (hp l (List.mem_of_getElem? h1) x (List.mem_of_getElem? h2)))
   rw[World.cell?_of_block (w:=w) (hk b hb').2]
   exact hcell i l j x h1 h2
 | i hn _ ih=>intro hp;cases hp
theorem RepD.given {g g':Guest}{v:Value}{x:D} (h : @RepD g w N v x)(h1:∀ b,g.G b→g'.G b)(h2:∀ b,N b→g'.G b) : @RepD g' w N' v (recD x):=by
 induction h with
 | v hx=>rw[recD];exact @RepD.v g' _ _ _ hx
 | e a cap k gg=>rw[recD];exact @RepD.e g' _ _ a cap k true
 | @s b o cap k els gg c hb hc hl hcell hrep ih=>
  rw[recD,vO0]
  have hb':g'.G b:=by
   cases gg with
   | true=>exact h1 b hb
   | false=>exact h2 b hb
  have hlen:(els.map (·.map recD)).length=els.length:=by simp
  rw[← hlen]
  refine @RepD.s g' w N' b o cap k _ true c hb' (by rw[hlen];exact hc) (fun l hm=> ?_) (fun i l j x q1 q2=> ?_) (fun i l j x q1 q2=> ?_)
  ·obtain⟨l0,hl0,rfl⟩:=List.mem_map.1 hm
   rw[List.length_map];exact hl l0 hl0
  ·rw[List.getElem?_map]at q1
   obtain⟨l0,hl0,rfl⟩:=Option.map_eq_some_iff.1 q1
   rw[List.getElem?_map]at q2
   obtain⟨x0,hx0,rfl⟩:=Option.map_eq_some_iff.1 q2
   exact hcell i l0 j x0 hl0 hx0
  ·rw[List.getElem?_map]at q1
   obtain⟨l0,hl0,rfl⟩:=Option.map_eq_some_iff.1 q1
   rw[List.getElem?_map]at q2
   obtain⟨x0,hx0,rfl⟩:=Option.map_eq_some_iff.1 q2
   exact ih i l0 j x0 hl0 hx0
 | @i t a xs hn hrep ih=>
  rw[recD,aT1]
  refine @RepD.i g' w N' t a _ (by rw[List.length_map];exact hn) (fun j v x q1 q2=> ?_)
  rw[List.getElem?_map]at q2
  obtain⟨x0,hx0,rfl⟩:=Option.map_eq_some_iff.1 q2
  exact ih j v x0 q1 hx0
end
def gF (z:Fl):Fl:=⟨z.z,true⟩
def gL (u:Lev):Lev:=⟨u.c,u.vs,gF u.z⟩
def gT : Tm→Tm
 | .mk a b s u zu l zl=> .mk a b s (u.map gL) (gF zu) (gTs l) (gF zl)
where gTs:List Tm→List Tm
 | []=>[]
 | x::r=>gT x::gTs r
theorem aA1 (l:List Tm):gT.gTs l=l.map gT:=by induction l <;> simp_all [gT.gTs]
def gC (c:Con):Con:=⟨c.name,gT c.arg⟩
def gD (d:Dc):Dc:=⟨d.name,d.kind,d.levels,gT d.type,gT d.body,gT d.param,gL d.over,gL d.sort,d.cons.map gC,gF d.z⟩
def gB (t:Tb):Tb:=⟨t.ds.map gD,gF t.z⟩
def gA (q:Ask):Ask:=⟨q.s,gF q.z,q.ls.map gL,q.n,gT q.a,gT q.b⟩
theorem gA0 (z:Fl)(k:Nat)(els:List (List D)):recD (listD z k els)=listD (gF z) k (els.map (·.map recD)):=by
 unfold listD
 by_cases h:z.z=true∧els=[]
 ·rw[if_pos h,if_pos ⟨h.1,by rw[h.2];rfl⟩,recD]
 ·rw[if_neg h,if_neg (fun h'=>h ⟨h'.1,by simpa using h'.2⟩),recD,vO0];rfl
theorem uX1 (x:LV):(lvD x).map recD=lvD x:=by simp[lvD,recD]
theorem recD_d (u:Lev):recD u.d=(gL u).d:=by
 unfold Lev.d
 rw[gA0,List.map_map]
 have:(fun l:List D=>l.map recD) ∘ lvD=lvD:=by funext x;exact uX1 x
 rw[this];rfl
theorem nG0 (u:Lev):(levD u).map recD=levD (gL u):=by simp[levD,recD,recD_d];rfl
theorem uZ1 (x:Tm):recD x.uD=(gT x).uD:=by
 cases x with
 | mk a b s u zu l zl=>
  unfold Tm.uD
  rw[gA0,List.map_map]
  show listD (gF zu) 2 (u.map _)=listD (gF zu) 2 ((u.map gL).map levD)
  rw[List.map_map]
  congr 1
  exact List.map_congr_left fun v _=>nG0 v
theorem iI1 : ∀ (N:Nat)(x:Tm),x.sz≤N→(tmD x).map recD=tmD (gT x)
 | 0,x,h=>by have:=x.sz_pos;omega
 | N+1,x,h=>by
  have hl:recD x.lD=(gT x).lD:=by
   have hx:=fun t (ht:t∈x.l)=>iI1 N t (by have:=Tm.sz_lt ht;omega)
   cases x with
   | mk a b s u zu l zl=>
    unfold Tm.lD
    rw[gA0,List.map_map]
    show listD (gF zl) 5 (l.map _)=listD (gF zl) 5 ((gT.gTs l).map tmD)
    rw[aA1,List.map_map]
    congr 1
    exact List.map_congr_left fun t ht=>hx t ht
  rw[aX0,aX0]
  simp only[List.map_cons,List.map_nil,recD,uZ1,hl]
  cases x;rfl
theorem nH0 (x:Tm):(tmD x).map recD=tmD (gT x):=iI1 x.sz x (Nat.le_refl _)
theorem nB1 (c:Con):(conD c).map recD=conD (gC c):=by simp[conD,recD,nH0,gC]
theorem uW1 (d:Dc):(dcD d).map recD=dcD (gD d):=by
 have h:recD d.d=(gD d).d:=by
  unfold Dc.d
  rw[gA0,List.map_map]
  show listD (gF d.z) 6 (d.cons.map _)=listD (gF d.z) 6 ((d.cons.map gC).map conD)
  rw[List.map_map]
  congr 1
  exact List.map_congr_left fun c _=>nB1 c
 simp only[dcD,List.map_append,List.map_cons,List.map_nil,recD,nH0,nG0,h]
 rfl
theorem uY1 (t:Tb):recD t.d=(gB t).d:=by
 unfold Tb.d
 rw[gA0,List.map_map]
 show listD (gF t.z) 23 (t.ds.map _)=listD (gF t.z) 23 ((t.ds.map gD).map dcD)
 rw[List.map_map]
 congr 1
 exact List.map_congr_left fun d _=>uW1 d
end
end Go.Proofs.YteenjodhmppgjaaGreatDoor.Am
