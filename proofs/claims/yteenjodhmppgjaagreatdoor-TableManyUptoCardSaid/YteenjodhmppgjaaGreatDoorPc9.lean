/- A part of the proof of a card. No conditions. -/
import Derived.Test.YteenjodhmppgjaaGreatDoorPc6
set_option linter.all false
set_option maxHeartbeats 16000000
set_option maxRecDepth 10000
namespace Go.Proofs.YteenjodhmppgjaaGreatDoor.Am
open Go.Proofs.Tryz
section
open Go
def spK (rec:Rec)(look:Look)(slot:Nat)(f:FuncId)(a c:V)(i j:Nat)(o o':Option O):Option Eff:=
 match o,o' with
 | some (.box cs),some (.stk k els none _)=>if cs.all hH0=true∧¬ i=j then cG0 look slot (aY0 [i,j] [] slot (rec (.call f [a,.c (.ptr 0 0),c,.c (.own 1)] [.box cs,.stk k els none true]))) else cH0 rec look slot f [a,.c (.ptr i 0),c,.c (.own j)]
 | some (.box cs),some (.arr k els)=>if gJ0 f=true∧cs.all hH0=true∧¬ i=j then cG0 look slot (aY0 [i,j] [] slot (hO0 [.box cs,.arr k els] (rec (.call f [a,.c (.ptr 0 0),c,.c (.own 1)] [.box cs,.stk k els none true])))) else cH0 rec look slot f [a,.c (.ptr i 0),c,.c (.own j)]
 | _,_=>cH0 rec look slot f [a,.c (.ptr i 0),c,.c (.own j)]
theorem gH1 {cs:List C} (h:cs.all hH0=true):cs.flatMap jQ1=[]:=(eO0 (look:=fun _=>none) h).2.1
theorem nC1 {cs:List C} (h:cs.all hH0=true)(r:Nat→Option Nat):renO r (.box cs)=some (.box cs):=by
 show(match mapO (renC r) cs with | some ys=>some (O.box ys) | none=>none)=_
 rw[(eO0 (look:=fun _=>none) h).2.2 r]
theorem kZ2 {look:Look}{i j:Nat} (h:¬ i=j)(hi:sK0 (look i)=[])(hj:sK0 (look j)=[]):Am.reach look 200 [] [i,j]=[i,j]:=by
 show(if([]:List Nat).contains i=true then _ else Am.reach look 199 ([]++[i]) ([j]++sK0 (look i)))=[i,j]
 rw[hi]
 show(if([i]:List Nat).contains j=true then _ else Am.reach look 198 ([i]++[j]) ([]++sK0 (look j)))=[i,j]
 have:([i]:List Nat).contains j=false:=by simp;exact fun e=>h e.symm
 rw[this,hj]
 rfl
theorem nD0 (rec:Rec)(look:Look)(slot:Nat)(f:FuncId)(a c:V)(i j:Nat)(hf:ownF f=true)(ha:gA0 a=true)(hc:gA0 c=true) :
  cH0 rec look slot f [a,.c (.ptr i 0),c,.c (.own j)]=spK rec look slot f a c i j (look i) (look j):=by
 obtain⟨k1,k2,k3⟩:=bR0 (look:=look) ha
 obtain⟨m1,m2,m3⟩:=bR0 (look:=look) hc
 have a2:[a,V.c (.ptr i 0),c,V.c (.own j)].flatMap jK0=[i,j]:=by
  show jK0 a++([i]++(jK0 c++([j]++[])))=[i,j]
  rw[k2,m2];rfl
 have a4:¬ i=j→mapO (renV (pos [i,j])) [a,.c (.ptr i 0),c,.c (.own j)]=some [a,.c (.ptr 0 0),c,.c (.own 1)]:=by
  intro h
  have e1:renV (pos [i,j]) (.c (.ptr i 0))=some (.c (.ptr 0 0)):=by simp[renV,renC,pos]
  have e2:renV (pos [i,j]) (.c (.own j))=some (.c (.own 1)):=by simp[renV,renC,pos,h]
  simp only[mapO,k3,m3,e1,e2]
 cases hi:look i with
 | none=>rfl
 | some o=>
  cases o with
  | box cs=>
   cases hj:look j with
   | none=>rfl
   | some o'=>
    cases o' with
    | stk k els cur r=>
     cases cur with
     | some _=>rfl
     | none=>
      unfold spK
      dsimp only
      by_cases hcs:cs.all hH0=true∧¬ i=j
      case neg=>rw[if_neg hcs]
      rw[if_pos hcs]
      obtain⟨hd,hij⟩:=hcs
      unfold cH0 cI0
      rw[hf]
      simp only[eU0]
      have a3:=kZ2 (look:=look) hij (by rw[hi];exact gH1 hd) (by rw[hj];rfl)
      have a5:mapO look [i,j]=some [.box cs,.stk k els none r]:=by simp only[mapO,hi,hj]
      have a9:[O.box cs,O.stk k els none r].map hV0=[O.box cs,O.stk k els none true]:=rfl
      have a6:mapO (renO (pos [i,j])) [.box cs,.stk k els none true]=some [.box cs,.stk k els none true]:=by simp only[mapO,nC1 hd];rfl
      have a7:cW0 rec f [a,.c (.ptr 0 0),c,.c (.own 1)] [.box cs,.stk k els none true]=rec (.call f [a,.c (.ptr 0 0),c,.c (.own 1)] [.box cs,.stk k els none true]):=by unfold cW0;rfl
      have a8:lH0 look [i,j]=true:=by simp[lH0,rX0,hi,hj,bK0]
      have a10:([i,j]:List Nat).Nodup:=by simp[hij]
      simp only[a2,a3,a4 hij,a5,a9,a6,a8]
      refine Eq.trans (b:=cG0 look slot (aY0 [i,j] [] slot (cW0 rec f [a,.c (.ptr 0 0),c,.c (.own 1)] [.box cs,.stk k els none true]))) (by simp[gY0,hij]) ?_
      rw[a7]
    | arr k els=>
     unfold spK
     dsimp only
     by_cases hcs:gJ0 f=true∧cs.all hH0=true∧¬ i=j
     case neg=>rw[if_neg hcs]
     rw[if_pos hcs]
     obtain⟨hcf,hd,hij⟩:=hcs
     unfold cH0 cI0
     rw[hf]
     simp only[eU0]
     have a3:=kZ2 (look:=look) hij (by rw[hi];exact gH1 hd) (by rw[hj];rfl)
     have a5:mapO look [i,j]=some [.box cs,.arr k els]:=by simp only[mapO,hi,hj]
     have a9:[O.box cs,O.arr k els].map hV0=[O.box cs,O.arr k els]:=rfl
     have a6:mapO (renO (pos [i,j])) [.box cs,.arr k els]=some [.box cs,.arr k els]:=by simp only[mapO,nC1 hd];rfl
     have hap:([a,V.c (.ptr 0 0),c,V.c (.own 1)].all eV1&&[O.box cs,O.arr k els].all yC1)=true:=by
      have e1:=rC0 ha
      have e2:=rC0 hc
      have e3:yC1 (.box cs)=true:=List.all_eq_true.2 fun x hx=>rB0 (List.all_eq_true.1 hd x hx)
      show((eV1 a&&(true&&(eV1 c&&(true&&true))))&&(yC1 (.box cs)&&(true&&true)))=true
      rw[e1,e2,e3];rfl
     have a7:cW0 rec f [a,.c (.ptr 0 0),c,.c (.own 1)] [.box cs,.arr k els]=hO0 [.box cs,.arr k els] (rec (.call f [a,.c (.ptr 0 0),c,.c (.own 1)] [.box cs,.stk k els none true])):=by
      unfold cW0
      rw[hcf,hap]
      rfl
     have a8:lH0 look [i,j]=true:=by simp[lH0,rX0,hi,hj,bK0]
     simp only[a2,a3,a4 hij,a5,a9,a6,a8]
     refine Eq.trans (b:=cG0 look slot (aY0 [i,j] [] slot (cW0 rec f [a,.c (.ptr 0 0),c,.c (.own 1)] [.box cs,.arr k els]))) (by simp[gY0,hij]) ?_
     rw[a7]
    | _=>rfl
  | _=>
   unfold spK
   rfl
section
variable (rec:Rec) (look:Look) (slot:Nat) (f:FuncId)
theorem bD1 (a c:V)(i j k:Nat)(cs:List C)(els:List (List D))(r:Bool)(hd:cs.all hH0=true)(hij:¬ i=j):spK rec look slot f a c i j (some (.box cs)) (some (.stk k els none r))=cG0 look slot (aY0 [i,j] [] slot (rec (.call f [a,.c (.ptr 0 0),c,.c (.own 1)] [.box cs,.stk k els none true]))):=by
 unfold spK;dsimp only;rw[if_pos ⟨hd,hij⟩]
theorem zO1 (a c:V)(i j k:Nat)(cs:List C)(els:List (List D))(hc:gJ0 f=true)(hd:cs.all hH0=true)(hij:¬ i=j):spK rec look slot f a c i j (some (.box cs)) (some (.arr k els))=cG0 look slot (aY0 [i,j] [] slot (hO0 [.box cs,.arr k els] (rec (.call f [a,.c (.ptr 0 0),c,.c (.own 1)] [.box cs,.stk k els none true])))):=by
 unfold spK;dsimp only;rw[if_pos ⟨hc,hd,hij⟩]
theorem bE1 (i j k:Nat)(cs:List C)(els:List (List D))(v:V)(c:Option Nat)(r:Bool)(hv:gA0 v=true)(hd:cs.all hH0=true)(hi:bK0 (look i)=false)(hl:bT0 (.stk k els none true) (look j)=true)(hid:j<slot)(hij:¬ i=j) :
  cG0 look slot (aY0 [i,j] [] slot (some (.ret [v] [.box cs,.stk k els c r])))=some ⟨.val v,[(i,.box cs)],[i,j]⟩:=by
 obtain⟨_,_,h3⟩:=bR0 (look:=fun _=>none) hv
 obtain⟨els',c',r',hl'⟩:∃ els' c' r',look j=some (.stk k els' c' r'):=by
  cases h:look j with
  | none=>rw[h]at hl;cases hl
  | some o=>
   rw[h]at hl
   cases o with
   | stk k' els' c' r'=>
    simp only[bT0,Bool.and_eq_true,decide_eq_true_eq]at hl
    exact⟨els',c',r',by rw[hl.1]⟩
   | _=>cases hl
 rw[hl']at hl
 simp only[bT0,Bool.and_eq_true,decide_eq_true_eq]at hl
 have hb:∀ c2:Option Nat,gW0 look slot [i,j] [(i,.box cs),(j,.stk k els c2 r)]=true:=by
  intro c2
  have e1:qU0 look slot [i,j] (i,.box cs)=true:=by
   unfold qU0
   rw[hi,Bool.and_false,if_neg (by decide)]
   rfl
  have e2:qU0 look slot [i,j] (j,.stk k els c2 r)=true:=by
   simp[qU0,hl',bK0,bT0,hl.2,hid]
  simp only[gW0,List.all_cons,List.all_nil,e1,e2,Bool.and_self]
 have hr:=(eO0 (look:=fun _=>none) hd).2.2
 simp only[aY0,bW0,mapO,h3,aZ0,Nat.zero_add,hr,renO,Nat.lt_irrefl,if_false,bQ0,back,List.isEmpty_cons,Bool.and_false,bE0,List.append_nil,if_true,List.getElem?_cons_zero,List.getElem?_cons_succ,Option.getD_some,Bool.false_eq_true,simprocAttr,zE]
 simp only[cG0,hb,if_true,dS0,bK0,List.filter_cons,List.filter_nil,Bool.not_true,Bool.not_false,Bool.false_eq_true,if_false]
theorem zP1 (i j k:Nat)(cs:List C)(els els':List (List D))(v:V)(c:Option Nat)(r:Bool)(hv:gA0 v=true)(hd:cs.all hH0=true)(hi:bK0 (look i)=false)(hj:bK0 (look j)=false) :
  cG0 look slot (aY0 [i,j] [] slot (hO0 [.box cs,.arr k els] (some (.ret [v] [.box cs,.stk k els' c r]))))=some ⟨.val v,[(i,.box cs),(j,.gone)],[i,j]⟩:=by
 obtain⟨_,_,h3⟩:=bR0 (look:=fun _=>none) hv
 have hb:gW0 look slot [i,j] [(i,.box cs),(j,.gone)]=true:=by
  simp only[gW0,List.all_cons,List.all_nil,qU0,hi,hj,Bool.and_false,Bool.false_eq_true,if_false,Bool.and_true];rfl
 have hr:=(eO0 (look:=fun _=>none) hd).2.2
 simp only[hO0,hW0,aY0,bW0,mapO,h3,aZ0,Nat.zero_add,hr,renO,Nat.lt_irrefl,if_false,bQ0,back,List.isEmpty_cons,Bool.and_false,bE0,List.append_nil,if_true,List.getElem?_cons_zero,List.getElem?_cons_succ,Option.getD_some,Bool.false_eq_true,simprocAttr,zE]
 simp only[cG0,hb,if_true,dS0,bK0,List.filter_cons,List.filter_nil,Bool.not_false]
end
end
section
open Go
variable (ext:Ext)
theorem nF0 (o:Dc):(dcC o).all hH0=true:=rfl

theorem gL2 (hx:ext 109=none)(x:Tb)(o:Dc)(t:Tm)(w:Int→D)(th:Dc × Bool)(e2:(t.op==2)=true)(r102:∀ c,run prog ext (.call 102 [iV c,dV nilD] [])=some (.ret [dV (w c)] []))(h78:run prog ext (.call 78 [tbV x,sV t.s] [])=some (.ret [dcV th.1,bV th.2] [])) :
  run prog ext (.call 109 [tbV x,.c (.ptr 0 0),tmV t,dV nilD] [.box (dcC o)])=some (.ret [if th.2=true then(if((t.u.length:Int) != th.1.levels)=true then dV (w 42) else V.c (.d (.v .nilIface))) else dV (w 41)] [.box (dcC o)]):=by
 obtain⟨d,b⟩:=th
 cases b with
 | false=>
  (rw[enT hx func109 rfl];simp only[f109,zR,simprocAttr,zE])
  simp only[tbV,tbC,dV,sV,iV,bV,tmV,tmC,dcV,dcC,nilD,Tm.uD]at r102 h78 ⊢
  simp only[zS,zD,zT24,zT39,zT33,zT9,zT3,h78,aF0,e2,r102,simprocAttr]
  (refine .trans ?_ rfl;kernel_rfl)
 | true=>
  cases c:((t.u.length:Int) != d.levels)
  all_goals
   (rw[enT hx func109 rfl];simp only[f109,zR,simprocAttr,zE])
   simp only[tbV,tbC,dV,sV,iV,bV,tmV,tmC,dcV,dcC,nilD,Tm.uD]at r102 h78 ⊢
   simp only[zS,zD,zT24,zT39,zT33,zT30,zT9,zT3,h78,aF0,e2,c,r102,simprocAttr]
   (refine .trans ?_ rfl;kernel_rfl)

theorem gH2 (hx:ext 109=none)(x:Tb)(o:Dc)(t:Tm)(e2:(t.op==2)=false)(e26:(t.op==26)=false)(e27:(t.op==27)=false)(e28:(t.op==28)=false)  :
  run prog ext (.call 109 [tbV x,.c (.ptr 0 0),tmV t,dV nilD] [.box (dcC o)])=some (.ret [V.c (.d (.v .nilIface))] [.box (dcC o)]):=by
 (rw[enT hx func109 rfl];simp only[f109,zR,simprocAttr,zE])
 simp only[tbV,tbC,dV,tmV,tmC,dcC,nilD,Tm.uD]
 simp only[zS,zD,bJ0,zT3,e2,e26,e27,e28,simprocAttr]
 (refine .trans ?_ rfl;kernel_rfl)

theorem pU1 (hx:ext 109=none)(x:Tb)(o:Dc)(t:Tm)(w:Int→D)(d:Dc)(e2:(t.op==2)=false)(e26:(t.op==26)=true)(e27:(t.op==27)=false)(e28:(t.op==28)=false)(r102:∀ c,run prog ext (.call 102 [iV c,dV nilD] [])=some (.ret [dV (w c)] []))(h71:run prog ext (.call 71 [tbV x,sV t.s] [])=some (.ret [dcV d,bV true] [])) :
  run prog ext (.call 109 [tbV x,.c (.ptr 0 0),tmV t,dV nilD] [.box (dcC o)])=some (.ret [if arB t d=true then dV (w 42) else V.c (.d (.v .nilIface))] [.box (dcC o)]):=by
 unfold arB
 cases c:((t.u.length:Int) != d.levels) with
 | true=>
  (rw[enT hx func109 rfl];simp only[f109,zR,simprocAttr,zE])
  simp only[tbV,tbC,dV,sV,iV,bV,tmV,tmC,dcV,dcC,nilD,Tm.uD]at r102 h71 ⊢
  simp only[zS,zD,zT24,zT39,zT33,zT9,zT3,h71,aF0,e2,e26,e27,e28,simprocAttr]
  refine bB0 ?_
  simp only[zS,zD,bN0,bA0,aQ0,aO0,aP0,aC0,aD0,Array.size,List.length,simprocAttr]
  rw[aB0 _ _ _ _ (by kernel_rfl)]
  simp only[zS,zD,bG0,aT0,zT30,zT3,c,r102,simprocAttr]
  (refine .trans ?_ rfl;kernel_rfl)
 | false=>
  simp only[e27,e28,Bool.false_and,Bool.or_false]
  (rw[enT hx func109 rfl];simp only[f109,zR,simprocAttr,zE])
  simp only[tbV,tbC,dV,sV,iV,bV,tmV,tmC,dcV,dcC,nilD,Tm.uD]at r102 h71 ⊢
  simp only[zS,zD,zT24,zT39,zT33,zT9,zT3,h71,aF0,e2,e26,simprocAttr]
  refine bB0 ?_
  simp only[zS,zD,bN0,bA0,aQ0,aO0,aP0,aC0,aD0,Array.size,List.length,simprocAttr]
  rw[aB0 _ _ _ _ (by kernel_rfl)]
  simp only[zS,zD,bG0,zT33,zT30,zT3,e27,e28,c,simprocAttr]
  (refine .trans ?_ rfl;kernel_rfl)

theorem pO1 (hx:ext 109=none)(x:Tb)(o:Dc)(t:Tm)(w:Int→D)(d:Dc)(c4:(t.s.toList==o.name.toList)=false)(e2:(t.op==2)=false)(e26:(t.op==26)=true)(e27:(t.op==27)=false)(e28:(t.op==28)=false)(r102:∀ c,run prog ext (.call 102 [iV c,dV nilD] [])=some (.ret [dV (w c)] []))(h71:run prog ext (.call 71 [tbV x,sV t.s] [])=some (.ret [dcV d,bV false] [])) :
  run prog ext (.call 109 [tbV x,.c (.ptr 0 0),tmV t,dV nilD] [.box (dcC o)])=some (.ret [dV (w 41)] [.box (dcC o)]):=by
 (rw[enT hx func109 rfl];simp only[f109,zR,simprocAttr,zE])
 simp only[tbV,tbC,dV,sV,iV,bV,tmV,tmC,dcV,dcC,nilD,Tm.uD]at r102 h71 ⊢
 simp only[zS,zD,zT24,zT39,zT33,zT9,zT3,h71,aF0,e2,e26,simprocAttr]
 refine bB0 ?_
 simp only[zS,zD,aE0,zT33,zT9,zT3,cC0,bN0,bA0,aQ0,aO0,aP0,aC0,aD0,Array.size,List.length,e26,c4,simprocAttr]
 rw[aB0 _ _ _ _ (by kernel_rfl)]
 simp only[zS,zD,r102,simprocAttr]
 (refine .trans ?_ rfl;kernel_rfl)

theorem pQ1 (hx:ext 109=none)(x:Tb)(o:Dc)(t:Tm)(w:Int→D)(d:Dc)(fi:Int)(c4:(t.s.toList==o.name.toList)=true)(c5:¬ fi<0)(e2:(t.op==2)=false)(e26:(t.op==26)=true)(e27:(t.op==27)=false)(e28:(t.op==28)=false)(r102:∀ c,run prog ext (.call 102 [iV c,dV nilD] [])=some (.ret [dV (w c)] []))(h71:run prog ext (.call 71 [tbV x,sV t.s] [])=some (.ret [dcV d,bV false] []))(h22:run prog ext (.call 22 [tbV x,sV t.s] [])=some (.ret [iV fi] [])) :
  run prog ext (.call 109 [tbV x,.c (.ptr 0 0),tmV t,dV nilD] [.box (dcC o)])=some (.ret [dV (w 41)] [.box (dcC o)]):=by
 (rw[enT hx func109 rfl];simp only[f109,zR,simprocAttr,zE])
 simp only[tbV,tbC,dV,sV,iV,bV,tmV,tmC,dcV,dcC,nilD,Tm.uD]at r102 h71 h22 ⊢
 simp only[zS,zD,zT24,zT39,zT33,zT9,zT3,h71,aF0,e2,e26,simprocAttr]
 refine bB0 ?_
 simp only[zS,zD,zT24,aE0,zT33,zT9,zT3,cC0,bN0,bA0,aQ0,aP0,aC0,aD0,Array.size,List.length,e26,c4,c5,h22,simprocAttr]
 rw[aB0 _ _ _ _ (by kernel_rfl)]
 simp only[zS,zD,r102,simprocAttr]
 (refine .trans ?_ rfl;kernel_rfl)

theorem pS1 (hx:ext 109=none)(x:Tb)(o:Dc)(t:Tm)(w:Int→D)(d:Dc)(fi:Int)(c4:(t.s.toList==o.name.toList)=true)(c5:fi<0)(e2:(t.op==2)=false)(e26:(t.op==26)=true)(e27:(t.op==27)=false)(e28:(t.op==28)=false)(r102:∀ c,run prog ext (.call 102 [iV c,dV nilD] [])=some (.ret [dV (w c)] []))(h71:run prog ext (.call 71 [tbV x,sV t.s] [])=some (.ret [dcV d,bV false] []))(h22:run prog ext (.call 22 [tbV x,sV t.s] [])=some (.ret [iV fi] [])) :
  run prog ext (.call 109 [tbV x,.c (.ptr 0 0),tmV t,dV nilD] [.box (dcC o)])=some (.ret [if arB t o=true then dV (w 42) else V.c (.d (.v .nilIface))] [.box (dcC o)]):=by
 unfold arB
 cases c:((t.u.length:Int) != o.levels) with
 | true=>
  (rw[enT hx func109 rfl];simp only[f109,zR,simprocAttr,zE])
  simp only[tbV,tbC,dV,sV,iV,bV,tmV,tmC,dcV,dcC,nilD,Tm.uD]at r102 h71 h22 ⊢
  simp only[zS,zD,zT24,zT39,zT33,zT9,zT3,h71,aF0,e2,e26,e27,e28,simprocAttr]
  refine bB0 ?_
  simp only[zS,zD,zT24,aE0,zT33,zT9,zT3,cC0,bN0,bA0,aQ0,aP0,aC0,aD0,Array.size,List.length,e26,c4,c5,h22,simprocAttr]
  rw[aB0 _ _ _ _ (by kernel_rfl)]
  simp only[zS,zD,zT39,aT0,zT30,zT3,c,r102,simprocAttr]
  (refine .trans ?_ rfl;kernel_rfl)
 | false=>
  simp only[e27,e28,Bool.false_and,Bool.or_false]
  (rw[enT hx func109 rfl];simp only[f109,zR,simprocAttr,zE])
  simp only[tbV,tbC,dV,sV,iV,bV,tmV,tmC,dcV,dcC,nilD,Tm.uD]at r102 h71 h22 ⊢
  simp only[zS,zD,zT24,zT39,zT33,zT9,zT3,h71,aF0,e2,e26,simprocAttr]
  refine bB0 ?_
  simp only[zS,zD,zT24,aE0,zT33,zT9,zT3,cC0,bN0,bA0,aQ0,aP0,aC0,aD0,Array.size,List.length,e26,c4,c5,h22,simprocAttr]
  rw[aB0 _ _ _ _ (by kernel_rfl)]
  simp only[zS,zD,zT39,zT33,zT30,zT3,e27,e28,c,simprocAttr]
  (refine .trans ?_ rfl;kernel_rfl)

theorem xP1 (hx:ext 109=none)(x:Tb)(o:Dc)(t:Tm)(w:Int→D)(fa:Dc × Bool)(e2:(t.op==2)=false)(e26:(t.op==26)=false)(e27:(t.op==27)=true)(e28:(t.op==28)=false)(r102:∀ c,run prog ext (.call 102 [iV c,dV nilD] [])=some (.ret [dV (w c)] []))(h71:run prog ext (.call 71 [tbV x,sV t.s] [])=some (.ret [dcV fa.1,bV fa.2] [])) :
  run prog ext (.call 109 [tbV x,.c (.ptr 0 0),tmV t,dV nilD] [.box (dcC o)])=some (.ret [if fa.2=true then(if arB t fa.1=true then dV (w 42) else V.c (.d (.v .nilIface))) else dV (w 41)] [.box (dcC o)]):=by
 obtain⟨d,b⟩:=fa
 cases b with
 | false=>
  (rw[enT hx func109 rfl];simp only[f109,zR,simprocAttr,zE])
  simp only[tbV,tbC,dV,sV,iV,bV,tmV,tmC,dcV,dcC,nilD,Tm.uD]at r102 h71 ⊢
  simp only[zS,zD,zT24,zT39,zT33,zT9,zT3,h71,aF0,e2,e26,e27,simprocAttr]
  refine bB0 ?_
  simp only[zS,zD,bJ0,zT3,cC0,bN0,bA0,aQ0,aO0,aP0,aC0,aD0,Array.size,List.length,e26,simprocAttr]
  rw[aB0 _ _ _ _ (by kernel_rfl)]
  simp only[zS,zD,r102,simprocAttr]
  (refine .trans ?_ rfl;kernel_rfl)
 | true=>
  unfold arB
  cases c:((t.u.length:Int) != d.levels) with
  | true=>
   (rw[enT hx func109 rfl];simp only[f109,zR,simprocAttr,zE])
   simp only[tbV,tbC,dV,sV,iV,bV,tmV,tmC,dcV,dcC,nilD,Tm.uD]at r102 h71 ⊢
   simp only[zS,zD,zT24,zT39,zT33,zT9,zT3,h71,aF0,e2,e26,e27,e28,simprocAttr]
   refine bB0 ?_
   simp only[zS,zD,bN0,bA0,aQ0,aO0,aP0,aC0,aD0,Array.size,List.length,simprocAttr]
   rw[aB0 _ _ _ _ (by kernel_rfl)]
   simp only[zS,zD,bG0,aT0,zT30,zT3,c,r102,simprocAttr]
   (refine .trans ?_ rfl;kernel_rfl)
  | false=>
   cases c2:decide ((d.cons.length:Int)≤t.n) with
   | true=>
    simp only[e27,e28,Bool.true_and,Bool.false_and,Bool.false_or,Bool.or_false]
    (rw[enT hx func109 rfl];simp only[f109,zR,simprocAttr,zE])
    simp only[tbV,tbC,dV,sV,iV,bV,tmV,tmC,dcV,dcC,nilD,Tm.uD]at r102 h71 ⊢
    simp only[zS,zD,zT24,zT39,zT33,zT9,zT3,h71,aF0,e2,e26,e27,simprocAttr]
    refine bB0 ?_
    simp only[zS,zD,bN0,bA0,aQ0,aO0,aP0,aC0,aD0,Array.size,List.length,simprocAttr]
    rw[aB0 _ _ _ _ (by kernel_rfl)]
    simp only[zS,zD,zT39,zT33,zT30,zT37,zT3,aS0,ge_iff_le,e27,c,c2,r102,simprocAttr]
    (refine .trans ?_ rfl;kernel_rfl)
   | false=>
    simp only[e27,e28,Bool.true_and,Bool.false_and,Bool.or_false]
    (rw[enT hx func109 rfl];simp only[f109,zR,simprocAttr,zE])
    simp only[tbV,tbC,dV,sV,iV,bV,tmV,tmC,dcV,dcC,nilD,Tm.uD]at r102 h71 ⊢
    simp only[zS,zD,zT24,zT39,zT33,zT9,zT3,h71,aF0,e2,e26,e27,simprocAttr]
    refine bB0 ?_
    simp only[zS,zD,bN0,bA0,aQ0,aO0,aP0,aC0,aD0,Array.size,List.length,simprocAttr]
    rw[aB0 _ _ _ _ (by kernel_rfl)]
    simp only[zS,zD,zT39,zT33,zT30,zT37,zT3,aS0,ge_iff_le,e27,e28,c,c2,simprocAttr]
    (refine .trans ?_ rfl;kernel_rfl)

theorem xT1 (hx:ext 109=none)(x:Tb)(o:Dc)(t:Tm)(w:Int→D)(fa:Dc × Bool)(e2:(t.op==2)=false)(e26:(t.op==26)=false)(e27:(t.op==27)=false)(e28:(t.op==28)=true)(r102:∀ c,run prog ext (.call 102 [iV c,dV nilD] [])=some (.ret [dV (w c)] []))(h71:run prog ext (.call 71 [tbV x,sV t.s] [])=some (.ret [dcV fa.1,bV fa.2] [])) :
  run prog ext (.call 109 [tbV x,.c (.ptr 0 0),tmV t,dV nilD] [.box (dcC o)])=some (.ret [if fa.2=true then(if arB t fa.1=true then dV (w 42) else V.c (.d (.v .nilIface))) else dV (w 41)] [.box (dcC o)]):=by
 obtain⟨d,b⟩:=fa
 cases b with
 | false=>
  (rw[enT hx func109 rfl];simp only[f109,zR,simprocAttr,zE])
  simp only[tbV,tbC,dV,sV,iV,bV,tmV,tmC,dcV,dcC,nilD,Tm.uD]at r102 h71 ⊢
  simp only[zS,zD,zT24,zT39,zT33,zT9,zT3,h71,aF0,e2,e26,e27,e28,simprocAttr]
  refine bB0 ?_
  simp only[zS,zD,bJ0,zT3,cC0,bN0,bA0,aQ0,aO0,aP0,aC0,aD0,Array.size,List.length,e26,simprocAttr]
  rw[aB0 _ _ _ _ (by kernel_rfl)]
  simp only[zS,zD,r102,simprocAttr]
  (refine .trans ?_ rfl;kernel_rfl)
 | true=>
  unfold arB
  cases c:((t.u.length:Int) != d.levels) with
  | true=>
   (rw[enT hx func109 rfl];simp only[f109,zR,simprocAttr,zE])
   simp only[tbV,tbC,dV,sV,iV,bV,tmV,tmC,dcV,dcC,nilD,Tm.uD]at r102 h71 ⊢
   simp only[zS,zD,zT24,zT39,zT33,zT9,zT3,h71,aF0,e2,e26,e27,e28,simprocAttr]
   refine bB0 ?_
   simp only[zS,zD,bN0,bA0,aQ0,aO0,aP0,aC0,aD0,Array.size,List.length,simprocAttr]
   rw[aB0 _ _ _ _ (by kernel_rfl)]
   simp only[zS,zD,bG0,aT0,zT30,zT3,c,r102,simprocAttr]
   (refine .trans ?_ rfl;kernel_rfl)
  | false=>
   cases c2:(wr ((t.l.length:Int) - 3) != (d.cons.length:Int)) with
   | true=>
    simp only[e27,e28,Bool.true_and,Bool.false_and,Bool.false_or]
    (rw[enT hx func109 rfl];simp only[f109,zR,simprocAttr,zE])
    simp only[tbV,tbC,dV,sV,iV,bV,tmV,tmC,dcV,dcC,nilD,Tm.uD]at r102 h71 ⊢
    simp only[zS,zD,zT24,zT39,zT33,zT9,zT3,h71,aF0,e2,e26,e27,e28,simprocAttr]
    refine bB0 ?_
    simp only[zS,zD,bN0,bA0,aQ0,aO0,aP0,aC0,aD0,Array.size,List.length,simprocAttr]
    rw[aB0 _ _ _ _ (by kernel_rfl)]
    simp only[zS,zD,zT39,zT33,zT31,zT30,zT37,zT3,aS0,e27,e28,aI0,c,c2,r102,simprocAttr]
    (refine .trans ?_ rfl;kernel_rfl)
   | false=>
    simp only[e27,e28,Bool.true_and,Bool.false_and,Bool.or_false]
    (rw[enT hx func109 rfl];simp only[f109,zR,simprocAttr,zE])
    simp only[tbV,tbC,dV,sV,iV,bV,tmV,tmC,dcV,dcC,nilD,Tm.uD]at r102 h71 ⊢
    simp only[zS,zD,zT24,zT39,zT33,zT9,zT3,h71,aF0,e2,e26,e27,e28,simprocAttr]
    refine bB0 ?_
    simp only[zS,zD,bN0,bA0,aQ0,aO0,aP0,aC0,aD0,Array.size,List.length,simprocAttr]
    rw[aB0 _ _ _ _ (by kernel_rfl)]
    simp only[zS,zD,zT39,zT33,zT31,zT30,zT37,zT3,aS0,e27,e28,aI0,c,c2,simprocAttr]
    (refine .trans ?_ rfl;kernel_rfl)

theorem gM2 (hx:ext 109=none)(x:Tb)(o:Dc)(t:Tm)(w:Int→D)(th:Dc × Bool)(e2:(t.op==2)=true)(els:List (List D))(hs:cP0 els els=true)(r102:∀ c,run prog ext (.call 102 [iV c,.c (.own 0)] [.stk 1 els none true])=some (.ret [dV (w c)] [.stk 1 els none true]))(h78:run prog ext (.call 78 [tbV x,sV t.s] [])=some (.ret [dcV th.1,bV th.2] [])) :
  run prog ext (.call 109 [tbV x,.c (.ptr 0 0),tmV t,.c (.own 1)] [.box (dcC o),.stk 1 els none true])=some (.ret [if th.2=true then(if((t.u.length:Int) != th.1.levels)=true then dV (w 42) else V.c (.d (.v .nilIface))) else dV (w 41)] [.box (dcC o),.stk 1 els none true]):=by
 obtain⟨d,b⟩:=th
 cases b with
 | false=>
  (rw[enT hx func109 rfl];simp only[f109,zR,simprocAttr,zE])
  simp only[tbV,tbC,dV,sV,iV,bV,tmV,tmC,dcV,dcC,Tm.uD]at r102 h78 ⊢
  simp only[zS,zD,zT24,zT39,zT33,zT9,zT3,h78,aF0,e2,aU0,(id rfl:ownF 102=true),aN0,r102,aW0,bT0,hs,simprocAttr]
  (refine .trans ?_ rfl;kernel_rfl)
 | true=>
  cases c:((t.u.length:Int) != d.levels)
  all_goals
   (rw[enT hx func109 rfl];simp only[f109,zR,simprocAttr,zE])
   simp only[tbV,tbC,dV,sV,iV,bV,tmV,tmC,dcV,dcC,Tm.uD]at r102 h78 ⊢
   simp only[zS,zD,zT24,zT39,zT33,zT30,zT9,zT3,h78,aF0,e2,c,aU0,(id rfl:ownF 102=true),aN0,r102,aW0,bT0,hs,simprocAttr]
   (refine .trans ?_ rfl;kernel_rfl)

theorem gI2 (hx:ext 109=none)(x:Tb)(o:Dc)(t:Tm)(e2:(t.op==2)=false)(e26:(t.op==26)=false)(e27:(t.op==27)=false)(e28:(t.op==28)=false)(els:List (List D)) :
  run prog ext (.call 109 [tbV x,.c (.ptr 0 0),tmV t,.c (.own 1)] [.box (dcC o),.stk 1 els none true])=some (.ret [V.c (.d (.v .nilIface))] [.box (dcC o),.stk 1 els none true]):=by
 (rw[enT hx func109 rfl];simp only[f109,zR,simprocAttr,zE])
 simp only[tbV,tbC,tmV,tmC,dcC,Tm.uD]
 simp only[zS,zD,bJ0,zT3,e2,e26,e27,e28,simprocAttr]
 (refine .trans ?_ rfl;kernel_rfl)

theorem pW1 (hx:ext 109=none)(x:Tb)(o:Dc)(t:Tm)(w:Int→D)(d:Dc)(e2:(t.op==2)=false)(e26:(t.op==26)=true)(e27:(t.op==27)=false)(e28:(t.op==28)=false)(els:List (List D))(hs:cP0 els els=true)(r102:∀ c,run prog ext (.call 102 [iV c,.c (.own 0)] [.stk 1 els none true])=some (.ret [dV (w c)] [.stk 1 els none true]))(h71:run prog ext (.call 71 [tbV x,sV t.s] [])=some (.ret [dcV d,bV true] [])) :
  run prog ext (.call 109 [tbV x,.c (.ptr 0 0),tmV t,.c (.own 1)] [.box (dcC o),.stk 1 els none true])=some (.ret [if arB t d=true then dV (w 42) else V.c (.d (.v .nilIface))] [.box (dcC o),.stk 1 els none true]):=by
 unfold arB
 cases c:((t.u.length:Int) != d.levels) with
 | true=>
  (rw[enT hx func109 rfl];simp only[f109,zR,simprocAttr,zE])
  simp only[tbV,tbC,dV,sV,iV,bV,tmV,tmC,dcV,dcC,Tm.uD]at r102 h71 ⊢
  simp only[zS,zD,zT24,zT39,zT33,zT9,zT3,h71,aF0,e2,e26,e27,e28,simprocAttr]
  refine bB0 ?_
  simp only[zS,zD,bN0,bA0,aQ0,aO0,aP0,aC0,aD0,Array.size,List.length,simprocAttr]
  rw[aB0 _ _ _ _ (by kernel_rfl)]
  simp only[zS,zD,bG0,aT0,zT30,zT3,c,aU0,(id rfl:ownF 102=true),aN0,r102,aW0,bT0,hs,simprocAttr]
  (refine .trans ?_ rfl;kernel_rfl)
 | false=>
  simp only[e27,e28,Bool.false_and,Bool.or_false]
  (rw[enT hx func109 rfl];simp only[f109,zR,simprocAttr,zE])
  simp only[tbV,tbC,dV,sV,iV,bV,tmV,tmC,dcV,dcC,Tm.uD]at r102 h71 ⊢
  simp only[zS,zD,zT24,zT39,zT33,zT9,zT3,h71,aF0,e2,e26,simprocAttr]
  refine bB0 ?_
  simp only[zS,zD,bN0,bA0,aQ0,aO0,aP0,aC0,aD0,Array.size,List.length,simprocAttr]
  rw[aB0 _ _ _ _ (by kernel_rfl)]
  simp only[zS,zD,bG0,zT33,zT30,zT3,e27,e28,c,simprocAttr]
  (refine .trans ?_ rfl;kernel_rfl)

theorem pP1 (hx:ext 109=none)(x:Tb)(o:Dc)(t:Tm)(w:Int→D)(d:Dc)(c4:(t.s.toList==o.name.toList)=false)(e2:(t.op==2)=false)(e26:(t.op==26)=true)(e27:(t.op==27)=false)(e28:(t.op==28)=false)(els:List (List D))(hs:cP0 els els=true)(r102:∀ c,run prog ext (.call 102 [iV c,.c (.own 0)] [.stk 1 els none true])=some (.ret [dV (w c)] [.stk 1 els none true]))(h71:run prog ext (.call 71 [tbV x,sV t.s] [])=some (.ret [dcV d,bV false] [])) :
  run prog ext (.call 109 [tbV x,.c (.ptr 0 0),tmV t,.c (.own 1)] [.box (dcC o),.stk 1 els none true])=some (.ret [dV (w 41)] [.box (dcC o),.stk 1 els none true]):=by
 (rw[enT hx func109 rfl];simp only[f109,zR,simprocAttr,zE])
 simp only[tbV,tbC,dV,sV,iV,bV,tmV,tmC,dcV,dcC,Tm.uD]at r102 h71 ⊢
 simp only[zS,zD,zT24,zT39,zT33,zT9,zT3,h71,aF0,e2,e26,simprocAttr]
 refine bB0 ?_
 simp only[zS,zD,aE0,zT33,zT9,zT3,cC0,bN0,bA0,aQ0,aO0,aP0,aC0,aD0,Array.size,List.length,e26,c4,simprocAttr]
 rw[aB0 _ _ _ _ (by kernel_rfl)]
 simp only[zS,zD,aU0,(id rfl:ownF 102=true),aN0,r102,aW0,bT0,hs,simprocAttr]
 (refine .trans ?_ rfl;kernel_rfl)

theorem pR1 (hx:ext 109=none)(x:Tb)(o:Dc)(t:Tm)(w:Int→D)(d:Dc)(fi:Int)(c4:(t.s.toList==o.name.toList)=true)(c5:¬ fi<0)(e2:(t.op==2)=false)(e26:(t.op==26)=true)(e27:(t.op==27)=false)(e28:(t.op==28)=false)(els:List (List D))(hs:cP0 els els=true)(r102:∀ c,run prog ext (.call 102 [iV c,.c (.own 0)] [.stk 1 els none true])=some (.ret [dV (w c)] [.stk 1 els none true]))(h71:run prog ext (.call 71 [tbV x,sV t.s] [])=some (.ret [dcV d,bV false] []))(h22:run prog ext (.call 22 [tbV x,sV t.s] [])=some (.ret [iV fi] [])) :
  run prog ext (.call 109 [tbV x,.c (.ptr 0 0),tmV t,.c (.own 1)] [.box (dcC o),.stk 1 els none true])=some (.ret [dV (w 41)] [.box (dcC o),.stk 1 els none true]):=by
 (rw[enT hx func109 rfl];simp only[f109,zR,simprocAttr,zE])
 simp only[tbV,tbC,dV,sV,iV,bV,tmV,tmC,dcV,dcC,Tm.uD]at r102 h71 h22 ⊢
 simp only[zS,zD,zT24,zT39,zT33,zT9,zT3,h71,aF0,e2,e26,simprocAttr]
 refine bB0 ?_
 simp only[zS,zD,zT24,aE0,zT33,zT9,zT3,cC0,bN0,bA0,aQ0,aP0,aC0,aD0,Array.size,List.length,e26,c4,c5,h22,simprocAttr]
 rw[aB0 _ _ _ _ (by kernel_rfl)]
 simp only[zS,zD,aU0,(id rfl:ownF 102=true),aN0,r102,aW0,bT0,hs,simprocAttr]
 (refine .trans ?_ rfl;kernel_rfl)

theorem pT1 (hx:ext 109=none)(x:Tb)(o:Dc)(t:Tm)(w:Int→D)(d:Dc)(fi:Int)(c4:(t.s.toList==o.name.toList)=true)(c5:fi<0)(e2:(t.op==2)=false)(e26:(t.op==26)=true)(e27:(t.op==27)=false)(e28:(t.op==28)=false)(els:List (List D))(hs:cP0 els els=true)(r102:∀ c,run prog ext (.call 102 [iV c,.c (.own 0)] [.stk 1 els none true])=some (.ret [dV (w c)] [.stk 1 els none true]))(h71:run prog ext (.call 71 [tbV x,sV t.s] [])=some (.ret [dcV d,bV false] []))(h22:run prog ext (.call 22 [tbV x,sV t.s] [])=some (.ret [iV fi] [])) :
  run prog ext (.call 109 [tbV x,.c (.ptr 0 0),tmV t,.c (.own 1)] [.box (dcC o),.stk 1 els none true])=some (.ret [if arB t o=true then dV (w 42) else V.c (.d (.v .nilIface))] [.box (dcC o),.stk 1 els none true]):=by
 unfold arB
 cases c:((t.u.length:Int) != o.levels) with
 | true=>
  (rw[enT hx func109 rfl];simp only[f109,zR,simprocAttr,zE])
  simp only[tbV,tbC,dV,sV,iV,bV,tmV,tmC,dcV,dcC,Tm.uD]at r102 h71 h22 ⊢
  simp only[zS,zD,zT24,zT39,zT33,zT9,zT3,h71,aF0,e2,e26,e27,e28,simprocAttr]
  refine bB0 ?_
  simp only[zS,zD,zT24,aE0,zT33,zT9,zT3,cC0,bN0,bA0,aQ0,aP0,aC0,aD0,Array.size,List.length,e26,c4,c5,h22,simprocAttr]
  rw[aB0 _ _ _ _ (by kernel_rfl)]
  simp only[zS,zD,zT39,aT0,zT30,zT3,c,aU0,(id rfl:ownF 102=true),aN0,r102,aW0,bT0,hs,simprocAttr]
  (refine .trans ?_ rfl;kernel_rfl)
 | false=>
  simp only[e27,e28,Bool.false_and,Bool.or_false]
  (rw[enT hx func109 rfl];simp only[f109,zR,simprocAttr,zE])
  simp only[tbV,tbC,dV,sV,iV,bV,tmV,tmC,dcV,dcC,Tm.uD]at r102 h71 h22 ⊢
  simp only[zS,zD,zT24,zT39,zT33,zT9,zT3,h71,aF0,e2,e26,simprocAttr]
  refine bB0 ?_
  simp only[zS,zD,zT24,aE0,zT33,zT9,zT3,cC0,bN0,bA0,aQ0,aP0,aC0,aD0,Array.size,List.length,e26,c4,c5,h22,simprocAttr]
  rw[aB0 _ _ _ _ (by kernel_rfl)]
  simp only[zS,zD,zT39,zT33,zT30,zT3,e27,e28,c,simprocAttr]
  (refine .trans ?_ rfl;kernel_rfl)

theorem xQ1 (hx:ext 109=none)(x:Tb)(o:Dc)(t:Tm)(w:Int→D)(fa:Dc × Bool)(e2:(t.op==2)=false)(e26:(t.op==26)=false)(e27:(t.op==27)=true)(e28:(t.op==28)=false)(els:List (List D))(hs:cP0 els els=true)(r102:∀ c,run prog ext (.call 102 [iV c,.c (.own 0)] [.stk 1 els none true])=some (.ret [dV (w c)] [.stk 1 els none true]))(h71:run prog ext (.call 71 [tbV x,sV t.s] [])=some (.ret [dcV fa.1,bV fa.2] [])) :
  run prog ext (.call 109 [tbV x,.c (.ptr 0 0),tmV t,.c (.own 1)] [.box (dcC o),.stk 1 els none true])=some (.ret [if fa.2=true then(if arB t fa.1=true then dV (w 42) else V.c (.d (.v .nilIface))) else dV (w 41)] [.box (dcC o),.stk 1 els none true]):=by
 obtain⟨d,b⟩:=fa
 cases b with
 | false=>
  (rw[enT hx func109 rfl];simp only[f109,zR,simprocAttr,zE])
  simp only[tbV,tbC,dV,sV,iV,bV,tmV,tmC,dcV,dcC,Tm.uD]at r102 h71 ⊢
  simp only[zS,zD,zT24,zT39,zT33,zT9,zT3,h71,aF0,e2,e26,e27,simprocAttr]
  refine bB0 ?_
  simp only[zS,zD,bJ0,zT3,cC0,bN0,bA0,aQ0,aO0,aP0,aC0,aD0,Array.size,List.length,e26,simprocAttr]
  rw[aB0 _ _ _ _ (by kernel_rfl)]
  simp only[zS,zD,aU0,(id rfl:ownF 102=true),aN0,r102,aW0,bT0,hs,simprocAttr]
  (refine .trans ?_ rfl;kernel_rfl)
 | true=>
  unfold arB
  cases c:((t.u.length:Int) != d.levels) with
  | true=>
   (rw[enT hx func109 rfl];simp only[f109,zR,simprocAttr,zE])
   simp only[tbV,tbC,dV,sV,iV,bV,tmV,tmC,dcV,dcC,Tm.uD]at r102 h71 ⊢
   simp only[zS,zD,zT24,zT39,zT33,zT9,zT3,h71,aF0,e2,e26,e27,e28,simprocAttr]
   refine bB0 ?_
   simp only[zS,zD,bN0,bA0,aQ0,aO0,aP0,aC0,aD0,Array.size,List.length,simprocAttr]
   rw[aB0 _ _ _ _ (by kernel_rfl)]
   simp only[zS,zD,bG0,aT0,zT30,zT3,c,aU0,(id rfl:ownF 102=true),aN0,r102,aW0,bT0,hs,simprocAttr]
   (refine .trans ?_ rfl;kernel_rfl)
  | false=>
   cases c2:decide ((d.cons.length:Int)≤t.n) with
   | true=>
    simp only[e27,e28,Bool.true_and,Bool.false_and,Bool.false_or,Bool.or_false]
    (rw[enT hx func109 rfl];simp only[f109,zR,simprocAttr,zE])
    simp only[tbV,tbC,dV,sV,iV,bV,tmV,tmC,dcV,dcC,Tm.uD]at r102 h71 ⊢
    simp only[zS,zD,zT24,zT39,zT33,zT9,zT3,h71,aF0,e2,e26,e27,simprocAttr]
    refine bB0 ?_
    simp only[zS,zD,bN0,bA0,aQ0,aO0,aP0,aC0,aD0,Array.size,List.length,simprocAttr]
    rw[aB0 _ _ _ _ (by kernel_rfl)]
    simp only[zS,zD,zT39,zT33,zT30,zT37,zT3,aS0,ge_iff_le,e27,c,c2,aU0,(id rfl:ownF 102=true),aN0,r102,aW0,bT0,hs,simprocAttr]
    (refine .trans ?_ rfl;kernel_rfl)
   | false=>
    simp only[e27,e28,Bool.true_and,Bool.false_and,Bool.or_false]
    (rw[enT hx func109 rfl];simp only[f109,zR,simprocAttr,zE])
    simp only[tbV,tbC,dV,sV,iV,bV,tmV,tmC,dcV,dcC,Tm.uD]at r102 h71 ⊢
    simp only[zS,zD,zT24,zT39,zT33,zT9,zT3,h71,aF0,e2,e26,e27,simprocAttr]
    refine bB0 ?_
    simp only[zS,zD,bN0,bA0,aQ0,aO0,aP0,aC0,aD0,Array.size,List.length,simprocAttr]
    rw[aB0 _ _ _ _ (by kernel_rfl)]
    simp only[zS,zD,zT39,zT33,zT30,zT37,zT3,aS0,ge_iff_le,e27,e28,c,c2,simprocAttr]
    (refine .trans ?_ rfl;kernel_rfl)

theorem xU1 (hx:ext 109=none)(x:Tb)(o:Dc)(t:Tm)(w:Int→D)(fa:Dc × Bool)(e2:(t.op==2)=false)(e26:(t.op==26)=false)(e27:(t.op==27)=false)(e28:(t.op==28)=true)(els:List (List D))(hs:cP0 els els=true)(r102:∀ c,run prog ext (.call 102 [iV c,.c (.own 0)] [.stk 1 els none true])=some (.ret [dV (w c)] [.stk 1 els none true]))(h71:run prog ext (.call 71 [tbV x,sV t.s] [])=some (.ret [dcV fa.1,bV fa.2] [])) :
  run prog ext (.call 109 [tbV x,.c (.ptr 0 0),tmV t,.c (.own 1)] [.box (dcC o),.stk 1 els none true])=some (.ret [if fa.2=true then(if arB t fa.1=true then dV (w 42) else V.c (.d (.v .nilIface))) else dV (w 41)] [.box (dcC o),.stk 1 els none true]):=by
 obtain⟨d,b⟩:=fa
 cases b with
 | false=>
  (rw[enT hx func109 rfl];simp only[f109,zR,simprocAttr,zE])
  simp only[tbV,tbC,dV,sV,iV,bV,tmV,tmC,dcV,dcC,Tm.uD]at r102 h71 ⊢
  simp only[zS,zD,zT24,zT39,zT33,zT9,zT3,h71,aF0,e2,e26,e27,e28,simprocAttr]
  refine bB0 ?_
  simp only[zS,zD,bJ0,zT3,cC0,bN0,bA0,aQ0,aO0,aP0,aC0,aD0,Array.size,List.length,e26,simprocAttr]
  rw[aB0 _ _ _ _ (by kernel_rfl)]
  simp only[zS,zD,aU0,(id rfl:ownF 102=true),aN0,r102,aW0,bT0,hs,simprocAttr]
  (refine .trans ?_ rfl;kernel_rfl)
 | true=>
  unfold arB
  cases c:((t.u.length:Int) != d.levels) with
  | true=>
   (rw[enT hx func109 rfl];simp only[f109,zR,simprocAttr,zE])
   simp only[tbV,tbC,dV,sV,iV,bV,tmV,tmC,dcV,dcC,Tm.uD]at r102 h71 ⊢
   simp only[zS,zD,zT24,zT39,zT33,zT9,zT3,h71,aF0,e2,e26,e27,e28,simprocAttr]
   refine bB0 ?_
   simp only[zS,zD,bN0,bA0,aQ0,aO0,aP0,aC0,aD0,Array.size,List.length,simprocAttr]
   rw[aB0 _ _ _ _ (by kernel_rfl)]
   simp only[zS,zD,bG0,aT0,zT30,zT3,c,aU0,(id rfl:ownF 102=true),aN0,r102,aW0,bT0,hs,simprocAttr]
   (refine .trans ?_ rfl;kernel_rfl)
  | false=>
   cases c2:(wr ((t.l.length:Int) - 3) != (d.cons.length:Int)) with
   | true=>
    simp only[e27,e28,Bool.true_and,Bool.false_and,Bool.false_or]
    (rw[enT hx func109 rfl];simp only[f109,zR,simprocAttr,zE])
    simp only[tbV,tbC,dV,sV,iV,bV,tmV,tmC,dcV,dcC,Tm.uD]at r102 h71 ⊢
    simp only[zS,zD,zT24,zT39,zT33,zT9,zT3,h71,aF0,e2,e26,e27,e28,simprocAttr]
    refine bB0 ?_
    simp only[zS,zD,bN0,bA0,aQ0,aO0,aP0,aC0,aD0,Array.size,List.length,simprocAttr]
    rw[aB0 _ _ _ _ (by kernel_rfl)]
    simp only[zS,zD,zT39,zT33,zT31,zT30,zT37,zT3,aS0,e27,e28,aI0,c,c2,aU0,(id rfl:ownF 102=true),aN0,r102,aW0,bT0,hs,simprocAttr]
    (refine .trans ?_ rfl;kernel_rfl)
   | false=>
    simp only[e27,e28,Bool.true_and,Bool.false_and,Bool.or_false]
    (rw[enT hx func109 rfl];simp only[f109,zR,simprocAttr,zE])
    simp only[tbV,tbC,dV,sV,iV,bV,tmV,tmC,dcV,dcC,Tm.uD]at r102 h71 ⊢
    simp only[zS,zD,zT24,zT39,zT33,zT9,zT3,h71,aF0,e2,e26,e27,e28,simprocAttr]
    refine bB0 ?_
    simp only[zS,zD,bN0,bA0,aQ0,aO0,aP0,aC0,aD0,Array.size,List.length,simprocAttr]
    rw[aB0 _ _ _ _ (by kernel_rfl)]
    simp only[zS,zD,zT39,zT33,zT31,zT30,zT37,zT3,aS0,e27,e28,aI0,c,c2,simprocAttr]
    (refine .trans ?_ rfl;kernel_rfl)
end
end Go.Proofs.YteenjodhmppgjaaGreatDoor.Am
