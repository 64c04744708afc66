/- A part of the proof of a card. No conditions. -/
import Derived.Test.YteenjodhmppgjaaGreatDoorPd7
import Derived.Test.YteenjodhmppgjaaGreatDoorPd8
set_option linter.all false
set_option maxHeartbeats 16000000
set_option maxRecDepth 10000
namespace Go.Proofs.YteenjodhmppgjaaGreatDoor.Am
open Go.Proofs.Tryz
section
open Go
variable (ext:Ext)
def resQ (p:List Int):Option (List Int)→V
 | none=>fltV 0 []
 | some q=>fltV 43 (p++q)
theorem hJ2 (p:List Int)(k:Int)(x:Option (List Int)):resQ (p++[k]) x=resQ p (x.map (k :: ·)):=by
 cases x <;> simp[resQ]
section
variable (bd:Tm→Bool) (o:Dc) (M:Nat)
theorem jK2 (hx:ext 168=none)(r112:∀ (p:List Int)(k:Int),p.length<2^29→run prog ext (.call 112 [dV (dY0 p),iV k] [])=some (.ret [dV (dY0 (p++[k]))] []))
  (r74:∀ y:Tm,y.sz≤M→run prog ext (.call 74 [sV o.name,tmV y] [])=some (.ret [bV (occ o.name y)] []))
  (r231:∀ y:Tm,y.sz≤M→run prog ext (.call 231 [dcV o,tmV y] [])=some (.ret [bV (ownL o y.u && !y.l.any (occ o.name))] []))
  (r232:∀ y:Tm,y.sz≤M→run prog ext (.call 232 [tmV y,iV 0] [])=some (.ret [bV (bd y)] [])) :
  ∀ (N:Nat) (t:Tm),t.sz≤N→t.sz≤M→∀ p:List Int,p.length+N<2^29 →
   run prog ext (.call 168 [dcV o,tmV t,dV (dY0 p)] [])=some (.ret [resQ p (posE bd o N t)] [])
 | 0,t,h,_,_,_=>by have:=t.sz_pos;omega
 | N+1,t,h,hM,p,hp=>by
  have q74:=r74 t hM
  have ih:∀ (k:Int) (y:Tm),y∈t.l→run prog ext (.call 168 [dcV o,tmV y,dV (dY0 (p++[k]))] [])=some (.ret [resQ p ((posE bd o N y).map (k :: ·))] []):=by
   intro k y hy
   have hsz:=Tm.sz_lt hy
   have:=jK2 hx r112 r74 r231 r232 N y (by omega) (by omega) (p++[k]) (by simp;omega)
   rwa[hJ2]at this
  have hq:=fun k=>r112 p k (by omega)
  have e0:resQ p (some []) = .agg [.d (.v (.int .i64 43)),.d (dY0 p)]:=by simp[resQ,fltV]
  rw[posE]
  cases hocc:occ o.name t with
  | false=>
   rw[hocc]at q74
   exact bj0 ext o t _ hx q74
  | true=>
  rw[hocc]at q74
  rw[if_neg (by decide)]
  by_cases hself:((t.op==26)&&(t.s.toList==o.name.toList))=true
  ·rw[if_pos hself]
   rw[Bool.and_eq_true]at hself
   have q231:=r231 t hM
   cases c1:(ownL o t.u && !t.l.any (occ o.name)) with
   | false=>
    rw[c1]at q231
    rw[if_neg (by decide),e0]
    exact bj1f ext o t _ hx q74 hself.1 hself.2 q231
   | true=>
    rw[c1]at q231
    exact bj1t ext o t _ hx q74 hself.1 hself.2 q231
  ·rw[if_neg hself]
   have hcase:(t.op==26)=false∨((t.op==26)=true∧(t.s.toList==o.name.toList)=false):=by
    cases e26:(t.op==26) with
    | false=>exact .inl rfl
    | true=>
     rw[e26,Bool.true_and]at hself
     exact .inr ⟨rfl,by simpa using hself⟩
   have c5:(t.op==5)=true→(t.op==26)=false∧(t.op==8)=false:=fun e=>by rw[beq_iff_eq]at e;rw[e];exact⟨rfl,rfl⟩
   have c8:(t.op==8)=true→(t.op==26)=false∧(t.op==5)=false:=fun e=>by rw[beq_iff_eq]at e;rw[e];exact⟨rfl,rfl⟩
   by_cases hl:∃ a b,t.l=[a,b]
   ·obtain⟨a,b,hl⟩:=hl
    rw[hl]
    dsimp only
    have ha:t.l[0]? = some a:=by rw[hl];rfl
    have hb:t.l[1]? = some b:=by rw[hl];rfl
    have hma:a∈t.l:=List.mem_of_getElem? ha
    have hmb:b∈t.l:=List.mem_of_getElem? hb
    have hc:((t.l.length:Int)==2)=true:=by rw[hl];rfl
    have hsa:=Tm.sz_lt hma
    have hsb:=Tm.sz_lt hmb
    have ra:=r74 a (by omega)
    have rb:=r74 b (by omega)
    have rbd:=r232 b (by omega)
    have i0:=ih 0 a hma
    have i1:=ih 1 b hmb
    have hres:∀ x:Option (List Int),∃ c F,resQ p x = .agg [.d (.v (.int .i64 c)),.d F]:=fun x=>by cases x <;> exact⟨_,_,rfl⟩
    cases e5:(t.op==5) with
    | true=>
     have e26:=(c5 e5).1
     rw[if_pos rfl]
     cases m2:mkB t.n 2 with
     | true=>
      rw[Bool.true_or,if_pos rfl,e0]
      exact bj4 ext o t _ hx q74 e26 a b ha hb hc e5 m2
     | false=>
      rw[Bool.false_or]
      cases ca:occ o.name a with
      | true=>
       rw[ca]at ra
       rw[if_pos rfl,e0]
       exact bj5 ext o t _ hx q74 e26 a b ha hb hc e5 m2 ra
      | false=>
       rw[ca]at ra
       rw[if_neg (by decide)]
       obtain⟨c,F,hF⟩:=hres ((posE bd o N b).map (1 :: ·))
       rw[hF]at i1 ⊢
       exact bj6 ext o t _ hx q74 _ _ e26 a b ha hb hc e5 m2 ra _ (hq 1) i1
    | false=>
     rw[if_neg (by decide)]
     cases e8:(t.op==8) with
     | false=>
      rw[if_neg (by decide),e0]
      rcases hcase with e26 | ⟨e26,en⟩
      ·exact bj3a ext o t _ hx q74 e26 e5 e8
      ·exact bj3b ext o t _ hx q74 e26 en e5 e8
     | true=>
      have e26:=(c8 e8).1
      rw[if_pos rfl]
      -- what follows the marks
      have tail:∀ (hE:∀ (c0:Int) (F0:D),¬ c0=0→run prog ext (.call 168 [dcV o,tmV a,dV (dY0 (p++[0]))] [])=some (.ret [.agg [.d (.v (.int .i64 c0)),.d F0]] [])→run prog ext (.call 168 [dcV o,tmV t,dV (dY0 p)] [])=some (.ret [.agg [.d (.v (.int .i64 c0)),.d F0]] []))
        (hX:occ o.name a=true→bd b=true→run prog ext (.call 168 [dcV o,tmV a,dV (dY0 (p++[0]))] [])=some (.ret [fltV 0 []] [])→run prog ext (.call 168 [dcV o,tmV t,dV (dY0 p)] [])=some (.ret [fltV 43 p] []))
        (hG:∀ (c1:Int) (F1:D),(occ o.name a=true→bd b=false)→run prog ext (.call 168 [dcV o,tmV a,dV (dY0 (p++[0]))] [])=some (.ret [fltV 0 []] [])→run prog ext (.call 168 [dcV o,tmV b,dV (dY0 (p++[1]))] [])=some (.ret [.agg [.d (.v (.int .i64 c1)),.d F1]] [])→run prog ext (.call 168 [dcV o,tmV t,dV (dY0 p)] [])=some (.ret [.agg [.d (.v (.int .i64 c1)),.d F1]] [])),
        run prog ext (.call 168 [dcV o,tmV t,dV (dY0 p)] [])=some (.ret [resQ p (match posE bd o N a with
         | some q=>some (0::q)
         | none=>if(occ o.name a&&bd b)=true then some [] else(posE bd o N b).map (1 :: ·))] []):=by
       intro hE hX hG
       cases hpa:posE bd o N a with
       | some q=>
        rw[hpa]at i0
        exact hE _ _ (by decide) i0
       | none=>
        rw[hpa]at i0
        dsimp only
        by_cases hx2:(occ o.name a&&bd b)=true
        ·rw[if_pos hx2,e0]
         rw[Bool.and_eq_true]at hx2
         exact hX hx2.1 hx2.2 i0
        ·rw[if_neg hx2]
         obtain⟨c,F,hF⟩:=hres ((posE bd o N b).map (1 :: ·))
         rw[hF]at i1 ⊢
         refine hG _ _ (fun h=> ?_) i0 i1
         rw[h,Bool.true_and]at hx2
         simpa using hx2
      by_cases g1:(mkB t.n 1&&occ o.name a)=true
      ·rw[g1,Bool.true_or,if_pos rfl,e0]
       rw[Bool.and_eq_true]at g1
       rw[g1.2]at ra
       exact bj8x ext o t _ hx q74 e26 a b ha hb hc e5 e8 g1.1 ra
      have g1':(mkB t.n 1&&occ o.name a)=false:=by simpa using g1
      rw[g1',Bool.false_or]
      by_cases g2:(mkB t.n 2&&occ o.name b)=true
      ·rw[if_pos g2,e0]
       rw[Bool.and_eq_true]at g2
       rw[g2.2]at rb
       cases m1:mkB t.n 1 with
       | false=>cases ca:occ o.name a with
        | false=>rw[ca]at ra;exact bj8y0 ext o t _ hx q74 e26 a b ha hb hc e5 e8 m1 ra g2.1 rb
        | true=>rw[ca]at ra;exact bj8y1 ext o t _ hx q74 e26 a b ha hb hc e5 e8 m1 ra g2.1 rb
       | true=>
        rw[m1,Bool.true_and]at g1'
        rw[g1']at ra
        exact bj8y2 ext o t _ hx q74 e26 a b ha hb hc e5 e8 m1 ra g2.1 rb
      rw[if_neg g2]
      have g2':(mkB t.n 2&&occ o.name b)=false:=by simpa using g2
      have z0:fltV 0 [] = .agg [.d (.v (.int .i64 0)),.d (.v (.slice none 0 0))]:=rfl
      rw[z0]at tail
      cases m1:mkB t.n 1 with
      | false=>
       cases ca:occ o.name a with
       | false=>
        rw[ca]at ra
        rw[ca]at tail
        cases m2:mkB t.n 2 with
        | false=>exact tail (fun c0 F0 h0 s0=>bj8E00 ext o t _ hx q74 c0 F0 h0 e26 a b ha hb hc e5 e8 m1 ra m2 _ (hq 0) s0) (fun h=>(by cases h)) (fun c1 F1 _ s0 s1=>bj8F00 ext o t _ hx q74 c1 F1 e26 a b ha hb hc e5 e8 m1 ra m2 _ (hq 0) s0 _ (hq 1) s1)
        | true=>
         rw[m2,Bool.true_and]at g2'
         rw[g2']at rb
         exact tail (fun c0 F0 h0 s0=>bj8E01 ext o t _ hx q74 c0 F0 h0 e26 a b ha hb hc e5 e8 m1 ra m2 rb _ (hq 0) s0) (fun h=>(by cases h)) (fun c1 F1 _ s0 s1=>bj8F01 ext o t _ hx q74 c1 F1 e26 a b ha hb hc e5 e8 m1 ra m2 rb _ (hq 0) s0 _ (hq 1) s1)
       | true=>
        rw[ca]at ra
        rw[ca]at tail
        cases m2:mkB t.n 2 with
        | false=>exact tail (fun c0 F0 h0 s0=>bj8E10 ext o t _ hx q74 c0 F0 h0 e26 a b ha hb hc e5 e8 m1 ra m2 _ (hq 0) s0) (fun _ hb2 s0=>bj8X10 ext o t _ hx q74 e26 a b ha hb hc e5 e8 m1 ra m2 _ (hq 0) s0 (by rw[hb2]at rbd;exact rbd)) (fun c1 F1 hb2 s0 s1=>bj8G10 ext o t _ hx q74 c1 F1 e26 a b ha hb hc e5 e8 m1 ra m2 _ (hq 0) s0 (by rw[hb2 rfl]at rbd;exact rbd) _ (hq 1) s1)
        | true=>
         rw[m2,Bool.true_and]at g2'
         rw[g2']at rb
         exact tail (fun c0 F0 h0 s0=>bj8E11 ext o t _ hx q74 c0 F0 h0 e26 a b ha hb hc e5 e8 m1 ra m2 rb _ (hq 0) s0) (fun _ hb2 s0=>bj8X11 ext o t _ hx q74 e26 a b ha hb hc e5 e8 m1 ra m2 rb _ (hq 0) s0 (by rw[hb2]at rbd;exact rbd)) (fun c1 F1 hb2 s0 s1=>bj8G11 ext o t _ hx q74 c1 F1 e26 a b ha hb hc e5 e8 m1 ra m2 rb _ (hq 0) s0 (by rw[hb2 rfl]at rbd;exact rbd) _ (hq 1) s1)
      | true=>
       rw[m1,Bool.true_and]at g1'
       rw[g1']at ra
       rw[g1']at tail
       cases m2:mkB t.n 2 with
       | false=>exact(by rw[g1'];exact tail (fun c0 F0 h0 s0=>bj8E20 ext o t _ hx q74 c0 F0 h0 e26 a b ha hb hc e5 e8 m1 ra m2 _ (hq 0) s0) (fun h=>(by cases h)) (fun c1 F1 _ s0 s1=>bj8F20 ext o t _ hx q74 c1 F1 e26 a b ha hb hc e5 e8 m1 ra m2 _ (hq 0) s0 _ (hq 1) s1))
       | true=>
        rw[m2,Bool.true_and]at g2'
        rw[g2']at rb
        exact(by rw[g1'];exact tail (fun c0 F0 h0 s0=>bj8E21 ext o t _ hx q74 c0 F0 h0 e26 a b ha hb hc e5 e8 m1 ra m2 rb _ (hq 0) s0) (fun h=>(by cases h)) (fun c1 F1 _ s0 s1=>bj8F21 ext o t _ hx q74 c1 F1 e26 a b ha hb hc e5 e8 m1 ra m2 rb _ (hq 0) s0 _ (hq 1) s1))
   ·have hc:((t.l.length:Int)==2)=false:=by
     match e:t.l with
     | []=>rfl
     | [_]=>rfl
     | [a,b]=>exact absurd ⟨a,b,e⟩ hl
     | _::_::_::l=>simp;omega
    split
    ·rename_i a b e;exact absurd ⟨a,b,e⟩ hl
    ·rw[e0]
     cases e5:(t.op==5) with
     | true=>exact bj3c ext o t _ hx q74 (c5 e5).1 e5 (c5 e5).2 hc
     | false=>
      cases e8:(t.op==8) with
      | true=>exact bj3d ext o t _ hx q74 (c8 e8).1 e5 e8 hc
      | false=>
       rcases hcase with e26 | ⟨e26,en⟩
       ·exact bj3a ext o t _ hx q74 e26 e5 e8
       ·exact bj3b ext o t _ hx q74 e26 en e5 e8
end
end
section
open Go
variable (ext:Ext)
noncomputable def B68 : Code:=(f68.body.getD .skip)
noncomputable def L68a : Code:=sub B68 [1,1,0,1,0,0]
theorem rB2 : It.code L68a=It.code (sub B68 [1,1,0,1,0,0]):=rfl
noncomputable def K68a : List It:=[.inBlock 0,.code (sub B68 [1,1,1])]
noncomputable def H68a (ext:Ext)(m:Nat)(env:Env)(loc:List O):Option Out:=run prog ext (.k ⟨27,m,[.tmp 2],false⟩ (.code L68a :: .inLoop L68a::K68a) env loc)
def E68 (d:Dc)(k:Int):Env:=[(1,.c (.ptr 0 0)),(10,dV d.d),(11,iV d.cons.length),(12,iV k)]
theorem skip68 (hx:ext 68=none)(d:Dc)(k4:(d.kind==4)=false):run prog ext (.call 68 [dcV d] [])=some (.ret [V.c (.d (.v .nilIface))] []):=by
 have k4':(d.kind != 4)=true:=by simp[bne,k4]
 (rw[enT hx func68 rfl];simp only[f68,zR,simprocAttr,zE])
 simp only[dcV,dcC]
 simp only[zS,zD,vD0,zT3,k4',simprocAttr]
 (refine .trans ?_ rfl;kernel_rfl)
theorem en68 (hx:ext 68=none)(d:Dc)(k4:(d.kind==4)=true)(out:Option Out)(h:H68a ext 0 (E68 d 0) [.box (dcC d)]=out):run prog ext (.call 68 [dcV d] [])=out:=by
 have k4':(d.kind != 4)=false:=by simp[bne,k4]
 unfold H68a at h
 (rw[enT hx func68 rfl];simp only[f68,zR,simprocAttr,zE])
 simp only[dcV,dcC,dV,iV,E68]at h ⊢
 simp only[zS,zD,zT39,zT37,zT3,k4',aS0,simprocAttr]
 (refine(aA0 ?_).trans h;kernel_rfl)
theorem st68 (d:Dc)(c:Con)(k:Nat)(hk:d.cons[k]? = some c)(hl:(k:Int)<d.cons.length)(r113:run prog ext (.call 113 [dcV d,tmV c.arg,.c (.own 0)] [.stk 1 [[.v (.int .i64 k)]] none true])=some (.ret [V.c (.d (.v .nilIface))] [.stk 1 [[.v (.int .i64 k)]] none true]))
  (out:Option Out) (h:H68a ext 0 (E68 d (wr ((k:Int)+1))) [.box (dcC d)]=out):H68a ext 0 (E68 d k) [.box (dcC d)]=out:=by
 have h0:(0:Int)≤k:=by omega
 unfold H68a at h ⊢
 simp only[dcV,dcC,tmV,tmC,dV,iV,E68,cZ0 hl]at r113 h ⊢
 (rw[rB2];simp only[B68,K68a,sub,f68,↓reduceIte,zG])
 simp only[zS,zD,zT39,lO0,zT98,zT33,aR0,h0,hl,Int.toNat_natCast,hk,dM0 c,bsIn,dE0,(id rfl:ownF 113=true),aZ1,(id rfl:gJ0 113=true),r113,bA1,bK0,aX0,Bool.or_true,simprocAttr]
 (refine(aA0 ?_).trans h;kernel_rfl)
theorem bad68 (d:Dc)(c:Con)(xs:List D)(k:Nat)(hk:d.cons[k]? = some c)(hl:(k:Int)<d.cons.length)(r113:run prog ext (.call 113 [dcV d,tmV c.arg,.c (.own 0)] [.stk 1 [[.v (.int .i64 k)]] none true])=some (.ret [V.c (.d (.i 128 xs))] [.stk 1 [[.v (.int .i64 k)]] none true])) :
  H68a ext 0 (E68 d k) [.box (dcC d)]=some (.ret [V.c (.d (.i 128 xs))] []):=by
 have h0:(0:Int)≤k:=by omega
 unfold H68a
 simp only[dcV,dcC,tmV,tmC,dV,iV,E68,cZ0 hl]at r113 ⊢
 (rw[rB2];simp only[B68,K68a,sub,f68,↓reduceIte,zG])
 simp only[zS,zD,zT39,lO0,zT98,zT33,aR0,h0,hl,Int.toNat_natCast,hk,dM0 c,bsIn,dE0,(id rfl:ownF 113=true),aZ1,(id rfl:gJ0 113=true),r113,bA1,bK0,aX0,Bool.or_true,simprocAttr]
 (refine .trans ?_ rfl;kernel_rfl)
theorem dn68 (d:Dc):H68a ext 0 (E68 d d.cons.length) [.box (dcC d)]=some (.ret [V.c (.d (.v .nilIface))] []):=by
 unfold H68a
 simp only[dcC,dV,iV,E68]
 (rw[rB2];simp only[B68,K68a,sub,f68,↓reduceIte,zG])
 simp only[zS,zD,Int.lt_irrefl,simprocAttr]
 (refine .trans ?_ rfl;kernel_rfl)
section
variable (bd:Tm→Bool)
def posC (d:Dc)(k:Nat)(c:Con):Option (List Int):=(posE bd d c.arg.sz c.arg).map ((k:Int) :: ·)
def posD (d:Dc):Option (List Int):=if(d.kind==4)=true then bH0 (posC bd d) 0 d.cons else none
theorem pos68 (hx:ext 68=none)(d:Dc)(hs:d.cons.length<2^50)(r113:∀ (k:Int)(c:Con),c∈d.cons→run prog ext (.call 113 [dcV d,tmV c.arg,.c (.own 0)] [.stk 1 [[.v (.int .i64 k)]] none true])=some (.ret [resP [k] (posE bd d c.arg.sz c.arg)] [.stk 1 [[.v (.int .i64 k)]] none true])) :
  run prog ext (.call 68 [dcV d] [])=some (.ret [resP [] (posD bd d)] []):=by
 unfold posD
 cases k4:(d.kind==4) with
 | false=>exact skip68 ext hx d k4
 | true=>
  rw[if_pos rfl]
  refine en68 ext hx d k4 _ ?_
  have:=dK0 d.cons (fun k=>H68a ext 0 (E68 d k) [.box (dcC d)]) (posC bd d) (fun q=>some (.ret [resP [] (some q)] [])) (some (.ret [resP [] none] [])) (by omega) (fun k c hk hl=>by
   have hr:=r113 k c (List.mem_of_getElem? hk)
   unfold posC
   cases hq:posE bd d c.arg.sz c.arg with
   | none=>rw[hq]at hr;exact fun out ho=>st68 ext d c k hk hl hr out ho
   | some q=>rw[hq]at hr;exact bad68 ext d c _ k hk hl hr) (dn68 ext d)
  rw[this]
  cases bH0 (posC bd d) 0 d.cons <;> rfl
end
end
section
open Go
variable (ext:Ext)
noncomputable def B105 : Code:=(f105.body.getD .skip)
noncomputable def lQ2 : Code:=sub B105 [1,0,1,0,0]
theorem mB1 : It.code lQ2=It.code (sub B105 [1,0,1,0,0]):=rfl
noncomputable def rD1 : List It:=[.inBlock 0,.code (sub B105 [1,1])]
noncomputable def rZ0 (ext:Ext)(m:Nat)(env:Env)(loc:List O):Option Out:=run prog ext (.k ⟨34,m,[.cell 4 45],false⟩ (.code lQ2 :: .inLoop lQ2::rD1) env loc)
theorem lC1 (rec:Rec)(look:Look)(slot:Nat)(f:FuncId)(v u:V)(id:Nat)(hf:ownF f=false)(hv:gA0 v=true)(hu:gA0 u=true):cH0 rec look slot f [v,u,.c (.own id)]=coK rec slot f [v,u] id [] (look id):=dC1 rec look slot f [v,u] id [] hf (by simp[hv,hu]) rfl
def E105 (k:Int):Env:=[(3,.c (.ptr 0 0)),(4,.c (.ptr 1 0)),(5,iV k)]
def O105 (d:Dc):List O:=[.box (dcC d),.box [.d (.v (.int .i64 0)),.d (.v (.slice none 0 0))]]
theorem en105 (hx:ext 105=none)(x:Tb)(d:Dc)(out:Option Out)(h:rZ0 ext 0 (E105 0) (O105 d)=out):run prog ext (.call 105 [tbV x,dcV d] [])=out:=by
 unfold rZ0 at h
 (rw[enT hx func105 rfl];simp only[f105,zR,simprocAttr,zE])
 simp only[tbV,tbC,dcV,dcC,iV,E105,O105]at h ⊢
 simp only[zS,zD,bN1,simprocAttr]
 (refine(aA0 ?_).trans h;kernel_rfl)
theorem st105 (d:Dc)(c:Con)(k:Nat)(k4:(d.kind==4)=true)(hk:d.cons[k]? = some c)(hl:(k:Int)<d.cons.length)(r168:run prog ext (.call 168 [dcV d,tmV c.arg,dV (.s 1 [[.v (.int .i64 k)]])] [])=some (.ret [.agg [.d (.v (.int .i64 0)),.d (.v (.slice none 0 0))]] []))
  (out:Option Out) (h:rZ0 ext 0 (E105 (wr ((k:Int)+1))) (O105 d)=out):rZ0 ext 0 (E105 k) (O105 d)=out:=by
 have h0:(0:Int)≤k:=by omega
 cases hsc:cS0 (.agg [.d (.v (.int .i64 0)),.d (.v (.slice none 0 0))])
 all_goals
  unfold rZ0 at h ⊢
  simp only[dcV,dcC,tmV,tmC,dV,iV,E105,O105,cZ0 hl]at r168 h ⊢
  (rw[mB1];simp only[B105,rD1,sub,f105,↓reduceIte,zG])
  simp only[zS,zD,zT39,zT37,zT98,zT33,zT45,zT3,aK0,aC0,aD0,Array.size,List.length,h0,hl,k4,Int.toNat_natCast,hk,dM0 c,bsIn,lC1,iC1,(id rfl:ownF 168=false),r168,uX0,hsc,bE0,simprocAttr]
  rw[aB0 _ _ _ _ (by kernel_rfl)]
  simp only[zS,zD,bP0,zT27,simprocAttr]
  (refine(aA0 ?_).trans h;kernel_rfl)
theorem bad105 (d:Dc)(c:Con)(cd:Int)(F:D)(hc:¬ cd=0)(k:Nat)(k4:(d.kind==4)=true)(hk:d.cons[k]? = some c)(hl:(k:Int)<d.cons.length)(r168:run prog ext (.call 168 [dcV d,tmV c.arg,dV (.s 1 [[.v (.int .i64 k)]])] [])=some (.ret [.agg [.d (.v (.int .i64 cd)),.d F]] [])) :
  rZ0 ext 0 (E105 k) (O105 d)=some (.ret [.agg [.d (.v (.int .i64 cd)),.d F]] []):=by
 have h0:(0:Int)≤k:=by omega
 cases hsc:cS0 (.agg [.d (.v (.int .i64 cd)),.d F])
 all_goals
  unfold rZ0
  simp only[dcV,dcC,tmV,tmC,dV,iV,E105,O105,cZ0 hl]at r168 ⊢
  (rw[mB1];simp only[B105,rD1,sub,f105,↓reduceIte,zG])
  simp only[zS,zD,zT39,zT37,zT98,zT33,zT45,zT3,aK0,aC0,aD0,Array.size,List.length,h0,hl,k4,Int.toNat_natCast,hk,dM0 c,bsIn,lC1,iC1,(id rfl:ownF 168=false),r168,uX0,hsc,bE0,simprocAttr]
  rw[aB0 _ _ _ _ (by kernel_rfl)]
  simp only[zS,zD,zT45,zT27,hc,simprocAttr]
  (refine .trans ?_ rfl;kernel_rfl)
theorem dn105 (d:Dc)(k4:(d.kind==4)=true):rZ0 ext 0 (E105 d.cons.length) (O105 d)=some (.ret [fltV 0 []] []):=by
 unfold rZ0
 simp only[dcC,iV,E105,O105,fltV,iT0]
 (rw[mB1];simp only[B105,rD1,sub,f105,↓reduceIte,zG])
 simp only[zS,zD,cM0,zT37,zT45,aS0,Int.lt_irrefl,simprocAttr]
 (refine .trans ?_ rfl;kernel_rfl)
theorem sk105 (d:Dc)(k4:(d.kind==4)=false):rZ0 ext 0 (E105 0) (O105 d)=some (.ret [fltV 0 []] []):=by
 unfold rZ0
 cases hz:decide ((0:Int)<d.cons.length)
 all_goals
  simp only[dcC,iV,E105,O105,fltV,iT0]
  (rw[mB1];simp only[B105,rD1,sub,f105,↓reduceIte,zG])
  simp only[zS,zD,zT39,zT37,zT45,zT3,aS0,k4,hz,simprocAttr]
  (refine .trans ?_ rfl;kernel_rfl)
end
section
open Go
variable (ext:Ext)
section
variable (bd:Tm→Bool)
theorem pos105 (hx:ext 105=none)(x:Tb)(d:Dc)(hs:d.cons.length<2^50)(r168:∀ (k:Int)(c:Con),c∈d.cons→run prog ext (.call 168 [dcV d,tmV c.arg,dV (dY0 [k])] [])=some (.ret [resQ [k] (posE bd d c.arg.sz c.arg)] [])) :
  run prog ext (.call 105 [tbV x,dcV d] [])=some (.ret [resQ [] (posD bd d)] []):=by
 refine en105 ext hx x d _ ?_
 unfold posD
 cases k4:(d.kind==4) with
 | false=>exact sk105 ext d k4
 | true=>
  rw[if_pos rfl]
  have:=dK0 d.cons (fun k=>rZ0 ext 0 (E105 k) (O105 d)) (posC bd d) (fun q=>some (.ret [resQ [] (some q)] [])) (some (.ret [resQ [] none] [])) (by omega) (fun k c hk hl=>by
   have hr:=r168 k c (List.mem_of_getElem? hk)
   unfold posC
   cases hq:posE bd d c.arg.sz c.arg with
   | none=>rw[hq]at hr;exact fun out ho=>st105 ext d c k k4 hk hl hr out ho
   | some q=>rw[hq]at hr;exact bad105 ext d c _ _ (by decide) k k4 hk hl hr) (dn105 ext d k4)
  rw[this]
  cases bH0 (posC bd d) 0 d.cons <;> rfl
end
end
end Go.Proofs.YteenjodhmppgjaaGreatDoor.Am
