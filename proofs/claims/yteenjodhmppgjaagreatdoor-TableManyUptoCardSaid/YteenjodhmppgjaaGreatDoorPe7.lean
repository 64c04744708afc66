/- A part of the proof of a card. No conditions. -/
import Derived.Test.YteenjodhmppgjaaGreatDoorPe6
import Derived.Test.YteenjodhmppgjaaGreatDoorPe2
import Derived.Test.YteenjodhmppgjaaGreatDoorPe4
set_option linter.all false
set_option maxHeartbeats 16000000
set_option maxRecDepth 10000
namespace Go.Proofs.YteenjodhmppgjaaGreatDoor.Am
open Go.Proofs.Tryz
section
open Go
variable (ext:Ext)
theorem jR2 (vl:Lev→List Int)(n:Int)(hv:∀ u,cO0 n (vl u)=geV n u.vs):∀ (N:Nat)(x:Tm),x.sz≤N→∀ l,cO0 n (fgs (lv1 vl) l x)=(cO0 n l||lvGe n x)
 | 0,x,h,_=>by have:=x.sz_pos;omega
 | N+1,x,h,l=>by
  rw[uO1,xE1]
  have key:∀ (ls:List Tm),(∀ y∈ls,y.sz≤N)→∀ l,cO0 n (ls.foldl (fgs (lv1 vl)) l)=(cO0 n l||ls.any (lvGe n)):=by
   intro ls
   induction ls with
   | nil=>intro _ l;rw[List.foldl_nil,List.any_nil,Bool.or_false]
   | cons y r ih=>
    intro hy l
    rw[List.foldl_cons,ih (fun z hz=>hy z (List.mem_cons_of_mem _ hz)),jR2 vl n hv N y (hy y List.mem_cons_self),List.any_cons,Bool.or_assoc]
  rw[key x.l (fun y hy=>by have:=Tm.sz_lt hy;omega)]
  have e:cO0 n (lv1 vl l x)=(cO0 n l||x.u.any fun y=>geV n y.vs):=by
   have e1:(fun a=>(vl a).any fun v=>decide (n≤v))=fun y:Lev=>geV n y.vs:=funext hv
   unfold lv1 cO0
   rw[List.any_append,List.any_flatMap,e1]
  rw[e,Bool.or_assoc]
structure SoCo (so co:List Int→List Int):Prop where
 len:∀ l,(so l).length=l.length
 cle:∀ l,(co l).length≤l.length
 nil:co (so [])=[]
 mem:∀ l v,v∈co (so l)↔v∈l
 n1:run prog ext (.call 249 [dV nilD] [])=some (.ret [] [])
 n2:run prog ext (.call 250 [dV nilD] [])=some (.ret [dV nilD] [])
 r1:∀ a r,List.length r<2^29→run prog ext (.call 249 [.c (.own 0)] [.arr 1 ((a::r).map inD)])=some (.ret [] [.arr 1 ((so (a::r)).map inD)])
 r2:∀ l,List.length l<2^29→run prog ext (.call 250 [.c (.own 0)] [.arr 1 (l.map inD)])=some (.ret [.c (.own 1)] [.gone,.arr 1 ((co l).map inD)])
variable {so co:List Int→List Int}
theorem eY2 (H:eV0 ext)(S:SoCo ext so co)(x:Tm)(hs:x.sz<2^27) :
  ∃ (z:Bool) (W:List Int),W.length≤x.sz∧(∀ n,cO0 n W=lvGe n x)∧run prog ext (.call 218 [tmV x] [])=some (.ret [dV (aJ0 z 1 (W.map inD))] []):=by
 have hvl:∀ u:Lev,(co (so (u.vs.map LV.v))).length≤u.vs.length:=fun u=>by
  have h1:=S.cle (so (u.vs.map LV.v))
  have h2:=S.len (u.vs.map LV.v)
  rw[List.length_map]at h2
  omega
 obtain⟨z,h⟩:=rY2 ext (fun u=>co (so (u.vs.map LV.v))) so co (H _ (by decide)) (H _ (by decide)) (H _ (by decide)) hvl (fun u hu=>⟨_,xB2 ext so co (H _ (by decide)) S.nil S.n1 S.n2 S.r1 S.r2 S.len u (by omega)⟩) S.n1 S.n2 S.r1 S.r2 S.len S.nil x hs
 refine⟨z,_,?_,fun n=> ?_,h⟩
 ·have h1:=S.cle (so (fgs (lv1 fun u=>co (so (u.vs.map LV.v))) [] x))
  have h2:=S.len (fgs (lv1 fun u=>co (so (u.vs.map LV.v))) [] x)
  have h3:=dS1 (lv1 fun u=>co (so (u.vs.map LV.v))) (fun l x=>by
   have h1:=zS0 (fun u=>co (so (u.vs.map LV.v))) hvl x.u
   have h2:=x.sz_eq
   unfold lv1
   rw[List.length_append];omega) x.sz x (Nat.le_refl _) []
  simp only[List.length_nil]at h3
  omega
 ·have hv:∀ u:Lev,cO0 n (co (so (u.vs.map LV.v)))=geV n u.vs:=fun u=>by
   rw[cL1 n (S.mem (u.vs.map LV.v))]
   unfold cO0 geV
   rw[List.any_map]
   rfl
  rw[cL1 n (S.mem _),jR2 _ n hv x.sz x (Nat.le_refl _) []]
  rfl
theorem iM2 (H:eV0 ext)(hs:lR0 ext)(t:Tm)(ht:t.small):run prog ext (.call 215 [tmV t] [])=some (.ret [bV (jI0 t)] []):=
 iQ2 ext (H _ (by decide)) t (zJ1 ext (H _ (by decide)) t.sz t (Nat.le_refl _) (by have:=t.sz_le_wt;unfold Tm.small at ht;omega)) (eF1 ext H hs t ht)
theorem iN2 (H:eV0 ext)(t:Tm)(ht:t.small):run prog ext (.call 226 [tmV t] [])=some (.ret [bV (jI0 t)] []):=
 iR2 ext (H _ (by decide)) t (zI1 ext (H _ (by decide)) t.sz t (Nat.le_refl _) (by have:=t.sz_le_wt;unfold Tm.small at ht;omega)) (uW1 ext H t ht)
theorem uT1 (H:eV0 ext)(hs:lR0 ext)(hc:iI0 ext)(S:SoCo ext so co)(t:Tm)(ht:t.wt<2^23)(fr n:Int):run prog ext (.call 159 [tmV t,iV fr,iV n] [])=some (.ret [bV (gD0 t fr n)] []):=by
 have hsz:=t.sz_le_wt
 obtain⟨z,W,hl,hW,r218⟩:=eY2 ext H S t (by omega)
 have r216:=freeP ext (H _ (by decide)) (H _ (by decide)) (H _ (by decide)) (H _ (by decide)) (H _ (by decide)) (H _ (by decide)) hc (H _ (by decide)) (H _ (by decide)) t (by omega)
 rw[eG1 t.sz t 0 0 (Int.le_refl _),Int.max_eq_right (vA1 t.sz t 0)]at r216
 exact qL2 ext (H _ (by decide)) t fr n W z (iM2 ext H hs t (by unfold Tm.small;omega)) r216 (fun _=>r218) (fun _=>hW n)
  (rH2 ext (H _ (by decide)) (H _ (by decide)) z W n (by omega) (fun v=>decide (n≤v)) fun y _=>clo219 ext (H _ (by decide)) y n)
  (wD1 ext (H _ (by decide)) (H _ (by decide)) (H _ (by decide)) (H _ (by decide)) (H _ (by decide)) t.sz t (Nat.le_refl _) (by omega))
theorem uR1 (H:eV0 ext)(t:Tm)(ht:t.wt<2^23)(fr n:Int):run prog ext (.call 166 [tmV t,iV n,iV fr] [])=some (.ret [bV (gD0 t fr n)] []):=by
 have hsz:=t.sz_le_wt
 obtain⟨W,⟨hl,hW⟩,r253⟩:=rZ2 ext (H _ (by decide)) (H _ (by decide)) (H _ (by decide)) (H _ (by decide)) (H _ (by decide)) (H _ (by decide)) (H _ (by decide)) t (by omega)
 exact qJ2 ext (H _ (by decide)) t fr n W.2 (hW n) (iN2 ext H t (by unfold Tm.small;omega)) (nT1 ext (H _ (by decide)) t.sz t (Nat.le_refl _) (by omega))
  (qN2 ext (H _ (by decide)) t _ (vB1 ext (H _ (by decide)) (H _ (by decide)) (H _ (by decide)) t.sz t 0 (Nat.le_refl _) (by omega)))
  (bR2 ext (H _ (by decide)) t n W.1 W.2 (by omega) r253)
theorem lE1 (H:eV0 ext)(hs:lR0 ext)(u:Lev)(hu:u.vs.length<2^50)(n:Int):run prog ext (.call 160 [levV u,iV n] [])=some (.ret [bV (hU0 u n)] []):=
 cJ2 ext (H _ (by decide)) u n (eX1 ext H hs u) (uD1 ext H) (rI2 ext (H _ (by decide)) (H _ (by decide)) u n hu _ fun y _=>clo224 ext (H _ (by decide)) y n)
theorem lF1 (H:eV0 ext)(u:Lev)(hu:u.vs.length<2^50)(n:Int):run prog ext (.call 167 [levV u,iV n] [])=some (.ret [bV (hU0 u n)] []):=
 cK2 ext (H _ (by decide)) u n hu (eY1 ext H u) (eq43 ext (H _ (by decide)) u _ hu)
end
section
open Go
variable (ext:Ext){so co:List Int→List Int}
theorem kW0 {d:Dc}{b:Nat} (h:d.wt<b):d.type.wt<b∧d.body.wt<b∧d.param.wt<b∧d.over.vs.length<b∧d.sort.vs.length<b∧d.cons.length<b∧d.name.size<b∧∀ c∈d.cons,c.arg.wt<b∧c.name.size<b:=by
 have h1:=d.cons_lt
 have h2:d.over.vs.length<d.over.sz+1:=by unfold Lev.sz;omega
 have h3:d.sort.vs.length<d.sort.sz+1:=by unfold Lev.sz;omega
 refine⟨?_,?_,?_,?_,?_,by omega,?_,fun c hc=> ?_⟩
 ·unfold Dc.wt at h;omega
 ·unfold Dc.wt at h;omega
 ·unfold Dc.wt at h;omega
 ·unfold Dc.wt at h;omega
 ·unfold Dc.wt at h;omega
 ·unfold Dc.wt at h;omega
 ·have:=Dc.con_lt hc
  unfold Con.wt at this
  constructor <;> omega
theorem iS1 (H:eV0 ext)(hs:lR0 ext)(hc:iI0 ext)(S:SoCo ext so co)(d:Dc)(hd:d.wt<2^23):run prog ext (.call 101 [dcV d] [])=some (.ret [bV (hI0 d)] []):=by
 obtain⟨p1,p2,p3,p4,p5,p6,p7,p8⟩:=kW0 hd
 have e:(fun c=> !lX0 d.levels c)=fun c:Con=>(!cJ0 c.name || !gD0 c.arg 1 d.levels):=funext fun c=>by unfold lX0;rw[Bool.not_and]
 have n:=fun s=>sO2 ext (H _ (by decide)) (H _ (by decide)) (H _ (by decide)) (H _ (by decide)) s
 have z:=uD2 ext (H _ (by decide))
 have f:=fun(t:Tm) (ht:t.wt<2^23) fr m=>uT1 ext H hs hc S t ht fr m
 refine uY1 ext (H _ (by decide)) (H _ (by decide)) d (n _) (z _) (z _) (z _) (aE2 ext (H _ (by decide)) _) (aE2 ext (H _ (by decide)) _) (f _ p1 _ _) (f _ p2 _ _) (f _ p3 _ _)
  (lE1 ext H hs _ (by omega) _) (lE1 ext H hs _ (by omega) _) ?_
 rw[e]
 exact rG2 ext (H _ (by decide)) (H _ (by decide)) d (by omega) _ fun c hc'=>clo162 ext (H _ (by decide)) d c _ _ (n _) (f _ (p8 c hc').1 _ _)
theorem lD2 (H:eV0 ext)(u:Lev)(hu:u.vs.length<2^50):run prog ext (.call 43 [levV u,.agg [.d (.v (.int .i64 0)),.d (.v (.slice none 0 0))]] [])=some (.ret [bV (hN0 u)] []):=by
 have h:=eq43 ext (H _ (by decide)) u zLev hu
 have e:iP0 u zLev=hN0 u:=by
  show((u.c==0)&&allR eqLV u.vs [])=_
  rw[yP0];rfl
 rw[e]at h
 exact h
theorem iT1 (H:eV0 ext)(d:Dc)(hd:d.wt<2^23):run prog ext (.call 104 [dcV d] [])=some (.ret [bV (hI0 d)] []):=by
 obtain⟨p1,p2,p3,p4,p5,p6,p7,p8⟩:=kW0 hd
 have n:=fun s hs=>sP2 ext (H _ (by decide)) s hs
 have z:=fun(t:Tm) (ht:t.wt<2^23)=>uE2 ext (H _ (by decide)) t (eq36 ext (H _ (by decide)) (H _ (by decide)) (H _ (by decide)) (H _ (by decide)) t.sz t zTm (Nat.le_refl _) (by have:=t.sz_le_wt;omega))
 have f:=fun(t:Tm) (ht:t.wt<2^23) fr m=>uR1 ext H t ht fr m
 exact uZ1 ext (H _ (by decide)) d (sB2 ext d (by omega) (fun c hc=>n _ (by have:=(p8 c hc).2;omega)) fun c hc=>f _ (p8 c hc).1 _ _) (n _ (by omega)) (z _ p3) (z _ p1) (z _ p2) (lD2 ext H _ (by omega)) (lD2 ext H _ (by omega)) (f _ p1 _ _) (f _ p2 _ _) (f _ p3 _ _)
  (lF1 ext H _ (by omega) _) (lF1 ext H _ (by omega) _)
def bdF (t:Tm):Bool:=bdR t.sz t 0
theorem pos_P (H:eV0 ext)(hc:iI0 ext)(d:Dc)(hd:d.wt<2^23):run prog ext (.call 68 [dcV d] [])=some (.ret [resP [] (posD bdF d)] []):=by
 obtain⟨p1,p2,p3,p4,p5,p6,p7,p8⟩:=kW0 hd
 refine pos68 ext bdF (H _ (by decide)) d (by omega) fun k c hcm=> ?_
 have hw:=(p8 c hcm).1
 have hsz:=c.arg.sz_le_wt
 have o72:=fun(y:Tm) (hy:y.sz<2^50)=>gU2 ext (H _ (by decide)) (H _ (by decide)) (H _ (by decide)) (H _ (by decide)) (H _ (by decide)) (H _ (by decide)) d.name y hy
 exact jJ2 ext bdF d (2^23) (H _ (by decide)) (fun a r hr=>by
   have h:=pV0 ext (H _ (by decide)) 43 (a::r) (sR0 ext (H _ (by decide)) (a::r) (by simpa only[List.length_cons] using hr))
   have e:resP (a::r) (some [])=erV 43 (a::r):=by
    show V.c (.d (.i 128 [.v (.int .i64 43),.s 1 (((a::r)++[]).map inD)]))=_
    rw[List.append_nil]
    rfl
   rw[e]
   exact h)
  (fun y hy=>o72 y (by omega)) (fun y hy=>own182 ext (H _ (by decide)) d y.zu y.u (by have:=y.ulen_lt;omega))
  (fun y hy=>rF2 ext (H _ (by decide)) (H _ (by decide)) d y (by have:=y.len_lt;omega) _ fun z hz=>clo183 ext (H _ (by decide)) d z _ (o72 z (by have:=Tm.sz_lt hz;omega)))
  (fun y hy=>by
   have h:=boundP ext (H _ (by decide)) (H _ (by decide)) (H _ (by decide)) (H _ (by decide)) (H _ (by decide)) (H _ (by decide)) (H _ (by decide)) hc (H _ (by decide)) (H _ (by decide)) y (by omega)
   rw[xM0 y.sz y 0 true (Int.le_refl _) (by omega),Bool.true_and,Bool.not_not]at h
   exact h) c.arg.sz c.arg (Nat.le_refl _) (by omega) k [] (by simp only[List.length_nil];omega)
theorem pos_R (H:eV0 ext)(x:Tb)(d:Dc)(hd:d.wt<2^23):run prog ext (.call 105 [tbV x,dcV d] [])=some (.ret [resQ [] (posD bdF d)] []):=by
 obtain⟨p1,p2,p3,p4,p5,p6,p7,p8⟩:=kW0 hd
 refine pos105 ext bdF (H _ (by decide)) x d (by omega) fun k c hcm=> ?_
 have hw:=(p8 c hcm).1
 have hsz:=c.arg.sz_le_wt
 exact jK2 ext bdF d (2^23) (H _ (by decide)) (fun p k hp=>kO1 ext (H _ (by decide)) p k hp (sT1 ext (H _ (by decide)) p hp))
  (fun y hy=>aJ1 ext (H _ (by decide)) d.name y.sz y (Nat.le_refl _) (by omega)) (fun y hy=>wM1 ext (H _ (by decide)) (H _ (by decide)) (H _ (by decide)) d y (by omega))
  (fun y hy=>kZ1 ext (H _ (by decide)) (H _ (by decide)) y.sz y 0 (Nat.le_refl _) (by omega)) c.arg.sz c.arg (Nat.le_refl _) (by omega) [k] (by simp only[List.length_cons,List.length_nil];omega)
theorem xL1 (H:eV0 ext)(x:Tb)(hx:x.wt<2^40)(t:Tm)(ht:t.wt<2^23):run prog ext (.call 65 [tbV x,nptr,tmV t,dV nilD] [])=some (.ret [resV [] (firstE (ndZ x zDc) t)] []):=by
 have hl:=x.len_le
 exact xJ1 ext (ndZ x zDc) (H _ (by decide)) x Tm.small kK0 (fun t p hsm hp=>by
  rw[ndZ_z x (by omega) t hsm]
  exact sX2 ext (H _ (by decide)) x t p _ _ (fun c=>pV0 ext (H _ (by decide)) c p (sR0 ext (H _ (by decide)) p hp))
   (xO0 ext (H _ (by decide)) (H _ (by decide)) (H _ (by decide)) (H _ (by decide)) x t.s (by omega)) (fam71 ext (H _ (by decide)) (H _ (by decide)) (H _ (by decide)) (H _ (by decide)) x t.s (by omega)))
  t.sz t (Nat.le_refl _) (by unfold Tm.small;omega) [] (by have:=t.sz_le_wt;simp only[List.length_nil];omega)
theorem sS2 (H:eV0 ext)(x:Tb)(hx:x.wt<2^40)(d:Dc)(hd:d.wt<2^23)(hk:(d.kind==4)=true)(hf:find x d.name<0)(t:Tm)(ht:t.wt<2^23) :
  run prog ext (.call 65 [tbV x,.c (.ptr 0 0),tmV t,dV nilD] [.box (dcC d)])=some (.ret [resV [] (firstE (ndZ x d) t)] [.box (dcC d)]):=by
 have hl:=x.len_le
 exact mM1 ext (ndZ x d) (H _ (by decide)) x d Tm.small kK0 (fun t p hsm hp=>by
  rw[← ndO_R x (by omega) d (by omega) hk hf t hsm]
  exact gQ2 ext (H _ (by decide)) x d t p _ _ _ (fun c=>pV0 ext (H _ (by decide)) c p (sR0 ext (H _ (by decide)) p hp))
   (xO0 ext (H _ (by decide)) (H _ (by decide)) (H _ (by decide)) (H _ (by decide)) x t.s (by omega)) (fam71 ext (H _ (by decide)) (H _ (by decide)) (H _ (by decide)) (H _ (by decide)) x t.s (by omega))
   (dZ1 ext (H _ (by decide)) (H _ (by decide)) (H _ (by decide)) x t.s (by omega)))
  t.sz t (Nat.le_refl _) (by unfold Tm.small;omega) [] (by have:=t.sz_le_wt;simp only[List.length_nil];omega)
theorem sT2 (H:eV0 ext)(x:Tb)(hx:x.wt<2^40)(o:Dc)(t:Tm)(ht:t.wt<2^23):run prog ext (.call 67 [tbV x,dcV o,tmV t,dV (dY0 [])] [])=some (.ret [resF [] (firstE (ndZ x o) t)] []):=by
 have hl:=x.len_le
 exact xK1 ext (ndZ x o) (H _ (by decide)) x o Tm.small kK0 (H _ (by decide)) (H _ (by decide)) (fun t ht=>
   gF2 ext (H _ (by decide)) x o t _ _ (wQ2 ext (H _ (by decide)) (H _ (by decide)) x t.s (by omega)) (fam73 ext (H _ (by decide)) (H _ (by decide)) x t.s (by omega))) t.sz t (Nat.le_refl _) (by unfold Tm.small;omega) [] (by have:=t.sz_le_wt;simp only[List.length_nil];omega)
theorem rT2 {d:Dc} (h:hI0 d=true){c:Con} (hc:c∈d.cons):(d.kind==4)=true:=by
 unfold hI0 at h
 simp only[Bool.and_eq_true]at h
 have h3:=h.2.2.2
 by_cases c1:((d.kind==1)||((d.kind==2)||(d.kind==3)))=true
 ·rw[if_pos c1]at h3
  simp only[Bool.and_eq_true]at h3
  have h4:=h3.2.2.2.1
  unfold lenZ at h4
  rw[beq_iff_eq]at h4
  have:=List.length_pos_of_mem hc
  omega
 ·rw[if_neg c1]at h3
  by_cases c2:(d.kind==4)=true
  ·exact c2
  ·rw[if_neg c2]at h3;cases h3
theorem eG2 (H:eV0 ext)(hs:lR0 ext)(hc:iI0 ext)(S:SoCo ext so co)(x:Tb)(hx:x.wt<2^40)(d:Dc)(hd:d.wt<2^23) :
  run prog ext (.call 60 [tbV x,dcV d] [])=some (.ret [resV [] (exam bdF (ndZ x zDc) (ndZ x d) x d)] []):=by
 obtain⟨p1,p2,p3,p4,p5,p6,p7,p8⟩:=kW0 hd
 have hl:=x.len_le
 exact uJ1 ext bdF (ndZ x zDc) (ndZ x d) (H _ (by decide)) x d (by omega) (iS1 ext H hs hc S d hd) (fun c=>pV0 ext (H _ (by decide)) c [] (sR0 ext (H _ (by decide)) [] (by decide)))
  (dZ1 ext (H _ (by decide)) (H _ (by decide)) (H _ (by decide)) x d.name (by omega)) (iK2 ext (H _ (by decide)) d (by omega))
  (fun t ht _=>xL1 ext H x hx t (by
   simp only[List.mem_cons,List.not_mem_nil,or_false]at ht
   rcases ht with rfl | rfl | rfl
   ·exact p1
   ·exact p2
   ·exact p3))
  (fun c hcm hfm hf=>sS2 ext H x hx d hd (rT2 hfm hcm) hf c.arg (p8 c hcm).1)
  (fun _=>pos_P ext H hc d hd)
theorem yN1 (d:Dc):(parts d).length=3+d.cons.length:=by unfold parts;simp;omega
theorem yO1 {d:Dc}{t:Tm} (h:t∈parts d):t=d.type∨t=d.body∨t=d.param∨∃ c∈d.cons,t=c.arg:=by
 unfold parts at h
 simp only[List.mem_append,List.mem_cons,List.not_mem_nil,or_false,List.mem_map]at h
 rcases h with(h | h | h) | ⟨c,hc,rfl⟩
 ·exact .inl h
 ·exact .inr (.inl h)
 ·exact .inr (.inr (.inl h))
 ·exact .inr (.inr (.inr ⟨c,hc,rfl⟩))
theorem cX2 (H:eV0 ext)(x:Tb)(hx:x.wt<2^40)(d:Dc)(hd:d.wt<2^23) :
  run prog ext (.call 61 [tbV x,dcV d] [])=some (.ret [iV (oU1 bdF (ndZ x) x d)] []):=by
 obtain⟨p1,p2,p3,p4,p5,p6,p7,p8⟩:=kW0 hd
 have hl:=x.len_le
 exact pE1 ext bdF (ndZ x) (H _ (by decide)) x d (by omega) (by rw[yN1];omega) (iT1 ext H d hd)
  (uQ1 ext (H _ (by decide)) x d.name (by omega)) (fun _=>uQ2 ext (H _ (by decide)) d (by omega))
  (fun _ _ j t hj=>sT2 ext H x hx _ t (by
   rcases yO1 (List.mem_of_getElem? hj) with rfl | rfl | rfl | ⟨c,hc,rfl⟩
   ·exact p1
   ·exact p2
   ·exact p3
   ·exact(p8 c hc).1))
  (fun j t q h=>pM0 _ t.sz t (Nat.le_refl _) q h) (fun _=>pos_R ext H x d hd)
end
section
open Go
variable (ext:Ext){so co:List Int→List Int}
def pre (x:Tb)(k:Nat):Tb:=⟨x.ds.take k,false⟩
theorem uS2 (x:Tb)(k:Nat):tbV (pre x k) = .agg [.d (.s 23 ((x.ds.map dcD).take k))]:=by
 unfold tbV tbC Tb.d pre
 rw[oM0,List.map_take]
theorem yR1 (x:Tb)(k:Nat):(pre x k).wt≤x.wt:=by
 unfold pre Tb.wt
 have h:(x.ds.map Dc.wt).sum=((x.ds.take k).map Dc.wt).sum+((x.ds.drop k).map Dc.wt).sum:=by
  rw[← List.sum_append,← List.map_append,List.take_append_drop]
 dsimp only
 omega
def cdF (x:Tb)(k:Nat)(d:Dc):Int:=oU1 bdF (ndZ (pre x k)) (pre x k) d
theorem uH1 {bd:Tm→Bool}{e eo:Tm→Int}{x:Tb}{d:Dc}{q:Int × List Int} (h:exam bd e eo x d=some q):¬ q.1=0:=by
 have key:∀ {α:Type} (f:Nat→α→Option (Int × List Int)) (hf:∀ k a q,f k a=some q→¬ q.1=0) (l:List α) (k:Nat) (q:Int × List Int),bH0 f k l=some q→¬ q.1=0:=fun f hf l k q h=>kY0 f (fun q=>¬ q.1=0) hf l k q h
 unfold exam at h
 split at h
 ·cases h;decide
 ·split at h
  ·cases h;decide
  ·split at h
   ·rename_i q' hq
    cases h
    exact key _ (fun _ t q h=>pM0 e t.sz t (Nat.le_refl _) q h) _ _ _ hq
   ·split at h
    ·rename_i q' hq
     cases h
     exact key _ (fun _ c q h=>pM0 eo c.arg.sz c.arg (Nat.le_refl _) q h) _ _ _ hq
    ·cases hp:posD bd d with
     | none=>rw[hp]at h;cases h
     | some r=>rw[hp]at h;cases h;exact(by decide:¬ (43:Int)=0)
theorem zM0 (H:eV0 ext)(hs:lR0 ext)(hc:iI0 ext)(S:SoCo ext so co)(r59:∀ r:Option (Int × List Int),run prog ext (.call 59 [resV [] r] [])=some (.ret [resF [] r] []))(x:Tb)(hx:x.wt<2^40)(hD:∀ d∈x.ds,d.wt<2^23) :
  run prog ext (.call 15 [tbV x] [])=some (ckR (cdF x) x):=by
 refine oU2 ext (cdF x) (H _ (by decide)) x fun _ k d hk=> ?_
 have hd:=hD d (List.mem_of_getElem? hk)
 have hp:=yR1 x k
 have h60:=eG2 ext H hs hc S (pre x k) (by omega) d (by omega)
 rw[uS2]at h60
 have hcd:cdF x k d=pC2 (exam bdF (ndZ (pre x k) zDc) (ndZ (pre x k) d) (pre x k) d):=dI1 bdF (ndZ (pre x k)) (pre x k) d
 cases hq:exam bdF (ndZ (pre x k) zDc) (ndZ (pre x k) d) (pre x k) d with
 | none=>
  rw[hq]at h60 hcd
  have h59:=r59 none
  refine⟨.v .nilIface,.v (.slice none 0 0),h60,?_,fun _=>rfl⟩
  rw[hcd];exact h59
 | some q=>
  rw[hq]at h60 hcd
  have h59:=r59 (some q)
  have ev:resV [] (some q)=dV (erD q.1 q.2):=nY0 q.1 q.2
  rw[ev]at h60 h59
  refine⟨erD q.1 q.2,dY0 q.2,h60,?_,fun h0=> ?_⟩
  ·rw[hcd];exact h59
  ·rw[hcd]at h0
   exact absurd h0 (uH1 hq)
theorem sL1 (H:eV0 ext)(x:Tb)(hx:x.wt<2^40)(hD:∀ d∈x.ds,d.wt<2^23):run prog ext (.call 16 [tbV x] [])=some (ckR (cdF x) x):=by
 refine oV2 ext (cdF x) (H _ (by decide)) x fun _ k d hk=> ?_
 have hd:=hD d (List.mem_of_getElem? hk)
 have hp:=yR1 x k
 have h61:=cX2 ext H (pre x k) (by omega) d (by omega)
 rw[uS2]at h61
 exact h61
theorem sM1 (cd:Nat→Dc→Int)(x:Tb):∃ a b,ckR cd x = .ret [iV a,iV b] []:=by
 unfold ckR
 split
 ·exact⟨_,_,rfl⟩
 ·cases bH0 (ckS cd) 0 x.ds with
  | none=>exact⟨_,_,rfl⟩
  | some q=>exact⟨_,_,rfl⟩
theorem heavy3 (hx:ext 3=none)(x:Tb)(r13:run prog ext (.call 13 [tbV x] [])=some (.ret [bV true] []))(r14:run prog ext (.call 14 [] [])=some (.ret [bV true] [])):run prog ext (.call 3 [tbV x] [])=some (.ret [bV true] []):=by
 (rw[enT hx func3 rfl];simp only[f3,zR,simprocAttr,zE])
 simp only[tbV,tbC,bV]at r13 r14 ⊢
 simp only[zS,zD,zT24,r13,r14,simprocAttr]
 (refine .trans ?_ rfl;kernel_rfl)
theorem light3 (hx:ext 3=none)(x:Tb)(a b:Int)(r13:run prog ext (.call 13 [tbV x] [])=some (.ret [bV false] []))(r14:run prog ext (.call 14 [] [])=some (.ret [bV true] []))
  (r15:run prog ext (.call 15 [tbV x] [])=some (.ret [iV a,iV b] []))(r16:run prog ext (.call 16 [tbV x] [])=some (.ret [iV a,iV b] [])):run prog ext (.call 3 [tbV x] [])=some (.ret [bV true] []):=by
 (rw[enT hx func3 rfl];simp only[f3,zR,simprocAttr,zE])
 simp only[tbV,tbC,bV,iV]at r13 r14 r15 r16 ⊢
 simp only[zS,zD,zT24,r13,r14,r15,r16,dI0,simprocAttr]
 (refine .trans ?_ rfl;kernel_rfl)
theorem law3 (H:eV0 ext)(hs:lR0 ext)(hc:iI0 ext)(S:SoCo ext so co)(r14:run prog ext (.call 14 [] [])=some (.ret [bV true] []))
  (r59:∀ r:Option (Int × List Int),run prog ext (.call 59 [resV [] r] [])=some (.ret [resF [] r] [])) (x:Tb) (hx:x.wt<2^23):run prog ext (.call 3 [tbV x] [])=some (.ret [bV true] []):=by
 have hok:x.ok:=Tb.ok_wt (by omega)
 have hD:∀ d∈x.ds,d.wt<2^23:=fun d hd=>by have:=Tb.dc_le hd;omega
 obtain⟨b1,r13⟩:=iU1 ext (H _ (by decide)) (H _ (by decide)) (H _ (by decide)) (H _ (by decide)) (H _ (by decide)) (H _ (by decide)) x hok
 cases b1 with
 | true=>exact heavy3 ext (H _ (by decide)) x r13 r14
 | false=>
  obtain⟨a,b,e⟩:=sM1 (cdF x) x
  have r15:=zM0 ext H hs hc S r59 x (by omega) hD
  have r16:=sL1 ext H x (by omega) hD
  rw[e]at r15 r16
  exact light3 ext (H _ (by decide)) x a b r13 r14 r15 r16
end
end Go.Proofs.YteenjodhmppgjaaGreatDoor.Am
