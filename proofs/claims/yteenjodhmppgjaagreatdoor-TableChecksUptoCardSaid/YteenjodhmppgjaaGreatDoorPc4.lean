/- A part of the proof of a card. No conditions. -/
import Derived.Test.YteenjodhmppgjaaGreatDoorPb5
set_option linter.all false
set_option maxHeartbeats 16000000
set_option maxRecDepth 10000
namespace Go.Proofs.YteenjodhmppgjaaGreatDoor.Am
open Go.Proofs.Tryz
section
open Go
theorem rB0 {c:C} (h:hH0 c=true):jG1 c=true:=by cases c <;> first | rfl | cases h
theorem rC0 {v:V} (h:gA0 v=true):eV1 v=true:=by
 cases v with
 | c x=>exact rB0 h
 | agg cs=>exact List.all_eq_true.2 fun c hc=>rB0 (List.all_eq_true.1 h c hc)
 | tup vs=>cases h
theorem hL2 (i:Int):qI1 [.v (.int .i64 i)] [.v (.int .i64 i)]=true:=by simp[qI1]
theorem hF0 : ∀ l:List Int,cP0 (l.map inD) (l.map inD)=true
 | []=>rfl
 | a::l=>by simp only[List.map_cons,cP0,inD,hL2,hF0 l,Bool.and_self]
theorem kI0 (l:List Int)(i:Int):cP0 (l.map inD++[[.v (.int .i64 i)]]) (l.map inD++[[.v (.int .i64 i)]])=true:=by
 have:=hF0 (l++[i])
 rwa[List.map_append]at this
def skK (rec:Rec)(look:Look)(slot:Nat)(f:FuncId)(pre:List V)(id:Nat)(o:Option O):Option Eff:=
 match o with
 | some (.stk k els none _)=>cG0 look slot (aY0 [id] [] slot (rec (.call f (pre++[.c (.own 0)]) [.stk k els none true])))
 | some (.arr k els)=>if gJ0 f=true then cG0 look slot (aY0 [id] [] slot (hO0 [.arr k els] (rec (.call f (pre++[.c (.own 0)]) [.stk k els none true])))) else cH0 rec look slot f (pre++[.c (.own id)])
 | _=>cH0 rec look slot f (pre++[.c (.own id)])
theorem sQ0 (rec:Rec)(look:Look)(slot:Nat)(f:FuncId)(pre:List V)(id:Nat)(hf:ownF f=true)(hp:pre.all gA0=true) :
  cH0 rec look slot f (pre++[.c (.own id)])=skK rec look slot f pre id (look id):=by
 obtain⟨k1,k2,k3⟩:=gG0 (look:=look) hp
 have a2:(pre++[V.c (.own id)]).flatMap jK0=[id]:=by rw[List.flatMap_append,k2];rfl
 have a4:mapO (renV (pos [id])) (pre++[.c (.own id)])=some (pre++[.c (.own 0)]):=by
  have e:renV (pos [id]) (.c (.own id))=some (.c (.own 0)):=by simp[renV,renC,pos]
  have:∀ l:List V,mapO (renV (pos [id])) l=some l→mapO (renV (pos [id])) (l++[.c (.own id)])=some (l++[.c (.own 0)]):=by
   intro l
   induction l with
   | nil=>intro _;simp only[List.nil_append,mapO,e]
   | cons v l ih=>
    intro h
    simp only[mapO]at h
    cases h1:renV (pos [id]) v with
    | none=>rw[h1]at h;cases h
    | some v'=>
     rw[h1]at h
     cases h2:mapO (renV (pos [id])) l with
     | none=>rw[h2]at h;cases h
     | some l'=>
      rw[h2]at h
      simp only[Option.some.injEq,List.cons.injEq]at h
      obtain⟨rfl,rfl⟩:=h
      simp only[List.cons_append,mapO,h1,ih h2]
  exact this pre (k3 _)
 cases hl:look id with
 | none=>rfl
 | some o=>
  cases o with
  | stk k els cur r=>
   cases cur with
   | some c=>rfl
   | none=>
    unfold cH0 cI0 skK
    rw[hf]
    simp only[eU0]
    have a3:Am.reach look 200 [] [id]=[id]:=by
     show(if([]:List Nat).contains id=true then _ else Am.reach look 199 ([]++[id]) ([]++sK0 (look id)))=[id]
     rw[hl]
     rfl
    have a5:mapO look [id]=some [.stk k els none r]:=by simp only[mapO,hl]
    have a9:[O.stk k els none r].map hV0=[O.stk k els none true]:=rfl
    have a6:mapO (renO (pos [id])) [.stk k els none true]=some [.stk k els none true]:=rfl
    have a7:cW0 rec f (pre++[.c (.own 0)]) [.stk k els none true]=rec (.call f (pre++[.c (.own 0)]) [.stk k els none true]):=by unfold cW0;rfl
    have a8:lH0 look [id]=true:=by simp[lH0,rX0,hl,bK0]
    simp only[a2,a3,a4,a5,a9,a6,a8]
    refine Eq.trans (b:=cG0 look slot (aY0 [id] [] slot (cW0 rec f (pre++[.c (.own 0)]) [.stk k els none true]))) (by simp[gY0]) ?_
    rw[a7]
  | arr k els=>
   cases hcf:gJ0 f with
   | false=>simp[skK,hcf]
   | true=>
    unfold skK
    dsimp only
    rw[hcf,if_pos rfl]
    unfold cH0 cI0
    rw[hf]
    simp only[eU0]
    have a3:Am.reach look 200 [] [id]=[id]:=by
     show(if([]:List Nat).contains id=true then _ else Am.reach look 199 ([]++[id]) ([]++sK0 (look id)))=[id]
     rw[hl]
     rfl
    have a5:mapO look [id]=some [.arr k els]:=by simp only[mapO,hl]
    have a9:[O.arr k els].map hV0=[O.arr k els]:=rfl
    have a6:mapO (renO (pos [id])) [.arr k els]=some [.arr k els]:=rfl
    have a8:lH0 look [id]=true:=by simp[lH0,rX0,hl,bK0]
    have hap:(pre++[V.c (.own 0)]).all eV1=true:=by
     rw[List.all_append,List.all_eq_true.2 fun v hv=>rC0 (List.all_eq_true.1 hp v hv)];rfl
    have a7:cW0 rec f (pre++[.c (.own 0)]) [.arr k els]=hO0 [.arr k els] (rec (.call f (pre++[.c (.own 0)]) [.stk k els none true])):=by
     unfold cW0
     rw[hcf,hap]
     rfl
    simp only[a2,a3,a4,a5,a9,a6,a8]
    refine Eq.trans (b:=cG0 look slot (aY0 [id] [] slot (cW0 rec f (pre++[.c (.own 0)]) [.arr k els]))) (by simp[gY0]) ?_
    rw[a7]
  | _=>rfl
section
variable (rec:Rec) (look:Look) (slot:Nat) (f:FuncId)
theorem sG1 (id:Nat)(hf:ownF f=true):cH0 rec look slot f [.c (.own id)]=skK rec look slot f [] id (look id):=sQ0 rec look slot f [] id hf rfl
theorem aU0 (a:V)(id:Nat)(hf:ownF f=true)(ha:gA0 a=true):cH0 rec look slot f [a,.c (.own id)]=skK rec look slot f [a] id (look id):=sQ0 rec look slot f [a] id hf (by simp[ha])
theorem dE0 (a b:V)(id:Nat)(hf:ownF f=true)(ha:gA0 a=true)(hb:gA0 b=true):cH0 rec look slot f [a,b,.c (.own id)]=skK rec look slot f [a,b] id (look id):=sQ0 rec look slot f [a,b] id hf (by simp[ha,hb])
theorem kB0 (a b c:V)(id:Nat)(hf:ownF f=true)(ha:gA0 a=true)(hb:gA0 b=true)(hc:gA0 c=true):cH0 rec look slot f [a,b,c,.c (.own id)]=skK rec look slot f [a,b,c] id (look id):=sQ0 rec look slot f [a,b,c] id hf (by simp[ha,hb,hc])
theorem aN0 (pre:List V)(id k:Nat)(els:List (List D))(r:Bool):skK rec look slot f pre id (some (.stk k els none r))=cG0 look slot (aY0 [id] [] slot (rec (.call f (pre++[.c (.own 0)]) [.stk k els none true]))):=rfl
theorem aZ1 (pre:List V)(id k:Nat)(els:List (List D))(hc:gJ0 f=true):skK rec look slot f pre id (some (.arr k els))=cG0 look slot (aY0 [id] [] slot (hO0 [.arr k els] (rec (.call f (pre++[.c (.own 0)]) [.stk k els none true])))):=by unfold skK;dsimp only;rw[if_pos hc]
theorem aW0 (id k:Nat)(els:List (List D))(v:V)(c:Option Nat)(r:Bool)(hv:gA0 v=true)(hl:bT0 (.stk k els none true) (look id)=true)(hid:id<slot):cG0 look slot (aY0 [id] [] slot (some (.ret [v] [.stk k els c r])))=some ⟨.val v,[],[id]⟩:=by
 obtain⟨_,_,h3⟩:=bR0 (look:=fun _=>none) hv
 obtain⟨els',c',r',hl'⟩:∃ els' c' r',look id=some (.stk k els' c' r'):=by
  cases h:look id with
  | none=>rw[h]at hl;cases hl
  | some o=>
   rw[h]at hl
   cases o with
   | stk k' els' c' r'=>
    simp only[bT0,Bool.and_eq_true,decide_eq_true_eq]at hl
    exact⟨els',c',r',by rw[hl.1]⟩
   | _=>cases hl
 rw[hl']at hl
 simp only[bT0,Bool.and_eq_true,decide_eq_true_eq]at hl
 have hb:∀ c2:Option Nat,gW0 look slot [id] [(id,.stk k els c2 r)]=true:=by
  intro c2
  simp[gW0,qU0,hl',bK0,bT0,hl.2,hid]
 simp only[aY0,bW0,mapO,h3,aZ0,renO,Nat.lt_irrefl,if_false,bQ0,back,List.isEmpty_cons,Bool.and_false,bE0,List.append_nil,Nat.zero_add,Nat.zero_lt_one,if_true,List.getElem?_cons_zero,Option.getD_some,Bool.false_eq_true,zE]
 simp only[cG0,hb,if_true,dS0,bK0,List.filter_cons,List.filter_nil,Bool.not_true,Bool.false_eq_true,if_false]
theorem bA1 (id k:Nat)(els els':List (List D))(v:V)(c:Option Nat)(r:Bool)(hv:gA0 v=true)(hl:bK0 (look id)=false):cG0 look slot (aY0 [id] [] slot (hO0 [.arr k els] (some (.ret [v] [.stk k els' c r]))))=some ⟨.val v,[(id,.gone)],[id]⟩:=by
 obtain⟨_,_,h3⟩:=bR0 (look:=fun _=>none) hv
 have hb:gW0 look slot [id] [(id,.gone)]=true:=by
  simp only[gW0,List.all_cons,List.all_nil,qU0,hl,Bool.and_false,Bool.false_eq_true,if_false,Bool.and_true];rfl
 simp only[hO0,hW0,aY0,bW0,mapO,h3,aZ0,renO,Nat.lt_irrefl,if_false,bQ0,back,List.isEmpty_cons,Bool.and_false,bE0,List.append_nil,Nat.zero_add,Nat.zero_lt_one,if_true,List.getElem?_cons_zero,Option.getD_some,Bool.false_eq_true,zE]
 simp only[cG0,hb,if_true,dS0,bK0,List.filter_cons,List.filter_nil,Bool.not_false]
end
section
variable {P:Program}{look:Look}{slot:Nat}{t e:TypeId}{k b:Nat} (h1:jJ0 P t=some e) (h2:cT0 P e=some k) (h3:eJ0 P e=some b) (h4:(dT0 P e).map List.length=some k) (h5:0<k)
include h1 h2 h3 h4 h5
theorem app_so (id j:Nat)(els new:List (List D))(hi:look id=some (.stk k els none true))(hj:look j=some (.arr k new))(hn:0<new.length)(hb:b≤1000)(h6:els.length≤1000000000)(h7:new.length≤1000000000)(hne:¬ j=id) :
  bI0 P look slot [t,t] [.c (.own id),.c (.own j)]=some ⟨.val (.c (.own slot)),[(j,.gone),(id,.stk k els (some slot) true),(slot,.stk k (els++new) none false)],[j,id]⟩:=by
 have hc:([j].contains id)=false:=by simp;exact fun e=>hne e.symm
 have h8:(els.length+new.length)*b≤140737488355328:=Nat.le_trans (Nat.mul_le_mul (Nat.add_le_add h6 h7) hb) (by decide)
 have h9:els.length+new.length≤9223372036854775807:=by omega
 simp only[bI0,h1,h2,h3,h4,h5,eT0,gM0,bK0,hj,hi,ne_eq,not_true_eq_false,if_false,and_self,if_true,List.append_nil,Bool.false_eq_true]
 rw[if_pos ⟨trivial,h8,h9,hc,hn⟩]
 rfl
theorem app_as (id j:Nat)(els new:List (List D))(c:Option Nat)(r:Bool)(hi:look id=some (.arr k els))(hj:look j=some (.stk k new c r))(hb:b≤1000)(h6:els.length≤1000000000)(h7:new.length≤1000000000) :
  bI0 P look slot [t,t] [.c (.own id),.c (.own j)]=some ⟨.val (.c (.own slot)),[(id,.gone),(slot,.arr k (els++new))],[id,j]⟩:=by
 have h8:(els.length+new.length)*b≤140737488355328:=Nat.le_trans (Nat.mul_le_mul (Nat.add_le_add h6 h7) hb) (by decide)
 have h9:els.length+new.length≤9223372036854775807:=by omega
 simp only[bI0,h1,h2,h3,h4,h5,eT0,gM0,bK0,hj,hi,ne_eq,not_true_eq_false,if_false,and_self,if_true]
 rw[if_pos ⟨trivial,h8,h9,rfl⟩]
 rfl
end
theorem apG_d (k b slot id j k1:Nat)(els new:List (List D))(c:Option Nat)(r:Bool)(d:Option Eff):apG k b slot id j (some (.stk k1 els c r)) (some (.arr k new)) d=d:=by unfold apG;dsimp only;rw[if_pos rfl]
theorem apG_e (k b slot id j k1:Nat)(o:Option O)(els:List (List D))(c:Option Nat)(r:Bool)(d:Option Eff):apG k b slot id j o (some (.stk k1 els c r)) d=d:=rfl
theorem gN0 (look:Look)(slot id j:Nat)(els new:List (List D))(hi:look id=some (.stk 1 els none true))(hj:look j=some (.arr 1 new))(hn:0<new.length)(h6:els.length≤1000000000)(h7:new.length≤1000000000)(hne:¬ j=id) :
  apG 1 8 slot id j (some (.stk 1 els none true)) (some (.arr 1 new)) (apD prog look slot 43 (.c (.own id)) (.c (.own j)))=some ⟨.val (.c (.own slot)),[(j,.gone),(id,.stk 1 els (some slot) true),(slot,.stk 1 (els++new) none false)],[j,id]⟩:=by
 rw[apG_d]
 unfold apD
 exact app_so (P:=prog) (slot:=slot) eP0 gT0 hZ0 z43 (by decide) id j els new hi hj hn (by decide) h6 h7 hne
theorem apG_as (look:Look)(slot id j:Nat)(els new:List (List D))(c:Option Nat)(r:Bool)(hi:look id=some (.arr 1 els))(hj:look j=some (.stk 1 new c r))(h6:els.length≤1000000000)(h7:new.length≤1000000000) :
  apG 1 8 slot id j (some (.arr 1 els)) (some (.stk 1 new c r)) (apD prog look slot 43 (.c (.own id)) (.c (.own j)))=some ⟨.val (.c (.own slot)),[(id,.gone),(slot,.arr 1 (els++new))],[id,j]⟩:=by
 rw[apG_e]
 unfold apD
 exact app_as (P:=prog) (slot:=slot) eP0 gT0 hZ0 z43 (by decide) id j els new c r hi hj (by decide) h6 h7
end
section
open Go
variable (ext:Ext)
def pV (p:List Int):V:=match p with | []=>dV nilD | _::_=> .c (.own 0)
def pO (p:List Int):List O:=match p with | []=>[] | a::r=>[.stk 1 ((a::r).map inD) none true]
def dY0 (p:List Int):D:=aJ0 true 1 (p.map inD)
theorem iT0 : dY0 [] = .v (.slice none 0 0):=rfl
theorem iH0 (a:Int)(r:List Int):dY0 (a::r) = .s 1 ((a::r).map inD):=by unfold dY0;exact dV0 (by simp)
theorem bs43_0 (look:Look)(slot:Nat):aV0 prog look slot 43 0 []=some ⟨.val (.c (.own slot)),[(slot,.arr 1 [])],[]⟩:=by
 simp only[aV0,eP0,gT0,List.map_nil,kN0]
 rw[if_pos]
 ·rfl
 ·exact⟨rfl,by decide,by decide,rfl,i43⟩
theorem sR0 (hx:ext 163=none)(p:List Int)(hp:p.length<2^29):run prog ext (.call 163 [pV p] (pO p))=some (.ret [dV (dY0 p)] (pO p)):=by
 cases p with
 | nil=>
  (rw[enT hx func163 rfl];simp only[f163,zR,simprocAttr,zE])
  simp only[pV,pO,dV,nilD,iT0]
  simp only[zS,zD,vO0,Option.isNone_none,simprocAttr]
  (refine .trans ?_ rfl;kernel_rfl)
 | cons a r=>
  rw[iH0]
  have h6:([]:List (List D)).length≤1000000000:=by decide
  have h7:((a::r).map inD).length≤1000000000:=by simp only[List.length_map];simp only[List.length_cons]at hp ⊢;omega
  have e1:pV (a::r) = .c (.own 0):=rfl
  have e2:pO (a::r)=[.stk 1 ((a::r).map inD) none true]:=rfl
  rw[e1,e2]
  generalize (a::r).map inD=els at h7 ⊢
  (rw[enT hx func163 rfl];simp only[f163,zR,simprocAttr,zE])
  simp only[dV]
  simp only[zS,zD,vO0,bs43_0,oo43,apG_as,h7,simprocAttr]
  (refine .trans ?_ rfl;kernel_rfl)
def erV (c:Int)(p:List Int):V:=match p with
 | []=> .c (.d (.v (.iface 128 (.agg #[.int .i64 c,.slice none 0 0]))))
 | a::r=> .c (.d (.i 128 [.v (.int .i64 c),.s 1 ((a::r).map inD)]))
theorem mi128n (look:Look)(c:Int):cL0 prog look 128 (.agg [.d (.v (.int .i64 c)),.d (.v (.slice none 0 0))])=some ⟨.val (.c (.d (.v (.iface 128 (.agg #[.int .i64 c,.slice none 0 0]))))),[],[]⟩:=by
 simp only[cL0,Tryz.underlying128,yB0,mapO,oD0,eff]
theorem mi128s (look:Look)(c:Int)(els:List (List D)):cL0 prog look 128 (.agg [.d (.v (.int .i64 c)),.d (.s 1 els)])=some ⟨.val (.c (.d (.i 128 [.v (.int .i64 c),.s 1 els]))),[],[]⟩:=by
 simp only[cL0,Tryz.underlying128,yB0,mapO,oD0,vJ0,toDs,toD,bE0,List.append_nil,List.map_nil]
theorem pV0 (hx:ext 102=none)(c:Int)(p:List Int)(hr:run prog ext (.call 163 [pV p] (pO p))=some (.ret [dV (dY0 p)] (pO p))):run prog ext (.call 102 [iV c,pV p] (pO p))=some (.ret [erV c p] (pO p)):=by
 cases p with
 | nil=>
  (rw[enT hx func102 rfl];simp only[f102,zR,simprocAttr,zE])
  simp only[pV,pO,dV,iV,nilD,iT0,erV]at hr ⊢
  simp only[zS,zD,wE0,gS1,hr,mi128n,simprocAttr]
  (refine .trans ?_ rfl;kernel_rfl)
 | cons a r=>
  have hs:=hF0 (a::r)
  have e1:pV (a::r) = .c (.own 0):=rfl
  have e2:pO (a::r)=[.stk 1 ((a::r).map inD) none true]:=rfl
  have e3:erV c (a::r) = .c (.d (.i 128 [.v (.int .i64 c),.s 1 ((a::r).map inD)])):=rfl
  rw[e1,e2,iH0]at hr
  rw[e1,e2,e3]
  generalize (a::r).map inD=els at hr hs ⊢
  (rw[enT hx func102 rfl];simp only[f102,zR,simprocAttr,zE])
  simp only[dV,iV]at hr ⊢
  simp only[zS,zD,wE0,gS1,sG1,(id rfl:ownF 163=true),aN0,hr,aW0,bT0,hs,mi128s,simprocAttr]
  (refine .trans ?_ rfl;kernel_rfl)
end
end Go.Proofs.YteenjodhmppgjaaGreatDoor.Am
