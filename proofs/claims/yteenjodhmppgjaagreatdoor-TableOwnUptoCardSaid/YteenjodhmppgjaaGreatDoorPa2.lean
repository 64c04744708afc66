/- A part of the proof of a card. No conditions. -/
import Derived.Test.YteenjodhmppgjaaGreatDoorPa1
import Derived.Orders
import Derived.Recover
set_option linter.all false
set_option maxHeartbeats 16000000
set_option maxRecDepth 10000
namespace Go.Proofs.YteenjodhmppgjaaGreatDoor.Am
section
open Go
variable [Guest]
def conv : O→Option O
 | .hole=>none
 | o=>some o
theorem gB1 {o o':O} (h:conv o=some o'):o=o':=by
 cases o <;> first | exact Option.some.inj h | cases h
theorem pA0 (look:Look)(id:Nat)(o:O):upd1 look id o id=conv o:=by unfold upd1;simp;cases o <;> rfl
theorem qN0 (look:Look){id j:Nat} (o:O)(h:j≠id):upd1 look id o j=look j:=by simp[upd1,h]
theorem cX0 : ∀ (u:List (Nat × O))(look:Look){id:Nat},(∀ p∈u,p.1≠id)→updL look u id=look id
 | [],_,_,_=>rfl
 | (j,o)::r,look,id,h=>by
  rw[updL,cX0 r _ (fun p hp=>h p (List.mem_cons_of_mem _ hp)),qN0]
  exact fun e=>h (j,o) List.mem_cons_self e.symm
theorem bG1 (key:Nat→Nat):∀ (l:List O)(n:Nat)(look:Look),(∀ a b,n≤a→a<n+l.length→n≤b→b<n+l.length→key a=key b→a=b) →
  ∀ j o,l[j]? = some o→updL look ((l.zipIdx n).map fun p=>(key p.2,p.1)) (key (n+j))=conv o
 | [],_,_,_,_,_,h=>by simp at h
 | x::l,n,look,hinj,j,o,h=>by
  rw[List.zipIdx_cons,List.map_cons,updL]
  cases j with
  | zero=>
   simp only[List.getElem?_cons_zero,Option.some.injEq]at h
   subst h
   rw[cX0]
   ·exact pA0 _ _ _
   ·intro p hp
    obtain⟨q,hq,rfl⟩:=List.mem_map.1 hp
    obtain⟨y,i⟩:=q
    have:=List.mem_zipIdx hq
    intro e
    have:=hinj i (n+0) (by omega) (by simp;omega) (by omega) (by simp) e
    omega
  | succ j=>
   have:=bG1 key l (n+1) (upd1 look (key n) x) (fun a b h1 h2 h3 h4 h5=>hinj a b (by omega) (by simp;omega) (by omega) (by simp;omega) h5) j o (by simpa using h)
   rw[show n+(j+1)=n+1+j by omega]
   exact this
theorem yR0 {r:Nat→Option Nat}{o o2:O} (h:renO r o=some o2):bI0 (some o2)=bI0 (some o):=by
 cases o with
 | box cs=>
  simp only[renO]at h
  cases e:mapO (renC r) cs with
  | none=>rw[e]at h;cases h
  | some z=>rw[e]at h;cases h;rfl
 | _=>cases h;rfl
section
variable {P:Program}{w w':World}{F:Nat→Prop}{β βd:Int→Nat}{look:Look}
theorem bW1 (hS:Sim w F β look)(h1:w'.os=w.os)(h2:w'.tape=w.tape)(h3:w'.output=w.output)(h4:w.heap.size≤w'.heap.size)(h5:∀ b,b<w.heap.size→w'.heap[b]? = w.heap[b]?) :
  Sim w' F β look∧St (fun _=>True) w β look w' β look:=by
 have st:St (fun _=>True) w β look w' β look:=by
  refine St.of7 hS ⟨h1,h2,h3,h4,fun b hb _=>h5 b hb,fun b hb=> .inl hb,fun id s _ hs=> ?_⟩
  by_cases hg:s = .gone
  ·subst hg;exact .inr (.inr ⟨rfl,hs⟩)
  ·obtain⟨o,ho,hso⟩:=gL0 hs
   exact .inl ⟨rfl,hs,bQ0 (h5 _ (hS.live id o ho (eM0 hso hg)).1),rfl⟩
 refine⟨⟨fun b hb=>Nat.lt_of_lt_of_le (hS.flt b hb) h4,fun id o hl ha=> ?_,hS.inj,hS.laid.st st,hS.gst⟩,st⟩
 obtain⟨a,b,c⟩:=hS.live id o hl ha
 exact⟨Nat.lt_of_lt_of_le a h4,b,RO.mono st.keep st.ids (h5 _ a) c⟩
theorem uE0 (hS:Sim w F β look)(hH:pS0 look){ids bor:List Nat}{objs objs':List O} (hm:mapO look ids=some objs)(hr:mapO (renO (pos ids)) (objs.map iB0)=some objs')(hstk:oW0 look ids=true)(hnd:ids.Nodup)(hbor:∀ id∈bor,∃ k els,look id=some (.arr k els))(hdis:∀ id∈bor,id ∉ ids)
  {out out2:List O}{slot:Nat} (hSd:Sim w' (Fc F β look ids bor) βd (lk out)) (hst:St (· < objs'.length) w (βc β ids) (lk objs') w' βd (lk out)) (hr2:mapO (renO (back ids slot out.length)) out=some out2) (hlen:ids.length≤out.length)
  (hB:∀ (j:Nat) (o2:O),out2[j]? = some o2→(∃ id k els cur root cur2 root2,ids[j]? = some id∧look id=some (.stk k els cur root)∧o2 = .stk k els cur2 root2)∨(bI0 (some o2)=false∧∀ id,ids[j]? = some id→bI0 (look id)=false))
  (hfresh:∀ id,slot≤id→id∈(cD0 ids slot out2).map (·.1)→look id=none) :
  ∃ β',Sim w' F β' (updL look ((cD0 ids slot out2).filter cU0++aU0 bor))∧St (fun _=>True) w β look w' β' (updL look ((cD0 ids slot out2).filter cU0++aU0 bor)) ∧
   Ren (back ids slot out.length) βd (shL (lk out)) β' (shL (updL look ((cD0 ids slot out2).filter cU0++aU0 bor))) ∧
   (∀ b,Nn w' (Fc F β look ids bor) βd (lk out) b→Nn w' F β' (updL look ((cD0 ids slot out2).filter cU0++aU0 bor)) b):=by
 obtain⟨hSc,hwide,hren,hlivec⟩:=uF0 hS hH hm hr hstk hnd hbor hdis
 have hol:out2.length=out.length:=(aT0 hr2).length.symm
 have hidl:objs'.length=ids.length:=by rw[← (aT0 hr).length,List.length_map,← (aT0 hm).length]
 -- the keys
 have keyLt:∀ j,j<ids.length→∃ id,ids[j]? = some id∧(back ids slot out2.length j).getD 0=id∧back ids slot out2.length j=some id:=by
  intro j hj
  exact⟨ids[j],by simp[hj],by simp[back,hj],by simp[back,hj]⟩
 have keyGe:∀ j,ids.length≤j→j<out2.length→(back ids slot out2.length j).getD 0=slot+(j - ids.length)∧back ids slot out2.length j=some (slot+(j - ids.length)):=by
  intro j h1 h2
  have:¬ j<ids.length:=by omega
  exact⟨by simp[back,this,h2],by simp[back,this,h2]⟩
 have inU:∀ j,j<out2.length→(back ids slot out2.length j).getD 0∈(cD0 ids slot out2).map (·.1):=by
  intro j hj
  refine List.mem_map.2 ⟨((back ids slot out2.length j).getD 0,out2[j]),?_,rfl⟩
  exact List.mem_map.2 ⟨(out2[j],j),by rw[List.mem_zipIdx_iff_getElem?];simp[hj],rfl⟩
 have hidsome:∀ id∈ids,∃ o,look id=some o:=by
  intro id hid
  obtain⟨j,hj⟩:=List.getElem?_of_mem hid
  obtain⟨o,_,h,_⟩:=eK0 hm hr hj
  exact⟨o,h⟩
 have hext:∀ j,ids.length≤j→j<out2.length→look (slot+(j - ids.length))=none:=by
  intro j h1 h2
  have:=inU j h2
  rw[(keyGe j h1 h2).1]at this
  exact hfresh _ (by omega) this
 have hinj:∀ a b,a<out2.length→b<out2.length→(back ids slot out2.length a).getD 0=(back ids slot out2.length b).getD 0→a=b:=by
  intro a b ha hb he
  rcases Nat.lt_or_ge a ids.length with h1 | h1 <;> rcases Nat.lt_or_ge b ids.length with h2 | h2
  ·obtain⟨x,p1,p2,_⟩:=keyLt a h1
   obtain⟨y,q1,q2,_⟩:=keyLt b h2
   rw[p2,q2]at he
   subst he
   exact iW0 hnd p1 q1
  ·obtain⟨x,p1,p2,_⟩:=keyLt a h1
   rw[p2,(keyGe b h2 hb).1]at he
   obtain⟨o,ho⟩:=hidsome x (List.mem_of_getElem? p1)
   rw[he,hext b h2 hb]at ho;cases ho
  ·obtain⟨y,q1,q2,_⟩:=keyLt b h2
   rw[q2,(keyGe a h1 ha).1]at he
   obtain⟨o,ho⟩:=hidsome y (List.mem_of_getElem? q1)
   rw[← he,hext a h1 ha]at ho;cases ho
  ·rw[(keyGe a h1 ha).1,(keyGe b h2 hb).1]at he;omega
 -- the caller's objects behind the call
 generalize hL:updL look ((cD0 ids slot out2).filter cU0++aU0 bor)=look'
 have filt:∀ p,p∈(cD0 ids slot out2).filter cU0→∃ (j:Nat) (o2:O),out2[j]? = some o2∧p=((back ids slot out2.length j).getD 0,o2)∧bI0 (some o2)=false:=by
  intro p hp
  obtain⟨h1,h2⟩:=List.mem_filter.1 hp
  obtain⟨q,hq,rfl⟩:=List.mem_map.1 h1
  obtain⟨o,j⟩:=q
  exact⟨j,o,List.mem_zipIdx_iff_getElem?.1 hq,rfl,by simpa [cU0] using h2⟩
 have lt2:∀ {j:Nat}{o2:O},out2[j]? = some o2→j<out2.length:=fun {j o2} h=>by
  rcases Nat.lt_or_ge j out2.length with h' | h'
  ·exact h'
  ·rw[List.getElem?_eq_none h']at h;cases h
 have atStk:∀ (j:Nat) (o2:O),out2[j]? = some o2→bI0 (some o2)=true→updL look ((cD0 ids slot out2).filter cU0) ((back ids slot out2.length j).getD 0)=look ((back ids slot out2.length j).getD 0):=by
  intro j o2 hj hs
  refine cX0 _ _ fun p hp e=> ?_
  obtain⟨j',o',h1,rfl,h3⟩:=filt p hp
  have:=hinj j' j (lt2 h1) (lt2 hj) e
  subst this
  rw[h1]at hj;cases hj
  rw[hs]at h3;cases h3
 have filtL:∀ (u:List (Nat × O)) (look:Look) (id:Nat),(∀ p∈u,p.1=id→cU0 p=true)→updL look (u.filter cU0) id=updL look u id:=by
  intro u
  induction u with
  | nil=>intro look id _;rfl
  | cons p u ih=>
   intro look id hp
   rw[List.filter_cons]
   cases hn:cU0 p with
   | true=>
    simp only[if_true]
    rw[updL,updL]
    exact ih _ id fun q hq=>hp q (List.mem_cons_of_mem _ hq)
   | false=>
    simp only[Bool.false_eq_true,if_false]
    rw[ih look id fun q hq=>hp q (List.mem_cons_of_mem _ hq),updL]
    have hne:p.1≠id:=fun e=>by have:=hp p List.mem_cons_self e;rw[hn]at this;cases this
    have key:∀ (u:List (Nat × O)) (look look2:Look),look2 id=look id→updL look2 u id=updL look u id:=by
     intro u
     induction u with
     | nil=>intro _ _ h;exact h
     | cons q u ih2=>
      intro look look2 h
      rw[updL,updL]
      refine ih2 _ _ ?_
      unfold upd1
      split
      ·rfl
      ·exact h
    exact key u _ _ (by rw[qN0 _ _ hne.symm])
 have atKey:∀ (j:Nat) (o2:O),out2[j]? = some o2→bI0 (some o2)=false→updL look ((cD0 ids slot out2).filter cU0) ((back ids slot out2.length j).getD 0)=conv o2:=by
  intro j o2 hj hns
  have:=bG1 (fun j=>(back ids slot out2.length j).getD 0) out2 0 look (fun a b _ h2 _ h4 h5=>hinj a b (by omega) (by omega) h5) j o2 hj
  have h2:updL look (cD0 ids slot out2) ((back ids slot out2.length j).getD 0)=conv o2:=by simpa [cD0] using this
  rw[filtL _ _ _ ?_,h2]
  intro p hp e
  obtain⟨q,hq,rfl⟩:=List.mem_map.1 hp
  obtain⟨o,j'⟩:=q
  have h3:=List.mem_zipIdx_iff_getElem?.1 hq
  have:=hinj j' j (lt2 h3) (lt2 hj) e
  subst this
  rw[h3]at hj;cases hj
  simp[cU0,hns]
 have notKey:∀ id,id ∉ (cD0 ids slot out2).map (·.1)→updL look ((cD0 ids slot out2).filter cU0) id=look id:=by
  intro id hid
  exact cX0 _ _ fun p hp e=>hid (List.mem_map.2 ⟨p,(List.mem_filter.1 hp).1,e⟩)
 have keyOf:∀ id,id∈(cD0 ids slot out2).map (·.1)→∃ (j:Nat) (o2:O),out2[j]? = some o2∧(back ids slot out2.length j).getD 0=id:=by
  intro id hid
  obtain⟨p,hp,rfl⟩:=List.mem_map.1 hid
  obtain⟨q,hq,rfl⟩:=List.mem_map.1 hp
  obtain⟨o,j⟩:=q
  exact⟨j,o,(List.mem_zipIdx_iff_getElem?.1 hq),rfl⟩
 have borNot:∀ id∈bor,id ∉ (cD0 ids slot out2).map (·.1):=by
  intro id hid hk
  obtain⟨j,o2,h1,h2⟩:=keyOf id hk
  obtain⟨k,els,hl⟩:=hbor id hid
  have hj:j<out2.length:=by
   rcases Nat.lt_or_ge j out2.length with h | h
   ·exact h
   ·rw[List.getElem?_eq_none h]at h1;cases h1
  rcases Nat.lt_or_ge j ids.length with h | h
  ·obtain⟨x,p1,p2,_⟩:=keyLt j h
   rw[p2]at h2;subst h2
   exact hdis _ hid (List.mem_of_getElem? p1)
  ·rw[(keyGe j h hj).1]at h2
   have:=hext j h hj
   rw[h2,hl]at this;cases this
 have lookKey:∀ (j:Nat) (o2:O),out2[j]? = some o2→bI0 (some o2)=false→look' ((back ids slot out2.length j).getD 0)=conv o2:=by
  intro j o2 hj hns
  rw[← hL,bA0,bO0,if_neg,atKey j o2 hj hns]
  intro hb
  exact borNot _ hb (inU j (lt2 hj))
 have lookStk:∀ (j:Nat) (o2:O),out2[j]? = some o2→bI0 (some o2)=true→look' ((back ids slot out2.length j).getD 0)=look ((back ids slot out2.length j).getD 0):=by
  intro j o2 hj hns
  rw[← hL,bA0,bO0,if_neg,atStk j o2 hj hns]
  intro hb
  exact borNot _ hb (inU j (lt2 hj))
 have lookBor:∀ id∈bor,look' id=some .gone:=by
  intro id hid
  rw[← hL,bA0,bO0,if_pos hid]
 have lookElse:∀ id,id ∉ bor→id ∉ (cD0 ids slot out2).map (·.1)→look' id=look id:=by
  intro id h1 h2
  rw[← hL,bA0,bO0,if_neg h1,notKey id h2]
 -- where the objects lie
 let β':Int→Nat:=fun | .ofNat id=>if look id=none then βd (ids.length+(id - slot):Nat) else β id | .negSucc id=>if look id=none then bs βd (ids.length+(id - slot)) else bs β id
 have βn:∀ id:Nat,β' id=if look id=none then βd (ids.length+(id - slot):Nat) else β id:=fun _=>rfl
 have βb:∀ id:Nat,bs β' id=if look id=none then bs βd (ids.length+(id - slot)) else bs β id:=fun _=>rfl
 have βold:∀ (id:Nat) o,look id=some o→β' id=β id:=fun id o h=>by rw[βn,h,if_neg (by simp)]
 have βolb:∀ (id:Nat) o,look id=some o→bs β' id=bs β id:=fun id o h=>by rw[βb,h,if_neg (by simp)]
 have hidIn:∀ id∈ids,id∈(cD0 ids slot out2).map (·.1):=by
  intro id hid
  obtain⟨j,hj⟩:=List.getElem?_of_mem hid
  have hjl:j<ids.length:=by
   rcases Nat.lt_or_ge j ids.length with h | h
   ·exact h
   ·rw[List.getElem?_eq_none h]at hj;cases hj
  obtain⟨x,p1,p2,_⟩:=keyLt j hjl
  rw[hj]at p1;cases p1
  rw[← p2]
  exact inU j (by omega)
 have hsho:∀ (j:Nat) (o2:O),out2[j]? = some o2→∃ o:O,out[j]? = some o∧renO (back ids slot out.length) o=some o2∧shO o2=shO o:=by
  intro j o2 h
  obtain⟨o,h1,h2⟩:=(aT0 hr2).get_right h
  exact⟨o,h1,h2,kG0 h2⟩
 have hbackE:back ids slot out2.length=back ids slot out.length:=by rw[hol]
 have hshc:∀ o:O,(conv o).bind shO=shO o:=by intro o;cases o <;> rfl
 have hshl:∀ (j:Nat) (o:O),out[j]? = some o→shL (lk out) j=shO o:=by
  intro j o h
  unfold shL lk
  rw[h]
  cases o <;> rfl
 have keyStk:∀ (j:Nat) (o2:O),out2[j]? = some o2→bI0 (some o2)=true→∃ id k els cur root cur2 root2,ids[j]? = some id∧j<ids.length∧(back ids slot out2.length j).getD 0=id∧look id=some (.stk k els cur root)∧o2 = .stk k els cur2 root2:=by
  intro j o2 h hs
  rcases hB j o2 h with⟨id,k,els,cur,root,cur2,root2,h1,h2,h3⟩ | ⟨h1,_⟩
  ·have hj:j<ids.length:=by
    rcases Nat.lt_or_ge j ids.length with h' | h'
    ·exact h'
    ·rw[List.getElem?_eq_none h']at h1;cases h1
   obtain⟨x,p1,p2,_⟩:=keyLt j hj
   rw[h1]at p1;cases p1
   exact⟨id,k,els,cur,root,cur2,root2,h1,hj,p2,h2,h3⟩
  ·rw[hs]at h1;cases h1
 have shK2:∀ (j:Nat) (o2:O),out2[j]? = some o2→shL look' ((back ids slot out2.length j).getD 0)=shO o2:=by
  intro j o2 h
  cases hs:bI0 (some o2) with
  | false=>show(look' _).bind shO=_;rw[lookKey j o2 h hs,hshc]
  | true=>
   obtain⟨id,k,els,cur,root,cur2,root2,h1,_,h2,h3,h4⟩:=keyStk j o2 h hs
   show(look' _).bind shO=_
   rw[lookStk j o2 h hs,h2,h3,h4];rfl
 have shKey:∀ (j:Nat) (o2:O),out2[j]? = some o2→shL look' ((back ids slot out2.length j).getD 0)=shL (lk out) j:=by
  intro j o2 h
  obtain⟨o,h1,h2,h3⟩:=hsho j o2 h
  rw[hshl j o h1,shK2 j o2 h,h3]
 -- an object with cD0 j in the callee,which lives,lies where its cD0 in the caller says
 have βkey:∀ (j:Nat) (o2:O),out2[j]? = some o2→bL0 o2=true→β' ((back ids slot out2.length j).getD 0:Nat)=βd j∧bs β' ((back ids slot out2.length j).getD 0)=bs βd j:=by
  intro j o2 h ha
  have hj:j<out2.length:=by
   rcases Nat.lt_or_ge j out2.length with h' | h'
   ·exact h'
   ·rw[List.getElem?_eq_none h']at h;cases h
  rcases Nat.lt_or_ge j ids.length with hlt | hge
  ·obtain⟨x,p1,p2,_⟩:=keyLt j hlt
   obtain⟨o,o',q1,q2,q3⟩:=eK0 hm hr p1
   rw[p2,βold x o q1,βolb x o q1]
   have hsc:∃ s,shL (lk objs') j=some s:=by
    have hoh:=dZ0 q3 (hR0 fun e=>hH x (by rw[q1,e]))
    have:shL (lk objs') j=shO o':=by simp[shL,mW0 q2 hoh]
    rw[this]
    cases o' <;> first | exact⟨_,rfl⟩ | exact absurd rfl hoh
   obtain⟨s,hs⟩:=hsc
   have hbc:βc β ids j=β x:=by simp[βc_nat,List.getD,p1]
   have hbb:bs (βc β ids) j=bs β x:=by simp[βc_bs,List.getD,p1]
   rcases hst.ids j s (by omega) hs with⟨a,_,_,a'⟩ | ⟨_,g⟩ | ⟨_,g⟩
   ·exact⟨by rw[a,hbc],by rw[a',hbb]⟩
   ·rw[← shKey j o2 h]at g
    obtain⟨s',h1,h2⟩:=eV0.1 ha
    rw[shK2 j o2 h,h1]at g;cases g;exact absurd rfl h2
   ·rw[← shKey j o2 h]at g
    obtain⟨s',h1,h2⟩:=eV0.1 ha
    rw[shK2 j o2 h,h1]at g;cases g;exact absurd rfl h2
  ·rw[(keyGe j hge hj).1]
   rw[βn,βb,hext j hge hj,if_pos rfl,if_pos rfl]
   have e:ids.length+(slot+(j - ids.length) - slot)=j:=by omega
   rw[e]
   exact⟨rfl,rfl⟩
 have hRen:Ren (back ids slot out.length) βd (shL (lk out)) β' (shL look'):=by
  intro j id h
  rw[← hbackE]at h
  have hj:j<out2.length:=by
   unfold back at h
   split at h
   ·omega
   ·split at h
    ·assumption
    ·cases h
  have hk:(back ids slot out2.length j).getD 0=id:=by rw[h];rfl
  have ho2:out2[j]? = some out2[j]:=by simp[hj]
  have hal:(∃ s,shL (lk out) j=some s∧s ≠ .gone)→bL0 out2[j]=true:=by
   rintro⟨s,h1,h2⟩
   obtain⟨o,p1,p2,p3⟩:=hsho j _ ho2
   rw[hshl j o p1]at h1
   exact eV0.2 ⟨s,by rw[p3,h1],h2⟩
  refine⟨by rw[← hk];exact shKey j _ ho2,fun h=> ?_,fun h=> ?_⟩
  ·rw[← hk];exact(βkey j _ ho2 (hal h)).1
  ·rw[← hk];exact(βkey j _ ho2 (hal h)).2
 -- which objects live
 have cases':∀ (id:Nat) (o:O),look' id=some o→bL0 o=true→(∃ (j:Nat) (o2:O),out2[j]? = some o2∧bL0 o2=true∧(back ids slot out2.length j).getD 0=id∧β' id=βd j∧bs β' id=bs βd j∧(o2=o∨∃ k els cur root cur2 root2,o = .stk k els cur root∧o2 = .stk k els cur2 root2∧look id=some o))∨(id ∉ ids∧id ∉ bor∧look id=some o∧β' id=β id∧bs β' id=bs β id):=by
  intro id o h ha
  by_cases hb:id∈bor
  ·rw[lookBor id hb]at h;cases h;cases ha
  ·by_cases hk:id∈(cD0 ids slot out2).map (·.1)
   ·obtain⟨j,o2,h1,h2⟩:=keyOf id hk
    left
    cases hs:bI0 (some o2) with
    | false=>
     have:=lookKey j o2 h1 hs
     rw[h2,h]at this
     have:o2=o:=gB1 this.symm
     subst this
     obtain⟨b1,b2⟩:=βkey j _ h1 ha
     exact⟨j,_,h1,ha,h2,by rw[← h2];exact b1,by rw[← h2];exact b2,.inl rfl⟩
    | true=>
     obtain⟨id',k,els,cur,root,cur2,root2,q1,_,q2,q3,q4⟩:=keyStk j o2 h1 hs
     have ha2:bL0 o2=true:=by rw[q4];rfl
     obtain⟨b1,b2⟩:=βkey j _ h1 ha2
     have hl:=lookStk j o2 h1 hs
     rw[h2]at hl q2
     subst q2
     rw[h]at hl
     exact⟨j,o2,h1,ha2,h2,by rw[← h2];exact b1,by rw[← h2];exact b2,.inr ⟨k,els,cur,root,cur2,root2,by rw[q3]at hl;exact Option.some.inj hl,q4,hl.symm⟩⟩
   ·rw[lookElse id hb hk]at h
    exact .inr ⟨fun hid=>hk (hidIn id hid),hb,h,βold id o h,βolb id o h⟩
 have liveD:∀ (j:Nat) (o2:O),out2[j]? = some o2→bL0 o2=true→∃ o,lk out j=some o∧bL0 o=true∧renO (back ids slot out.length) o=some o2:=by
  intro j o2 h ha
  obtain⟨o,h1,h2,h3⟩:=hsho j o2 h
  have hao:bL0 o=true:=by rw[eV0,← h3,← eV0];exact ha
  exact⟨o,mW0 h1 (by rintro rfl;cases hao),hao,h2⟩
 -- one that is not handed on,and lies in the array of one that is
 have shared:∀ (q:Nat) (o:O),look q=some o→bL0 o=true→q ∉ ids→∀ (i:Nat) (oi:O),i∈ids→look i=some oi→bL0 oi=true→β i=β q →
   ∃ (j:Nat) (k:Nat) (l t:List (List D)) (c:Option Nat) (r:Bool) (c2:Option Nat) (r2:Bool) (c3:Option Nat),ids[j]? = some i∧j<ids.length∧o = .stk k l (some i) r∧oi = .stk k (l++t) c false∧bs β q=bs β i∧out2[j]? = some (.stk k (l++t) c2 r2)∧βd j=β q∧bs βd j=bs β q∧c3=c:=by
  intro q o hq ha hqi i oi hi hlo hao hb
  rcases hS.inj q i o oi hq hlo ha hao hb.symm with h | h | h
  ·subst h;exact absurd hi hqi
  ·obtain⟨k,l,l',r,c,g1,g2,g3,t,g4⟩:=h
   rw[hq]at g1;cases g1
   rw[hlo]at g2;cases g2
   subst g4
   obtain⟨j,hj⟩:=List.getElem?_of_mem hi
   have hjl:j<ids.length:=by
    rcases Nat.lt_or_ge j ids.length with h | h
    ·exact h
    ·rw[List.getElem?_eq_none h]at hj;cases hj
   have ho2:out2[j]? = some (out2[j]'(by omega)):=by simp
   obtain⟨x,p1,p2,_⟩:=keyLt j hjl
   rw[hj]at p1;cases p1
   rcases hB j _ ho2 with⟨id,k',els,cur,root,cur2,root2,h1,h2,h3⟩ | ⟨_,h2⟩
   ·rw[hj]at h1;cases h1
    rw[hlo]at h2;cases h2
    have hal:bL0 (out2[j]'(by omega))=true:=by rw[h3];rfl
    obtain⟨b1,b2⟩:=βkey j _ ho2 hal
    rw[p2,βold i _ hlo]at b1
    rw[p2,βolb i _ hlo]at b2
    exact⟨j,k,l,t,c,r,cur2,root2,c,hj,hjl,rfl,rfl,g3,by rw[ho2,h3],by rw[← b1,hb],by rw[← b2,g3],rfl⟩
   ·have:=h2 i hj
    rw[hlo]at this;cases this
  ·obtain⟨k,l,l',r,c,g1,g2,g3,g4⟩:=h
   have h9:=hstk
   simp only[oW0,Bool.and_eq_true]at h9
   have:=List.all_eq_true.1 h9.2 i hi
   rw[g1]at this
   cases this
 have hlive':∀ b,Live β' look' b→Live βd (lk out) b∨(Fc F β look ids bor b∧Live β look b):=by
  rintro b ⟨id,o,h1,h2,rfl⟩
  rcases cases' id o h1 h2 with⟨j,o2,p1,p1',p2,p3,_,_⟩ | ⟨p1,p2,p3,p4⟩
  ·obtain⟨o',q1,q2,_⟩:=liveD j o2 p1 p1'
   exact .inl ⟨j,o',q1,q2,p3.symm⟩
  ·rw[p4.1]
   by_cases hsh:∃ j o',j∈ids∧look j=some o'∧bL0 o'=true∧β j=β id
   ·obtain⟨i,oi,g1,g2,g3,g4⟩:=hsh
    obtain⟨j,k,l,t,c,r,c2,r2,c3,e1,e2,e3,e4,e5,e6,e7,e8,_⟩:=shared id o p3 h2 p1 i oi g1 g2 g3 g4
    obtain⟨o',q1,q2,_⟩:=liveD j _ e6 rfl
    exact .inl ⟨j,o',q1,q2,e7⟩
   ·exact .inr ⟨.inr ⟨id,o,p3,h2,p1,p2,rfl,hsh⟩,⟨id,o,p3,h2,rfl⟩⟩
 have hN:∀ b,Nn w' (Fc F β look ids bor) βd (lk out) b→Nn w' F β' look' b:=by
  rintro b ⟨h1,h2,h3⟩
  refine⟨h1,fun h=>h2 (.inl h),fun h=> ?_⟩
  rcases hlive' b h with h | h
  ·exact h3 h
  ·exact h2 h.1
 have notLiveC:∀ b,¬ Live β look b→¬ Live (βc β ids) (lk objs') b:=by
  intro b hb h
  obtain⟨id,o,_,h1,h2,h3⟩:=hlivec b h
  exact hb ⟨id,o,h1,h2,h3⟩
 have keepBlock:∀ id o,look id=some o→bL0 o=true→id ∉ ids→(¬ ∃ j o',j∈ids∧look j=some o'∧bL0 o'=true∧β j=β id)→w'.heap[β id]? = w.heap[β id]? := by
  intro id o h1 h2 h3 hsh
  refine hst.block _ (hS.live id o h1 h2).1 fun h=> ?_
  obtain⟨id',o',q0,q1,q2,q3⟩:=hlivec _ h
  exact hsh ⟨id',o',q0,q1,q2,q3⟩
 have st:St (fun _=>True) w β look w' β' look':=by
  refine St.of7 hS ⟨hst.os,hst.tape,hst.output,hst.size,fun b hb hl=>hst.block b hb (notLiveC b hl),fun b hb=> ?_,fun id s _ hs=> ?_⟩
  ·rcases hlive' b hb with h | h
   ·rcases hst.born b h with h | h
    ·obtain⟨id,o,_,h1,h2,h3⟩:=hlivec b h
     exact .inl ⟨id,o,h1,h2,h3⟩
    ·exact .inr h
   ·exact .inl h.2
  ·obtain⟨o,ho,hso⟩:=gL0 hs
   by_cases hid:id∈ids
   ·obtain⟨j,hj⟩:=List.getElem?_of_mem hid
    have hjl:j<ids.length:=by
     rcases Nat.lt_or_ge j ids.length with h | h
     ·exact h
     ·rw[List.getElem?_eq_none h]at hj;cases hj
    obtain⟨x,p1,p2,_⟩:=keyLt j hjl
    rw[hj]at p1;cases p1
    obtain⟨o1,o',q1,q2,q3⟩:=eK0 hm hr hj
    rw[ho]at q1;cases q1
    have hoh:=dZ0 q3 (hR0 fun e=>hH id (by rw[ho,e]))
    have hsc:shL (lk objs') j=some s:=by
     have:shL (lk objs') j=shO o':=by simp[shL,mW0 q2 hoh]
     rw[this,kG0 q3,kX0,hso]
    have hbc:βc β ids j=β id:=by simp[βc_nat,List.getD,hj]
    have hbb:bs (βc β ids) j=bs β id:=by simp[βc_bs,List.getD,hj]
    have ho2:out2[j]? = some (out2[j]'(by omega)):=by simp
    have hk:=shKey j _ ho2
    rw[p2]at hk
    rcases hst.ids j s (by omega) hsc with⟨a,b,c,d⟩ | ⟨a,g⟩ | ⟨a,g⟩
    ·exact .inl ⟨βold id o ho,by rw[hk,b],by rw[← hbc];exact c,βolb id o ho⟩
    ·exact .inr (.inl ⟨a,by rw[hk,g]⟩)
    ·exact .inr (.inr ⟨a,by rw[hk,g]⟩)
   ·by_cases hb:id∈bor
    ·obtain⟨k,els,hl⟩:=hbor id hb
     rw[ho]at hl
     cases hl
     have:s = .arr k els.length:=by simpa [shO] using hso.symm
     exact .inr (.inl ⟨by rw[this];rfl,by simp[shL,lookBor id hb,shO]⟩)
    ·have hnk:id ∉ (cD0 ids slot out2).map (·.1):=by
      intro hk
      obtain⟨j,o2,h1,h2⟩:=keyOf id hk
      have hj:j<out2.length:=by
       rcases Nat.lt_or_ge j out2.length with h | h
       ·exact h
       ·rw[List.getElem?_eq_none h]at h1;cases h1
      rcases Nat.lt_or_ge j ids.length with h | h
      ·obtain⟨x,p1,p2,_⟩:=keyLt j h
       rw[p2]at h2;subst h2
       exact hid (List.mem_of_getElem? p1)
      ·rw[(keyGe j h hj).1]at h2
       have:=hext j h hj
       rw[h2,ho]at this;cases this
     have hsl:shL look' id=some s:=by simp only[shL,lookElse id hb hnk];exact hs
     by_cases hg:s = .gone
     ·subst hg;exact .inr (.inr ⟨rfl,hsl⟩)
     ·refine .inl ⟨βold id o ho,hsl,?_,βolb id o ho⟩
      by_cases hsh:∃ j o',j∈ids∧look j=some o'∧bL0 o'=true∧β j=β id
      ·obtain⟨i,oi,g1,g2,g3,g4⟩:=hsh
       obtain⟨j,k,l,t,c,r,c2,r2,c3,e1,e2,e3,e4,e5,e6,e7,e8,_⟩:=shared id o ho (eM0 hso hg) hid i oi g1 g2 g3 g4
       obtain⟨o1,o',q1,q2,q3⟩:=eK0 hm hr e1
       rw[g2]at q1;cases q1
       have hoh:=dZ0 q3 (hR0 fun e=>hH i (by rw[g2,e]))
       have hsc:shL (lk objs') j=some (.stk k (l++t).length):=by
        have:shL (lk objs') j=shO o':=by simp[shL,mW0 q2 hoh]
        rw[this,kG0 q3,kX0,e4];rfl
       have hbc:βc β ids j=β i:=by simp[βc_nat,List.getD,e1]
       rcases hst.ids j _ (by omega) hsc with⟨_,_,x3,_⟩ | ⟨_,x2⟩ | ⟨x1,_⟩
       ·rw[hbc,g4]at x3;exact x3
       ·rw[← shKey j _ e6,shK2 j _ e6]at x2;cases x2
       ·cases x1
      ·exact bQ0 (keepBlock id o ho (eM0 hso hg) hid hsh)
 refine⟨β',⟨fun b hb=>Nat.lt_of_lt_of_le (hS.flt b hb) hst.size,fun id o h ha=> ?_,fun id id' o o' h h' ha ha' hbb=> ?_,hS.laid.st st,hS.gst⟩,st,hRen,hN⟩
 ·rcases cases' id o h ha with⟨j,o2,p1,p1',p2,p3,p4,p5⟩ | ⟨p1,p2,p3,p4⟩
  ·obtain⟨o1,q1,q2,q3⟩:=liveD j o2 p1 p1'
   obtain⟨a,b,c⟩:=hSd.live j o1 q1 q2
   rw[p3,p4]
   refine⟨a,fun hf=>b (.inl hf),?_⟩
   have hro:=rZ0 hRen hN c q3
   rcases p5 with rfl | ⟨k,els,cur,root,cur2,root2,rfl,rfl,_⟩
   ·exact hro
   ·exact hro
  ·obtain⟨a,b,c⟩:=hS.live id o p3 ha
   rw[p4.1,p4.2]
   by_cases hsh:∃ j o',j∈ids∧look j=some o'∧bL0 o'=true∧β j=β id
   ·obtain⟨i,oi,g1,g2,g3,g4⟩:=hsh
    obtain⟨j,k,l,t,c',r,c2,r2,c3,e1,e2,rfl,e4,e5,e6,e7,e8,_⟩:=shared id o p3 ha p1 i oi g1 g2 g3 g4
    obtain⟨o1,q1,q2,q3⟩:=liveD j _ e6 rfl
    obtain⟨a',b',cc⟩:=hSd.live j o1 q1 q2
    have hro:=rZ0 hRen hN cc q3
    rw[e7,e8]at hro
    obtain⟨vals,ty,hv,hc⟩:=(gW0 rfl).1 hro
    refine⟨Nat.lt_of_lt_of_le a hst.size,b,?_⟩
    rw[gW0 rfl]
    exact⟨vals,ty,hv,hc.pre⟩
   ·exact⟨Nat.lt_of_lt_of_le a hst.size,b,RO.mono st.keep st.ids (keepBlock id o p3 ha p1 hsh) c⟩
 ·have mixed:∀ (id id':Nat) (o o':O) (j:Nat) (o2:O),look' id=some o→look' id'=some o'→bL0 o'=true→out2[j]? = some o2→bL0 o2=true→(back ids slot out2.length j).getD 0=id→β' id=βd j→(o2=o∨∃ k els cur root cur2 root2,o = .stk k els cur root∧o2 = .stk k els cur2 root2∧look id=some o) →
    id' ∉ ids→id' ∉ bor→look id'=some o'→β' id'=β id'→bs β' id'=bs β id'→β' id=β' id'→Kin β' look' id' id:=by
   intro id id' o o' j o2 h h' ha' p1 p1' p2 p3 p5 q1 q2 q3 q4 q5 hbb
   obtain⟨o1,r1,r2,_⟩:=liveD j o2 p1 p1'
   by_cases hsh:∃ j o'',j∈ids∧look j=some o''∧bL0 o''=true∧β j=β id'
   ·obtain⟨i,oi,g1,g2,g3,g4⟩:=hsh
    obtain⟨ji,k,l,t,c',r,c2,r2',c3,e1,e2,e3,e4,e5,e6,e7,e8,_⟩:=shared id' o' q3 ha' q1 i oi g1 g2 g3 g4
    obtain⟨oj,s1,s2,s3⟩:=liveD ji _ e6 rfl
    -- both lie in one array in the callee
    have hji:j=ji:=by
     rcases hSd.inj j ji o1 oj r1 s1 r2 s2 (by rw[e7,← p3,hbb,q4]) with h | h | h
     ·exact h
     ·have hs:=h.stk.1
      rw[r1]at hs
      obtain⟨o1',t1,t2,t3⟩:=hsho j o2 p1
      rw[hT0 r1]at t1;cases t1
      have hs2:bI0 (some o2)=true:=by rw[yR0 t2];exact hs
      obtain⟨x,k',els,cur,root,cur2,root2,y1,y2,y3,y4,y5⟩:=keyStk j o2 p1 hs2
      have:x=i:=oX0 hstk (List.mem_of_getElem? y1) g1 (by rw[y4];rfl) (by rw[g2,e4];rfl)
      subst this
      exact iW0 hnd y1 e1
     ·have hs:=h.stk.2
      rw[r1]at hs
      obtain⟨o1',t1,t2,t3⟩:=hsho j o2 p1
      rw[hT0 r1]at t1;cases t1
      have hs2:bI0 (some o2)=true:=by rw[yR0 t2];exact hs
      obtain⟨x,k',els,cur,root,cur2,root2,y1,y2,y3,y4,y5⟩:=keyStk j o2 p1 hs2
      have:x=i:=oX0 hstk (List.mem_of_getElem? y1) g1 (by rw[y4];rfl) (by rw[g2,e4];rfl)
      subst this
      exact iW0 hnd y1 e1
    subst hji
    obtain⟨x,y1,y2,_⟩:=keyLt j e2
    rw[e1]at y1;cases y1
    have hid:id=i:=by rw[← p2,y2]
    subst hid
    rw[e6]at p1;cases p1
    have hlid:look' id=look id:=by
     have:=lookStk j _ e6 rfl
     rw[y2]at this;exact this
    refine⟨k,l,l++t,r,c',by rw[h',e3],by rw[hlid,g2,e4],?_,List.prefix_append _ _⟩
    rw[q5,βolb id _ g2]
    exact e5
   ·exfalso
    refine(hSd.live j o1 r1 r2).2.1 (.inr ⟨id',o',q3,ha',q1,q2,?_,?_⟩)
    ·rw[← p3,hbb,q4]
    ·rw[← p3,hbb,q4];exact hsh
  rcases cases' id o h ha with⟨j,o2,p1,p1',p2,p3,p4,p5⟩ | ⟨p1,p2,p3,p4⟩ <;> rcases cases' id' o' h' ha' with⟨j',o2',q1,q1',q2,q3,q4,q5⟩ | ⟨q1,q2,q3,q4⟩
  ·obtain⟨o1,r1,r2,r3⟩:=liveD j o2 p1 p1'
   obtain⟨o1',s1,s2,s3⟩:=liveD j' o2' q1 q1'
   rw[p3,q3]at hbb
   left
   have stkOf:∀ {j:Nat}{o1 o2:O},lk out j=some o1→out2[j]? = some o2→bI0 (lk out j)=true→bI0 (some o2)=true:=by
    intro j o1 o2 hl h2 hs
    rw[hl]at hs
    obtain⟨o1',t1,t2,t3⟩:=hsho j o2 h2
    rw[hT0 hl]at t1;cases t1
    rw[yR0 t2];exact hs
   have both:bI0 (lk out j)=true→bI0 (lk out j')=true→id=id':=by
    intro hs hs'
    obtain⟨x,k',els,cur,root,cur2,root2,y1,y2,y3,y4,y5⟩:=keyStk j o2 p1 (stkOf r1 p1 hs)
    obtain⟨x',k'',els',cur',root',cur2',root2',z1,z2,z3,z4,z5⟩:=keyStk j' o2' q1 (stkOf s1 q1 hs')
    have:x=x':=oX0 hstk (List.mem_of_getElem? y1) (List.mem_of_getElem? z1) (by rw[y4];rfl) (by rw[z4];rfl)
    rw[← p2,← q2,y3,z3,this]
   rcases hSd.inj j j' o1 o1' r1 s1 r2 s2 hbb with h | h | h
   ·subst h;rw[← p2,q2]
   ·exact both h.stk.1 h.stk.2
   ·exact both h.stk.2 h.stk.1
  ·exact .inr (.inr (mixed id id' o o' j o2 h h' ha' p1 p1' p2 p3 p5 q1 q2 q3 q4.1 q4.2 hbb))
  ·exact .inr (.inl (mixed id' id o' o j' o2' h' h ha q1 q1' q2 q3 q5 p1 p2 p3 p4.1 p4.2 hbb.symm))
  ·rw[p4.1,q4.1]at hbb
   exact hS0 (hS.inj id id' o o' p3 q3 ha ha' hbb) (by rw[h,p3]) (by rw[h',q3]) p4.2 q4.2
end
end
section
open Go
variable [Guest]
section
variable {P:Program}{w:World}{F:Nat→Prop}{β:Int→Nat}
theorem hP0 (o:O):bL0 (iE0 o)=bL0 o:=by cases o <;> rfl
theorem iS0 (objs:List O)(id:Nat):lk (objs.map iE0) id=(lk objs id).map iE0:=by
 unfold lk
 rw[List.getElem?_map]
 cases h:objs[id]? with
 | none=>rfl
 | some o=>cases o <;> rfl
def ShC (sh sh':Nat→Option Sh):Prop:=∀ id,sh' id=sh id∨∃ k n,sh id=some (.arr k n)∧sh' id=some (.stk k n)
theorem ShC.other {sh sh':Nat→Option Sh} (h:ShC sh sh'){id:Nat}{s:Sh} (hs:sh id=some s)(ha:∀ k n,s ≠ .arr k n):sh' id=some s:=by
 rcases h id with e | ⟨k,n,e,_⟩
 ·rw[e,hs]
 ·rw[hs]at e;cases e;exact absurd rfl (ha k n)
theorem wR0 (objs:List O):ShC (shL (lk objs)) (shL (lk (objs.map iE0))):=by
 intro id
 unfold shL
 rw[iS0]
 cases lk objs id with
 | none=>exact .inl rfl
 | some o=>cases o <;> first | exact .inl rfl | exact .inr ⟨_,_,rfl,rfl⟩
theorem RepD.same {N N':Nat→Prop} (h:∀ b,N b→N' b){v:Value}{x:D} (hr:RepD w N v x):RepD w N' v x:=RepD.mono ⟨fun b hb=>⟨h b hb,rfl⟩,fun _ _=>rfl⟩ hr
theorem wP0 {N N':Nat→Prop}{sh sh':Nat→Option Sh} (hN:∀ b,N b→N' b)(hs:ShC sh sh'){v:Value}{c:C} (hc:cV1 c=true)(h:RC w N β sh v c):RC w N' β sh' v c:=by
 cases c with
 | d x=>exact RepD.same hN h
 | ptr id off=>exact⟨hs.other h.1 (by simp),h.2⟩
 | elt k els i off=>obtain⟨b,o,cap,h1,h2,h3⟩:=h;exact⟨b,o,cap,RepD.same hN h1,h2,h3⟩
 | own id=>
  rcases h with⟨k,n,cap,h1,h2⟩ | ⟨h1,h2⟩ | ⟨k,n,cap,h1,h2⟩
  ·rcases hs id with e | ⟨k',n',e,e'⟩
   ·exact .inl ⟨k,n,cap,by rw[e,h1],h2⟩
   ·rw[h1]at e;cases e
    exact .inr (.inr ⟨k,n,cap,e',h2⟩)
  ·exact .inr (.inl ⟨hs.other h1 (by simp),h2⟩)
  ·exact .inr (.inr ⟨k,n,cap,hs.other h1 (by simp),h2⟩)
 | ap id i off=>cases hc
 | fn f a b=>exact⟨h.1,fun id hid=>hs.other (h.2 id hid) (by simp)⟩
 | rf m id=>exact⟨hs.other h.1 (by simp),h.2⟩
 | any=>trivial
theorem wQ0 {N N':Nat→Prop}{sh sh':Nat→Option Sh} (hN:∀ b,N b→N' b)(hs:ShC sh sh'){l:List Value}{cs:List C} (hc:cs.all cV1=true)(h:All2 (RK w N β sh) l cs):All2 (RK w N' β sh') l cs:=by
 induction h with
 | nil=>exact .nil
 | cons p _ ih=>
  simp only[List.all_cons,Bool.and_eq_true]at hc
  exact .cons ⟨p.1,wP0 hN hs hc.1 p.2⟩ (ih hc.2)
theorem lG1 {N N':Nat→Prop}{sh sh':Nat→Option Sh} (hN:∀ b,N b→N' b)(hs:ShC sh sh'){l:List Value}{ps:List (Bool × List C)} (hc:ps.all uM1=true)(h:All2 (RPt w N β sh) l ps):All2 (RPt w N' β sh') l ps:=by
 induction h with
 | nil=>exact .nil
 | @cons v p _ _ h1 _ ih=>
  simp only[List.all_cons,Bool.and_eq_true]at hc
  refine .cons ?_ (ih hc.2)
  obtain⟨b,cs⟩:=p
  cases b with
  | true=>obtain⟨a,e,h2⟩:=h1;exact⟨a,e,wQ0 hN hs hc.1 h2⟩
  | false=>
   obtain⟨x,e,h2⟩:=h1
   dsimp only at e
   subst e
   have:=hc.1
   simp only[uM1,List.all_cons,Bool.and_eq_true]at this
   exact⟨x,rfl,wP0 hN hs this.1 h2⟩
theorem rE1 {N N':Nat→Prop}{sh sh':Nat→Option Sh} (hN:∀ b,N b→N' b)(hs:ShC sh sh'){v:Value}{x:V} (hc:uN1 x=true)(h:RV w N β sh v x):RV w N' β sh' v x:=by
 cases x with
 | c y=>exact wP0 hN hs hc h
 | agg cs=>obtain⟨a,e,h⟩:=h;exact⟨a,e,wQ0 hN hs hc h⟩
 | tup vs=>obtain⟨a,e,h⟩:=h;exact⟨a,e,lG1 hN hs hc h⟩
theorem kU0 (objs:List O)(b:Nat):Live β (lk (objs.map iE0)) b↔Live β (lk objs) b:=by
 constructor
 ·rintro⟨id,o,h1,h2,h3⟩
  rw[iS0]at h1
  obtain⟨o',p1,rfl⟩:=Option.map_eq_some_iff.1 h1
  exact⟨id,o',p1,by rw[hP0]at h2;exact h2,h3⟩
 ·rintro⟨id,o,h1,h2,h3⟩
  exact⟨id,iE0 o,by rw[iS0,h1];rfl,by rw[hP0];exact h2,h3⟩
theorem eX1 (objs:List O)(b:Nat):Nn w F β (lk (objs.map iE0)) b↔Nn w F β (lk objs) b:=by unfold Nn;rw[kU0]
theorem nJ1 {objs:List O} (hS:Sim w F β (lk objs))(hO:objs.all noApO=true):Sim w F β (lk (objs.map iE0)):=by
 have hN:∀ b,Nn w F β (lk objs) b→Nn w F β (lk (objs.map iE0)) b:=fun b hb=>(eX1 objs b).2 hb
 refine⟨hS.flt,fun id o h ha=> ?_,fun id id' o o' h h' ha ha' hb=> ?_,hS.laid.same fun b hb=>(kU0 objs b).1 hb,hS.gst⟩
 ·rw[iS0]at h
  obtain⟨o',p1,rfl⟩:=Option.map_eq_some_iff.1 h
  rw[hP0]at ha
  obtain⟨a,b,c⟩:=hS.live id o' p1 ha
  refine⟨a,b,?_⟩
  have hno:=List.all_eq_true.1 hO o' (List.mem_of_getElem? (hT0 p1))
  cases o' with
  | box cs=>obtain⟨vals,ty,e,h⟩:=c;exact⟨vals,ty,e,wQ0 hN (wR0 objs) hno h⟩
  | arr k els=>obtain⟨vals,ty,e,h0,h1,h2,h3⟩:=c;exact⟨vals,ty,e,h0,h1,h2,fun i l j x a b=>let ⟨v,p,q⟩:=h3 i l j x a b;⟨v,p,RepD.same hN q⟩⟩
  | stk k els cur root=>obtain⟨vals,ty,e,h0,h1,h2,h3⟩:=c;exact⟨vals,ty,e,h0,h1,h2,fun i l j x a b=>let ⟨v,p,q⟩:=h3 i l j x a b;⟨v,p,RepD.same hN q⟩⟩
  | raw x=>exact c
  | gone=>trivial
  | hole=>trivial
 ·rw[iS0]at h h'
  obtain⟨x,p1,rfl⟩:=Option.map_eq_some_iff.1 h
  obtain⟨y,q1,rfl⟩:=Option.map_eq_some_iff.1 h'
  rw[hP0]at ha ha'
  have kin:∀ i j,Kin β (lk objs) i j→Kin β (lk (objs.map iE0)) i j:=by
   rintro i j ⟨k,l,l',r,c,h1,h2,h3,h4⟩
   exact⟨k,l,l',r,c,by rw[iS0,h1];rfl,by rw[iS0,h2];rfl,h3,h4⟩
  rcases hS.inj id id' x y p1 q1 ha ha' hb with h | h | h
  ·exact .inl h
  ·exact .inr (.inl (kin _ _ h))
  ·exact .inr (.inr (kin _ _ h))
def pI0 (objs:List O):List Nat:=(List.range objs.length).filter fun j=>match objs[j]? with | some (.arr _ _)=>true | _=>false
theorem iV0 {objs:List O}{j:Nat}:j∈pI0 objs↔∃ k els,objs[j]? = some (.arr k els):=by
 unfold pI0
 rw[List.mem_filter]
 constructor
 ·rintro⟨_,h⟩
  split at h
  ·rename_i k els e;exact⟨k,els,e⟩
  ·cases h
 ·rintro⟨k,els,e⟩
  refine⟨?_,by rw[e]⟩
  rcases Nat.lt_or_ge j objs.length with h | h
  ·exact List.mem_range.2 h
  ·rw[List.getElem?_eq_none h]at e;cases e
theorem mI0 : ∀ (objs outs:List O)(j:Nat),(gU0 objs outs)[j]? = match objs[j]? with | some (.arr _ _)=>outs[j]?.map fun _=> .gone | _=>outs[j]?
 | [],outs,j=>by simp[gU0]
 | o::r,[],j=>by
  have:gU0 (o::r) []=[]:=by cases o <;> rfl
  rw[this]
  simp
  split <;> rfl
 | o::r,o'::r',j=>by
  cases j with
  | zero=>cases o <;> rfl
  | succ j=>
   have:=mI0 r r' j
   cases o <;> simpa [gU0] using this
theorem jM1 {objs outs:List O} (h:∀ j∈pI0 objs,∃ o,lk outs j=some o):lk (gU0 objs outs)=updL (lk outs) (aU0 (pI0 objs)):=by
 funext j
 rw[bO0]
 by_cases hj:j∈pI0 objs
 ·rw[if_pos hj]
  obtain⟨k,els,e⟩:=iV0.1 hj
  obtain⟨o,ho⟩:=h j hj
  refine mW0 ?_ (by simp)
  rw[mI0,e,hT0 ho]
  rfl
 ·rw[if_neg hj]
  have:(gU0 objs outs)[j]? = outs[j]? := by
   rw[mI0]
   split
   ·rename_i k els e;exact absurd (iV0.2 ⟨k,els,e⟩) hj
   ·rfl
  unfold lk
  rw[this]
theorem RRes.mono {w':World}{F':Nat→Prop}{β':Int→Nat}{look look':Look} (hk:Keep w (Nn w F β look) w' (Nn w' F' β' look'))(hi:Ids (fun _=>True) w β (shL look) w' β' (shL look')){v:Value}{vs:List V} (h:RRes w F β look v vs):RRes w' F' β' look' v vs:=by
 rcases h with⟨y,e,h⟩ | ⟨h1,a,e,h⟩
 ·exact .inl ⟨y,e,RV.mono hk hi h⟩
 ·exact .inr ⟨h1,a,e,h.mono fun _ _=>RV.mono hk hi⟩
theorem eY1 {w':World}{β':Int→Nat}{objs outs:List O} (h:St (· < objs.length) w β (lk (objs.map iE0)) w' β' (lk outs))(hS:Sim w' F β' (lk outs)) :
  Sim w' F β' (lk (gU0 objs outs))∧St (fun _=>True) w' β' (lk outs) w' β' (lk (gU0 objs outs))∧St (· < objs.length) w β (lk objs) w' β' (lk (gU0 objs outs)):=by
 have harr:∀ j∈pI0 objs,∃ s,shL (lk outs) j=some s∧s ≠ .box∧s ≠ .raw:=by
  intro j hj
  obtain⟨k,els,e⟩:=iV0.1 hj
  have hlt:j<objs.length:=by
   rcases Nat.lt_or_ge j objs.length with h | h
   ·exact h
   ·rw[List.getElem?_eq_none h]at e;cases e
  have hs:shL (lk (objs.map iE0)) j=some (.stk k els.length):=by unfold shL;rw[iS0,mW0 e (by simp)];rfl
  rcases h.ids j _ hlt hs with⟨_,g,_⟩ | ⟨_,g⟩ | ⟨_,g⟩
  ·exact⟨_,g,by simp,by simp⟩
  ·exact⟨_,g,by simp,by simp⟩
  ·exact⟨_,g,by simp,by simp⟩
 have hlk:lk (gU0 objs outs)=updL (lk outs) (aU0 (pI0 objs)):=jM1 fun j hj=>by
  obtain⟨s,hs,_⟩:=harr j hj
  unfold shL at hs
  cases e:lk outs j with
  | none=>rw[e]at hs;cases hs
  | some o=>exact⟨o,rfl⟩
 obtain⟨h1,h2⟩:=gM0 (pI0 objs) hS harr
 rw[hlk]
 refine⟨h1,h2,⟨h.os,h.tape,h.output,h.size,fun b hb hl=>h.block b hb fun hl'=>hl ((kU0 objs b).1 hl'),fun b hb=> ?_,fun id s hm hs=> ?_,h.guest⟩⟩
 ·rcases h2.born b hb with h3 | h3
  ·rcases h.born b h3 with h4 | h4
   ·exact .inl ((kU0 objs b).1 h4)
   ·exact .inr h4
  ·exact .inr (Nat.le_trans h.size h3)
 ·by_cases ha:id∈pI0 objs
  ·obtain⟨k,els,e⟩:=iV0.1 ha
   have:shL (lk objs) id=some (.arr k els.length):=by unfold shL;rw[mW0 e (by simp)];rfl
   rw[hs]at this
   cases this
   refine .inr (.inl ⟨rfl,?_⟩)
   unfold shL
   rw[bO0,if_pos ha]
   rfl
  ·have hsame:shL (updL (lk outs) (aU0 (pI0 objs))) id=shL (lk outs) id:=by
    unfold shL
    rw[bO0,if_neg ha]
   have hs':shL (lk (objs.map iE0)) id=some s:=by
    rcases wR0 objs id with e | ⟨k,n,e,_⟩
    ·rw[e,hs]
    ·exfalso
     unfold shL at e
     cases e1:lk objs id with
     | none=>rw[e1]at e;cases e
     | some o=>
      rw[e1]at e
      cases o <;> cases e
      exact ha (iV0.2 ⟨_,_,hT0 e1⟩)
   rw[hsame]
   exact h.ids id s hm hs'
theorem bV1 {rec:Rec}{f:FuncId} (hrec:∀ args objs out,rec (.call f args objs)=some out→eI0 P f args objs out){args:List V}{objs:List O}{out:Out} (h:dX0 rec f args objs=some out):eI0 P f args objs out:=by
 unfold dX0 at h
 split at h
 ·split at h
  case isFalse=>cases h
  rename_i hno
  simp only[Bool.and_eq_true]at hno
  intro w F β vals hS hargs
  cases hr:rec (.call f args (objs.map iE0)) with
  | none=>rw[hr]at h;cases h
  | some out0=>
   rw[hr]at h
   have hS':=nJ1 hS hno.2
   have hargs':All2 (RVs w F β (lk (objs.map iE0))) vals args:=by
    have key:∀ (vals:List Value) (args:List V),args.all uN1=true→All2 (RVs w F β (lk objs)) vals args→All2 (RVs w F β (lk (objs.map iE0))) vals args:=by
     intro vals args hc h
     induction h with
     | nil=>exact .nil
     | cons p _ ih=>
      simp only[List.all_cons,Bool.and_eq_true]at hc
      exact .cons (rE1 (fun b hb=>(eX1 objs b).2 hb) (wR0 objs) hc.1 p) (ih hc.2)
    exact key _ _ hno.1 hargs
   refine(hrec _ _ _ hr w F β vals hS' hargs').mono fun e w' ho=> ?_
   obtain⟨β',ho⟩:=ho
   refine⟨β',?_⟩
   cases out0 with
   | ret vs outs=>
    cases h
    obtain⟨v,e1,h2,h3,h4⟩:=ho
    rw[List.length_map]at h4
    obtain⟨g1,g2,g3⟩:=eY1 h4 h3
    exact⟨v,e1,h2.mono g2.keep g2.ids,g1,g3⟩
   | pan x outs=>
    cases h
    obtain⟨e1,h3,h4⟩:=ho
    rw[List.length_map]at h4
    obtain⟨g1,g2,g3⟩:=eY1 h4 h3
    exact⟨e1,g1,g3⟩
 ·exact hrec _ _ _ h
end
end
section
open Go
variable [Guest]
section
variable {P:Program}{w:World}{F:Nat→Prop}{β:Int→Nat}{look:Look}
def Goes (P:Program)(w:World)(F:Nat→Prop)(β:Int→Nat)(look:Look)(a:Act)(o:Oper)(e:Eff)(r:Result Next):Prop:=
 ∀ (next:Act→World→Prop) (Q:Exit→Act→World→Prop),
  (∀ w' β',Good w F β look e.upd w' β'→match e.res with
   | .val v=>∀ x,RVs w' F β' (updL look e.upd) x v→next (a.put o.dst x) w'
   | .pan x=>Q (.panic [{ v:=x,recovered:=false }]) a w')→o.upon P a next Q r
theorem Runs.goes {a:Act}{o:Oper}{e:Eff}{r:Result Next} (h:Runs w F β look e r):Goes P w F β look a o e r:=by
 intro next Q hq
 obtain⟨w',β',hg,h⟩:=h
 have:=hq w' β' hg
 obtain⟨res,upd,rd⟩:=e
 cases res with
 | val v=>
  rcases h with⟨x,rfl,hx⟩ | ⟨rfl,hv⟩
  ·exact this x hx
  ·dsimp only at hv this
   subst hv
   exact this undef trivial
 | pan x=>
  dsimp only at h
  subst h
  exact this
theorem vP0 {N:Nat→Prop}{sh:Nat→Option Sh}{a:List Value}{vs:List V}{l:List (Bool × List C)} (h:All2 (RV w N β sh) a vs)(hm:mapO comp vs=some l):All2 (RPt w N β sh) a l:=
 h.comp (fun v x p h1 h2=>by
  cases x with
  | c y=>cases h2;exact⟨y,rfl,h1⟩
  | agg cs=>cases h2;exact h1
  | tup _=>cases h2) (aT0 hm)
theorem iN1 {v:Value}{vs:List V}{x:V} (h:RRes w F β look v vs)(hr:bK0 vs=some x):RVs w F β look v x:=by
 unfold bK0 at hr
 rcases h with⟨y,rfl,h⟩ | ⟨hl,a,rfl,h⟩
 ·simp only[Option.some.injEq]at hr;subst hr;exact h
 ·split at hr
  ·simp at hl
  ·cases hm:mapO comp vs with
   | none=>simp[hm]at hr
   | some l=>
    simp only[hm,Option.some.injEq]at hr
    subst hr
    exact⟨a,rfl,vP0 h hm⟩
theorem nC1 {F':Nat→Prop}{β':Int→Nat}{look':Look}{r:Nat→Option Nat} (hr:Ren r β (shL look) β' (shL look'))(hN:∀ b,Nn w F β look b→Nn w F' β' look' b){v:Value}{vs vs':List V} (h:RRes w F β look v vs)(hm:mapO (renV r) vs=some vs'):RRes w F' β' look' v vs':=by
 have hl:=aT0 hm
 rcases h with⟨y,rfl,h⟩ | ⟨hlen,a,rfl,h⟩
 ·cases hl with
  | cons h1 h2=>cases h2;exact .inl ⟨_,rfl,lF0 hr hN h h1⟩
 ·exact .inr ⟨by rw[← hl.length];exact hlen,a,rfl,All2.comp (R:=RVs w F β look) (S:=fun a b=>renV r a=some b) (T:=RVs w F' β' look') (fun _ _ _ p q=>lF0 hr hN p q) h hl⟩
theorem dI1 {r:Nat→Option Nat}{x x':V} (hs:cA0 x=true)(h:renV r x=some x'):x'=x:=by
 have hc:∀ c c':C,jC0 c=true→renC r c=some c'→c'=c:=by
  intro c c' h1 h2
  cases c <;> first | (cases h1;done) | (cases h2;rfl)
 cases x with
 | c y=>
  simp only[renV]at h
  cases e:renC r y with
  | none=>simp[e]at h
  | some z=>simp only[e,Option.some.injEq]at h;subst h;rw[hc _ _ hs e]
 | agg cs=>
  simp only[renV]at h
  cases e:mapO (renC r) cs with
  | none=>simp[e]at h
  | some z=>
   simp only[e,Option.some.injEq]at h
   subst h
   congr 1
   have:∀ {cs z:List C},cs.all jC0=true→All2 (fun a b=>renC r a=some b) cs z→z=cs:=by
    intro cs z h1 h2
    induction h2 with
    | nil=>rfl
    | cons p _ ih=>
     simp only[List.all_cons,Bool.and_eq_true]at h1
     rw[hc _ _ h1.1 p,ih h1.2]
   exact this hs (aT0 e)
 | tup vs=>cases hs
theorem dJ1 {N N':Nat→Prop}{sh sh':Nat→Option Sh}{w':World}{β':Int→Nat}{v:Value}{x:V} (hs:cA0 x=true)(h:RV w N β sh v x):RV w' N' β' sh' v x:=by
 have hc:∀ {v:Value}{c:C},jC0 c=true→RC w N β sh v c→RC w' N' β' sh' v c:=by
  intro v c h1 h2
  cases c with
  | d y=>cases y with
   | v z=>cases h2 with | v h3=>exact .v h3
   | s k els=>cases h1
   | i t xs=>cases h1
  | _=>cases h1
 cases x with
 | c y=>exact hc hs h
 | agg cs=>
  obtain⟨a,rfl,h⟩:=h
  refine⟨a,rfl,?_⟩
  have:∀ {l:List Value}{cs:List C},cs.all jC0=true→All2 (RK w N β sh) l cs→All2 (RK w' N' β' sh') l cs:=by
   intro l cs h1 h2
   induction h2 with
   | nil=>exact .nil
   | cons p _ ih=>
    simp only[List.all_cons,Bool.and_eq_true]at h1
    exact .cons ⟨p.1,hc h1.1 p.2⟩ (ih h1.2)
  exact this hs h
 | tup vs=>cases hs
theorem jF0 {slot:Nat}{x:Option Eff}{e:Eff} (h:eR0 look slot x=some e):∃ e0,x=some e0∧jT0 look slot e0.rd e0.upd=true∧e={ e0 with upd:=e0.upd.filter cU0 }:=by
 unfold eR0 at h
 split at h
 ·rename_i e0
  split at h
  ·rename_i hb
   cases h
   exact⟨e0,rfl,hb,rfl⟩
  ·cases h
 ·cases h
theorem aW1 : ∀ {a b:List D},nE1 a b=true→a=b
 | [],[],_=>rfl
 | .v (.int k a)::r,.v (.int k' b)::r',h=>by
  simp only[nE1,Bool.and_eq_true,decide_eq_true_eq]at h
  obtain⟨⟨rfl,rfl⟩,h⟩:=h
  rw[aW1 h]
theorem aX1 : ∀ {a b:List (List D)},nF1 a b=true→a=b
 | [],[],_=>rfl
 | a::r,b::r',h=>by
  simp only[nF1,Bool.and_eq_true]at h
  rw[aW1 h.1,aX1 h.2]
theorem jC1 {o:Option O} (h:bI0 o=true):∃ k els cur root,o=some (.stk k els cur root):=by
 unfold bI0 at h
 split at h
 ·exact⟨_,_,_,_,rfl⟩
 ·cases h
theorem hT1 {ids:List Nat}{slot:Nat}{out2:List O}{j:Nat}{o2:O} (h:out2[j]? = some o2):((back ids slot out2.length j).getD 0,o2)∈cD0 ids slot out2:=
 List.mem_map.2 ⟨(o2,j),List.mem_zipIdx_iff_getElem?.2 h,rfl⟩
theorem nP0 {ids bor:List Nat}{slot:Nat}{out2:List O}{kb:List (Nat × O)} (hl:ids.length≤out2.length)(h:jT0 look slot (ids++bor) (cD0 ids slot out2++kb)=true) :
  ∀ (j:Nat) (o2:O),out2[j]? = some o2→(∃ id k els cur root cur2 root2,ids[j]? = some id∧look id=some (.stk k els cur root)∧o2 = .stk k els cur2 root2)∨(bI0 (some o2)=false∧∀ id,ids[j]? = some id→bI0 (look id)=false):=by
 intro j o2 hj
 have hp:=List.all_eq_true.1 h _ (List.mem_append_left _ (hT1 (ids:=ids) (slot:=slot) hj))
 unfold bN1 at hp
 dsimp only at hp
 have hjl:j<out2.length:=by
  rcases Nat.lt_or_ge j out2.length with h' | h'
  ·exact h'
  ·rw[List.getElem?_eq_none h']at hj;cases hj
 rcases Nat.lt_or_ge j ids.length with hlt | hge
 ·have hid:ids[j]? = some ids[j]:=by simp[hlt]
  have hk:(back ids slot out2.length j).getD 0=ids[j]:=by simp[back,hlt]
  rw[hk]at hp
  have hc:(ids++bor).contains ids[j]=true:=by simp
  rw[hc,Bool.true_and]at hp
  cases hs:bI0 (look ids[j]) with
  | true=>
   rw[hs,if_pos rfl,Bool.and_eq_true]at hp
   obtain⟨k,els,cur,root,e⟩:=jC1 hs
   rw[e]at hp
   cases o2 with
   | stk k' els' cur2 root2=>
    have h1:=hp.1
    simp only[sameO,Bool.and_eq_true,decide_eq_true_eq]at h1
    obtain⟨rfl,h1⟩:=h1
    have:=aX1 h1
    subst this
    exact .inl ⟨_,_,_,_,_,_,_,hid,e,rfl⟩
   | _=>cases hp.1
  | false=>
   rw[hs]at hp
   simp only[Bool.false_eq_true,if_false,Bool.not_eq_true']at hp
   refine .inr ⟨hp,fun id h=> ?_⟩
   rw[hid]at h;cases h
   exact hs
 ·have hk:(back ids slot out2.length j).getD 0=slot+(j - ids.length):=by
   have:¬ j<ids.length:=by omega
   simp[back,this,hjl]
  rw[hk]at hp
  refine .inr ⟨?_,fun id h=>by rw[List.getElem?_eq_none hge]at h;cases h⟩
  split at hp
  ·simp only[Bool.and_eq_true,decide_eq_true_eq]at hp
   omega
  ·simpa using hp
theorem qC0 {ids bor:List Nat}{slot:Nat}{out2:List O}{kb:List (Nat × O)} (h:jT0 look slot (ids++bor) (cD0 ids slot out2++kb)=true)
  (hf:∀ id,slot≤id→id∈((cD0 ids slot out2++kb).filter cU0).map (·.1)→look id=none) :
  ∀ id,slot≤id→id∈(cD0 ids slot out2).map (·.1)→look id=none:=by
 intro id h1 h2
 obtain⟨p,hp,rfl⟩:=List.mem_map.1 h2
 have hb:=List.all_eq_true.1 h _ (List.mem_append_left _ hp)
 unfold bN1 at hb
 split at hb
 ·simp only[Bool.and_eq_true,decide_eq_true_eq]at hb
  omega
 ·exact hf _ h1 (List.mem_map.2 ⟨p,List.mem_filter.2 ⟨List.mem_append_left _ hp,hb⟩,rfl⟩)
theorem mL0 {u:List (Nat × O)}{b:List Nat}:(u++aU0 b).filter cU0=u.filter cU0++aU0 b:=by
 rw[List.filter_append]
 congr 1
 refine List.filter_eq_self.2 fun p hp=> ?_
 obtain⟨id,_,rfl⟩:=List.mem_map.1 hp
 rfl
theorem wN0 {rec:Rec}{f:FuncId} (hrec:∀ args objs out,rec (.call f args objs)=some out→eI0 P f args objs out)(hS:Sim w F β look)(hH:pS0 look){slot:Nat}{args:List V}{vals:List Value}
  (hargs:All2 (RVs w F β look) vals args){e:Eff} (h:dD0 rec look slot f args=some e) (hfresh:∀ id,slot≤id→id∈e.upd.map (·.1)→look id=none){a:Act}{o:Oper} (next:Act→World→Prop) (Q:Exit→Act→World→Prop)
  (hq:∀ w' β',Good w F β look e.upd w' β'→match e.res with
   | .val v=>∀ x,RVs w' F β' (updL look e.upd) x v→next (a.put o.dst x) w'
   | .pan x=>Q (.panic [{ v:=x,recovered:=false }]) a w') :
  Calls P f vals.toArray w fun
   | .returned v,w''=>next (a.put o.dst v) w''
   | .panicked chain,w''=>Q (.panic chain) a w''
   | .outgrown,_=>LetsOut Q:=by
 unfold dD0 at h
 obtain⟨e0,h0,hback,rfl⟩:=jF0 h
 clear h
 have h:=h0
 clear h0
 dsimp only at hfresh hq
 cases hp:cB0 f look args with
 | none=>simp[hp,hN0]at h
 | some p=>
  obtain⟨ids,bor,args2,objs'⟩:=p
  simp only[hp,hN0,bB0]at h
  cases hr:dX0 rec f args2 objs' with
  | none=>simp[hr]at h
  | some out=>
   simp only[hr]at h
   -- what was handed on
   unfold cB0 at hp
   cases ha:eD0 (ownF f) look args with
   | none=>simp[ha]at hp
   | some q=>
    obtain⟨args1,bor1⟩:=q
    simp only[ha]at hp
    cases hm1:mapO (renV (pos (reach look 200 [] (args1.flatMap iZ0)))) args1 with
    | none=>simp[hm1]at hp
    | some args3=>
     simp only[hm1]at hp
     cases hm2:mapO look (reach look 200 [] (args1.flatMap iZ0)) with
     | none=>simp[hm2]at hp
     | some objs=>
      simp only[hm2]at hp
      cases hm3:mapO (renO (pos (reach look 200 [] (args1.flatMap iZ0)))) (objs.map iB0) with
      | none=>simp[hm3]at hp
      | some objs3=>
       simp only[hm3]at hp
       split at hp
       case isFalse=>cases hp
       rename_i hcond
       simp only[Option.some.injEq,Prod.mk.injEq]at hp
       obtain⟨rfl,rfl,rfl,rfl⟩:=hp
       generalize reach look 200 [] (args1.flatMap iZ0)=ids at *
       simp only[Bool.and_eq_true,decide_eq_true_eq]at hcond
       obtain⟨⟨⟨hnd,hdis⟩,_⟩,hstk⟩:=hcond
       have hdis':∀ id∈bor1,id ∉ ids:=by
        intro id hid
        have:=List.all_eq_true.1 hdis id hid
        simpa using this
       have hbor:=pU0 ha
       obtain⟨hSc,hwide,hren,_⟩:=uF0 hS hH hm2 hm3 hstk hnd hbor hdis'
       have h1:=pV0 hS hargs ha hwide
       have h2:All2 (RVs w (Fc F β look ids bor1) (βc β ids) (lk objs3)) vals args3:=
        All2.comp (R:=fun v x=>RV w (Nn w (Fc F β look ids bor1) (βc β ids) (lk objs3)) β (shL look) v x) (S:=fun a b=>renV (pos ids) a=some b) (T:=RVs w (Fc F β look ids bor1) (βc β ids) (lk objs3)) (fun v x y p q=>lF0 hren (fun _ h=>h) p q) h1 (aT0 hm1)
       refine(bV1 hrec hr w _ _ vals hSc h2).mono fun en w' hout=> ?_
       obtain⟨βd,hout⟩:=hout
       cases out with
       | ret vs outs=>
        obtain⟨v,rfl,hres,hSd,hst⟩:=hout
        simp only[cK0]at h
        cases e1:mapO (renV (back ids slot outs.length)) vs with
        | none=>simp[e1]at h
        | some vs'=>
         cases e2:mapO (renO (back ids slot outs.length)) outs with
         | none=>simp[e1,e2]at h
         | some outs'=>
          cases e3:bK0 vs' with
          | none=>simp[e1,e2,e3]at h
          | some x=>
           simp only[e1,e2,e3]at h
           split at h
           ·cases h
           ·rename_i hlen
            simp only[Option.some.injEq]at h
            subst h
            dsimp only at hq hfresh hback
            by_cases hsc:(vs'.all cA0&&outs'.isEmpty)=true
            ·have hb:(if(vs'.all cA0&&outs'.isEmpty)=true then([]:List (Nat × O)) else aU0 bor1)=[]:=if_pos hsc
             simp only[Bool.and_eq_true]at hsc
             obtain⟨hs1,hs2⟩:=hsc
             have ho':outs'=[]:=by simpa using hs2
             have ho:outs=[]:=List.eq_nil_of_length_eq_zero (by rw[(aT0 e2).length,ho'];rfl)
             have hi:ids=[]:=List.eq_nil_of_length_eq_zero (by rw[ho]at hlen;simpa using hlen)
             subst hi
             subst ho'
             have hobj:objs3=[]:=by simp only[mapO,Option.some.injEq]at hm2;subst hm2;simp only[List.map_nil,mapO,Option.some.injEq]at hm3;exact hm3.symm
             subst hobj
             obtain⟨g1,g2⟩:=bW1 hS hst.os hst.tape hst.output hst.size (fun b hb=>hst.block b hb (by rintro⟨j,o,h,_⟩;simp[lk]at h))
             have hupd:cD0 [] slot ([]:List O)++(if(vs'.all cA0&&([]:List O).isEmpty)=true then([]:List (Nat × O)) else aU0 bor1)=[]:=by rw[hb];rfl
             rw[hupd]at hq
             refine hq w' β ⟨g1,g2⟩ v ?_
             show RVs w' F β look v x
             have hvs:RRes w' F β look v vs':=by
              have hl:=aT0 e1
              have key:∀ {y y':V}{u:Value},cA0 y'=true→renV (back [] slot outs.length) y=some y'→RVs w' (Fc F β look [] bor1) βd (lk outs) u y→RVs w' F β look u y':=by
               intro y y' u h1 h2 h3
               have:cA0 y=true:=by
                cases y with
                | c z=>
                 simp only[renV]at h2
                 cases z with
                 | d q=>simp only[renC,Option.some.injEq]at h2;subst h2;exact h1
                 | ptr id off=>simp only[renC]at h2;cases e:back [] slot outs.length id <;> simp[e]at h2;subst h2;cases h1
                 | elt k els i off=>simp only[renC,Option.some.injEq]at h2;subst h2;cases h1
                 | own id=>simp only[renC]at h2;cases e:back [] slot outs.length id <;> simp[e]at h2;subst h2;cases h1
                 | ap id i off=>simp only[renC]at h2;cases e:back [] slot outs.length id <;> simp[e]at h2;subst h2;cases h1
                 | fn f a b=>
                  simp only[renC]at h2
                  cases e:mapO (back [] slot outs.length) a with
                  | none=>simp[e]at h2
                  | some a'=>
                   cases e':mapO (back [] slot outs.length) b with
                   | none=>simp[e,e']at h2
                   | some b'=>simp[e,e']at h2;subst h2;cases h1
                 | rf m id=>simp only[renC]at h2;cases e:back [] slot outs.length id <;> simp[e]at h2;subst h2;cases h1
                 | any=>simp only[renC,Option.some.injEq]at h2;subst h2;cases h1
                | agg cs=>
                 simp only[renV]at h2
                 cases e:mapO (renC (back [] slot outs.length)) cs with
                 | none=>simp[e]at h2
                 | some cs'=>
                  simp only[e,Option.some.injEq]at h2
                  subst h2
                  have hcs:∀ {cs cs':List C},cs'.all jC0=true→All2 (fun a b=>renC (back [] slot outs.length) a=some b) cs cs'→cs.all jC0=true:=by
                   intro cs cs' h1 h2
                   induction h2 with
                   | nil=>rfl
                   | @cons a b _ _ p _ ih=>
                    simp only[List.all_cons,Bool.and_eq_true]at h1 ⊢
                    refine⟨?_,ih h1.2⟩
                    have hb:=h1.1
                    cases a with
                    | d q=>simp only[renC,Option.some.injEq]at p;subst p;exact hb
                    | ptr id off=>simp only[renC]at p;cases e:back [] slot outs.length id <;> simp[e]at p;subst p;cases hb
                    | elt k els i off=>simp only[renC,Option.some.injEq]at p;subst p;cases hb
                    | own id=>simp only[renC]at p;cases e:back [] slot outs.length id <;> simp[e]at p;subst p;cases hb
                    | ap id i off=>simp only[renC]at p;cases e:back [] slot outs.length id <;> simp[e]at p;subst p;cases hb
                    | fn f a b=>
                     simp only[renC]at p
                     cases e:mapO (back [] slot outs.length) a with
                     | none=>simp[e]at p
                     | some a'=>
                      cases e':mapO (back [] slot outs.length) b with
                      | none=>simp[e,e']at p
                      | some b'=>simp[e,e']at p;subst p;cases hb
                    | rf m id=>simp only[renC]at p;cases e:back [] slot outs.length id <;> simp[e]at p;subst p;cases hb
                    | any=>simp only[renC,Option.some.injEq]at p;subst p;cases hb
                  exact hcs h1 (aT0 e)
                | tup vs=>
                 simp only[renV]at h2
                 cases e:mapO (renP (back [] slot outs.length)) vs with
                 | none=>simp[e]at h2
                 | some z=>simp[e]at h2;subst h2;cases h1
               rw[dI1 this h2]
               exact dJ1 this h3
              rcases hres with⟨y,rfl,h3⟩ | ⟨hll,av,rfl,h3⟩
              ·cases hl with
               | @cons _ y' _ _ p q=>
                cases q
                exact .inl ⟨y',rfl,key (by simpa using hs1) p h3⟩
              ·refine .inr ⟨by rw[← hl.length];exact hll,av,rfl,?_⟩
               have:∀ {us:List Value}{vs vs':List V},vs'.all cA0=true→All2 (fun a b=>renV (back [] slot outs.length) a=some b) vs vs'→All2 (RVs w' (Fc F β look [] bor1) βd (lk outs)) us vs→All2 (RVs w' F β look) us vs':=by
                intro us vs vs' h1 h2
                induction h2 generalizing us with
                | nil=>intro h;cases h;exact .nil
                | cons p _ ih=>
                 intro h
                 simp only[List.all_cons,Bool.and_eq_true]at h1
                 cases h with | cons u v=>exact .cons (key h1.1 p u) (ih h1.2 v)
               exact this hs1 hl h3
             exact iN1 hvs e3
            ·have hb:(if(vs'.all cA0&&outs'.isEmpty)=true then([]:List (Nat × O)) else aU0 bor1)=aU0 bor1:=if_neg hsc
             rw[hb]at hq hfresh hback
             have hfr:=qC0 hback hfresh
             rw[mL0]at hq
             obtain⟨β',b1,b2,b3,b4⟩:=uE0 hS hH hm2 hm3 hstk hnd hbor hdis' hSd hst e2 (by omega) (nP0 (by rw[← (aT0 e2).length];omega) hback) hfr
             refine hq w' β' ⟨b1,b2⟩ v ?_
             exact iN1 (nC1 b3 b4 hres e1) e3
       | pan x outs=>
        obtain⟨rfl,hSd,hst⟩:=hout
        simp only[cK0]at h
        cases e2:mapO (renO (back ids slot outs.length)) outs with
        | none=>simp[e2]at h
        | some outs'=>
         simp only[e2]at h
         split at h
         ·cases h
         ·rename_i hlen
          simp only[Option.some.injEq]at h
          subst h
          dsimp only at hq hfresh hback
          have hfr:=qC0 hback hfresh
          rw[mL0]at hq
          obtain⟨β',b1,b2,_,_⟩:=uE0 hS hH hm2 hm3 hstk hnd hbor hdis' hSd hst e2 (by omega) (nP0 (by rw[← (aT0 e2).length];omega) hback) hfr
          exact hq w' β' ⟨b1,b2⟩
end
end
section
open Go
variable [Guest]
theorem xX0 (v:V)(t:Nat):∀ (env:Env)(u:Nat),gt (pt env t v) u=if u=t then v else gt env u
 | [],u=>by
  simp only[pt,gt]
  by_cases h:u=t
  ·simp[h]
  ·simp[h,Ne.symm h]
 | (a,x)::r,u=>by
  simp only[pt]
  split
  ·rename_i h
   subst h
   simp only[gt]
   by_cases h2:u=a
   ·simp[h2]
   ·simp[h2,Ne.symm h2]
  ·rename_i h
   split
   ·simp only[gt]
    by_cases h2:u=t
    ·simp[h2]
    ·simp[h2,Ne.symm h2]
   ·simp only[gt,xX0 v t r u]
    by_cases h2:u=t
    ·subst h2;simp[h]
    ·simp[h2]
section
variable {P:Program}{w:World}{F:Nat→Prop}{β:Int→Nat}{look:Look}
def EnvR (w:World)(F:Nat→Prop)(β:Int→Nat)(look:Look)(tmps:Array Value)(env:Env):Prop:=∀ t,RVs w F β look (tmps.getD t undef) (gt env t)
theorem iP1 : RVs w F β look undef (.tup []):=⟨#[],rfl,.nil⟩
theorem kE0 (x:Value):RVs w F β look x (ofValue x):=by
 unfold ofValue
 split
 ·rename_i a
  split
  ·rename_i h
   refine⟨a,rfl,?_⟩
   have key:∀ l:List Value,l.all cellB=true→All2 (RK w (Nn w F β look) β (shL look)) l (l.map fun y=>C.d (D.v y)):=by
    intro l
    induction l with
    | nil=>intro _;exact .nil
    | cons y l ih=>
     intro hy
     simp only[List.all_cons,Bool.and_eq_true]at hy
     exact .cons ⟨hy.1,.v hy.1⟩ (ih hy.2)
   exact key _ h
  ·trivial
 ·trivial
 ·rename_i h1 h2
  refine RepD.v ?_
  cases x with
  | agg a=>exact absurd rfl (h1 a)
  | tuple a=>exact absurd rfl (h2 a)
  | _=>rfl
theorem iO0 {a:Act}{env:Env} (h:EnvR w F β look a.tmps env)(y:Operand):RVs w F β look (a.eval y) (ev env y):=by
 cases y with
 | tmp t=>exact h t
 | const x=>exact kE0 x
 | global g=>trivial
 | func f=>exact⟨rfl,by simp⟩
theorem EnvR.mono {w':World}{β':Int→Nat}{look':Look} (hst:St (fun _=>True) w β look w' β' look'){tmps:Array Value}{env:Env} (h:EnvR w F β look tmps env):EnvR w' F β' look' tmps env:=
 fun t=>RV.mono hst.keep hst.ids (h t)
theorem EnvR.put {a:Act}{env:Env} (h:EnvR w F β look a.tmps env){dst:Option Nat}{x:Value}{v:V} (hx:RVs w F β look x v)(hd:hC0 a.tmps.size dst=true):EnvR w F β look (a.put dst x).tmps (putO env dst v):=by
 intro t
 cases dst with
 | none=>exact h t
 | some d=>
  simp only[hC0,decide_eq_true_eq]at hd
  simp only[Act.put,putO,xX0]
  by_cases e:t=d
  ·subst e
   simp only[if_true]
   rw[show(a.tmps.setIfInBounds t x).getD t undef=x by simp[Array.getD,hd]]
   exact hx
  ·simp only[e,if_false]
   have:(a.tmps.setIfInBounds d x).getD t undef=a.tmps.getD t undef:=by
    simp only[Array.getD_eq_getD_getElem?,Array.getElem?_setIfInBounds]
    rw[if_neg (fun h=>e h.symm)]
   rw[this]
   exact h t
theorem bP0 (a:Act)(dst:Option Nat)(x:Value):(a.put dst x).tmps.size=a.tmps.size:=by cases dst <;> simp[Act.put]
theorem bG0 (a:Act)(dst:Option Nat)(x:Value):(a.put dst x).defers=a.defers:=by cases dst <;> rfl

theorem lR0 {v:Value}{c:C}{N:Nat→Prop}{sh:Nat→Option Sh} (h:RC w N β sh v c):RC w N β sh v (nY0 look c):=by
 unfold nY0
 split
 ·split
  ·trivial
  ·exact h
 ·split
  ·trivial
  ·exact h
 ·exact h
theorem lS0 {l:List Value}{cs:List C}{N:Nat→Prop}{sh:Nat→Option Sh} (h:All2 (RK w N β sh) l cs):All2 (RK w N β sh) l (cs.map (nY0 look)):=by
 induction h with
 | nil=>exact .nil
 | cons p _ ih=>exact .cons ⟨p.1,lR0 p.2⟩ ih
theorem bZ1 {v:Value}{x:V}{N:Nat→Prop}{sh:Nat→Option Sh} (h:RV w N β sh v x):RV w N β sh v (zS0 look x):=by
 cases x with
 | c y=>exact lR0 h
 | agg cs=>obtain⟨a,rfl,h⟩:=h;exact⟨a,rfl,lS0 h⟩
 | tup vs=>
  obtain⟨a,rfl,h⟩:=h
  refine⟨a,rfl,?_⟩
  generalize a.toList=l at h
  induction h with
  | nil=>exact .nil
  | @cons u p _ _ h1 _ ih=>
   refine .cons ?_ ih
   obtain⟨b,cs⟩:=p
   cases b with
   | true=>obtain⟨a',rfl,h3⟩:=h1;exact⟨a',rfl,lS0 h3⟩
   | false=>obtain⟨y,h4,h3⟩:=h1;dsimp only at h4;subst h4;exact⟨_,rfl,lR0 h3⟩
theorem uI0 (o:O):shO (dR0 look o)=shO o:=by cases o <;> rfl
theorem bY1 {vals:Array Value}{z:Nat}{o:O}{N:Nat→Prop}{sh:Nat→Option Sh} (h:ROc w N β sh vals z o):ROc w N β sh vals z (dR0 look o):=by
 cases o with
 | box cs=>exact lS0 h
 | _=>exact h
theorem lk_map (loc:List O)(f:O→O)(hf:∀ o,shO (f o)=shO o)(id:Nat):lk (loc.map f) id=(lk loc id).map f:=by
 unfold lk
 rw[List.getElem?_map]
 cases h:loc[id]? with
 | none=>rfl
 | some o=>
  have:=hf o
  simp only[Option.map_some]
  cases o with
  | hole=>cases e:f .hole <;> simp_all [shO]
  | box cs=>cases e:f (.box cs) <;> simp_all [shO]
  | arr k els=>cases e:f (.arr k els) <;> simp_all [shO]
  | stk k els cur root=>cases e:f (.stk k els cur root) <;> simp_all [shO]
  | raw x=>cases e:f (.raw x) <;> simp_all [shO]
  | gone=>cases e:f .gone <;> simp_all [shO]
theorem oU0 {loc:List O}{lk0:Look} (hS:Sim w F β (lk loc)):Sim w F β (lk (loc.map (dR0 lk0)))∧St (fun _=>True) w β (lk loc) w β (lk (loc.map (dR0 lk0))) ∧
  shL (lk (loc.map (dR0 lk0)))=shL (lk loc)∧∀ b,Nn w F β (lk loc) b↔Nn w F β (lk (loc.map (dR0 lk0))) b:=by
 have hl:=lk_map loc (dR0 lk0) uI0
 have hsh:shL (lk (loc.map (dR0 lk0)))=shL (lk loc):=by
  funext id
  unfold shL
  rw[hl id]
  cases lk loc id with
  | none=>rfl
  | some o=>exact uI0 o
 have hal:∀ o,bL0 (dR0 lk0 o)=bL0 o:=by intro o;cases o <;> rfl
 have hLive:∀ b,Live β (lk (loc.map (dR0 lk0))) b↔Live β (lk loc) b:=by
  intro b
  constructor
  ·rintro⟨id,o,h1,h2,h3⟩
   rw[hl id]at h1
   obtain⟨o',p1,p2⟩:=Option.map_eq_some_iff.1 h1
   exact⟨id,o',p1,by rw[← hal,p2];exact h2,h3⟩
  ·rintro⟨id,o,h1,h2,h3⟩
   exact⟨id,dR0 lk0 o,by rw[hl id,h1];rfl,by rw[hal];exact h2,h3⟩
 have hNn:∀ b,Nn w F β (lk loc) b↔Nn w F β (lk (loc.map (dR0 lk0))) b:=by
  intro b;unfold Nn;rw[hLive b]
 refine⟨⟨hS.flt,fun id o h ha=> ?_,fun id id' o o' h h' ha ha' hb=> ?_,hS.laid.same fun b hb=>(hLive b).1 hb,hS.gst⟩,(St.of7 hS ⟨rfl,rfl,rfl,Nat.le_refl _,fun _ _ _=>rfl,fun b hb=> .inl ((hLive b).1 hb),fun id s _ hs=> .inl ⟨rfl,by rw[hsh];exact hs,rfl,rfl⟩⟩),hsh,hNn⟩
 ·rw[hl id]at h
  obtain⟨o',p1,rfl⟩:=Option.map_eq_some_iff.1 h
  rw[hal]at ha
  obtain⟨a,b,c⟩:=hS.live id o' p1 ha
  refine⟨a,b,?_⟩
  rw[hsh]
  by_cases hce:jU0 o'=true
  ·obtain⟨vals,ty,hb,hc⟩:=(gW0 hce).1 c
   rw[gW0 (by rw[show jU0 (dR0 lk0 o')=jU0 o' by cases o' <;> rfl];exact hce)]
   exact⟨vals,ty,hb,bY1 (ROc.mono (bM0 fun b hb=>(hNn b).1 hb) (Ids.refl _ _ _ _) hc)⟩
  ·cases o' with
   | raw x=>exact c
   | box cs=>exact absurd rfl hce
   | arr k els=>exact absurd rfl hce
   | stk _ _ _ _=>exact absurd rfl hce
   | gone=>cases ha
   | hole=>cases ha
 ·rw[hl id]at h
  rw[hl id']at h'
  obtain⟨x,p1,rfl⟩:=Option.map_eq_some_iff.1 h
  obtain⟨y,q1,rfl⟩:=Option.map_eq_some_iff.1 h'
  rw[hal]at ha ha'
  have kin:∀ i j,Kin β (lk loc) i j→Kin β (lk (loc.map (dR0 lk0))) i j:=by
   rintro i j ⟨k,l,l',r,c,h1,h2,h3,h4⟩
   exact⟨k,l,l',r,c,by rw[hl,h1];rfl,by rw[hl,h2];rfl,h3,h4⟩
  rcases hS.inj id id' x y p1 q1 ha ha' hb with h | h | h
  ·exact .inl h
  ·exact .inr (.inl (kin _ _ h))
  ·exact .inr (.inr (kin _ _ h))
theorem gT0 (look:Look):∀ (n:Nat)(seen todo:List Nat),∃ t,reach look n seen todo=seen++t
 | 0,seen,_=>⟨[],by simp[reach]⟩
 | n+1,seen,[]=>⟨[],by simp[reach]⟩
 | n+1,seen,id::todo=>by
  simp only[reach]
  split
  ·exact gT0 look n seen todo
  ·obtain⟨t,ht⟩:=gT0 look n (seen++[id]) (todo++dH1 (look id))
   exact⟨id::t,by rw[ht];simp⟩
theorem pT1 : ∀ {l:List Nat}{id j:Nat},l.Nodup→l[j]? = some id→pos l id=some j
 | x::r,id,0,_,h=>by
  simp only[List.getElem?_cons_zero,Option.some.injEq]at h
  simp[pos,h]
 | x::r,id,j+1,hn,h=>by
  rw[List.getElem?_cons_succ]at h
  have hn':=List.nodup_cons.1 hn
  have hne:¬ x=id:=fun e=>hn'.1 (e ▸ List.mem_of_getElem? h)
  simp[pos,hne,pT1 hn'.2 h]
theorem sD0 {loc os:List O} (hS:Sim w F β (lk loc)){ids:List Nat} (hnd:ids.Nodup){m:Nat} (hm:m≤loc.length){roots:List Nat} (hids:ids=kept m roots loc)(hk:vD0 ids loc=some os) :
  Sim w F (βc β ids) (lk os)∧St (· < m) w β (lk loc) w (βc β ids) (lk os)∧Ren (pos ids) β (shL (lk loc)) (βc β ids) (shL (lk os))∧∀ b,Nn w F β (lk loc) b→Nn w F (βc β ids) (lk os) b:=by
 unfold vD0 at hk
 cases hm2:mapO (lk loc) ids with
 | none=>simp[hm2]at hk
 | some objs=>
  simp only[hm2]at hk
  have hk':mapO (renO (pos ids)) (objs.map _root_.id)=some os:=by rw[List.map_id];exact hk
  have hget:∀ j o',lk os j=some o'→∃ id o,ids[j]? = some id∧lk loc id=some o∧renO (pos ids) o=some o'∧βc β ids j=β id∧bs (βc β ids) j=bs β id:=by
   intro j o' h
   obtain⟨id,o,h1,h2,h3⟩:=aQ1 (g:=_root_.id) hm2 hk' (hT0 h)
   exact⟨id,o,h1,h2,h3,by simp[βc_nat,List.getD,h1],by simp[βc_bs,List.getD,h1]⟩
  have halive:∀ {o o':O},renO (pos ids) o=some o'→(bL0 o'=true↔bL0 o=true):=by
   intro o o' h
   rw[eV0,eV0,kG0 h]
  have hlive:∀ b,Live (βc β ids) (lk os) b→Live β (lk loc) b:=by
   rintro b ⟨j,o',h1,h2,h3⟩
   obtain⟨id,o,p1,p2,p3,p4,_⟩:=hget j o' h1
   exact⟨id,o,p2,(halive p3).1 h2,by rw[← p4,h3]⟩
  have hsh:∀ j id,ids[j]? = some id→shL (lk os) j=shL (lk loc) id:=by
   intro j id h1
   obtain⟨o,o',h2,h3,h4⟩:=eK0 (g:=_root_.id) hm2 hk' h1
   have ho':=dZ0 h4 (fun e=>hG0 loc id (by rw[h2];exact congrArg some e))
   simp[shL,mW0 h3 ho',h2,kG0 h4]
  have hren:Ren (pos ids) β (shL (lk loc)) (βc β ids) (shL (lk os)):=by
   intro id j h
   have h1:=yP0 h
   exact⟨hsh j id h1,fun _=>by simp[βc_nat,List.getD,h1],fun _=>by simp[βc_bs,List.getD,h1]⟩
  have hall:∀ b,Nn w F β (lk loc) b→Nn w F (βc β ids) (lk os) b:=fun b ⟨h1,h2,h3⟩=>⟨h1,h2,fun h=>h3 (hlive b h)⟩
  refine⟨⟨hS.flt,fun j o' h ha=> ?_,fun j j' o1 o2 h1 h2 ha1 ha2 hb=> ?_,hS.laid.same hlive,hS.gst⟩,(St.of7 hS ⟨rfl,rfl,rfl,Nat.le_refl _,fun _ _ _=>rfl,fun b hb=> .inl (hlive b hb),fun id s hid hs=> ?_⟩),hren,hall⟩
  ·obtain⟨id,o,p1,p2,p3,p4,p5⟩:=hget j o' h
   obtain⟨a,b,c⟩:=hS.live id o p2 ((halive p3).1 ha)
   rw[p4,p5]
   refine⟨a,b,?_⟩
   exact rZ0 hren hall c p3
  ·obtain⟨id1,q1,p1,p2,p3,p4,_⟩:=hget j o1 h1
   obtain⟨id2,q2,r1,r2,r3,r4,_⟩:=hget j' o2 h2
   rw[p4,r4]at hb
   have kin:∀ {i1 i2 j1 j2:Nat},ids[j1]? = some i1→ids[j2]? = some i2→Kin β (lk loc) i1 i2→Kin (βc β ids) (lk os) j1 j2:=by
    rintro i1 i2 j1 j2 e1 e2 ⟨k,l,l',r,c,g1,g2,g3,g4⟩
    obtain⟨x1,y1,a1,a2,a3⟩:=eK0 (g:=_root_.id) hm2 hk' e1
    obtain⟨x2,y2,b1,b2,b3⟩:=eK0 (g:=_root_.id) hm2 hk' e2
    rw[g1]at a1;cases a1
    rw[g2]at b1;cases b1
    have hp:pos ids i2=some j2:=pT1 hnd e2
    simp only[_root_.id,renO,Option.bind_some,hp,Option.some.injEq]at a3 b3
    subst a3 b3
    refine⟨k,l,l',r,_,mW0 a2 (by simp),mW0 b2 (by simp),?_,g4⟩
    rw[βc_bs,βc_bs]
    simpa [List.getD,e1,e2] using g3
   rcases hS.inj id1 id2 q1 q2 p2 r2 ((halive p3).1 ha1) ((halive r3).1 ha2) hb with h | h | h
   ·subst h
    exact .inl (iW0 hnd p1 r1)
   ·exact .inr (.inl (kin p1 r1 h))
   ·exact .inr (.inr (kin r1 p1 h))
  ·have hpre:ids[id]? = some id:=by
    obtain⟨t,ht⟩:=gT0 (lk loc) 200 (List.range m) (((List.range m).flatMap fun id=>dH1 (lk loc id))++roots)
    rw[hids]
    unfold kept
    rw[ht,List.getElem?_append_left (by simpa using hid),List.getElem?_range hid]
   exact .inl ⟨by simp[βc_nat,List.getD,hpre],by rw[hsh id id hpre];exact hs,rfl,by simp[βc_bs,List.getD,hpre]⟩
end
end
section
open Go
variable [Guest]
section
variable {P:Program}{w:World}{F:Nat→Prop}{β:Int→Nat}
def oS0 (tmps:Array Value):ResultVar→Sem Value
 | .tmp t=>pure (tmps.getD t undef)
 | .cell a t=>do loadVar t (← asAddr (tmps.getD a undef))
def one1 : List Value→Value
 | [v]=>v
 | l=> .tuple l.toArray
theorem yT0 (fn:Func)(tmps:Array Value){l:List Value} (h:(fn.results.toList.mapM (oS0 tmps)).run P w = .ok l w) :
  (results fn tmps).run P w = .ok (one1 l) w:=by
 have e:results fn tmps=(fn.results.mapM (oS0 tmps) >>= fun vs=>pure (if h:vs.size=1 then vs[0] else .tuple vs)):=by
  unfold results
  congr 1
 rw[e,Sem.run_bind,Array.mapM_eq_mapM_toList,Sem.run_map,h]
 simp only[Result.andThen_ok,Sem.run_pure]
 congr 1
 match l with
 | []=>rfl
 | [v]=>rfl
 | a::b::r=>simp[one1]
theorem aS1 {loc:List O} (hS:Sim w F β (lk loc)){tmps:Array Value}{env:Env} (hE:EnvR w F β (lk loc) tmps env):∀ {rs:List ResultVar}{vs:List V},mapO (kH0 P env loc) rs=some vs →
  ∃ l,(rs.mapM (oS0 tmps)).run P w = .ok l w∧All2 (RVs w F β (lk loc)) l vs
 | [],vs,h=>by simp only[mapO,Option.some.injEq]at h;subst h;exact⟨[],rfl,.nil⟩
 | r::rs,vs,h=>by
  simp only[mapO]at h
  cases e1:kH0 P env loc r with
  | none=>simp[e1]at h
  | some x=>
   cases e2:mapO (kH0 P env loc) rs with
   | none=>simp[e1,e2]at h
   | some xs=>
    simp only[e1,e2,Option.some.injEq]at h
    subst h
    obtain⟨l,h1,h2⟩:=aS1 hS hE e2
    have:∃ y,(oS0 tmps r).run P w = .ok y w∧RVs w F β (lk loc) y x:=by
     cases r with
     | tmp t=>simp only[kH0,Option.some.injEq]at e1;subst e1;exact⟨_,rfl,hE t⟩
     | cell a t=>
      simp only[kH0]at e1
      cases e3:loadA P (lk loc) t (gt env a) with
      | none=>simp[e3]at e1
      | some e=>
       obtain⟨ad,y,u,rd,p1,rfl,p3,p4⟩:=aI1 hS (hE a) e3
       simp only[e3,Option.some.injEq]at e1
       subst e1
       exact⟨y,by simp[oS0,p1,asAddr,p3],p4⟩
    obtain⟨y,p1,p2⟩:=this
    exact⟨y::l,by simp[List.mapM_cons,p1,h1],.cons p2 h2⟩
theorem oE0 {cf:Cf}{env:Env}{loc0:List O}{out:Out} (hS:Sim w F β (lk loc0)){tmps:Array Value} (hE:EnvR w F β (lk loc0) tmps env){fn:Func} (hres:fn.results.toList=cf.res)(h:kA0 P cf env loc0=some out) :
  ∃ vs os v β',out = .ret vs os∧(results fn tmps).run P w = .ok v w∧RRes w F β' (lk os) v vs∧Sim w F β' (lk os)∧St (· < cf.m) w β (lk loc0) w β' (lk os):=by
 unfold kA0 at h
 cases e1:mapO (kH0 P env loc0) cf.res with
 | none=>simp[e1]at h
 | some vs0=>
  simp only[e1]at h
  cases e2:eD0 cf.keep (lk loc0) vs0 with
  | none=>simp[e2]at h
  | some p=>
   obtain⟨vs1,own⟩:=p
   simp only[e2]at h
   generalize hL1:updO loc0 (aU0 own)=loc1 at h
   generalize hL:loc1.map (dR0 (lk loc1))=loc at h
   generalize hI:kept cf.m (vs1.flatMap iZ0) loc=ids at h
   split at h
   case isFalse=>cases h
   rename_i hc
   simp only[Bool.and_eq_true,decide_eq_true_eq]at hc
   cases e3:mapO (renV (pos ids)) vs1 with
   | none=>simp[e3]at h
   | some vs2=>
    simp only[e3]at h
    cases e4:vD0 ids loc with
    | none=>simp[e4]at h
    | some os=>
     simp only[e4,Option.some.injEq]at h
     subst h
     obtain⟨l,h1,h2⟩:=aS1 hS hE e1
     have hown:=pU0 e2
     have hL1':lk loc1=updL (lk loc0) (aU0 own):=by rw[← hL1,eP0]
     obtain⟨hS1,st1⟩:=gM0 (F:=F) own hS (lA0 hown)
     have hwide:=hJ0 hS hown
     rw[← hL1']at hS1 st1 hwide
     have h3:=pV0 hS h2 e2 hwide
     obtain⟨hS2,st2,hsh2,hN2⟩:=oU0 (lk0:=lk loc1) hS1
     rw[hL]at hS2 st2 hsh2 hN2
     obtain⟨hS3,st3,hren,hN3⟩:=sD0 hS2 hc.1 hc.2 hI.symm e4
     have h4:All2 (RVs w F (βc β ids) (lk os)) l vs2:=by
      refine All2.comp (R:=fun v x=>RV w (Nn w F β (lk loc1)) β (shL (lk loc0)) v x) (S:=fun a b=>renV (pos ids) a=some b) (T:=RVs w F (βc β ids) (lk os)) (fun v x y p q=> ?_) h3 (aT0 e3)
      have p1:RV w (Nn w F β (lk loc)) β (shL (lk loc)) v x:=by
       rw[hsh2]
       exact RV.mono (bM0 fun b hb=>(hN2 b).1 hb) st1.ids p
      exact lF0 hren hN3 p1 q
     refine⟨vs2,os,_,βc β ids,rfl,yT0 fn tmps (by rw[hres];exact h1),?_,hS3,((st1.trans st2).some).trans st3⟩
     cases h4 with
     | nil=>exact .inr ⟨by simp,#[],rfl,.nil⟩
     | cons a r=>
      cases r with
      | nil=>exact .inl ⟨_,rfl,a⟩
      | cons b r=>exact .inr ⟨by simp,_,rfl,by simpa using All2.cons a (All2.cons b r)⟩
theorem mU1 {cf:Cf}{x:Value}{loc1:List O}{out:Out} (hS:Sim w F β (lk loc1))(h:nF0 cf x loc1=some out) :
  ∃ os β',out = .pan x os∧Sim w F β' (lk os)∧St (· < cf.m) w β (lk loc1) w β' (lk os):=by
 unfold nF0 at h
 dsimp only at h
 generalize hL:loc1.map (dR0 (lk loc1))=loc at h
 generalize hI:kept cf.m [] loc=ids at h
 split at h
 case isFalse=>cases h
 rename_i hc
 simp only[Bool.and_eq_true,decide_eq_true_eq]at hc
 cases e4:vD0 ids loc with
 | none=>simp[e4]at h
 | some os=>
  simp only[e4,Option.some.injEq]at h
  subst h
  obtain⟨hS2,st2,hsh2,hN2⟩:=oU0 (lk0:=lk loc1) hS
  rw[hL]at hS2 st2 hsh2 hN2
  obtain⟨hS3,st3,hren,hN3⟩:=sD0 hS2 hc.1 hc.2 hI.symm e4
  exact⟨os,βc β ids,rfl,hS3,st2.some.trans st3⟩
theorem kZ0 (p:Nat→Bool):∀ (env:Env)(t:Nat),gt (env.filter fun q=>p q.1) t=if p t=true then gt env t else .c .any
 | [],t=>by simp[gt]
 | (a,x)::r,t=>by
  simp only[List.filter_cons]
  by_cases h:p a=true
  ·simp only[h,if_true,gt]
   by_cases e:a=t
   ·subst e;simp[h]
   ·simp only[e,if_false];exact kZ0 p r t
  ·simp only[h,gt]
   by_cases e:a=t
   ·subst e;simp[h];have:=kZ0 p r a;simpa [h] using this
   ·simp only[e,if_false];simpa using kZ0 p r t
theorem pE1 (f:V→V)(hf:f (.c .any) = .c .any):∀ (env:Env)(t:Nat),gt (env.map fun q=>(q.1,f q.2)) t=f (gt env t)
 | [],t=>by simp[gt,hf]
 | (a,x)::r,t=>by
  simp only[List.map_cons,gt]
  by_cases e:a=t
  ·simp[e]
  ·simp only[e,if_false];exact pE1 f hf r t
theorem gt_ren (r:Nat→Option Nat):∀ (env env':Env),All2 (fun(p q:Nat × V)=>p.1=q.1∧renV r p.2=some q.2) env env'→∀ t,renV r (gt env t)=some (gt env' t)∨gt env' t = .c .any:=by
 intro env env' h
 induction h with
 | nil=>intro t;exact .inr rfl
 | @cons p q _ _ h1 _ ih=>
  intro t
  obtain⟨a,x⟩:=p
  obtain⟨b,y⟩:=q
  obtain⟨rfl,h2⟩:=h1
  simp only[gt]
  by_cases e:a=t
  ·simp only[e,if_true];exact .inl h2
  ·simp only[e,if_false];exact ih t
theorem sL1 {env:Env}{t:Nat} (h:env.any (fun p=>p.1==t)=false):gt env t = .c .any:=by
 induction env with
 | nil=>rfl
 | cons p r ih=>
  obtain⟨u,v⟩:=p
  simp only[List.any_cons,Bool.or_eq_false_iff,beq_eq_false_iff_ne]at h
  simp only[gt,if_neg h.1]
  exact ih h.2
theorem pF1 (t:Nat):∀ (l:List Nat)(env:Env),gt (padE l env) t=gt env t
 | [],env=>rfl
 | u::l,env=>by
  rw[padE,pF1 t l]
  split
  ·rfl
  ·rename_i h
   rw[xX0]
   split
   ·rename_i e;subst e;exact(sL1 (Bool.eq_false_iff.2 h)).symm
   ·rfl
theorem EnvR.pad {tmps:Array Value}{env:Env}{loc:List O} (h:EnvR w F β (lk loc) tmps env)(l:List Nat):EnvR w F β (lk loc) tmps (padE l env):=by
 intro t
 rw[pF1]
 exact h t
theorem sX1 {m:Nat}{forget:List Nat}{env0 env':Env}{loc1 os:List O} (hS:Sim w F β (lk loc1)){tmps:Array Value} (hE:EnvR w F β (lk loc1) tmps env0)(h:sW1 m forget env0 loc1=some (env',os)) :
  ∃ β',Sim w F β' (lk os)∧EnvR w F β' (lk os) tmps env'∧St (· < m) w β (lk loc1) w β' (lk os):=by
 unfold sW1 at h
 dsimp only at h
 generalize hL:loc1.map (dR0 (lk loc1))=loc at h
 generalize hEn:((env0.filter fun p=> !forget.contains p.1).map fun p=>(p.1,zS0 (lk loc1) p.2))=env at h
 generalize hI:kept m (env.flatMap fun p=>iZ0 p.2) loc=ids at h
 split at h
 case isFalse=>cases h
 rename_i hc
 simp only[Bool.and_eq_true,decide_eq_true_eq]at hc
 cases e3:mapO (yQ0 (pos ids)) env with
 | none=>simp[e3]at h
 | some env2=>
  simp only[e3]at h
  cases e4:vD0 ids loc with
  | none=>simp[e4]at h
  | some os'=>
   simp only[e4,Option.some.injEq,Prod.mk.injEq]at h
   obtain⟨rfl,rfl⟩:=h
   obtain⟨hS2,st2,hsh2,hN2⟩:=oU0 (lk0:=lk loc1) hS
   rw[hL]at hS2 st2 hsh2 hN2
   obtain⟨hS3,st3,hren,hN3⟩:=sD0 hS2 hc.1 hc.2 hI.symm e4
   refine⟨βc β ids,hS3,fun t=> ?_,st2.some.trans st3⟩
   have h1:RVs w F β (lk loc) (tmps.getD t undef) (gt env t):=by
    rw[← hEn,pE1 (zS0 (lk loc1)) rfl,kZ0 (fun t=> !forget.contains t)]
    split
    ·have:=hE t
     have h2:RV w (Nn w F β (lk loc)) β (shL (lk loc)) (tmps.getD t undef) (gt env0 t):=by
      rw[hsh2]
      exact RV.mono (bM0 fun b hb=>(hN2 b).1 hb) (Ids.refl _ _ _ _) this
     exact bZ1 h2
    ·trivial
   have h2:All2 (fun(p q:Nat × V)=>p.1=q.1∧renV (pos ids) p.2=some q.2) env env2:=by
    refine(aT0 e3).mono fun p q hpq=> ?_
    unfold yQ0 at hpq
    cases e:renV (pos ids) p.2 with
    | none=>simp[e]at hpq
    | some v=>simp only[e,Option.some.injEq]at hpq;subst hpq;exact⟨rfl,rfl⟩
   rcases gt_ren _ _ _ h2 t with h3 | h3
   ·exact lF0 hren hN3 h1 h3
   ·rw[h3];trivial
end
end
section
open Go
variable [Guest]
inductive FinK where
 | ret
 | pan (chain:List PanicEntry)
def FinK.mode : FinK→FrameMode
 | .ret=> .returning
 | .pan ch=> .panicking ch
def Reach (P:Program)(items:List Item)(a:Act)(w:World)(Post:FinK→Act→World→Prop):Prop:=
 ∀ (b:Frame) (cs:List Frame),∃ fk a' w' todo,Post fk a' w'∧Steps P (lone (b.at a items) cs w) (lone { b.at a' todo with mode:=fk.mode } cs w')
section
variable {P:Program}
theorem Reach.mono {items:List Item}{a:Act}{w:World}{Post Post':FinK→Act→World→Prop} (h:Reach P items a w Post)(hp:∀ fk a w,Post fk a w→Post' fk a w):Reach P items a w Post':=
 fun b cs=>let ⟨fk,a',w',todo,p,s⟩:=h b cs;⟨fk,a',w',todo,hp _ _ _ p,s⟩
theorem aF0 {items items':List Item}{a:Act}{w:World}{Post:FinK→Act→World→Prop} (hs:∀ (b:Frame)(cs:List Frame),step P (lone (b.at a items) cs w) = .next (lone (b.at a items') cs w))(h:Reach P items' a w Post):Reach P items a w Post:=
 fun b cs=>let ⟨fk,a',w',todo,p,s⟩:=h b cs;⟨fk,a',w',todo,p,.head (hs b cs) s⟩
theorem vN0 {items items':List Item}{a:Act}{w:World}{Post:FinK→Act→World→Prop} (hs:∀ (b:Frame)(cs:List Frame),step P (lone (b.at a items) cs w) = .next (lone (b.at a items') cs w))(h:Reach P items a w Post):Reach P items' a w Post:=by
 intro b cs
 obtain⟨fk,a',w',todo,p,n,hn⟩:=h b cs
 refine⟨fk,a',w',todo,p,?_⟩
 cases n with
 | zero=>
  exfalso
  simp only[Go.runN]at hn
  have h1:lone (b.at a items) cs w=lone { b.at a' todo with mode:=fk.mode } cs w':=by injection hn
  have h2:=congrArg (fun m:Machine=>(m.gs.getD 0 default).frame.mode) h1
  simp only[lone,Frame.at]at h2
  cases fk <;> simp[FinK.mode,Array.getD]at h2
 | succ n=>
  simp only[Go.runN,hs b cs]at hn
  exact⟨n,hn⟩
def Qr (P:Program)(k:List Item)(Post:FinK→Act→World→Prop):Exit→Act→World→Prop
 | .normal,a,w=>Reach P k a w Post
 | .panic ch,a,w=>Post (.pan ch) a w
 | _,_,_=>False
theorem gI0 {all:Array Oper}{is:List Nat}{k:List Item}{a:Act}{w:World}{Post:FinK→Act→World→Prop} (h:wpOps P all (Qr P k Post) is a w):Reach P (.inRegion all is::k) a w Post:=by
 intro b cs
 obtain⟨e,a',w',hq,harr⟩:=wp_ops is a w h b k cs
 cases e with
 | normal=>
  obtain⟨fk,a2,w2,todo,p,s⟩:=hq b cs
  exact⟨fk,a2,w2,todo,p,Steps.trans harr s⟩
 | panic ch=>
  obtain⟨todo,s⟩:=harr
  exact⟨.pan ch,a',w',todo,hq,s⟩
 | exit _=>exact hq.elim
 | goto _=>exact hq.elim
 | ret=>exact hq.elim
 | outgrown=>exact hq.elim
theorem eH0 {f:FuncId}{fn:Func}{c:Code}{args:Array Value}{w:World}{R:Ending→World→Prop} (hf:P.funcs[f]? = some fn)(hb:fn.body=some c)
  (h:Reach P [.code c] { tmps:=args++Array.replicate (fn.ntmps - args.size) undef,defers:=[] } w fun fk a' w'=>a'.defers=[]∧match fk with
   | .ret=>∃ v,(results fn a'.tmps).run P w' = .ok v w'∧R (.returned v) w'
   | .pan ch=>R (.panicked ch) w'):Calls P f args w R:=by
 intro cs
 let b:Frame:={ (default:Frame) with fn:=f,kind:= .normal }
 have henter:Frame.enter P f args .normal=b.at { tmps:=args++Array.replicate (fn.ntmps - args.size) undef,defers:=[] } [.code c]:=by
  simp[Frame.enter,Frame.at,hf,hb,b]
 obtain⟨fk,a',w',todo,⟨hd,hq⟩,hs⟩:=h b cs
 rw[← henter]at hs
 cases fk with
 | ret=>
  obtain⟨v,hr,hR⟩:=hq
  exact⟨.returned v,w',_,hR,hs,rfl,rfl,hd,rfl,fn,hf,hr⟩
 | pan ch=>exact⟨.panicked ch,w',_,hq,hs,rfl,rfl,hd,fn,hf⟩
def iI0 (P : Program) : Prop := P.funcs.all (fun fn => !(fn.name == "runtime.NumGoroutine")) = true
def eC0 (P:Program)(f:FuncId):Prop:=∃ fn,P.funcs[f]? = some fn∧fn.body.isSome=true
theorem eL0 (hN:iI0 P){f:FuncId} (hB:eC0 P f)(args:Array Value)(w:World):(callFunc f args).run P w = .ok (.enter f args) w:=by
 obtain⟨fn,hf,hb⟩:=hB
 have hn : (fn.name == "runtime.NumGoroutine") = false := by
  have:=Array.all_eq_true_iff_forall_mem.1 hN fn (Array.mem_of_getElem? hf)
  simpa using this
 have hb':fn.body.isNone=false:=by cases h:fn.body <;> simp_all
 simp only[callFunc,Sem.run_bind,run_program,Result.andThen_ok,hf,hn,hb']
 rfl
def scV (x:Value):V:= .c (.d (.v x))
def bJ1 (P:Program)(f:FuncId)(args:List V)(objs:List O)(out:Out):Prop:=
 ∃ (xs:List Value) (y:Value),args=xs.map scV∧objs=[]∧out = .ret [scV y] []∧cellB y=true∧∀ w,(callFunc f xs.toArray).run P w = .ok (.value y) w
def kO0 (P:Program)(rec:Rec):Prop:=∀ f args objs out,rec (.call f args objs)=some out→(eC0 P f∧eI0 P f args objs out)∨bJ1 P f args objs out
theorem eC1 {look:Look}{r:Nat→Option Nat}{v v':V}{a:List Nat}{x:Value} (h1:argV look v=some (v',a))(h2:renV r v'=some (scV x)):v=scV x∧a=[]:=by
 cases v with
 | tup vs=>cases h1
 | agg cs=>
  simp only[argV]at h1
  cases e:gX0 look cs with
  | none=>simp[e]at h1
  | some p=>
   simp only[e,Option.some.injEq,Prod.mk.injEq]at h1
   obtain⟨rfl,rfl⟩:=h1
   simp only[renV]at h2
   split at h2
   ·cases h2
   ·cases h2
 | c z=>
  simp only[argV]at h1
  cases e:argC look z with
  | none=>simp[e]at h1
  | some p=>
   simp only[e,Option.some.injEq,Prod.mk.injEq]at h1
   obtain⟨rfl,rfl⟩:=h1
   simp only[renV]at h2
   cases e2:renC r p.1 with
   | none=>simp[e2]at h2
   | some y=>
    simp only[e2,Option.some.injEq,scV,V.c.injEq]at h2
    subst h2
    cases z with
    | own id=>
     simp only[argC]at e
     split at e
     ·cases e;cases e2
     ·cases e
    | any=>cases e
    | d q=>cases e;simp only[renC,Option.some.injEq]at e2;exact⟨by rw[scV,← e2],rfl⟩
    | ptr id off=>cases e;simp only[renC]at e2;split at e2 <;> cases e2
    | elt k els i off=>cases e;cases e2
    | ap id i off=>cases e;simp only[renC]at e2;split at e2 <;> cases e2
    | rf m id=>cases e;simp only[renC]at e2;split at e2 <;> cases e2
    | fn f b c=>
     cases e
     simp only[renC]at e2
     split at e2
     ·split at e2 <;> cases e2
     ·cases e2
theorem pW0 {look:Look}{r:Nat→Option Nat}:∀ {vs vs':List V}{a:List Nat}{xs:List Value},dW0 look vs=some (vs',a)→mapO (renV r) vs'=some (xs.map scV)→vs=xs.map scV∧a=[]
 | [],vs',a,xs,h1,h2=>by
  simp only[dW0,Option.some.injEq,Prod.mk.injEq]at h1
  obtain⟨rfl,rfl⟩:=h1
  simp only[mapO,Option.some.injEq]at h2
  exact⟨h2,rfl⟩
 | v::vs,vs',a,xs,h1,h2=>by
  simp only[dW0]at h1
  cases e:argV look v with
  | none=>simp[e]at h1
  | some p=>
   obtain⟨v1,a1⟩:=p
   cases e':dW0 look vs with
   | none=>simp[e,e']at h1
   | some q=>
    obtain⟨vs1,a2⟩:=q
    simp only[e,e',Option.some.injEq,Prod.mk.injEq]at h1
    obtain⟨rfl,rfl⟩:=h1
    simp only[mapO]at h2
    cases e2:renV r v1 with
    | none=>simp[e2]at h2
    | some y=>
     cases e3:mapO (renV r) vs1 with
     | none=>simp[e2,e3]at h2
     | some ys=>
      simp only[e2,e3,Option.some.injEq]at h2
      cases xs with
      | nil=>cases h2
      | cons x xs=>
       simp only[List.map_cons,List.cons.injEq]at h2
       obtain⟨rfl,rfl⟩:=h2
       obtain⟨rfl,rfl⟩:=eC1 e e2
       obtain⟨h3,rfl⟩:=pW0 e' e3
       exact⟨by rw[List.map_cons,← h3],rfl⟩
theorem iL1 {r:Nat→Option Nat}{z:C}{x:Value} (h:renC r z=some (.d (.v x))):z = .d (.v x):=by
 cases z with
 | d q=>simp only[renC,Option.some.injEq]at h;exact h
 | ptr id off=>simp only[renC]at h;split at h <;> cases h
 | elt k els i off=>cases h
 | own id=>simp only[renC]at h;split at h <;> cases h
 | ap id i off=>simp only[renC]at h;split at h <;> cases h
 | rf m id=>simp only[renC]at h;split at h <;> cases h
 | fn f b c=>
  simp only[renC]at h
  split at h
  ·split at h <;> cases h
  ·cases h
 | any=>cases h
theorem qK0 {r:Nat→Option Nat}:∀ {vs:List V}{xs:List Value},mapO (renV r) vs=some (xs.map scV)→vs=xs.map scV
 | [],xs,h=>by
  simp only[mapO,Option.some.injEq]at h
  exact h
 | v::vs,xs,h=>by
  simp only[mapO]at h
  cases e2:renV r v with
  | none=>simp[e2]at h
  | some y=>
   cases e3:mapO (renV r) vs with
   | none=>simp[e2,e3]at h
   | some ys=>
    simp only[e2,e3,Option.some.injEq]at h
    cases xs with
    | nil=>cases h
    | cons x xs=>
     simp only[List.map_cons,List.cons.injEq]at h
     obtain⟨rfl,rfl⟩:=h
     rw[List.map_cons,← qK0 e3]
     cases v with
     | c z=>
      simp only[renV]at e2
      cases e:renC r z with
      | none=>simp[e]at e2
      | some q=>
       simp only[e,Option.some.injEq,scV,V.c.injEq]at e2
       subst e2
       rw[iL1 e];rfl
     | agg cs=>simp only[renV]at e2;split at e2 <;> cases e2
     | tup ts=>simp only[renV]at e2;split at e2 <;> cases e2
theorem wJ0 {look:Look}{keep:Bool}{r:Nat→Option Nat}{vs vs':List V}{a:List Nat}{xs:List Value} (h1:eD0 keep look vs=some (vs',a))(h2:mapO (renV r) vs'=some (xs.map scV)):vs=xs.map scV∧a=[]:=by
 cases keep with
 | true=>simp only[eD0,Option.some.injEq,Prod.mk.injEq]at h1;obtain⟨rfl,rfl⟩:=h1;exact⟨qK0 h2,rfl⟩
 | false=>exact pW0 h1 h2
theorem iA1 {f:FuncId}{look:Look}{vs:List V}{ids bor:List Nat}{xs:List Value}{os:List O} (h:cB0 f look vs=some (ids,bor,xs.map scV,os)):vs=xs.map scV:=by
 unfold cB0 at h
 cases e:eD0 (ownF f) look vs with
 | none=>simp[e]at h
 | some p=>
  obtain⟨as,b⟩:=p
  simp only[e]at h
  split at h
  ·cases h
  ·rename_i as2 e2
   split at h
   ·cases h
   ·split at h
    ·cases h
    ·split at h
     ·simp only[Option.some.injEq,Prod.mk.injEq]at h
      obtain⟨_,_,rfl,_⟩:=h
      exact(wJ0 e e2).1
     ·cases h
theorem wF0 {ids bor:List Nat}{slot:Nat}{y:Value}{e:Eff} (h:cK0 ids bor slot (.ret [scV y] [])=some e):∃ rd,e=⟨.val (scV y),[],rd⟩:=by
 simp only[cK0,scV,mapO,renV,renC,bK0,List.length_nil]at h
 split at h
 ·cases h
 ·simp only[Option.some.injEq]at h
  subst h
  exact⟨_,rfl⟩
variable {w:World}{F:Nat→Prop}{β:Int→Nat}{look:Look}
theorem mW1 {id:Nat} (h:shL look id=some .box):RVs w F β look (iJ0 (β id)) (ptrV id):=⟨h,rfl⟩
theorem oO0 (hN:iI0 P){rec:Rec} (hrec:kO0 P rec)(hS:Sim w F β look)(hH:pS0 look){slot:Nat} (hs:look slot=none){a:Act}{ρ:Operand→V} (hE:∀ y,RVs w F β look (a.eval y) (ρ y)){o:Oper}{e:Eff}
  (h:opA P rec look slot ρ o.op=some e) (hfresh:∀ id,slot≤id→id∈e.upd.map (·.1)→look id=none):Goes P w F β look a o e ((execOp a.eval o).run P w):=by
 by_cases hc:gZ1 o.op=false
 ·exact(uQ1 hS hs hE hc h).goes
 ·intro next Q hq
  obtain⟨dst,op,ty,ps,af,g⟩:=o
  cases op <;> (dsimp only at hc h) <;> try (exact absurd rfl hc)
  case call c=>
   obtain⟨callee,args,types⟩:=c
   cases callee with
   | builtin b=>exact absurd rfl hc
   | invoke _ _=>exact absurd rfl hc
   | value f=>
    simp only[opA,callOpA,callV]at h
    cases ht:target (ρ f) (args.toList.map ρ) with
    | none=>simp[ht]at h
    | some p=>
     obtain⟨g',vs⟩:=p
     simp only[ht]at h
     unfold target at ht
     split at ht
     ·rename_i fid first caps hf
      simp only[Option.some.injEq,Prod.mk.injEq]at ht
      obtain⟨rfl,rfl⟩:=ht
      have hfv:=hE f
      rw[hf]at hfv
      obtain⟨hfv1,hfv2⟩:=hfv
      have hargs:All2 (RVs w F β look) (first.map (fun id:Nat=>iJ0 (β id))++args.toList.map a.eval++caps.map (fun id:Nat=>iJ0 (β id))) (first.map ptrV++args.toList.map ρ++caps.map ptrV):=by
       have hp:∀ l:List Nat,(∀ id∈l,shL look id=some .box)→All2 (RVs w F β look) (l.map fun id:Nat=>iJ0 (β id)) (l.map ptrV):=by
        intro l
        induction l with
        | nil=>intro _;exact .nil
        | cons x l ih=>intro hl;exact .cons (mW1 (hl x List.mem_cons_self)) (ih fun id hid=>hl id (List.mem_cons_of_mem _ hid))
       exact((hp first fun id hid=>hfv2 id (.inl hid)).append (kP0 hE args.toList)).append (hp caps fun id hid=>hfv2 id (.inr hid))
      have e1:(first.map (fun id:Nat=>iJ0 (β id))).toArray++args.map a.eval++(caps.map (fun id:Nat=>iJ0 (β id))).toArray=(first.map (fun id:Nat=>iJ0 (β id))++args.toList.map a.eval++caps.map (fun id:Nat=>iJ0 (β id))).toArray:=by
       rw[← oC1];simp
      have hor:eC0 P fid∨∃ (xs:List Value) (y:Value),first.map ptrV++args.toList.map ρ++caps.map ptrV=xs.map scV∧cellB y=true∧(∀ w,(callFunc fid xs.toArray).run P w = .ok (.value y) w)∧∃ rd,e=⟨.val (scV y),[],rd⟩:=by
       have hh:=h
       unfold dD0 at hh
       obtain⟨e0,h0,_,he⟩:=jF0 hh
       clear hh h
       have h:=h0
       clear h0
       cases hp:cB0 fid look (first.map ptrV++args.toList.map ρ++caps.map ptrV) with
       | none=>rw[hp]at h;cases h
       | some p=>
        obtain⟨ids,bor,as,os⟩:=p
        rw[hp]at h
        simp only[hN0,bB0]at h
        cases hr:dX0 rec fid as os with
        | none=>simp[hr]at h
        | some out=>
         simp only[hr]at h
         have hor0:eC0 P fid∨rec (.call fid as os)=some out:=by
          unfold dX0 at hr
          split at hr
          ·rename_i hany
           split at hr
           case isFalse=>cases hr
           cases hr2:rec (.call fid as (os.map iE0)) with
           | none=>rw[hr2]at hr;cases hr
           | some out0=>
            rcases hrec _ _ _ _ hr2 with⟨hB,_⟩ | ⟨xs,y,_,ho,_⟩
            ·exact .inl hB
            ·have:os=[]:=by simpa using ho
             subst this
             simp at hany
          ·exact .inr hr
         rcases hor0 with hB | hr
         ·exact .inl hB
         rcases hrec _ _ _ _ hr with⟨hB,_⟩ | ⟨xs,y,rfl,rfl,rfl,hy,hn⟩
         ·exact .inl hB
         ·obtain⟨rd,hrd⟩:=wF0 h
          exact .inr ⟨xs,y,iA1 hp,hy,hn,rd,by rw[he,hrd];rfl⟩
      rcases hor with hB | ⟨xs,y,hxs,hy,hn,rd,rfl⟩
      ·have hrun:(execOp a.eval { dst:=dst,op:= .call { callee:= .value f,args:=args,argTypes:=types },type:=ty,pos:=ps,after:=af,guard:=g }).run P w =
         .ok (.enter fid (first.map (fun id:Nat=>iJ0 (β id))++args.toList.map a.eval++caps.map (fun id:Nat=>iJ0 (β id))).toArray) w:=by
        simp only[execOp,resolve,hfv1,Deferred.ofValue,pure_bind,invoke]
        rw[e1]
        exact eL0 hN hB _ _
       show Oper.upon P _ a next Q ((execOp a.eval _).run P w)
       rw[hrun]
       refine wN0 (fun args objs out hr=> ?_) hS hH hargs h hfresh next Q hq
       rcases hrec fid args objs out hr with⟨_,h⟩ | ⟨xs,y,_,_,_,_,hn⟩
       ·exact h
       ·have h1:=hn w
        rw[eL0 hN hB]at h1
        cases h1
      ·have hv:first.map (fun id:Nat=>iJ0 (β id))++args.toList.map a.eval++caps.map (fun id:Nat=>iJ0 (β id))=xs:=by
        rw[hxs]at hargs
        have key:∀ (us:List Value) (xs:List Value),All2 (RVs w F β look) us (xs.map scV)→us=xs:=by
         intro us xs
         induction xs generalizing us with
         | nil=>intro h;cases h;rfl
         | cons x xs ih=>intro h;cases h with | cons h1 h2=>rw[(rv_v h1).1,ih _ h2]
        exact key _ _ hargs
       have hrun:(execOp a.eval { dst:=dst,op:= .call { callee:= .value f,args:=args,argTypes:=types },type:=ty,pos:=ps,after:=af,guard:=g }).run P w = .ok (.value y) w:=by
        simp only[execOp,resolve,hfv1,Deferred.ofValue,pure_bind,invoke]
        rw[e1,hv]
        exact hn w
       have hR:Runs w F β look ⟨.val (scV y),[],rd⟩ ((execOp a.eval { dst:=dst,op:= .call { callee:= .value f,args:=args,argTypes:=types },type:=ty,pos:=ps,after:=af,guard:=g }).run P w):=⟨w,β,Good.refl hS,.inl ⟨y,hrun,RepD.v hy⟩⟩
       exact hR.goes next Q hq
     ·cases ht
end
end
section
open Go
variable [Guest]
section
variable {P:Program}{rec:Rec}{look look':Look}{slot:Nat}
theorem jG1 {c:C}{x:D}{own:List Nat} (h:toD look c=some (x,own))(hl:∀ id∈own,look' id=look id):toD look' c=some (x,own):=by
 cases c with
 | d y=>exact h
 | own id=>
  simp only[toD]at h ⊢
  cases e:look id with
  | none=>simp[e]at h
  | some o=>
   cases o <;> simp[e]at h
   obtain⟨rfl,rfl⟩:=h
   rw[hl id (by simp),e]
 | _=>cases h
theorem mH0 : ∀ {cs:List C}{xs:List D}{own:List Nat},toDs look cs=some (xs,own)→(∀ id∈own,look' id=look id)→toDs look' cs=some (xs,own):=by
 intro cs
 induction cs with
 | nil=>intro xs own h _;exact h
 | cons c cs ih=>
  intro xs own hd hl
  simp only[toDs]at hd ⊢
  cases e1:toD look c with
  | none=>simp[e1]at hd
  | some p=>
   obtain⟨d,a⟩:=p
   cases e2:toDs look cs with
   | none=>simp[e1,e2]at hd
   | some q=>
    obtain⟨ds,b⟩:=q
    simp only[e1,e2,Option.some.injEq,Prod.mk.injEq]at hd
    obtain⟨rfl,rfl⟩:=hd
    rw[jG1 e1 (fun id hid=>hl id (List.mem_append_left _ hid)),ih e2 (fun id hid=>hl id (List.mem_append_right _ hid))]
theorem zB0 : ∀ {vs:List V}{xs:List (List D)}{own:List Nat},hZ0 look vs=some (xs,own)→(∀ id∈own,look' id=look id)→hZ0 look' vs=some (xs,own):=by
 intro vs
 induction vs with
 | nil=>intro xs own h _;exact h
 | cons v vs ih=>
  intro xs own hd hl
  simp only[hZ0]at hd ⊢
  cases e0:cells v with
  | none=>simp[e0]at hd
  | some cs=>
   cases e1:toDs look cs with
   | none=>simp[e0,e1]at hd
   | some p=>
    obtain⟨d,a⟩:=p
    cases e2:hZ0 look vs with
    | none=>simp[e0,e1,e2]at hd
    | some q=>
     obtain⟨ds,b⟩:=q
     simp only[e0,e1,e2,Option.some.injEq,Prod.mk.injEq]at hd
     obtain⟨rfl,rfl⟩:=hd
     try dsimp only
     rw[mH0 e1 (fun id hid=>hl id (List.mem_append_left _ hid)),ih e2 (fun id hid=>hl id (List.mem_append_right _ hid))]
theorem pT0 {c c':C}{own:List Nat} (h:argC look c=some (c',own))(hl:∀ id∈own,look' id=look id):argC look' c=some (c',own):=by
 cases c with
 | own id=>
  simp only[argC]at h ⊢
  cases e:look id with
  | none=>simp[e]at h
  | some o=>
   cases o <;> simp[e]at h
   obtain⟨rfl,rfl⟩:=h
   rw[hl id (by simp),e]
 | _=>exact h
theorem wH0 : ∀ {cs cs':List C}{own:List Nat},gX0 look cs=some (cs',own)→(∀ id∈own,look' id=look id)→gX0 look' cs=some (cs',own):=by
 intro cs
 induction cs with
 | nil=>intro xs own h _;exact h
 | cons c cs ih=>
  intro xs own hd hl
  simp only[gX0]at hd ⊢
  cases e1:argC look c with
  | none=>simp[e1]at hd
  | some p=>
   obtain⟨d,a⟩:=p
   cases e2:gX0 look cs with
   | none=>simp[e1,e2]at hd
   | some q=>
    obtain⟨ds,b⟩:=q
    simp only[e1,e2,Option.some.injEq,Prod.mk.injEq]at hd
    obtain⟨rfl,rfl⟩:=hd
    rw[pT0 e1 (fun id hid=>hl id (List.mem_append_left _ hid)),ih e2 (fun id hid=>hl id (List.mem_append_right _ hid))]
theorem bM1 {x x':V}{own:List Nat} (h:argV look x=some (x',own))(hl:∀ id∈own,look' id=look id):argV look' x=some (x',own):=by
 cases x with
 | c y=>
  simp only[argV]at h ⊢
  cases e:argC look y with
  | none=>simp[e]at h
  | some p=>obtain⟨z,a⟩:=p;simp only[e,Option.some.injEq,Prod.mk.injEq]at h;obtain⟨rfl,rfl⟩:=h;rw[pT0 e hl]
 | agg cs=>
  simp only[argV]at h ⊢
  cases e:gX0 look cs with
  | none=>simp[e]at h
  | some p=>obtain⟨z,a⟩:=p;simp only[e,Option.some.injEq,Prod.mk.injEq]at h;obtain⟨rfl,rfl⟩:=h;rw[wH0 e hl]
 | tup vs=>cases h
theorem wK0 : ∀ {xs xs':List V}{own:List Nat},dW0 look xs=some (xs',own)→(∀ id∈own,look' id=look id)→dW0 look' xs=some (xs',own):=by
 intro cs
 induction cs with
 | nil=>intro xs own h _;exact h
 | cons c cs ih=>
  intro xs own hd hl
  simp only[dW0]at hd ⊢
  cases e1:argV look c with
  | none=>simp[e1]at hd
  | some p=>
   obtain⟨d,a⟩:=p
   cases e2:dW0 look cs with
   | none=>simp[e1,e2]at hd
   | some q=>
    obtain⟨ds,b⟩:=q
    simp only[e1,e2,Option.some.injEq,Prod.mk.injEq]at hd
    obtain⟨rfl,rfl⟩:=hd
    rw[bM1 e1 (fun id hid=>hl id (List.mem_append_left _ hid)),ih e2 (fun id hid=>hl id (List.mem_append_right _ hid))]
theorem kF0 : ∀ (n:Nat)(seen todo:List Nat),(∀ id∈Am.reach look n seen todo,look' id=look id)→Am.reach look' n seen todo=Am.reach look n seen todo
 | 0,_,_,_=>rfl
 | _+1,_,[],_=>rfl
 | n+1,seen,id::todo,h=>by
  simp only[Am.reach]at h ⊢
  split
  ·rename_i hc
   rw[if_pos hc]at h
   exact kF0 n seen todo h
  ·rename_i hc
   rw[if_neg hc]at h
   have hid:look' id=look id:=by
    apply h
    obtain⟨t,ht⟩:=gT0 look n (seen++[id]) (todo++dH1 (look id))
    rw[ht];simp
   rw[hid]
   exact kF0 n _ _ h
theorem qG0 {α γ:Type}{f g:α→Option γ}:∀ {l:List α},(∀ x∈l,g x=f x)→mapO g l=mapO f l
 | [],_=>rfl
 | x::l,h=>by simp only[mapO];rw[h x List.mem_cons_self,qG0 fun y hy=>h y (List.mem_cons_of_mem _ hy)]
theorem sY0 {keep:Bool}{xs xs':List V}{own:List Nat} (h:eD0 keep look xs=some (xs',own))(hl:∀ id∈own,look' id=look id):eD0 keep look' xs=some (xs',own):=by
 cases keep with
 | true=>exact h
 | false=>exact wK0 h hl
theorem yY0 {ids:List Nat} (h:∀ id∈ids,look' id=look id):oW0 look' ids=oW0 look ids:=by
 unfold oW0
 have h1:(ids.filter fun id=>bI0 (look' id))=ids.filter fun id=>bI0 (look id):=List.filter_congr fun id hid=>by rw[h id hid]
 have h2:(ids.all fun id=>bC1 (look' id))=ids.all fun id=>bC1 (look id):=by
  rw[Bool.eq_iff_iff,List.all_eq_true,List.all_eq_true]
  exact forall_congr' fun id=>forall_congr' fun hid=>by rw[h id hid]
 rw[h1,h2]
theorem sZ0 {rd:List Nat}{upd:List (Nat × O)} (h:∀ id∈rd,look' id=look id):jT0 look' slot rd upd=jT0 look slot rd upd:=by
 unfold jT0
 congr 1
 funext p
 unfold bN1
 cases hc:rd.contains p.1 with
 | false=>rfl
 | true=>rw[h p.1 (List.contains_iff_mem.1 hc)]
theorem bR1 {look:Look}{op:BinOp}{t:TypeId}{c:Bool}{x y:V} (h:¬ ∃ id,x = .c (.own id)∧y = .c (.d (.v (.slice none 0 0)))):binL P look op t c x y=binB P op t c x y:=by
 unfold binL
 split
 ·rename_i id
  exact absurd ⟨id,rfl,rfl⟩ h
 ·rfl
theorem bQ1 {op:BinOp}{t:TypeId}{c:Bool}{x y:V}{e:Eff} (h:binL P look op t c x y=some e)(hl:∀ id∈e.rd,look' id=look id):binL P look' op t c x y=some e:=by
 by_cases hx:∃ id,x = .c (.own id)∧y = .c (.d (.v (.slice none 0 0)))
 ·obtain⟨id,rfl,rfl⟩:=hx
  have h:boK op (cO0 P t) id (look id)=some e:=h
  obtain⟨_,_,e0,_,rfl⟩:=zM0 h
  show boK op (cO0 P t) id (look' id)=some _
  rw[hl id (by simp)]
  exact h
 ·rw[bR1 hx]at h ⊢
  exact h
theorem pJ0 {f:FuncId}{args:List V}{ids bor:List Nat}{args':List V}{objs:List O} (h:cB0 f look args=some (ids,bor,args',objs))(h1:∀ id∈ids,look' id=look id)(h2:∀ id∈bor,look' id=look id):cB0 f look' args=some (ids,bor,args',objs):=by
 unfold cB0 at h ⊢
 cases ha:eD0 (ownF f) look args with
 | none=>simp[ha]at h
 | some q=>
  obtain⟨args1,bor1⟩:=q
  simp only[ha]at h
  cases hm1:mapO (renV (pos (Am.reach look 200 [] (args1.flatMap iZ0)))) args1 with
  | none=>simp[hm1]at h
  | some args3=>
   simp only[hm1]at h
   cases hm2:mapO look (Am.reach look 200 [] (args1.flatMap iZ0)) with
   | none=>simp[hm2]at h
   | some objs1=>
    simp only[hm2]at h
    cases hm3:mapO (renO (pos (Am.reach look 200 [] (args1.flatMap iZ0)))) (objs1.map iB0) with
    | none=>simp[hm3]at h
    | some objs3=>
     simp only[hm3]at h
     split at h
     case isFalse=>cases h
     rename_i hc
     simp only[Option.some.injEq,Prod.mk.injEq]at h
     obtain⟨rfl,rfl,rfl,rfl⟩:=h
     rw[sY0 ha h2]
     simp only[kF0 200 [] (args1.flatMap iZ0) h1,hm1,qG0 h1,hm2,hm3]
     rw[yY0 h1,if_pos hc]
theorem sV0 {ids bor:List Nat}{out:Out}{e:Eff} (h:cK0 ids bor slot out=some e):e.rd=ids++bor:=by
 cases out with
 | ret vs objs=>
  simp only[cK0]at h
  cases e1:mapO (renV (back ids slot objs.length)) vs with
  | none=>simp[e1]at h
  | some vs'=>
   cases e2:mapO (renO (back ids slot objs.length)) objs with
   | none=>simp[e1,e2]at h
   | some objs'=>
    cases e3:bK0 vs' with
    | none=>simp[e1,e2,e3]at h
    | some v=>
     simp only[e1,e2,e3]at h
     split at h
     ·cases h
     ·simp only[Option.some.injEq]at h;subst h;rfl
 | pan x objs=>
  simp only[cK0]at h
  cases e2:mapO (renO (back ids slot objs.length)) objs with
  | none=>simp[e2]at h
  | some objs'=>
   simp only[e2]at h
   split at h
   ·cases h
   ·simp only[Option.some.injEq]at h;subst h;rfl
theorem wM0 {f:FuncId}{args:List V}{e:Eff} (h:dD0 rec look slot f args=some e)(hl:∀ id∈e.rd,look' id=look id):dD0 rec look' slot f args=some e:=by
 unfold dD0 at h ⊢
 obtain⟨e0,h0,hb,he⟩:=jF0 h
 clear h
 have hl0:∀ id∈e0.rd,look' id=look id:=by rw[he]at hl;exact hl
 have key:hN0 rec slot f (cB0 f look' args)=some e0:=by
  cases hp:cB0 f look args with
  | none=>rw[hp]at h0;cases h0
  | some p=>
   obtain⟨ids,bor,as,os⟩:=p
   rw[hp]at h0
   simp only[hN0,bB0]at h0
   cases hr:dX0 rec f as os with
   | none=>simp[hr]at h0
   | some out=>
    simp only[hr]at h0
    have hrd:=sV0 h0
    rw[pJ0 hp (fun id hid=>hl0 id (by rw[hrd];exact List.mem_append_left _ hid)) (fun id hid=>hl0 id (by rw[hrd];exact List.mem_append_right _ hid))]
    simp only[hN0,bB0,hr,h0]
 rw[key,he]
 unfold eR0
 dsimp only
 rw[sZ0 hl0,if_pos hb]
theorem uY0 {t:TypeId}{a:V}{e:Eff} (h:qD0 look t a=some e)(hl:∀ id∈e.rd,look' id=look id):qD0 look' t a=some e:=by
 cases a with
 | agg cs=>
  simp only[qD0]at h ⊢
  cases hd:toDs look cs with
  | none=>simp[hd]at h
  | some p=>
   obtain⟨ds,own⟩:=p
   simp only[hd,Option.some.injEq]at h
   subst h
   simp only[mH0 hd hl]
 | c x=>exact h
 | tup vs=>exact h
theorem kC0 {t:TypeId}{a:V}{e:Eff} (h:cW0 P look t a=some e)(hl:∀ id∈e.rd,look' id=look id):cW0 P look' t a=some e:=by
 unfold cW0 at h ⊢
 split at h
 ·cases h
 ·cases h
 ·split at h
  ·exact h
  ·exact uY0 h hl
theorem cR1 {t:TypeId}{a:V}{e:Eff} (h:loadA P look t a=some e)(hl:∀ id∈e.rd,look' id=look id):loadA P look' t a=some e:=by
 unfold loadA at h ⊢
 split at h
 ·rename_i id off
  cases hk:look id with
  | none=>simp[hk]at h
  | some o=>
   cases o <;> simp only[hk]at h <;> try (cases h;done)
   rename_i cs
   cases hc:cutC P t cs off with
   | none=>simp[hc]at h
   | some v=>
    simp only[hc]at h
    have:=h
    cases this
    try dsimp only
    rw[hl id (by simp),hk]
    simp only[hc];rfl
 ·rename_i id i off
  cases hk:look id with
  | none=>simp[hk]at h
  | some o=>
   cases o <;> simp only[hk]at h <;> try (cases h;done)
   rename_i k els
   cases he:els[i]? with
   | none=>simp[he]at h
   | some l=>
    simp only[he]at h
    cases hc:cutC P t (l.map .d) off with
    | none=>simp[hc]at h
    | some v=>
     simp only[hc]at h
     have:=h
     cases this
     try dsimp only
     rw[hl id (by simp),hk]
     simp only[he,hc];rfl
 ·exact h
 ·cases h
theorem yZ0 {t:TypeId}{a x:V}{e:Eff} (h:mQ0 P look t a x=some e)(hl:∀ id∈e.rd,look' id=look id):mQ0 P look' t a x=some e:=by
 unfold mQ0 at h ⊢
 cases hc:cells x with
 | none=>simp[hc]at h
 | some ys=>
  simp only[hc]at h ⊢
  split at h
  case isFalse=>cases h
  rename_i hs
  rw[if_pos hs]
  split at h
  ·rename_i id off
   cases hk:look id with
   | none=>simp[hk]at h
   | some o=>
    cases o <;> simp only[hk]at h <;> try (cases h;done)
    rename_i cs
    split at h
    case isFalse=>cases h
    rename_i hle
    have:=h
    cases this
    try dsimp only
    rw[hl id (by simp),hk]
    simp only[if_pos hle]
  ·rename_i id i off
   cases hk:look id with
   | none=>simp[hk]at h
   | some o=>
    cases o <;> simp only[hk]at h <;> try (cases h;done)
    rename_i k els
    cases he:els[i]? with
    | none=>simp[he]at h
    | some l=>
     simp only[he]at h
     cases hd:toDs look ys with
     | none=>simp[hd]at h
     | some p=>
      obtain⟨ds,own⟩:=p
      simp only[hd]at h
      split at h
      case isFalse=>cases h
      rename_i hh
      have:=h
      cases this
      dsimp only at hl ⊢
      rw[hl id (by simp),hk]
      simp only[he]
      rw[mH0 hd (fun id hid=>hl id (by simp[hid]))]
      simp only[if_pos hh]
  ·cases h
theorem gB0 {k:Nat}{v:V}{new:List (List D)}{o2:List Nat} (h:eS0 look k v=some (new,o2))(hl:∀ id∈o2++eT0 look v,look' id=look id):eS0 look' k v=some (new,o2)∧eT0 look' v=eT0 look v:=by
 unfold eS0 at h ⊢
 split at h
 ·exact⟨h,rfl⟩
 ·exact⟨h,rfl⟩
 ·rename_i id
  cases hk:look id with
  | none=>simp[hk]at h
  | some o=>
   cases o <;> simp only[hk]at h <;> try (cases h;done)
   ·rename_i k' els
    split at h
    case isFalse=>cases h
    rename_i hh
    have:=h
    cases this
    have e:look' id=look id:=hl id (by simp)
    unfold eT0
    dsimp only
    rw[e,hk]
    exact⟨by simp only[if_pos hh],rfl⟩
   ·rename_i k' els cur root
    split at h
    case isFalse=>cases h
    rename_i hh
    have:=h
    cases this
    have e:look' id=look id:=hl id (by simp[eT0,hk,bI0])
    unfold eT0
    dsimp only
    rw[e,hk]
    exact⟨by simp only[if_pos hh],rfl⟩
 ·cases h
theorem sW0 {ts:List TypeId}{vs:List V}{e:Eff} (h:bH0 P look slot ts vs=some e)(hl:∀ id∈e.rd,look' id=look id):bH0 P look' slot ts vs=some e:=by
 unfold bH0 at h ⊢
 split at h
 case h_2=>cases h
 rename_i t u s x
 try dsimp only
 by_cases htu:t≠u
 ·rw[if_pos htu]at h;cases h
 rw[if_neg htu]at h ⊢
 cases he:iF0 P t with
 | none=>simp[he]at h
 | some el=>
  simp only[he]at h ⊢
  cases hsz:bN0 P el with
  | none=>simp[hsz]at h
  | some k=>
   cases hby:cL0 P el with
   | none=>simp[hsz,hby]at h
   | some b=>
    simp only[hsz,hby]at h ⊢
    split at h
    case isFalse=>cases h
    rename_i hh
    rw[if_pos hh]
    cases ha:eS0 look k x with
    | none=>simp[ha]at h
    | some p=>
     obtain⟨new,o2⟩:=p
     simp only[ha]at h
     split at h
     ·cases new with
      | nil=>
       have:=h
       cases this
       obtain⟨g1,g2⟩:=gB0 ha hl
       rw[g1]
       dsimp only
       rw[g2]
      | cons n0 new=>
       dsimp only at h
       split at h
       case isFalse=>cases h
       rename_i hb
       have:=h
       cases this
       obtain⟨g1,g2⟩:=gB0 ha hl
       rw[g1]
       dsimp only
       rw[g2,if_pos hb]
     ·rename_i id
      cases hk:look id with
      | none=>simp[hk]at h
      | some o=>
       cases o <;> simp only[hk]at h <;> try (cases h;done)
       ·rename_i k' els
        split at h
        case isFalse=>cases h
        rename_i hb
        have:=h
        cases this
        dsimp only at hl
        obtain⟨g1,g2⟩:=gB0 ha (fun id hid=>hl id (by
          simp only[List.mem_append]at hid ⊢;rcases hid with h | h;· exact .inl (.inl h)
          ·exact .inr h))
        rw[g1]
        dsimp only
        rw[hl id (by simp),hk,g2]
        simp only[if_pos hb]
       ·rename_i k' els cur root
        cases root with
        | false=>simp at h
        | true=>
        dsimp only at h
        split at h
        case isFalse=>cases h
        rename_i hb
        cases cur with
        | none=>
         have:=h
         cases this
         dsimp only at hl
         obtain⟨g1,g2⟩:=gB0 ha (fun id hid=>hl id (by
           simp only[List.mem_append]at hid ⊢;rcases hid with h | h;· exact .inl (.inl h)
           ·exact .inr h))
         rw[g1]
         dsimp only
         rw[hl id (by simp),hk,g2]
         simp only[if_pos hb]
        | some c=>
         dsimp only at h
         cases hc:look c with
         | none=>simp[hc]at h
         | some oc=>
          simp only[hc]at h
          split at h
          case h_2=>cases h
          rename_i kc elc hoc
          cases hoc
          split at h
          case isFalse=>cases h
          rename_i hb2
          have:=h
          cases this
          dsimp only at hl
          obtain⟨g1,g2⟩:=gB0 ha (fun id hid=>hl id (by
            simp only[List.mem_append]at hid ⊢;rcases hid with h | h;· exact .inl (.inl h)
            ·exact .inr h))
          rw[g1]
          dsimp only
          rw[hl id (by simp),hk,g2]
          simp only[if_pos hb]
          rw[hl c (by simp),hc]
          simp only[if_pos hb2]
     ·cases h
theorem yX0 {t:TypeId}{x:V}{lo hi mx:Option V}{e:Eff} (h:jD0 P look slot t x lo hi mx=some e)(hl:∀ id∈e.rd,look' id=look id):jD0 P look' slot t x lo hi mx=some e:=by
 unfold jD0 at h ⊢
 split at h
 ·exact h
 ·rename_i el hu
  cases hs:bN0 P el with
  | none=>simp[hs]at h
  | some k=>
   simp only[hs]at h ⊢
   split at h
   case isFalse=>cases h
   rename_i hk0
   rw[if_pos hk0]
   split at h
   ·exact h
   ·rename_i id
    try dsimp only
    cases hk:look id with
    | none=>simp[hk]at h
    | some o=>
     cases o <;> simp only[hk]at h <;> try (cases h;done)
     rename_i k' els
     have hrd:id∈e.rd:=by
      split at h
      case isFalse=>cases h
      cases hh:gZ0 hi els.length els.length with
      | none=>simp[hh]at h
      | some hN=>
       simp only[hh]at h
       split at h
       ·cases h;simp
       ·cases h
     rw[hl id hrd,hk]
     exact h
   ·cases h
 ·cases h
theorem oH0 {t:TypeId}{x i:V}{e:Eff} (h:indexAddrA P look t x i=some e)(hl:∀ id∈e.rd,look' id=look id):indexAddrA P look' t x i=some e:=by
 unfold indexAddrA at h ⊢
 cases hn:num i with
 | none=>simp[hn]at h
 | some n=>
  simp only[hn]at h ⊢
  split at h
  ·rename_i el hu
   cases hs:bN0 P el with
   | none=>simp[hs]at h
   | some k=>
    simp only[hs]at h ⊢
    split at h
    ·exact h
    ·rename_i id
     try dsimp only
     cases hk:look id with
     | none=>simp[hk]at h
     | some o=>
      cases o <;> simp only[hk]at h <;> try (cases h;done)
      rename_i k' els
      split at h
      case isFalse=>cases h
      rename_i hh
      have:=h
      cases this
      rw[hl id (by simp),hk]
      simp only[if_pos hh];rfl
    ·exact h
    ·cases h
  ·exact h
  ·cases h
theorem oB0 {t:TypeId}{x:V}{f:Nat}{e:Eff} (h:fieldAddrA P look t x f=some e)(hl:∀ id∈e.rd,look' id=look id):fieldAddrA P look' t x f=some e:=by
 unfold fieldAddrA at h ⊢
 cases hf:bE0 P t f with
 | none=>simp[hf]at h
 | some p=>
  obtain⟨off,u⟩:=p
  cases hs:bN0 P u with
  | none=>simp[hf,hs]at h
  | some n=>
   simp only[hf,hs]at h ⊢
   split at h
   case isFalse=>cases h
   rename_i hn
   rw[if_pos hn]
   split at h
   ·exact h
   ·rename_i id i o
    try dsimp only
    cases hk:look id with
    | none=>simp[hk]at h
    | some q=>
     cases q <;> simp only[hk]at h <;> try (cases h;done)
     have:=h
     cases this
     rw[hl id (by simp),hk]
     rfl
   ·exact h
   ·exact h
   ·cases h
theorem pQ0 {x:V}{e:Eff} (h:nilCheckA look x=some e)(hl:∀ id∈e.rd,look' id=look id):nilCheckA look' x=some e:=by
 unfold nilCheckA at h ⊢
 split at h
 ·exact h
 ·exact h
 ·rename_i id i o
  try dsimp only
  cases hk:look id with
  | none=>simp[hk]at h
  | some q=>
   cases q <;> simp only[hk]at h <;> try (cases h;done)
   have:=h
   cases this
   rw[hl id (by simp),hk]
   rfl
 ·exact h
 ·cases h
theorem hC1 {x:V}{e:Eff} (h:lenA look x=some e)(hl:∀ id∈e.rd,look' id=look id):lenA look' x=some e:=by
 unfold lenA at h ⊢
 split at h
 ·exact h
 ·exact h
 ·rename_i id
  try dsimp only
  cases hk:look id with
  | none=>simp[hk]at h
  | some q=>
   cases q <;> simp only[hk]at h <;> try (cases h;done)
   have:=h
   cases this
   rw[hl id (by simp),hk]
   rfl
 ·cases h
theorem mU0 {t:TypeId}{len:Nat}{parts:List (Nat × V)}{e:Eff} (h:aS0 P look slot t len parts=some e)(hl:∀ id∈e.rd,look' id=look id):aS0 P look' slot t len parts=some e:=by
 unfold aS0 at h ⊢
 cases he:iF0 P t with
 | none=>simp[he]at h
 | some el=>
  cases hs:bN0 P el with
  | none=>simp[he,hs]at h
  | some k=>
   simp only[he,hs]at h ⊢
   cases hd:hZ0 look (parts.map (·.2)) with
   | none=>rw[hd]at h;cases h
   | some p=>
    obtain⟨els,own⟩:=p
    rw[hd]at h
    dsimp only at h
    split at h
    case isFalse=>cases h
    rename_i hh
    have:=h
    cases this
    rw[zB0 hd hl]
    simp only[if_pos hh]
theorem qT0 {b:Builtin}{ts:List TypeId}{vs:List V}{e:Eff} (h:builtinA P look slot b ts vs=some e)(hl:∀ id∈e.rd,look' id=look id):builtinA P look' slot b ts vs=some e:=by
 unfold builtinA at h ⊢
 cases b <;> dsimp only at h ⊢ <;> try (first | exact h | (cases h;done))
 case append=>exact sW0 h hl
 case len=>
  split at h
  case h_2=>cases h
  split at h
  case h_2=>cases h
  try dsimp only
  split at h
  ·rename_i hu;exact h
  ·rename_i el hu;exact hC1 h hl
  ·cases h
theorem vI0 {t:TypeId}{m k x:V}{e:Eff} (h:dG0 P look t m k x=some e):∃ id,m = .c (.rf true id)∧id∈e.rd:=by
 unfold dG0 at h
 split at h
 case h_2=>cases h
 rename_i id _ _ _ _
 refine⟨id,rfl,?_⟩
 repeat' (split at h)
 all_goals first | (cases h;done) | (cases h;simp)
theorem iU0 {t:TypeId}{m k x:V}{e:Eff} (h:dG0 P look t m k x=some e)(hl:∀ id∈e.rd,look' id=look id):dG0 P look' t m k x=some e:=by
 obtain⟨id,rfl,hid⟩:=vI0 h
 rw[← h]
 unfold dG0
 cases scal k with
 | none=>rfl
 | some a=>cases scal x with
  | none=>rfl
  | some b=>dsimp only;rw[hl id hid]
theorem hI1 {t:TypeId}{m k:V}{ok:Bool}{e:Eff} (h:iT0 P look t m k ok=some e):∃ id,m = .c (.rf true id)∧id∈e.rd:=by
 unfold iT0 at h
 split at h
 case h_2=>cases h
 rename_i id _ _
 refine⟨id,rfl,?_⟩
 repeat' (split at h)
 all_goals first | (cases h;done) | (cases h;simp)
theorem vG0 {t:TypeId}{m k:V}{ok:Bool}{e:Eff} (h:iT0 P look t m k ok=some e)(hl:∀ id∈e.rd,look' id=look id):iT0 P look' t m k ok=some e:=by
 obtain⟨id,rfl,hid⟩:=hI1 h
 rw[← h]
 unfold iT0
 cases scal k with
 | none=>rfl
 | some a=>dsimp only;rw[hl id hid]
theorem uL1 {m:V}{s:Bool}{e:Eff} (h:vJ0 look m s=some e):∃ id,m = .c (.rf false id)∧id∈e.rd:=by
 unfold vJ0 at h
 split at h
 case h_2=>cases h
 rename_i id
 refine⟨id,rfl,?_⟩
 repeat' (split at h)
 all_goals first | (cases h;done) | (cases h;simp)
theorem cU1 {m:V}{s:Bool}{e:Eff} (h:vJ0 look m s=some e)(hl:∀ id∈e.rd,look' id=look id):vJ0 look' m s=some e:=by
 obtain⟨id,rfl,hid⟩:=uL1 h
 rw[← h]
 unfold vJ0
 cases s with
 | false=>rfl
 | true=>dsimp only;rw[hl id hid]
theorem hU1 {ρ ρ':Operand→V}{o:Op}{e:Eff} (h:opA P rec look slot ρ o=some e)(hρ:∀ y∈o.operands.toList,ρ' y=ρ y)(hl:∀ id∈e.rd,look' id=look id):opA P rec look' slot ρ' o=some e:=by
 have hmap:∀ l:List Operand,(∀ y∈l,ρ' y=ρ y)→l.map ρ'=l.map ρ:=fun l hl=>List.map_congr_left hl
 cases o <;> unfold opA at h ⊢ <;> dsimp only at h ⊢ <;> try (cases h;done)
 case move x=>rw[hρ x (by simp[Op.operands])];exact h
 case assign x=>rw[hρ x (by simp[Op.operands])];exact h
 case pick c a b=>rw[hρ c (by simp[Op.operands]),hρ a (by simp[Op.operands]),hρ b (by simp[Op.operands])];exact h
 case alloc t=>exact h
 case box t x=>rw[hρ x (by simp[Op.operands])];exact h
 case build t parts=>
  rw[show(parts.toList.map fun p=>(p.1,ρ' p.2))=parts.toList.map fun p=>(p.1,ρ p.2) from List.map_congr_left fun p hp=>by rw[hρ p.2 (by simp only[Op.operands,List.toList_toArray];exact List.mem_map_of_mem hp)]]
  exact h
 case buildSlice t len parts=>
  rw[show(parts.toList.map fun p=>(p.1,ρ' p.2))=parts.toList.map fun p=>(p.1,ρ p.2) from List.map_congr_left fun p hp=>by rw[hρ p.2 (by simp only[Op.operands,List.toList_toArray];exact List.mem_map_of_mem hp)]]
  exact mU0 h hl
 case load t a=>rw[hρ a (by simp[Op.operands])];exact cR1 h hl
 case store t a x=>rw[hρ a (by simp[Op.operands]),hρ x (by simp[Op.operands])];exact yZ0 h hl
 case nilCheck x=>rw[hρ x (by simp[Op.operands])];exact pQ0 h hl
 case binOp op t x y u=>rw[hρ x (by simp[Op.operands]),hρ y (by simp[Op.operands])];exact bQ1 h hl
 case unOp op t x=>rw[hρ x (by simp[Op.operands])];exact h
 case convert a b x=>rw[hρ x (by simp[Op.operands])];exact h
 case makeInterface t x=>rw[hρ x (by simp[Op.operands])];exact kC0 h hl
 case makeFunc fn first caps=>
  rw[hmap _ (fun y hy=>hρ y (by simp[Op.operands];left;simpa using hy)),hmap _ (fun y hy=>hρ y (by simp[Op.operands];right;simpa using hy))];exact h
 case makeSlice t l c=>rw[hρ l (by simp[Op.operands]),hρ c (by simp[Op.operands])];exact h
 case slice t x lo hi mx=>
  have ho:∀ z:Option Operand,(∀ y,z=some y→ρ' y=ρ y)→z.map ρ'=z.map ρ:=by
   intro z hz;cases z with
   | none=>rfl
   | some y=>simp[hz y rfl]
  rw[hρ x (by simp[Op.operands]),ho lo (fun y hy=>hρ y (by subst hy;simp[Op.operands])),ho hi (fun y hy=>hρ y (by subst hy;simp[Op.operands])),ho mx (fun y hy=>hρ y (by subst hy;simp[Op.operands]))]
  exact yX0 h hl
 case fieldAddr t x f=>rw[hρ x (by simp[Op.operands])];exact oB0 h hl
 case field t x f=>rw[hρ x (by simp[Op.operands])];exact h
 case indexAddr t x i=>rw[hρ x (by simp[Op.operands]),hρ i (by simp[Op.operands])];exact oH0 h hl
 case index t x i=>rw[hρ x (by simp[Op.operands]),hρ i (by simp[Op.operands])];exact h
 case extract x i=>rw[hρ x (by simp[Op.operands])];exact h
 case panic x=>rw[hρ x (by simp[Op.operands])];exact h
 case makeMap t r=>
  rw[show r.map ρ'=r.map ρ by cases r with | none=>rfl | some y=>simp[hρ y (by simp[Op.operands])]];exact h
 case mapUpdate t m k x=>rw[hρ m (by simp[Op.operands]),hρ k (by simp[Op.operands]),hρ x (by simp[Op.operands])];exact iU0 h hl
 case insert t m k x=>rw[hρ m (by simp[Op.operands]),hρ k (by simp[Op.operands]),hρ x (by simp[Op.operands])];exact iU0 h hl
 case lookup t x ix ok=>rw[hρ x (by simp[Op.operands]),hρ ix (by simp[Op.operands])];exact vG0 h hl
 case range t x=>rw[hρ x (by simp[Op.operands])];exact h
 case next it s=>rw[hρ it (by simp[Op.operands])];exact cU1 h hl
 case call c=>
  obtain⟨callee,args,types⟩:=c
  unfold callOpA at h ⊢
  have ha:args.toList.map ρ'=args.toList.map ρ:=hmap _ fun y hy=>hρ y (by simp[Op.operands,Call.operands];right;simpa using hy)
  cases callee with
  | builtin b=>dsimp only at h ⊢;rw[ha];exact qT0 h hl
  | invoke _ _=>cases h
  | value f=>
   dsimp only at h ⊢
   rw[ha,hρ f (by simp[Op.operands,Call.operands])]
   unfold callV at h ⊢
   cases ht:target (ρ f) (args.toList.map ρ) with
   | none=>rw[ht]at h;cases h
   | some p=>
    obtain⟨g,vs⟩:=p
    rw[ht]at h
    exact wM0 h hl
end
end
section
open Go
variable [Guest]
def Did (P:Program)(rec:Rec)(nt:Nat)(all:Array Oper)(slot:Nat)(o:Oper)(env env':Env)(loc loc':List O)(fp:List Nat × List Nat):Prop:=
 hC0 nt o.dst=true∧((wantedA all env o.guard=some false∧env'=putO env o.dst (.tup [])∧loc'=loc∧fp=([],[slot])) ∨
  (wantedA all env o.guard=some true∧∃ v upd rd,opA P rec (lk loc) slot (ev env) o.op=some ⟨.val v,upd,rd⟩∧(∀ p∈upd,p.1≤slot)∧env'=putO env o.dst v∧loc'=updO loc upd∧fp=(rd,slot::upd.map (·.1))))
theorem trace {P:Program}{rec:Rec}{nt:Nat}{all:Array Oper}{base:Nat}:∀ (l:List Oper)(i:Nat)(env:Env)(loc:List O){env':Env}{loc':List O}{fps:List (List Nat × List Nat)},bD0 P rec nt all base l i env loc=some (env',loc',fps) →
  ∃ (E:Nat→Env) (L:Nat→List O),E 0=env∧L 0=loc∧E l.length=env'∧L l.length=loc'∧fps.length=l.length ∧
   ∀ (j:Nat) (o:Oper),l[j]? = some o→∃ fp,fps[j]? = some fp∧Did P rec nt all (base+(i+j)) o (E j) (E (j+1)) (L j) (L (j+1)) fp
 | [],i,env,loc,env',loc',fps,h=>by
  simp only[bD0,Option.some.injEq,Prod.mk.injEq]at h
  obtain⟨rfl,rfl,rfl⟩:=h
  exact⟨fun _=>env,fun _=>loc,rfl,rfl,rfl,rfl,rfl,fun j o h=>by simp at h⟩
 | o::l,i,env,loc,env',loc',fps,h=>by
  simp only[bD0]at h
  split at h
  case isFalse=>cases h
  rename_i hd
  have fin:∀ (env1:Env) (loc1:List O) (fp:List Nat × List Nat),Did P rec nt all (base+i) o env env1 loc loc1 fp→(∃ fps',bD0 P rec nt all base l (i+1) env1 loc1=some (env',loc',fps')∧fps=fp::fps') →
    ∃ (E:Nat→Env) (L:Nat→List O),E 0=env∧L 0=loc∧E (o::l).length=env'∧L (o::l).length=loc'∧fps.length=(o::l).length ∧
     ∀ (j:Nat) (o':Oper),(o::l)[j]? = some o'→∃ fp,fps[j]? = some fp∧Did P rec nt all (base+(i+j)) o' (E j) (E (j+1)) (L j) (L (j+1)) fp:=by
   rintro env1 loc1 fp hdid ⟨fps',hr,rfl⟩
   obtain⟨E,L,h1,h2,h3,h4,h5,h6⟩:=trace l (i+1) env1 loc1 hr
   refine⟨fun k=>match k with | 0=>env | k+1=>E k,fun k=>match k with | 0=>loc | k+1=>L k,rfl,rfl,h3,h4,by simp[h5],fun j o' hj=> ?_⟩
   cases j with
   | zero=>
    simp only[List.getElem?_cons_zero,Option.some.injEq]at hj
    subst hj
    refine⟨fp,rfl,?_⟩
    dsimp only
    rw[h1,h2]
    exact hdid
   | succ j=>
    obtain⟨fp',p1,p2⟩:=h6 j o' (by simpa using hj)
    refine⟨fp',by simpa using p1,?_⟩
    have e:base+(i+(j+1))=base+(i+1+j):=by omega
    rw[e]
    exact p2
  cases hw:wantedA all env o.guard with
  | none=>simp[hw]at h
  | some b=>
   simp only[hw]at h
   cases b with
   | false=>
    dsimp only at h
    cases hr:bD0 P rec nt all base l (i+1) (putO env o.dst (.tup [])) loc with
    | none=>simp[hr]at h
    | some x=>
     obtain⟨e,lo,fps'⟩:=x
     simp only[hr,Option.some.injEq,Prod.mk.injEq]at h
     obtain⟨rfl,rfl,rfl⟩:=h
     exact fin _ _ _ ⟨hd,.inl ⟨hw,rfl,rfl,rfl⟩⟩ ⟨fps',hr,rfl⟩
   | true=>
    dsimp only at h
    cases hop:opA P rec (lk loc) (base+i) (ev env) o.op with
    | none=>simp[hop]at h
    | some ef=>
     obtain⟨res,upd,rd⟩:=ef
     cases res with
     | pan x=>simp[hop]at h
     | val v=>
      simp only[hop]at h
      split at h
      case isFalse=>cases h
      rename_i hu
      cases hr:bD0 P rec nt all base l (i+1) (putO env o.dst v) (updO loc upd) with
      | none=>simp[hr]at h
      | some x=>
       obtain⟨e,lo,fps'⟩:=x
       simp only[hr,Option.some.injEq,Prod.mk.injEq]at h
       obtain⟨rfl,rfl,rfl⟩:=h
       exact fin _ _ _ ⟨hd,.inr ⟨hw,v,upd,rd,hop,fun p hp=>by simpa using List.all_eq_true.1 hu p hp,rfl,rfl,rfl⟩⟩ ⟨fps',hr,rfl⟩

def lw (S W:Nat→Bool):Nat→Nat
 | 0=>0
 | k+1=>if(S k&&W k)=true then k+1 else lw S W k
theorem jL0 {S W S' W':Nat→Bool}:∀ {k:Nat},(∀ j,j<k→(S j&&W j)=(S' j&&W' j))→lw S W k=lw S' W' k
 | 0,_=>rfl
 | k+1,h=>by simp only[lw];rw[h k (by omega),jL0 fun j hj=>h j (by omega)]
theorem nE0 {S W:Nat→Bool}{i:Nat}:∀ {k:Nat},i≤k→(∀ j,i≤j→j<k→(S j&&W j)=false)→lw S W k=lw S W i
 | 0,h,_=>by
   have:i=0:=by omega
   rw[this]
 | k+1,h,hf=>by
  rcases Nat.lt_or_ge i (k+1) with h1 | h1
  ·simp only[lw]
   rw[hf k (by omega) (by omega),if_neg (by simp),nE0 (by omega) fun j h2 h3=>hf j h2 (by omega)]
  ·have:i=k+1:=by omega
   rw[this]
theorem lw_top {S W:Nat→Bool}{i k:Nat} (hi:i<k)(h:(S i&&W i)=true)(hf:∀ j,i<j→j<k→(S j&&W j)=false):lw S W k=i+1:=by
 rw[nE0 (i:=i+1) (by omega) (fun j h1 h2=>hf j (by omega) h2)]
 simp only[lw,h,if_true]
theorem rJ0 {S W:Nat→Bool}{k:Nat} (hf:∀ j,j<k→(S j&&W j)=false):lw S W k=0:=by
 rw[nE0 (i:=0) (by omega) (fun j _ h=>hf j h)];rfl
theorem rI0 {γ:Type}{f:Nat→γ}{W:Nat→Bool}{n:Nat} (h:∀ j,j<n→W j=false→f (j+1)=f j):∀ k,k≤n→f k=f (lw (fun _=>true) W k)
 | 0,_=>rfl
 | k+1,hk=>by
  simp only[lw,Bool.true_and]
  by_cases hw:W k=true
  ·rw[if_pos hw]
  ·rw[if_neg hw,h k (by omega) (by simpa using hw)]
   exact rI0 h k (by omega)
theorem rO0 {acc:List Nat}{i:Nat}:∀ {es:List Edge},(mask acc es).testBit i=true→∃ e∈es,Region.binds .any e=true∧(e.on=i∨(acc.getD e.on 0).testBit i=true)
 | [],h=>by simp[mask]at h
 | e::r,h=>by
  simp only[mask]at h
  split at h
  ·rename_i hb
   simp only[Nat.testBit_or,Bool.or_eq_true]at h
   rcases h with(h | h) | h
   ·rw[Nat.testBit_two_pow]at h
    exact⟨e,List.mem_cons_self,hb,.inl (by simpa using h)⟩
   ·exact⟨e,List.mem_cons_self,hb,.inr h⟩
   ·obtain⟨e',h1,h2⟩:=rO0 h
    exact⟨e',List.mem_cons_of_mem _ h1,h2⟩
  ·obtain⟨e',h1,h2⟩:=rO0 h
   exact⟨e',List.mem_cons_of_mem _ h1,h2⟩
theorem nR0 : ∀ (l:List Oper)(acc:List Nat),∃ t,befs acc l=acc++t∧t.length=l.length
 | [],acc=>⟨[],by simp[befs],rfl⟩
 | o::l,acc=>by
  obtain⟨t,h1,h2⟩:=nR0 l (acc++[mask acc o.after.toList])
  exact⟨mask acc o.after.toList::t,by rw[befs,h1];simp,by simp[h2]⟩
theorem zI0 : ∀ (l:List Oper)(acc:List Nat)(j:Nat)(o:Oper),l[j]? = some o→(befs acc l).getD (acc.length+j) 0=mask ((befs acc l).take (acc.length+j)) o.after.toList
 | [],_,_,_,h=>by simp at h
 | x::l,acc,j,o,h=>by
  cases j with
  | zero=>
   simp only[List.getElem?_cons_zero,Option.some.injEq]at h
   subst h
   obtain⟨t,h1,h2⟩:=nR0 l (acc++[mask acc x.after.toList])
   rw[befs,h1]
   simp[List.getD]
  | succ j=>
   have:=zI0 l (acc++[mask acc x.after.toList]) j o (by simpa using h)
   rw[befs]
   simp only[List.length_append,List.length_cons,List.length_nil]at this
   have e:acc.length+(j+1)=acc.length+(0+1)+j:=by omega
   rw[e]
   exact this
theorem qY1 {all:Array Oper}{j i:Nat}{o:Oper} (ho:all[j]? = some o)(h:((befs [] all.toList).getD j 0).testBit i=true) :
  ∃ e∈o.after.toList,Region.binds .any e=true∧(e.on=i∨((befs [] all.toList).getD e.on 0).testBit i=true):=by
 have:=zI0 all.toList [] j o (by simpa using ho)
 simp only[List.length_nil,Nat.zero_add]at this
 rw[this]at h
 obtain⟨e,h1,h2,h3⟩:=rO0 h
 refine⟨e,h1,h2,h3.imp id fun h4=> ?_⟩
 simp only[List.getD,List.getElem?_take]at h4 ⊢
 split at h4
 ·exact h4
 ·simp at h4
theorem nQ0 : ∀ {l:List Oper}{n:Nat},zH0 n l=true→∀ {j:Nat}{o:Oper},l[j]? = some o→∀ e∈o.after.toList,Region.binds .any e=true→e.on<n+j
 | [],_,_,_,_,h,_,_,_=>by simp at h
 | x::l,n,hb,j,o,h,e,he,hbind=>by
  simp only[zH0,Bool.and_eq_true]at hb
  cases j with
  | zero=>
   simp only[List.getElem?_cons_zero,Option.some.injEq]at h
   subst h
   have:=List.all_eq_true.1 hb.1 e he
   rw[hbind]at this
   simpa using this
  | succ j=>
   have:=nQ0 hb.2 (j:=j) (o:=o) (by simpa using h) e he hbind
   omega
theorem zY0 {all:Array Oper}:∀ {l:List Oper}{fps:List (List Nat × List Nat)},fps.length=l.length→∀ {j:Nat}{o:Oper}{fp:List Nat × List Nat},l[j]? = some o→fps[j]? = some fp→(feet all l fps)[j]? = some (foot all o fp)
 | [],_,_,_,_,_,h,_=>by simp at h
 | x::l,[],h,_,_,_,_,_=>by simp at h
 | x::l,y::fps,hl,j,o,fp,h1,h2=>by
  cases j with
  | zero=>simp at h1 h2;subst h1 h2;rfl
  | succ j=>exact zY0 (l:=l) (by simpa using hl) (by simpa using h1) (by simpa using h2)
theorem zZ0 {all:Array Oper}:∀ {l:List Oper}{fps:List (List Nat × List Nat)},fps.length=l.length→(feet all l fps).length=l.length
 | [],fps,_=>by cases fps <;> rfl
 | x::l,[],h=>by simp at h
 | x::l,y::fps,hl=>by simp[feet,zZ0 (l:=l) (by simpa using hl)]
theorem hM0 {a b:List Nat} (h:qS0 a b=true){x:Nat} (ha:x∈a):x ∉ b:=by
 have:=List.all_eq_true.1 h x ha
 simpa using this
theorem bF1 : ∀ (u:List (Nat × O))(l1 l2:Look){id:Nat},id∈u.map (·.1)→updL l1 u id=updL l2 u id
 | [],_,_,_,h=>by simp at h
 | (j,o)::r,l1,l2,id,h=>by
  simp only[updL]
  by_cases hr:id∈r.map (·.1)
  ·exact bF1 r _ _ hr
  ·have:id=j:=by simpa [hr] using h
   subst this
   have hn:∀ p∈r,p.1≠id:=fun p hp e=>hr (List.mem_map.2 ⟨p,hp,e⟩)
   rw[cX0 r _ hn,cX0 r _ hn,pA0,pA0]
theorem aH1 (loc:List O)(n:Nat):lk (loc++iH0 n)=lk loc:=by
 funext id
 unfold lk iH0
 rcases Nat.lt_or_ge id loc.length with h | h
 ·rw[List.getElem?_append_left h]
 ·rw[List.getElem?_append_right h,List.getElem?_eq_none h,List.getElem?_replicate]
  by_cases hn:id - loc.length<n
  ·rw[if_pos hn]
  ·rw[if_neg hn]
section
variable {P:Program}
theorem vZ0 {all:Array Oper}{env:Env}{o:Oper}{b:Bool}{w:World}{F:Nat→Prop}{β:Int→Nat}{look:Look}{a:Act} (hE:∀ t∈seen all o,RVs w F β look (a.tmps.getD t undef) (gt env t))(h:wantedA all env o.guard=some b):Region.wanted o (yielded all a.tmps)=b:=by
 unfold wantedA at h
 unfold Region.wanted
 cases hg:o.guard with
 | none=>rw[hg]at h;simpa using h
 | some p=>
  obtain⟨j,want⟩:=p
  rw[hg]at h
  dsimp only at h ⊢
  cases hj:all[j]? with
  | none=>simp[hj]at h
  | some oj=>
   simp only[hj]at h
   cases hd:oj.dst with
   | none=>simp[hd]at h
   | some t=>
    simp only[hd]at h
    split at h
    ·rename_i c hc
     simp only[Option.some.injEq]at h
     subst h
     have h1:=hE t (by unfold seen;rw[hg];simp[hj,hd])
     rw[hc]at h1
     have h2:a.tmps.getD t undef = .bool c:=(rv_v h1).1
     have h3:a.tmps[t]? = some (.bool c):=by
      rw[Array.getD_eq_getD_getElem?]at h2
      cases h4:a.tmps[t]? with
      | none=>rw[h4]at h2;cases h2
      | some y=>rw[h4]at h2;simp at h2;rw[h2]
     have h5:yielded all a.tmps j=some c:=by
      unfold yielded
      rw[hj]
      simp only[Option.bind_some,hd,h3]
     rw[h5]
     cases c <;> cases want <;> rfl
    ·rename_i hc
     simp only[Option.some.injEq]at h
     subst h
     have h1:=hE t (by unfold seen;rw[hg];simp[hj,hd])
     rw[hc]at h1
     obtain⟨u,h2,_⟩:=h1
     have h5:yielded all a.tmps j=none:=by
      unfold yielded
      rw[hj]
      simp only[Option.bind_some,hd]
      rw[Array.getD_eq_getD_getElem?]at h2
      cases h4:a.tmps[t]? with
      | none=>rfl
      | some y=>rw[h4]at h2;simp at h2;rw[h2]
     rw[h5]
     rfl
    ·cases h
theorem gH1 (hN:iI0 P){rec:Rec} (hrec:kO0 P rec){w:World}{F:Nat→Prop}{β:Int→Nat}{loc loc':List O}{env env':Env}{fps:List (List Nat × List Nat)}{all:Array Oper}{nt:Nat} (hS:Sim w F β (lk loc)){a:Act} (hE:EnvR w F β (lk loc) a.tmps env)(ha:a.tmps.size=nt)(hd:a.defers=[])
  (h:bD0 P rec nt all loc.length all.toList 0 env (loc++iH0 all.size)=some (env',loc',fps)) (hok:nZ0 all fps=true){Q:Exit→Act→World→Prop}
  (hq:∀ a' w' β',Sim w' F β' (lk loc')→EnvR w' F β' (lk loc') a'.tmps env'→St (fun _=>True) w β (lk loc) w' β' (lk loc')→a'.tmps.size=nt→a'.defers=[]→Q .normal a' w') :
  wpAny P .any all Q all.size (Array.replicate all.size false) a w:=by
 obtain⟨E,L,hE0,hL0,hEn,hLn,hfl,hdid⟩:=trace all.toList 0 env (loc++iH0 all.size) h
 simp only[Array.length_toList]at hEn hLn hfl
 generalize hn:all.size=n at *
 have hdid':∀ j o,all[j]? = some o→∃ fp,fps[j]? = some fp∧Did P rec nt all (loc.length+j) o (E j) (E (j+1)) (L j) (L (j+1)) fp:=by
  intro j o hj
  obtain⟨fp,h1,h2⟩:=hdid j o (by simpa using hj)
  rw[Nat.zero_add]at h2
  exact⟨fp,h1,h2⟩
 unfold nZ0 at hok
 simp only[Bool.and_eq_true]at hok
 obtain⟨hback,hfree⟩:=hok
 generalize hX:feet all all.toList fps=X at hfree
 generalize hB:befs [] all.toList=B at hfree
 have hXl:X.length=n:=by rw[← hX,zZ0 (by simp[hfl,hn])];simp[hn]
 have hXg:∀ (j:Nat) (o:Oper) (fp:List Nat × List Nat),all[j]? = some o→fps[j]? = some fp→X[j]? = some (foot all o fp):=by
  intro j o fp h1 h2
  rw[← hX]
  exact zY0 (by simp[hfl,hn]) (by simpa using h1) h2
 have hops:∀ j,j<n→∃ o,all[j]? = some o:=by
  intro j hj
  exact⟨all[j]'(by omega),by simp[hn,hj]⟩
 have hlt:∀ {j:Nat}{o:Oper},all[j]? = some o→j<n:=by
  intro j o hj
  rcases Nat.lt_or_ge j n with h | h
  ·exact h
  ·rw[Array.getElem?_eq_none (by omega)]at hj;cases hj
 -- two operations: in order,or qS0
 have hpair:∀ i j x y,i<j→X[i]? = some x→X[j]? = some y→(B.getD j 0).testBit i=true∨jQ0 x y=true:=by
  intro i j x y hij hi hj
  unfold gQ1 at hfree
  have hjl:j<X.length:=by
   rcases Nat.lt_or_ge j X.length with h | h
   ·exact h
   ·rw[List.getElem?_eq_none h]at hj;cases hj
  have:=List.all_eq_true.1 (List.all_eq_true.1 hfree j (List.mem_range.2 hjl)) i (List.mem_range.2 hij)
  rw[hi,hj]at this
  simpa using this
 -- footprints
 let dstOf:Nat→List Nat:=fun j=>((X[j]?).map (·.dst)).getD []
 let wrOf:Nat→List Nat:=fun j=>((X[j]?).map (·.wr)).getD []
 let Wt:Nat→Nat→Bool:=fun t j=>(dstOf j).contains t
 let Wi:Nat→Nat→Bool:=fun id j=>(wrOf j).contains id
 have hEstep:∀ t j,j<n→Wt t j=false→gt (E (j+1)) t=gt (E j) t:=by
  intro t j hj hw
  obtain⟨o,ho⟩:=hops j hj
  obtain⟨fp,hf,_,hdo⟩:=hdid' j o ho
  have hx:=hXg j o fp ho hf
  have hne:o.dst≠some t:=by
   intro e
   simp[Wt,dstOf,hx,foot,e]at hw
  have hput:∀ v,gt (putO (E j) o.dst v) t=gt (E j) t:=by
   intro v
   cases hd:o.dst with
   | none=>rfl
   | some d=>
    simp only[putO,xX0]
    rw[if_neg (fun e=>hne (by rw[hd,e]))]
  rcases hdo with⟨_,h1,_,_⟩ | ⟨_,v,upd,rd,_,_,h1,_,_⟩
  ·rw[h1];exact hput _
  ·rw[h1];exact hput _
 have hLstep:∀ id j,j<n→Wi id j=false→lk (L (j+1)) id=lk (L j) id:=by
  intro id j hj hw
  obtain⟨o,ho⟩:=hops j hj
  obtain⟨fp,hf,_,hdo⟩:=hdid' j o ho
  have hx:=hXg j o fp ho hf
  rcases hdo with⟨_,_,h1,_⟩ | ⟨_,v,upd,rd,_,_,_,h1,h2⟩
  ·rw[h1]
  ·rw[h1,eP0]
   apply cX0
   intro p hp e
   subst h2
   have:p.1∈upd.map (·.1):=List.mem_map.2 ⟨p,hp,rfl⟩
   rw[e]at this
   have hmem:id∈(foot all o (rd,(loc.length+j)::upd.map (·.1))).wr:=List.mem_cons_of_mem _ this
   simp only[Wi,wrOf,hx,Option.map_some,Option.getD_some]at hw
   have hc:(foot all o (rd,(loc.length+j)::upd.map (·.1))).wr.contains id=true:=by simpa using hmem
   rw[hc]at hw;cases hw
 have hEval:∀ t k,k≤n→gt (E k) t=gt (E (lw (fun _=>true) (Wt t) k)) t:=fun t k hk=>rI0 (f:=fun k=>gt (E k) t) (hEstep t) k hk
 have hLval:∀ id k,k≤n→lk (L k) id=lk (L (lw (fun _=>true) (Wi id) k)) id:=fun id k hk=>rI0 (f:=fun k=>lk (L k) id) (hLstep id) k hk
 -- writers of a slot that is new
 have hwrLe:∀ j id,j<n→id∈wrOf j→id≤loc.length+j:=by
  intro j id hj hid
  obtain⟨o,ho⟩:=hops j hj
  obtain⟨fp,hf,_,hdo⟩:=hdid' j o ho
  have hx:=hXg j o fp ho hf
  simp only[wrOf,hx,foot,Option.map_some,Option.getD_some]at hid
  rcases hdo with⟨_,_,_,rfl⟩ | ⟨_,v,upd,rd,_,hle,_,_,rfl⟩
  ·simp at hid;omega
  ·simp only[List.mem_cons]at hid
   rcases hid with rfl | hid
   ·exact Nat.le_refl _
   ·obtain⟨p,hp,rfl⟩:=List.mem_map.1 hid
    exact hle p hp
 have hL0n:∀ i,lk (L 0) (loc.length+i)=none:=by
  intro i
  rw[hL0,aH1]
  simp[lk]
 have hslotL:∀ i,i<n→lk (L i) (loc.length+i)=none:=by
  intro i hi
  rw[hLval _ i (by omega),rJ0,hL0n]
  intro j hj
  have:Wi (loc.length+i) j=false:=by
   cases hw:Wi (loc.length+i) j with
   | false=>rfl
   | true=>
    have:=hwrLe j (loc.length+i) (by omega) (by simpa [Wi] using hw)
    omega
  rw[this,Bool.and_false]
 -- the induction
 let SS:Array Bool→Nat→Bool:=fun listed j=>listed.getD j false
 let envS:(Nat→Bool)→Nat→V:=fun S t=>gt (E (lw S (Wt t) n)) t
 let lookS:(Nat→Bool)→Look:=fun S id=>lk (L (lw S (Wi id) n)) id
 have hlookH:∀ S,pS0 (lookS S):=fun S id h=>hG0 _ id h
 have main:∀ (fuel:Nat) (listed:Array Bool) (a:Act) (w1:World) (β1:Int→Nat),listed.size=n→((List.range n).filter fun j=> !SS listed j).length≤fuel →
   (∀ j,j<n→SS listed j=true→∀ i,(B.getD j 0).testBit i=true→SS listed i=true) →
   Sim w1 F β1 (lookS (SS listed))→(∀ t,RVs w1 F β1 (lookS (SS listed)) (a.tmps.getD t undef) (envS (SS listed) t))→a.tmps.size=nt→a.defers=[]→St (fun _=>True) w β (lk loc) w1 β1 (lookS (SS listed)) →
   wpAny P .any all Q fuel listed a w1:=by
  intro fuel
  -- when all are listed
  have final:∀ (listed:Array Bool) (a:Act) (w1:World) (β1:Int→Nat),listed.size=n→(∀ j,j<n→SS listed j=true)→Sim w1 F β1 (lookS (SS listed))→(∀ t,RVs w1 F β1 (lookS (SS listed)) (a.tmps.getD t undef) (envS (SS listed) t))→a.tmps.size=nt→a.defers=[]→St (fun _=>True) w β (lk loc) w1 β1 (lookS (SS listed))→Q .normal a w1:=by
   intro listed a w1 β1 hls hall h1 h2 h3 h4 h5
   have e1:lookS (SS listed)=lk loc':=by
    funext id
    show lk (L (lw (SS listed) (Wi id) n)) id=_
    rw[← hLn,hLval id n (Nat.le_refl _)]
    rw[jL0 fun j hj=>by rw[hall j hj]]
   have e2:∀ t,envS (SS listed) t=gt env' t:=by
    intro t
    show gt (E (lw (SS listed) (Wt t) n)) t=_
    rw[← hEn,hEval t n (Nat.le_refl _)]
    rw[jL0 fun j hj=>by rw[hall j hj]]
   rw[e1]at h1 h5
   refine hq a w1 β1 h1 (fun t=> ?_) h5 h3 h4
   have:=h2 t
   rw[e1,e2]at this
   exact this
  have noReady:∀ listed:Array Bool,listed.size=n→Region.ready .any all listed=[]→∀ j,j<n→SS listed j=true:=by
   intro listed hls hr
   have key:∀ j,j<n→(∀ i,i<j→SS listed i=true)→SS listed j=true:=by
    intro j hj hbelow
    cases hs:SS listed j with
    | true=>rfl
    | false=>
     exfalso
     obtain⟨o,ho⟩:=hops j hj
     have:j∈Region.ready .any all listed:=by
      unfold Region.ready
      rw[List.mem_filter]
      refine⟨List.mem_range.2 (by omega),?_⟩
      have h1:listed.getD j true=false:=by
       have:listed.getD j false=false:=hs
       simp only[Array.getD_eq_getD_getElem?]at this ⊢
       rw[Array.getElem?_eq_getElem (by omega)]at this ⊢
       simpa using this
      rw[h1,ho]
      simp only[Bool.not_false,Option.map_some,Option.getD_some,Bool.true_and]
      rw[Array.all_eq_true_iff_forall_mem]
      intro e he
      cases hb:Region.binds .any e with
      | false=>rfl
      | true=>
       have:=nQ0 hback (j:=j) (o:=o) (by simpa using ho) e (by simpa using he) hb
       have:=hbelow e.on (by omega)
       simpa [SS] using this
     rw[hr]at this
     simp at this
   intro j
   induction j using Nat.strongRecOn with
   | _ j ih=>exact fun hj=>key j hj fun i hi=>ih i hi (by omega)
  induction fuel with
  | zero=>
   intro listed a w1 β1 hls hc hdc h1 h2 h3 h4 h5
   have hall:∀ j,j<n→SS listed j=true:=by
    intro j hj
    cases hs:SS listed j with
    | true=>rfl
    | false=>
     have:j∈(List.range n).filter fun j=> !SS listed j:=List.mem_filter.2 ⟨List.mem_range.2 hj,by simp[hs]⟩
     have hnil:((List.range n).filter fun j=> !SS listed j)=[]:=List.eq_nil_of_length_eq_zero (by omega)
     rw[hnil]at this
     simp at this
   refine⟨?_,final listed a w1 β1 hls hall h1 h2 h3 h4 h5⟩
   unfold Region.ready
   rw[List.filter_eq_nil_iff]
   intro j hj
   have hj':=List.mem_range.1 hj
   have:=hall j (by omega)
   have h1:listed.getD j true=true:=by
    have:listed.getD j false=true:=this
    simp only[Array.getD_eq_getD_getElem?]at this ⊢
    rw[Array.getElem?_eq_getElem (by omega)]at this ⊢
    simpa using this
   rw[h1]
   simp
  | succ fuel ih=>
   intro listed a w1 β1 hls hc hdc h1 h2 h3 h4 h5
   refine⟨fun hr=>final listed a w1 β1 hls (noReady listed hls hr) h1 h2 h3 h4 h5,fun i hi=> ?_⟩
   -- operation i,which may go next
   unfold Region.ready at hi
   rw[List.mem_filter]at hi
   obtain⟨hir,hi2⟩:=hi
   have hin:i<n:=by have:=List.mem_range.1 hir;omega
   obtain⟨o,ho⟩:=hops i hin
   simp only[ho,Option.map_some,Option.getD_some,Bool.and_eq_true,Bool.not_eq_true']at hi2
   obtain⟨hnl,hpre⟩:=hi2
   have hSi:SS listed i=false:=by
    show listed.getD i false=false
    simp only[Array.getD_eq_getD_getElem?]at hnl ⊢
    rw[Array.getElem?_eq_getElem (by omega)]at hnl ⊢
    simpa using hnl
   have hpre':∀ e∈o.after.toList,Region.binds .any e=true→SS listed e.on=true:=by
    intro e he hb
    have:=Array.all_eq_true_iff_forall_mem.1 hpre e (by simpa using he)
    rw[hb]at this
    simpa [SS] using this
   have hbits:∀ j,(B.getD i 0).testBit j=true→SS listed j=true:=by
    intro j hb
    rw[← hB]at hb
    obtain⟨e,p1,p2,p3⟩:=qY1 ho hb
    have hon:=hpre' e p1 p2
    rcases p3 with rfl | p3
    ·exact hon
    ·rw[hB]at p3
     have hlt':=nQ0 hback (j:=i) (o:=o) (by simpa using ho) e p1 p2
     exact hdc e.on (by omega) hon j p3
   obtain⟨fp,hfp,hdst,hdo⟩:=hdid' i o ho
   have hx:=hXg i o fp ho hfp
   -- what conflicts with i is before it and listed,or behind it and not
   have conflict:∀ j y,j<n→X[j]? = some y→j≠i→(j<i→jQ0 y (foot all o fp)=false)→(i<j→jQ0 (foot all o fp) y=false)→SS listed j=decide (j<i):=by
    intro j y hj hy hne h1 h2
    rcases Nat.lt_or_gt_of_ne hne with hlt | hgt
    ·rcases hpair j i y _ hlt hy hx with hb | hf
     ·rw[hbits j hb];simp[hlt]
     ·rw[h1 hlt]at hf;cases hf
    ·rcases hpair i j _ y hgt hx hy with hb | hf
     ·have:SS listed j≠true:=by
       intro hs
       have:=hdc j hj hs i hb
       rw[hSi]at this;cases this
      have hnd:decide (j<i)=false:=by simp;omega
      rw[hnd]
      simpa using this
     ·rw[h2 hgt]at hf;cases hf
   have notFree:∀ {x y:Foot}{l1 l2:List Nat}{z:Nat},z∈l1→z∈l2→qS0 l1 l2=true→False:=by
    intro x y l1 l2 z h1 h2 h3
    exact hM0 h3 h1 h2
   have dst_of:∀ j t,Wt t j=true→∃ y,X[j]? = some y∧t∈y.dst:=by
    intro j t hw
    simp only[Wt,dstOf]at hw
    cases hy:X[j]? with
    | none=>simp[hy]at hw
    | some y=>exact⟨y,rfl,by simpa [hy] using hw⟩
   have wr_of:∀ j id,Wi id j=true→∃ y,X[j]? = some y∧id∈y.wr:=by
    intro j id hw
    simp only[Wi,wrOf]at hw
    cases hy:X[j]? with
    | none=>simp[hy]at hw
    | some y=>exact⟨y,rfl,by simpa [hy] using hw⟩
   have agree:∀ (W:Nat→Bool),(∀ j,j<n→j≠i→W j=true→SS listed j=decide (j<i))→lw (SS listed) W n=lw (fun _=>true) W i:=by
    intro W hW
    have e1:lw (SS listed) W n=lw (fun j=>decide (j<i)) W n:=by
     apply jL0
     intro j hj
     by_cases hji:j=i
     ·subst hji;rw[hSi];simp
     ·cases hw:W j with
      | false=>simp
      | true=>rw[hW j hj hji hw]
    rw[e1,nE0 (i:=i) (by omega) (fun j h1 _=>by
     have:decide (j<i)=false:=by simp;omega
     rw[this,Bool.false_and])]
    apply jL0
    intro j hj
    simp[hj]
   have envA:∀ t∈seen all o,envS (SS listed) t=gt (E i) t:=by
    intro t ht
    show gt (E (lw (SS listed) (Wt t) n)) t=_
    rw[agree (Wt t),← hEval t i (by omega)]
    intro j hj hne hw
    obtain⟨y,hy,hty⟩:=dst_of j t hw
    refine conflict j y hj hy hne (fun _=> ?_) (fun _=> ?_)
    ·cases hf:jQ0 y (foot all o fp) with
     | false=>rfl
     | true=>
      simp only[jQ0,Bool.and_eq_true]at hf
      exact absurd ht (hM0 hf.1.1.1.1.1 hty)
    ·cases hf:jQ0 (foot all o fp) y with
     | false=>rfl
     | true=>
      simp only[jQ0,Bool.and_eq_true]at hf
      exact absurd ht (hM0 hf.1.1.1.1.2 hty)
   have lookA:∀ id∈fp.1,lookS (SS listed) id=lk (L i) id:=by
    intro id hid
    show lk (L (lw (SS listed) (Wi id) n)) id=_
    rw[agree (Wi id),← hLval id i (by omega)]
    intro j hj hne hw
    obtain⟨y,hy,hty⟩:=wr_of j id hw
    refine conflict j y hj hy hne (fun _=> ?_) (fun _=> ?_)
    ·cases hf:jQ0 y (foot all o fp) with
     | false=>rfl
     | true=>
      simp only[jQ0,Bool.and_eq_true]at hf
      exact absurd hid (hM0 hf.1.1.2 hty)
    ·cases hf:jQ0 (foot all o fp) y with
     | false=>rfl
     | true=>
      simp only[jQ0,Bool.and_eq_true]at hf
      exact absurd hid (hM0 hf.1.2 hty)
   have slotW:(loc.length+i)∈fp.2:=by
    rcases hdo with⟨_,_,_,rfl⟩ | ⟨_,v,upd,rd,_,_,_,_,rfl⟩ <;> simp
   have wrBehind:∀ id∈fp.2,∀ j,i<j→j<n→Wi id j=true→SS listed j=false:=by
    intro id hid j hij hj hw
    obtain⟨y,hy,hty⟩:=wr_of j id hw
    have:=conflict j y hj hy (by omega) (fun h=>by omega) (fun _=>by
     cases hf:jQ0 (foot all o fp) y with
     | false=>rfl
     | true=>
      simp only[jQ0,Bool.and_eq_true]at hf
      exact absurd hty (hM0 hf.2 hid))
    rw[this];simp;omega
   have slotS:lookS (SS listed) (loc.length+i)=none:=by
    show lk (L (lw (SS listed) (Wi (loc.length+i)) n)) _=none
    rw[rJ0,hL0n]
    intro j hj
    cases hw:Wi (loc.length+i) j with
    | false=>simp
    | true=>
     have hle:=hwrLe j (loc.length+i) hj (by simpa [Wi] using hw)
     by_cases hji:j=i
     ·subst hji;rw[hSi];rfl
     ·rw[wrBehind _ slotW j (by omega) hj hw];rfl
   -- the state behind
   have hSS':∀ j,SS (listed.setIfInBounds i true) j=(SS listed j||decide (j=i)):=by
    intro j
    show(listed.setIfInBounds i true).getD j false=_
    simp only[Array.getD_eq_getD_getElem?,Array.getElem?_setIfInBounds,SS]
    by_cases hji:i=j
    ·subst hji;simp[hls,hin]
    ·rw[if_neg hji]
     have:decide (j=i)=false:=by simp;omega
     rw[this,Bool.or_false]
   have lwIn:∀ W:Nat→Bool,W i=true→(∀ j,i<j→j<n→W j=true→SS listed j=false)→lw (SS (listed.setIfInBounds i true)) W n=i+1:=by
    intro W hw hb
    refine lw_top hin (by rw[hSS',hw];simp) (fun j h1 h2=> ?_)
    rw[hSS']
    have:decide (j=i)=false:=by simp;omega
    rw[this,Bool.or_false]
    cases hwj:W j with
    | false=>simp
    | true=>rw[hb j h1 h2 hwj];rfl
   have lwOut:∀ W:Nat→Bool,W i=false→lw (SS (listed.setIfInBounds i true)) W n=lw (SS listed) W n:=by
    intro W hw
    apply jL0
    intro j hj
    rw[hSS']
    by_cases hji:j=i
    ·subst hji;rw[hw];simp
    ·have:decide (j=i)=false:=by simp[hji]
     rw[this,Bool.or_false]
   have dstBehind:∀ t,o.dst=some t→∀ j,i<j→j<n→Wt t j=true→SS listed j=false:=by
    intro t ht j hij hj hw
    obtain⟨y,hy,hty⟩:=dst_of j t hw
    have:=conflict j y hj hy (by omega) (fun h=>by omega) (fun _=>by
     cases hf:jQ0 (foot all o fp) y with
     | false=>rfl
     | true=>
      simp only[jQ0,Bool.and_eq_true]at hf
      exact absurd hty (hM0 hf.1.1.1.2 (by simp[foot,ht])))
    rw[this];simp;omega
   have WtI:∀ t,Wt t i=true↔o.dst=some t:=by
    intro t
    simp only[Wt,dstOf,hx,foot,Option.map_some,Option.getD_some]
    cases o.dst <;> simp[eq_comm]
   have env':∀ t,envS (SS (listed.setIfInBounds i true)) t=if o.dst=some t then gt (E (i+1)) t else envS (SS listed) t:=by
    intro t
    show gt (E (lw (SS (listed.setIfInBounds i true)) (Wt t) n)) t=_
    by_cases ht:o.dst=some t
    ·rw[if_pos ht,lwIn _ ((WtI t).2 ht) (dstBehind t ht)]
    ·rw[if_neg ht,lwOut]
     cases hw:Wt t i with
     | false=>rfl
     | true=>exact absurd ((WtI t).1 hw) ht
   have WiI:∀ id,Wi id i=true↔id∈fp.2:=by
    intro id
    simp[Wi,wrOf,hx,foot]
   have look':∀ id,lookS (SS (listed.setIfInBounds i true)) id=if id∈fp.2 then lk (L (i+1)) id else lookS (SS listed) id:=by
    intro id
    show lk (L (lw (SS (listed.setIfInBounds i true)) (Wi id) n)) id=_
    by_cases hid:id∈fp.2
    ·rw[if_pos hid,lwIn _ ((WiI id).2 hid) (wrBehind id hid)]
    ·rw[if_neg hid,lwOut]
     cases hw:Wi id i with
     | false=>rfl
     | true=>exact absurd ((WiI id).1 hw) hid
   have hcnt:((List.range n).filter fun j=> !SS (listed.setIfInBounds i true) j).length≤fuel:=by
    have hmem:i∈(List.range n).filter fun j=> !SS listed j:=List.mem_filter.2 ⟨List.mem_range.2 hin,by simp[hSi]⟩
    have e1:((List.range n).filter fun j=> !SS (listed.setIfInBounds i true) j)=((List.range n).filter fun j=> !SS listed j).erase i:=by
     rw[((List.nodup_range).sublist List.filter_sublist).erase_eq_filter,List.filter_filter]
     apply List.filter_congr
     intro j _
     rw[hSS']
     by_cases hji:j=i
     ·simp[hji]
     ·simp[hji]
    rw[e1,List.length_erase_of_mem hmem]
    omega
   have hdc':∀ j,j<n→SS (listed.setIfInBounds i true) j=true→∀ k,(B.getD j 0).testBit k=true→SS (listed.setIfInBounds i true) k=true:=by
    intro j hj hs k hb
    rw[hSS']at hs ⊢
    simp only[Bool.or_eq_true,decide_eq_true_eq]at hs ⊢
    rcases hs with hs | rfl
    ·exact .inl (hdc j hj hs k hb)
    ·exact .inl (hbits k hb)
   have hseenE:∀ t∈seen all o,RVs w1 F β1 (lookS (SS listed)) (a.tmps.getD t undef) (gt (E i) t):=by
    intro t ht
    rw[← envA t ht]
    exact h2 t
   unfold wpOp
   rw[ho]
   dsimp only
   have putE:∀ {w2:World}{β2:Int→Nat}{x:Value}{v:V},Sim w2 F β2 (lookS (SS (listed.setIfInBounds i true)))→St (fun _=>True) w1 β1 (lookS (SS listed)) w2 β2 (lookS (SS (listed.setIfInBounds i true)))→RVs w2 F β2 (lookS (SS (listed.setIfInBounds i true))) x v→E (i+1)=putO (E i) o.dst v →
     ∀ t,RVs w2 F β2 (lookS (SS (listed.setIfInBounds i true))) ((a.put o.dst x).tmps.getD t undef) (envS (SS (listed.setIfInBounds i true)) t):=by
    intro w2 β2 x v g1 g2 g3 g4 t
    rw[env' t]
    by_cases ht:o.dst=some t
    ·rw[if_pos ht,g4,ht]
     have hlt':t<a.tmps.size:=by rw[h3];rw[ht]at hdst;simpa [hC0] using hdst
     simp only[putO,xX0,if_true,Act.put]
     have e1:(a.tmps.setIfInBounds t x).getD t undef=x:=by simp[Array.getD,hlt']
     rw[e1]
     exact g3
    ·rw[if_neg ht]
     have e1:(a.put o.dst x).tmps.getD t undef=a.tmps.getD t undef:=by
      cases hd:o.dst with
      | none=>rfl
      | some d=>
       simp only[Act.put,Array.getD_eq_getD_getElem?,Array.getElem?_setIfInBounds]
       rw[if_neg (fun e=>ht (by rw[hd,e]))]
     rw[e1]
     exact RV.mono g2.keep g2.ids (h2 t)
   rcases hdo with⟨hw,hE1,hL1,hfpe⟩ | ⟨hw,v,upd,rd,hop,hle,hE1,hL1,hfpe⟩
   ·rw[vZ0 hseenE hw]
    simp only[Bool.false_eq_true,if_false]
    have e1:lookS (SS (listed.setIfInBounds i true))=lookS (SS listed):=by
     funext id
     rw[look' id]
     split
     ·rename_i hid
      rw[hfpe]at hid
      simp at hid
      subst hid
      rw[hL1,hslotL i hin,slotS]
     ·rfl
    refine ih (listed.setIfInBounds i true) (a.put o.dst undef) w1 β1 (by simp[hls]) hcnt hdc' (by rw[e1];exact h1) ?_ (by rw[bP0];exact h3) (by rw[bG0];exact h4) (by rw[e1];exact h5)
    exact putE (by rw[e1];exact h1) (by rw[e1];exact St.refl _ _ _ _) iP1 hE1
   ·rw[vZ0 hseenE hw]
    simp only[if_true]
    left
    let ρ':Operand→V:=fun y=>match y with | .tmp t=>envS (SS listed) t | y=>ev [] y
    have hop':opA P rec (lookS (SS listed)) (loc.length+i) ρ' o.op=some ⟨.val v,upd,rd⟩:=by
     refine hU1 hop (fun y hy=> ?_) (fun id hid=>lookA id (by rw[hfpe];exact hid))
     cases y with
     | tmp t=>
      refine envA t ?_
      unfold seen
      exact List.mem_append_left _ (List.mem_filterMap.2 ⟨.tmp t,hy,rfl⟩)
     | const x=>rfl
     | global g=>rfl
     | func f=>rfl
    have hE':∀ y,RVs w1 F β1 (lookS (SS listed)) (a.eval y) (ρ' y):=by
     intro y
     cases y with
     | tmp t=>exact h2 t
     | const x=>exact kE0 x
     | global g=>trivial
     | func f=>exact⟨rfl,by simp⟩
    have hgo:=oO0 hN hrec h1 (hlookH _) slotS (a:=a) hE' hop' (fun id p1 p2=>by
     obtain⟨p,hp,rfl⟩:=List.mem_map.1 p2
     have:=hle p hp
     have e:p.1=loc.length+i:=by omega
     rw[e];exact slotS)
    have e1:lookS (SS (listed.setIfInBounds i true))=updL (lookS (SS listed)) upd:=by
     funext id
     rw[look' id]
     split
     ·rename_i hid
      rw[hL1,eP0]
      by_cases hk:id∈upd.map (·.1)
      ·exact bF1 upd _ _ hk
      ·have hid':id=loc.length+i:=by
        rw[hfpe]at hid
        rcases List.mem_cons.1 hid with h | h
        ·exact h
        ·exact absurd h hk
       have hno:∀ p∈upd,p.1≠id:=fun p hp e=>hk (List.mem_map.2 ⟨p,hp,e⟩)
       rw[cX0 upd _ hno,cX0 upd _ hno,hid',hslotL i hin,slotS]
     ·rename_i hid
      rw[cX0]
      intro p hp e
      exact hid (by rw[hfpe];exact List.mem_cons_of_mem _ (List.mem_map.2 ⟨p,hp,e⟩))
    refine hgo _ _ fun w2 β2 hg=> ?_
    obtain⟨g1,g2⟩:=hg
    dsimp only at g1 g2
    rw[← e1]at g1 g2
    intro x hxr
    dsimp only at hxr
    rw[← e1]at hxr
    exact ih (listed.setIfInBounds i true) (a.put o.dst x) w2 β2 (by simp[hls]) hcnt hdc' g1 (putE g1 g2 hxr hE1) (by rw[bP0];exact h3) (by rw[bG0];exact h4) (h5.trans g2)
 have hSS0:∀ j,SS (Array.replicate n false) j=false:=by
  intro j
  show(Array.replicate n false).getD j false=false
  simp[Array.getD_eq_getD_getElem?,Array.getElem?_replicate]
  split <;> rfl
 have e0:lookS (SS (Array.replicate n false))=lk loc:=by
  funext id
  show lk (L (lw _ (Wi id) n)) id=_
  rw[rJ0 fun j _=>by rw[hSS0];rfl,hL0,aH1]
 refine main n (Array.replicate n false) a w β (by simp) (by have:=List.length_filter_le (fun j=> !SS (Array.replicate n false) j) (List.range n);simpa using this) (fun j _ hs=>by rw[hSS0]at hs;cases hs) (by rw[e0];exact hS) (fun t=> ?_) ha hd (by rw[e0];exact St.refl _ _ _ _)
 rw[e0]
 show RVs w F β (lk loc) _ (gt (E (lw _ (Wt t) n)) t)
 rw[rJ0 fun j _=>by rw[hSS0];rfl,hE0]
 exact hE t
end
end
section
open Go
variable [Guest]
def lU0 : List It→List Item→Prop
 | [],k=>k=[]
 | .code c::K,k=>∃ k',k = .code c::k'∧lU0 K k'
 | .inBlock id::K,k=>∃ k',k = .inBlock id::k'∧lU0 K k'
 | .inLoop c::K,k=>∃ k',k = .inLoop c::k'∧lU0 K k'
 | .ops all l::K,k=>∃ is k',k = .inRegion all is::k'∧is.map (fun i=>all[i]?)=l.map some∧lU0 K k'
theorem oA0 {id:Nat}:∀ {K K':List It}{k:List Item},jZ0 id K=some K'→lU0 K k→∃ k',exitTo id k=some k'∧lU0 K' k'
 | [],_,_,h,_=>by cases h
 | .code c::K,K',k,h,hc=>by
  obtain⟨k1,rfl,hc⟩:=hc
  simp only[exitTo];exact oA0 (K:=K) h hc
 | .inLoop c::K,K',k,h,hc=>by
  obtain⟨k1,rfl,hc⟩:=hc
  simp only[exitTo];exact oA0 (K:=K) h hc
 | .ops all l::K,K',k,h,hc=>by
  obtain⟨is,k1,rfl,_,hc⟩:=hc
  simp only[exitTo];exact oA0 (K:=K) h hc
 | .inBlock id'::K,K',k,h,hc=>by
  obtain⟨k1,rfl,hc⟩:=hc
  simp only[jZ0]at h
  simp only[exitTo]
  split at h
  ·rename_i he
   cases h
   exact⟨k1,by simp[he],hc⟩
  ·rename_i he
   obtain⟨k2,h1,h2⟩:=oA0 (K:=K) h hc
   exact⟨k2,by simp[he,h1],h2⟩
def PostK (P:Program)(fn:Func)(m:Nat)(out:Out)(w0:World)(F:Nat→Prop)(β0:Int→Nat)(look0:Look):FinK→Act→World→Prop
 | .ret,a',w'=>a'.defers=[]∧∃ vs os v β',out = .ret vs os∧(results fn a'.tmps).run P w' = .ok v w'∧RRes w' F β' (lk os) v vs∧Sim w' F β' (lk os)∧St (· < m) w0 β0 look0 w' β' (lk os)
 | .pan ch,a',w'=>a'.defers=[]∧∃ x os β',out = .pan x os∧ch=[{ v:=x,recovered:=false }]∧Sim w' F β' (lk os)∧St (· < m) w0 β0 look0 w' β' (lk os)
section
variable {P:Program}
theorem PostK.trans {fn:Func}{m:Nat}{out:Out}{w0 w1:World}{F:Nat→Prop}{β0 β1:Int→Nat}{l0 l1:Look} (h:St (· < m) w0 β0 l0 w1 β1 l1){fk:FinK}{a:Act}{w:World} (hp:PostK P fn m out w1 F β1 l1 fk a w):PostK P fn m out w0 F β0 l0 fk a w:=by
 cases fk with
 | ret=>obtain⟨a1,vs,os,v,β',h1,h2,h3,h4,h5⟩:=hp;exact⟨a1,vs,os,v,β',h1,h2,h3,h4,h.trans h5⟩
 | pan ch=>obtain⟨a1,x,os,β',h1,h2,h3,h4⟩:=hp;exact⟨a1,x,os,β',h1,h2,h3,h.trans h4⟩
def At0 (P:Program)(fn:Func)(m:Nat)(out:Out)(F:Nat→Prop)(todo:List It)(items:List Item)(a:Act)(w:World)(β:Int→Nat)(look:Look):Prop:=
 match todo,items with
 | .ops _ _::_,.inRegion all is::k=>wpOps P all (Qr P k (PostK P fn m out w F β look)) is a w
 | _,_=>Reach P items a w (PostK P fn m out w F β look)
def EOK (P:Program):Entry→Out→Prop
 | .call f args objs,out=>(eC0 P f∧eI0 P f args objs out)∨bJ1 P f args objs out
 | .k cf todo env loc,out=>∀ (fn:Func) (items:List Item) (a:Act) (w:World) (F:Nat→Prop) (β:Int→Nat),fn.results.toList=cf.res→lU0 todo items→a.tmps.size=cf.nt→a.defers=[] →
   Sim w F β (lk loc)→EnvR w F β (lk loc) a.tmps env→At0 P fn cf.m out F todo items a w β (lk loc)
theorem jG0 {fn:Func}{m:Nat}{out:Out}{F:Nat→Prop}{todo:List It}{items:List Item}{a:Act}{w:World}{β:Int→Nat}{look:Look} (hc:lU0 todo items)(h:At0 P fn m out F todo items a w β look):Reach P items a w (PostK P fn m out w F β look):=by
 cases todo with
 | nil=>exact h
 | cons x K=>
  cases x with
  | code c=>obtain⟨k',rfl,_⟩:=hc;exact h
  | inBlock id=>obtain⟨k',rfl,_⟩:=hc;exact h
  | inLoop c=>obtain⟨k',rfl,_⟩:=hc;exact h
  | ops all l=>obtain⟨is,k',rfl,_,_⟩:=hc;exact gI0 h
theorem lE0 {items:List Item}{a:Act}{w:World}{Post:FinK→Act→World→Prop} (hs:∀ (b:Frame)(cs:List Frame),step P (lone (b.at a items) cs w) = .next (lone { b.at a items with mode:= .returning } cs w))(h:Post .ret a w):Reach P items a w Post:=
 fun b cs=>⟨.ret,a,w,items,h,.one (hs b cs)⟩
theorem ends {fn:Func}{cf:Cf}{env:Env}{loc:List O}{out:Out}{w:World}{F:Nat→Prop}{β:Int→Nat}{a:Act} (hres:fn.results.toList=cf.res)(hd:a.defers=[])(hS:Sim w F β (lk loc))(hE:EnvR w F β (lk loc) a.tmps env)(h:kA0 P cf env loc=some out) :
  PostK P fn cf.m out w F β (lk loc) .ret a w:=by
 obtain⟨vs,os,v,β',h1,h2,h3,h4,h5⟩:=oE0 hS hE hres h
 exact⟨hd,vs,os,v,β',h1,h2,h3,h4,h5⟩
theorem wA0 {all:Array Oper}{env:Env}{g:Option (Nat × Bool)}{b:Bool}{w:World}{F:Nat→Prop}{β:Int→Nat}{look:Look}{a:Act} (hE:EnvR w F β look a.tmps env)(h:wantedA all env g=some b)(o:Oper)(ho:o.guard=g):Region.wanted o (yielded all a.tmps)=b:=by
 unfold wantedA at h
 unfold Region.wanted
 rw[ho]
 cases g with
 | none=>simpa using h
 | some p=>
  obtain⟨j,want⟩:=p
  dsimp only at h ⊢
  cases hj:all[j]? with
  | none=>simp[hj]at h
  | some oj=>
   simp only[hj]at h
   cases hd:oj.dst with
   | none=>simp[hd]at h
   | some t=>
    simp only[hd]at h
    split at h
    ·rename_i c hc
     simp only[Option.some.injEq]at h
     subst h
     have h1:=hE t
     rw[hc]at h1
     have h2:a.tmps.getD t undef = .bool c:=(rv_v h1).1
     have h3:a.tmps[t]? = some (.bool c):=by
      rw[Array.getD_eq_getD_getElem?]at h2
      cases h4:a.tmps[t]? with
      | none=>rw[h4]at h2;cases h2
      | some y=>rw[h4]at h2;simp at h2;rw[h2]
     have h5:yielded all a.tmps j=some c:=by
      unfold yielded
      rw[hj]
      simp only[Option.bind_some,hd,h3]
     rw[h5]
     cases c <;> cases want <;> rfl
    ·rename_i hc
     simp only[Option.some.injEq]at h
     subst h
     have h1:=hE t
     rw[hc]at h1
     obtain⟨u,h2,_⟩:=h1
     have h5:yielded all a.tmps j=none:=by
      unfold yielded
      rw[hj]
      simp only[Option.bind_some,hd]
      rw[Array.getD_eq_getD_getElem?]at h2
      cases h4:a.tmps[t]? with
      | none=>rfl
      | some y=>rw[h4]at h2;simp at h2;rw[h2]
     rw[h5]
     rfl
    ·cases h
theorem jN1 {o:Oper}{a:Act}{K K':Act→World→Prop}{Q Q':Exit→Act→World→Prop} (h:∀ a w,K a w→K' a w)(hQ:∀ e a w,Q e a w→Q' e a w){r:Result Next} (hh:o.upon P a K Q r):o.upon P a K' Q' r:=by
 cases r with
 | ok n w'=>
  cases n <;> simp only[Oper.upon]at hh ⊢ <;>
   first
    | exact h _ _ hh
    | exact Calls.mono hh (fun e w'' he=>by
      cases e with
      | returned v=>exact h _ _ he
      | panicked ch=>exact hQ _ _ _ he
      | outgrown=>obtain⟨a0,w0,hq⟩:=he;exact⟨a0,w0,hQ _ _ _ hq⟩)
    | exact Rows.mono hh (fun _ _ he=>h _ _ he)
 | halt x w'=>cases x <;> simp only[Oper.upon]at hh ⊢ <;> first | exact hQ _ _ _ hh | exact hh
theorem jN0 {ops:Array Oper}{Q Q':Exit→Act→World→Prop} (hQ:∀ e a w,Q e a w→Q' e a w):∀ (l:List Nat)(a:Act)(w:World),wpOps P ops Q l a w→wpOps P ops Q' l a w
 | [],a,w,h=>hQ _ _ _ h
 | i::rest,a,w,h=>by
  simp only[wpOps]at h ⊢
  cases ho:ops[i]? with
  | none=>simp only[ho]at h;exact jN0 hQ rest a w h
  | some o=>
   simp only[ho]at h ⊢
   split
   ·rename_i hw
    rw[if_pos hw]at h
    rcases h with h | ⟨h1,a0,w0,h2⟩
    ·exact .inl (jN1 (fun a w=>jN0 hQ rest a w) hQ h)
    ·exact .inr ⟨h1,a0,w0,hQ _ _ _ h2⟩
   ·rename_i hw
    rw[if_neg hw]at h
    exact jN0 hQ rest _ w h
theorem jM0 (hN:iI0 P){ext:Ext} (hext:∀ f g args objs out,ext f=some g→g args objs=some out→(eC0 P f∧eI0 P f args objs out)∨bJ1 P f args objs out)
  (hMix:P.follows .mixedOrders=true):∀ (n:Nat) (e:Entry) (out:Out),runN P ext n e=some out→EOK P e out
 | 0,_,_,h=>by cases h
 | n+1,e,out,h=>by
  have ih:=jM0 hN hext hMix n
  have hrec:kO0 P (runN P ext n):=fun f args objs o hr=>ih _ _ hr
  simp only[runN]at h
  cases e with
  | call f args objs=>
   simp only[hW0]at h
   cases hx:ext f with
   | some g=>
    simp only[hx]at h
    exact hext f g args objs out hx h
   | none=>
    simp only[hx]at h
    cases hf:P.funcs[f]? with
    | none=>simp[hf]at h
    | some fn=>
     simp only[hf]at h
     cases hb:fn.body with
     | none=>simp[hb]at h
     | some c=>
      simp only[hb]at h
      split at h
      case isFalse=>cases h
      rename_i hlen
      refine .inl ⟨⟨fn,hf,by simp[hb]⟩,fun w F β vals hS hargs=> ?_⟩
      refine eH0 hf hb ?_
      have hvl:vals.length=args.length:=hargs.length
      have hsz:(vals.toArray++Array.replicate (fn.ntmps - vals.toArray.size) undef).size=fn.ntmps:=by simp;omega
      have hE:EnvR w F β (lk objs) (vals.toArray++Array.replicate (fn.ntmps - vals.toArray.size) undef) (args.zipIdx.map fun(v,i)=>(i,v)):=by
       intro t
       have key:∀ (l:List V) (i t:Nat),gt ((l.zipIdx i).map fun(v,i)=>(i,v)) t=if i≤t then(l[t - i]?).getD (.c .any) else .c .any:=by
        intro l
        induction l with
        | nil=>intro i t;simp[gt]
        | cons x l ihl=>
         intro i t
         simp only[List.zipIdx_cons,List.map_cons,gt,ihl]
         by_cases e:i=t
         ·subst e;simp
         ·simp only[e,if_false]
          by_cases h1:i+1≤t
          ·rw[if_pos h1,if_pos (by omega),show t - i=(t - (i+1))+1 by omega];simp
          ·rw[if_neg h1,if_neg (by omega)]
       rw[key args 0 t]
       simp only[Nat.zero_le,if_true,Nat.sub_zero]
       cases ha:args[t]? with
       | none=>exact trivial
       | some x=>
        obtain⟨v,h1,h2⟩:=hargs.get_right ha
        have hlt:t<vals.length:=by
         rcases Nat.lt_or_ge t vals.length with h | h
         ·exact h
         ·rw[List.getElem?_eq_none h]at h1;cases h1
        have:(vals.toArray++Array.replicate (fn.ntmps - vals.toArray.size) undef).getD t undef=v:=by
         rw[Array.getD_eq_getD_getElem?,Array.getElem?_append_left (by simpa using hlt)]
         simp[h1]
        rw[this]
        exact h2
      have hk:=ih _ _ h fn [.code c] { tmps:=vals.toArray++Array.replicate (fn.ntmps - vals.toArray.size) undef,defers:=[] } w F β rfl ⟨[],rfl,rfl⟩ hsz rfl hS hE
      refine Reach.mono hk fun fk a' w' hp=> ?_
      cases fk with
      | ret=>
       obtain⟨h1,vs,os,v,β',rfl,h3,h4,h5,h6⟩:=hp
       exact⟨h1,v,h3,β',v,rfl,h4,h5,h6⟩
      | pan ch=>
       obtain⟨h1,x,os,β',rfl,rfl,h4,h5⟩:=hp
       exact⟨h1,β',rfl,h4,h5⟩
  | k cf todo env loc=>
   intro fn items a w F β hres hc hsz hd hS hE
   -- a step that only moves on
   have move:∀ {K:List It}{items':List Item},runN P ext n (.k cf K env loc)=some out→lU0 K items'→(∀ (b:Frame) (cs:List Frame),step P (lone (b.at a items) cs w) = .next (lone (b.at a items') cs w))→Reach P items a w (PostK P fn cf.m out w F β (lk loc)):=by
    intro K items' hr hc' hs
    exact aF0 hs (jG0 hc' (ih _ _ hr fn items' a w F β hres hc' hsz hd hS hE))
   cases todo with
   | nil=>
    simp only[lU0]at hc
    subst hc
    exact lE0 (fun b cs=>step_end) (ends hres hd hS hE h)
   | cons x K=>
    cases x with
    | inBlock id=>
     obtain⟨k',rfl,hc⟩:=hc
     exact move (K:=K) h hc (fun b cs=>step_inBlock)
    | inLoop c=>
     obtain⟨k',rfl,hc⟩:=hc
     simp only[hW0,nM0]at h
     cases hh:gX1 cf c K env loc with
     | none=>simp[hh]at h
     | some p=>
      obtain⟨env',os⟩:=p
      simp only[hh]at h
      obtain⟨β',hS',hE',hst⟩:=sX1 hS (EnvR.pad hE _) hh
      have hc':lU0 (.code c :: .inLoop c::K) (.code c :: .inLoop c::k'):=⟨_,rfl,_,rfl,hc⟩
      have hr:=jG0 hc' (ih _ _ h fn _ a w F β' hres hc' hsz hd hS' hE')
      exact aF0 (fun b cs=>step_inLoop) (hr.mono fun _ _ _ hp=>PostK.trans hst hp)
    | code c=>
     obtain⟨k',rfl,hc⟩:=hc
     show Reach P _ a w _
     simp only[hW0]at h
     cases c with
     | skip=>exact move (K:=K) h hc (fun b cs=>step_skip)
     | ret=>exact lE0 (fun b cs=>step_ret) (ends hres hd hS hE h)
     | seq c1 c2=>exact move (K:= .code c1 :: .code c2::K) h ⟨_,rfl,_,rfl,hc⟩ (fun b cs=>step_seq)
     | block id c1=>exact move (K:= .code c1 :: .inBlock id::K) h ⟨_,rfl,_,rfl,hc⟩ (fun b cs=>step_block)
     | cond x c1 c2=>
      simp only[pK0]at h
      split at h
      ·rename_i t ht
       have hx:=iO0 hE x
       rw[ht]at hx
       have hb:a.eval x = .bool t:=(rv_v hx).1
       exact move (K:= .code (if t then c1 else c2)::K) h ⟨_,rfl,hc⟩ (fun b cs=>step_cond hb)
      ·cases h
     | exit id=>
      simp only[pK0]at h
      cases hx:jZ0 id K with
      | none=>simp[hx]at h
      | some K'=>
       simp only[hx]at h
       obtain⟨k2,h1,h2⟩:=oA0 hx hc
       exact move (K:=K') h h2 (fun b cs=>step_exit h1)
     | loop c1=>
      have hc':lU0 (.inLoop c1::K) (.inLoop c1::k'):=⟨_,rfl,hc⟩
      have hr:=jG0 hc' (ih _ _ h fn _ a w F β hres hc' hsz hd hS hE)
      exact aF0 (fun b cs=>step_loop) (vN0 (fun b cs=>step_inLoop) hr)
     | region id ops dr=>
      cases dr with
      | false=>
       have hl:(List.range ops.size).map (fun i=>ops[i]?)=ops.toList.map some:=by
        apply List.ext_getElem?
        intro i
        rw[List.getElem?_map,List.getElem?_map]
        by_cases hi:i<ops.size
        ·rw[List.getElem?_range hi];simp[hi]
        ·rw[List.getElem?_eq_none (by simp;omega),List.getElem?_eq_none (by simp;omega)];rfl
       exact move (K:= .ops ops ops.toList::K) h ⟨_,_,rfl,hl,hc⟩ (fun b cs=>step_region)
      | true=>
       simp only[pK0]at h
       cases hdr:bD0 P (runN P ext n) cf.nt ops loc.length ops.toList 0 env (loc++iH0 ops.size) with
       | none=>
        simp only[hdr]at h
        cases h
       | some p=>
        obtain⟨env',loc',fps⟩:=p
        simp only[hdr,dE0]at h
        split at h
        case isFalse=>cases h
        rename_i hok
        intro b cs
        have hw:=oV0 (w':={ w with drawn:=w.drawn+1 }) hS rfl rfl rfl rfl
        obtain⟨hS1,st1⟩:=hw
        have hE1:=EnvR.mono st1 hE
        have hany:=gH1 hN hrec hS1 hE1 hsz hd hdr hok (Q:=Qr P k' (PostK P fn cf.m out w F β (lk loc)))
         (fun a' w' β' g1 g2 g3 g4 g5=>by
          have hr:=jG0 hc (ih _ _ h fn k' a' w' F β' hres hc g4 g5 g1 g2)
          exact hr.mono fun _ _ _ hp=>PostK.trans (st1.trans g3).some hp)
        have this:wpOps P ops (Qr P k' (PostK P fn cf.m out w F β (lk loc))) (Region.schedule (P.follows .mixedOrders) ops (w.tape w.drawn (.order b.fn id))) a { w with drawn:=w.drawn+1 }:=by
         simp only[Region.schedule,hMix,Bool.true_or,if_true]
         exact wpAny_sound ops.size _ _ a _ hany
        obtain⟨fk,a',w',todo,p1,p2⟩:=gI0 this b cs
        exact⟨fk,a',w',todo,p1,.head step_region_draw p2⟩
     | _=>cases h
    | ops all l=>
     obtain⟨is,k',rfl,hl,hc⟩:=hc
     show wpOps P all _ is a w
     cases l with
     | nil=>
      have:is=[]:=by simpa using hl
      subst this
      simp only[hW0]at h
      exact jG0 hc (ih _ _ h fn k' a w F β hres hc hsz hd hS hE)
     | cons o l=>
      cases is with
      | nil=>simp at hl
      | cons i is=>
       simp only[List.map_cons,List.cons.injEq]at hl
       obtain⟨hi,hl⟩:=hl
       simp only[hW0]at h
       split at h
       case isFalse=>cases h
       rename_i hdst
       rw[← hsz]at hdst
       simp only[wpOps,hi]
       cases hw:wantedA all env o.guard with
       | none=>simp[hw]at h
       | some b=>
        simp only[hw]at h
        have hwant:=wA0 hE hw o rfl
        rw[hwant]
        cases b with
        | false=>
         simp only[Bool.false_eq_true,if_false]
         dsimp only at h
         exact ih _ _ h fn (.inRegion all is::k') (a.put o.dst undef) w F β hres ⟨is,k',rfl,hl,hc⟩ (by rw[bP0];exact hsz) (by rw[bG0];exact hd) hS (hE.put iP1 hdst)
        | true=>
         simp only[if_true]
         left
         dsimp only at h
         cases hop:opA P (runN P ext n) (lk loc) loc.length (ev env) o.op with
         | none=>simp[hop,gC0]at h
         | some e=>
          have hslot:∀ id,loc.length≤id→lk loc id=none:=by
           intro id hid
           simp[lk,List.getElem?_eq_none hid]
          have hgo:=oO0 hN hrec hS (hG0 loc) (hslot _ (Nat.le_refl _)) (a:=a) (fun y=>iO0 hE y) hop (fun id h1 _=>hslot id h1)
          refine hgo _ _ fun w' β' hg=> ?_
          obtain⟨res,upd,rd⟩:=e
          obtain⟨g1,g2⟩:=hg
          rw[← eP0]at g1 g2
          cases res with
          | val v=>
           intro x hx
           simp only[hop,gC0]at h
           dsimp only at hx
           rw[← eP0]at hx
           have:=ih _ _ h fn (.inRegion all is::k') (a.put o.dst x) w' F β' hres ⟨is,k',rfl,hl,hc⟩ (by rw[bP0];exact hsz) (by rw[bG0];exact hd) g1 ((EnvR.mono g2 hE).put hx hdst)
           have hmono:∀ (e:Exit) (a:Act) (w'':World),Qr P k' (PostK P fn cf.m out w' F β' (lk (updO loc upd))) e a w''→Qr P k' (PostK P fn cf.m out w F β (lk loc)) e a w'':=by
            intro e a w'' hq
            cases e with
            | normal=>exact Reach.mono hq fun _ _ _ hp=>PostK.trans g2.some hp
            | panic ch=>exact PostK.trans (P:=P) (fn:=fn) (fk:= .pan ch) g2.some hq
            | _=>exact hq
           exact jN0 hmono _ _ _ this
          | pan x=>
           simp only[hop,gC0]at h
           obtain⟨os,β2,rfl,p1,p2⟩:=mU1 g1 h
           exact⟨hd,x,os,β2,rfl,rfl,p1,g2.some.trans p2⟩
theorem iO1 (hN:iI0 P){ext:Ext} (hext:∀ f g args objs out,ext f=some g→g args objs=some out→(eC0 P f∧eI0 P f args objs out)∨bJ1 P f args objs out)(hMix:P.follows .mixedOrders=true){f:FuncId}{args:List V}{objs:List O}{out:Out}
  (h:run P ext (.call f args objs)=some out)(hB:eC0 P f):eI0 P f args objs out:=by
 obtain⟨n,hn⟩:=(cJ0 P ext _ _).1 h
 rcases jM0 hN hext hMix n _ _ hn with⟨_,h⟩ | ⟨xs,y,_,_,_,_,h⟩
 ·exact h
 ·have h1:=h default
  rw[eL0 hN hB]at h1
  cases h1
end
end
section
open Go
instance noGuest : Guest:=⟨fun _=>False⟩
section
variable {P:Program}{ext:Ext}{cf:Cf}{K:List It}{env:Env}{loc:List O}{all:Array Oper}{l:List Oper}
theorem r_end : run P ext (.k cf [] env loc)=kA0 P cf env loc:=by rw[eA0];rfl
theorem r_ret : run P ext (.k cf (.code .ret::K) env loc)=kA0 P cf env loc:=by rw[eA0];rfl
theorem r_skip : run P ext (.k cf (.code .skip::K) env loc)=run P ext (.k cf K env loc):=by rw[eA0];rfl
theorem r_seq (a b:Code):run P ext (.k cf (.code (.seq a b)::K) env loc)=run P ext (.k cf (.code a :: .code b::K) env loc):=by rw[eA0];rfl
theorem uS1 (id:Nat)(a:Code):run P ext (.k cf (.code (.block id a)::K) env loc)=run P ext (.k cf (.code a :: .inBlock id::K) env loc):=by rw[eA0];rfl
theorem iB1 (id:Nat):run P ext (.k cf (.inBlock id::K) env loc)=run P ext (.k cf K env loc):=by rw[eA0];rfl
theorem r_loop (a:Code):run P ext (.k cf (.code (.loop a)::K) env loc)=run P ext (.k cf (.inLoop a::K) env loc):=by rw[eA0];rfl
theorem mY1 (n:Nat)(ops:Array Oper):run P ext (.k cf (.code (.region n ops false)::K) env loc)=run P ext (.k cf (.ops ops ops.toList::K) env loc):=by rw[eA0];rfl
def drawK (P:Program)(rec:Rec)(cf:Cf)(ops:Array Oper)(K:List It)(env:Env)(loc:List O)(a:Option (Env × List O × List (List Nat × List Nat))):Option Out:=
 match a with
 | some r=>dE0 rec cf ops K (some r)
 | none=>none
theorem r_draw (n:Nat)(ops:Array Oper):run P ext (.k cf (.code (.region n ops true)::K) env loc)=drawK P (run P ext) cf ops K env loc (bD0 P (run P ext) cf.nt ops loc.length ops.toList 0 env (loc++iH0 ops.size)):=by rw[eA0];rfl
theorem cG1 (rec:Rec)(ops:Array Oper)(r:Env × List O × List (List Nat × List Nat)):drawK P rec cf ops K env loc (some r)=dE0 rec cf ops K (some r):=rfl
theorem iC1 : run P ext (.k cf (.ops all []::K) env loc)=run P ext (.k cf K env loc):=by rw[eA0];rfl
theorem mX1 (c:Code):run P ext (.k cf (.inLoop c::K) env loc)=nM0 (run P ext) cf (.code c :: .inLoop c::K) (gX1 cf c K env loc):=by rw[eA0];rfl
def rM1 (rec:Rec)(cf:Cf)(v:V)(a b:Code)(K:List It)(env:Env)(loc:List O):Option Out:=
 match v with
 | .c (.d (.v (.bool t)))=>rec (.k cf (.code (if t then a else b)::K) env loc)
 | _=>none
theorem r_cond (x:Operand)(a b:Code):run P ext (.k cf (.code (.cond x a b)::K) env loc)=rM1 (run P ext) cf (ev env x) a b K env loc:=by rw[eA0];rfl
theorem cA1 (rec:Rec)(a b:Code):rM1 rec cf (.c (.d (.v (.bool true)))) a b K env loc=rec (.k cf (.code a::K) env loc):=rfl
theorem wU0 (rec:Rec)(a b:Code):rM1 rec cf (.c (.d (.v (.bool false)))) a b K env loc=rec (.k cf (.code b::K) env loc):=rfl
def exitK (rec:Rec)(cf:Cf)(r:Option (List It))(env:Env)(loc:List O):Option Out:=
 match r with
 | some K=>rec (.k cf K env loc)
 | none=>none
theorem r_exit (id:Nat):run P ext (.k cf (.code (.exit id)::K) env loc)=exitK (run P ext) cf (jZ0 id K) env loc:=by rw[eA0];rfl
theorem cL1 (rec:Rec)(K:List It):exitK rec cf (some K) env loc=rec (.k cf K env loc):=rfl
theorem cJ1 (id:Nat)(c:Code)(K:List It):jZ0 id (.code c::K)=jZ0 id K:=rfl
theorem cK1 (id:Nat)(c:Code)(K:List It):jZ0 id (.inLoop c::K)=jZ0 id K:=rfl
theorem gN1 (id:Nat)(K:List It):jZ0 id (.ops all l::K)=jZ0 id K:=rfl
theorem wX0 (id i:Nat)(K:List It):jZ0 id (.inBlock i::K)=if i==id then some K else jZ0 id K:=rfl
def opK (P:Program)(rec:Rec)(cf:Cf)(all:Array Oper)(d:Option Nat)(o:Op)(l:List Oper)(K:List It)(env:Env)(loc:List O)(w:Option Bool):Option Out:=
 match w with
 | some true=>gC0 rec cf all d l K env loc (opA P rec (lk loc) loc.length (ev env) o)
 | some false=>rec (.k cf (.ops all l::K) (putO env d (.tup [])) loc)
 | none=>none
theorem r_op (d:Option Nat)(o:Op)(t:Nat)(p:String)(a:Array Edge)(h:hC0 cf.nt d=true) :
  run P ext (.k cf (.ops all ({ dst:=d,op:=o,type:=t,pos:=p,after:=a,guard:=none }::l)::K) env loc)=gC0 (run P ext) cf all d l K env loc (opA P (run P ext) (lk loc) loc.length (ev env) o):=by
 rw[eA0];simp only[hW0,h,wantedA,if_true]
theorem r_opg (d:Option Nat)(o:Op)(t:Nat)(p:String)(a:Array Edge)(g:Nat × Bool)(h:hC0 cf.nt d=true) :
  run P ext (.k cf (.ops all ({ dst:=d,op:=o,type:=t,pos:=p,after:=a,guard:=some g }::l)::K) env loc)=opK P (run P ext) cf all d o l K env loc (wantedA all env (some g)):=by
 rw[eA0];simp only[hW0,h,if_true];rfl
theorem mS1 (rec:Rec)(d:Option Nat)(o:Op):opK P rec cf all d o l K env loc (some true)=gC0 rec cf all d l K env loc (opA P rec (lk loc) loc.length (ev env) o):=rfl
theorem hV1 (rec:Rec)(d:Option Nat)(o:Op):opK P rec cf all d o l K env loc (some false)=rec (.k cf (.ops all l::K) (putO env d (.tup [])) loc):=rfl
theorem wE0 (rec:Rec)(d:Option Nat)(v:V)(u:List (Nat × O))(rd:List Nat):gC0 rec cf all d l K env loc (some ⟨.val v,u,rd⟩)=rec (.k cf (.ops all l::K) (putO env d v) (updO loc u)):=rfl
theorem wD0 (rec:Rec)(d:Option Nat)(x:Value)(u:List (Nat × O))(rd:List Nat):gC0 rec cf all d l K env loc (some ⟨.pan x,u,rd⟩)=nF0 cf x (updO loc u):=rfl
theorem aE0 (rec:Rec)(e:Env)(lo:List O)(fps:List (List Nat × List Nat))(h:nZ0 all fps=true):dE0 rec cf all K (some (e,lo,fps))=rec (.k cf K e lo):=by simp only[dE0,h,if_true]

def lW0 : C→Bool
 | .d _=>true
 | .elt _ _ _ _ _=>true
 | .fn _ [] []=>true
 | _=>false
def hQ0 : V→Bool
 | .c x=>lW0 x
 | .agg cs=>cs.all lW0
 | .tup _=>false
theorem sX0 {look:Look}{c:C} (h:lW0 c=true):argC look c=some (c,[])∧dG1 c=[]∧∀ r,renC r c=some c:=by
 unfold lW0 at h
 split at h
 ·exact⟨rfl,rfl,fun _=>rfl⟩
 ·exact⟨rfl,rfl,fun _=>rfl⟩
 ·exact⟨rfl,rfl,fun _=>rfl⟩
 ·cases h
theorem eX0 {look:Look}:∀ {cs:List C},cs.all lW0=true→gX0 look cs=some (cs,[])∧cs.flatMap dG1=[]∧∀ r,mapO (renC r) cs=some cs
 | [],_=>⟨rfl,rfl,fun _=>rfl⟩
 | c::cs,h=>by
  simp only[List.all_cons,Bool.and_eq_true]at h
  obtain⟨h1,h2,h3⟩:=sX0 (look:=look) h.1
  obtain⟨h4,h5,h6⟩:=eX0 (look:=look) h.2
  exact⟨by simp only[gX0,h1,h4,List.append_nil],by simp only[List.flatMap_cons,h2,h5,List.append_nil],fun r=>by simp only[mapO,h3,h6]⟩
theorem bU0 {look:Look}{v:V} (h:hQ0 v=true):argV look v=some (v,[])∧iZ0 v=[]∧∀ r,renV r v=some v:=by
 cases v with
 | c x=>obtain⟨h1,h2,h3⟩:=sX0 (look:=look) h;exact⟨by simp only[argV,h1],h2,fun r=>by simp only[renV,h3]⟩
 | agg cs=>obtain⟨h1,h2,h3⟩:=eX0 (look:=look) h;exact⟨by simp only[argV,h1],h2,fun r=>by simp only[renV,h3]⟩
 | tup vs=>cases h
theorem eF0 {look:Look}:∀ {vs:List V},vs.all hQ0=true→dW0 look vs=some (vs,[])∧vs.flatMap iZ0=[]∧∀ r,mapO (renV r) vs=some vs
 | [],_=>⟨rfl,rfl,fun _=>rfl⟩
 | c::cs,h=>by
  simp only[List.all_cons,Bool.and_eq_true]at h
  obtain⟨h1,h2,h3⟩:=bU0 (look:=look) h.1
  obtain⟨h4,h5,h6⟩:=eF0 (look:=look) h.2
  exact⟨by simp only[dW0,h1,h4,List.append_nil],by simp only[List.flatMap_cons,h2,h5,List.append_nil],fun r=>by simp only[mapO,h3,h6]⟩
theorem wI0 {keep:Bool}{look:Look}{vs:List V} (h:vs.all hQ0=true):eD0 keep look vs=some (vs,[]):=by
 cases keep with
 | true=>rfl
 | false=>exact(eF0 h).1
theorem qU0 {f:FuncId}{look:Look}{vs:List V} (h:vs.all hQ0=true):cB0 f look vs=some ([],[],vs,[]):=by
 obtain⟨h1,h2,h3⟩:=eF0 (look:=look) h
 simp only[cB0,wI0 h,h2]
 have:Am.reach look 200 [] []=[]:=rfl
 simp only[this,h3,mapO]
 rfl
def stkB (e:Option Eff):Option Eff:=
 match e with
 | some e=>if e.upd.all cU0=true then some e else none
 | none=>none
theorem oA1 (r:R)(rd:List Nat):stkB (some ⟨r,[],rd⟩)=some ⟨r,[],rd⟩:=rfl
theorem vT1 {e:Eff} (h:e.upd.all cU0=true):stkB (some e)=some e:=by unfold stkB;exact if_pos h
theorem vK0 (l:List Nat):(aU0 l).all cU0=true:=List.all_eq_true.2 fun p hp=>by obtain⟨id,_,rfl⟩:=List.mem_map.1 hp;rfl
theorem qL0 (r:R)(l rd:List Nat):stkB (some ⟨r,aU0 l,rd⟩)=some ⟨r,aU0 l,rd⟩:=vT1 (vK0 l)
theorem vS1 (r:R)(b:Bool)(l rd:List Nat):stkB (some ⟨r,if b=true then [] else aU0 l,rd⟩)=some ⟨r,if b=true then [] else aU0 l,rd⟩:=by cases b;exact qL0 r l rd;rfl
theorem nY1 (r:R)(id k:Nat)(els:List (List D))(rd:List Nat):stkB (some ⟨r,[(id,.arr k els)],rd⟩)=some ⟨r,[(id,.arr k els)],rd⟩:=rfl
theorem vR1 (r:R)(id k:Nat)(els:List (List D))(j:Nat)(rd:List Nat):stkB (some ⟨r,[(id,.arr k els),(j,.gone)],rd⟩)=some ⟨r,[(id,.arr k els),(j,.gone)],rd⟩:=rfl
theorem jB1 (r:R)(id:Nat)(rd:List Nat):stkB (some ⟨r,[(id,.gone)],rd⟩)=some ⟨r,[(id,.gone)],rd⟩:=rfl
theorem nZ1 (r:R)(id:Nat)(cs:List C)(rd:List Nat):stkB (some ⟨r,[(id,.box cs)],rd⟩)=some ⟨r,[(id,.box cs)],rd⟩:=rfl
theorem kL0 {look:Look}{ids bor:List Nat}{slot:Nat}{r:Option Out} (h:∀ id∈ids++bor,bI0 (look id)=false):eR0 look slot (bB0 ids bor slot r)=stkB (bB0 ids bor slot r):=by
 cases r with
 | none=>rfl
 | some out=>
  show eR0 look slot (cK0 ids bor slot out)=stkB (cK0 ids bor slot out)
  cases he:cK0 ids bor slot out with
  | none=>rfl
  | some e=>
   have hrd:=sV0 he
   have hb:jT0 look slot e.rd e.upd=e.upd.all cU0:=by
    unfold jT0
    congr 1
    funext p
    unfold bN1
    cases hc:e.rd.contains p.1 with
    | false=>rfl
    | true=>
     have:=h p.1 (by rw[← hrd];exact List.contains_iff_mem.1 hc)
     rw[this]
     rfl
   unfold eR0 stkB
   dsimp only
   rw[hb]
   cases hu:e.upd.all cU0 with
   | false=>rfl
   | true=>
    rw[if_pos rfl,if_pos rfl]
    congr 1
    obtain⟨res,upd,rd⟩:=e
    congr 1
    exact List.filter_eq_self.2 fun p hp=>List.all_eq_true.1 hu p hp
theorem binL_d (look:Look)(op:BinOp)(t:TypeId)(c:Bool)(x:D)(y:V):binL P look op t c (.c (.d x)) y=binB P op t c (.c (.d x)) y:=id rfl
theorem kL1 (look:Look)(op:BinOp)(t:TypeId)(c:Bool)(x:List C)(y:V):binL P look op t c (.agg x) y=binB P op t c (.agg x) y:=id rfl
theorem kN1 (look:Look)(op:BinOp)(t:TypeId)(c:Bool)(i o:Nat)(y:V):binL P look op t c (.c (.ptr i o)) y=binB P op t c (.c (.ptr i o)) y:=id rfl
theorem kM1 (look:Look)(op:BinOp)(t:TypeId)(c:Bool)(i:Nat):binL P look op t c (.c (.own i)) (.c (.d (.v (.slice none 0 0))))=boK op (cO0 P t) i (look i):=id rfl
theorem rB1 (op:BinOp)(i k:Nat)(els:List (List D)):boK op true i (some (.arr k els))=(nilEq op false).map fun e=>{ e with rd:=[i] }:=id rfl
theorem rC1 (op:BinOp)(i k:Nat)(els:List (List D))(c:Option Nat)(r:Bool):boK op true i (some (.stk k els c r))=(nilEq op false).map fun e=>{ e with rd:=[i] }:=id rfl
theorem bU1 (rec:Rec){look:Look}{slot:Nat}{f:FuncId}{vs:List V} (h:vs.all hQ0=true):dD0 rec look slot f vs=stkB (bB0 [] [] slot (rec (.call f vs []))):=by
 unfold dD0;rw[qU0 h];exact kL0 (by intro id h;cases h)
theorem wO0 {slot:Nat}{v:V} (h:hQ0 v=true):bB0 [] [] slot (some (.ret [v] []))=some { res:= .val v,upd:=[],rd:=[] }:=by
 obtain⟨_,_,h3⟩:=bU0 (look:=fun _=>none) h
 simp only[bB0,cK0,mapO,h3,bK0,List.length_nil,Nat.lt_irrefl,if_false]
 by_cases hs:(([v].all cA0)&&([]:List O).isEmpty)=true
 ·rw[if_pos hs];rfl
 ·rw[if_neg hs];rfl
theorem rP1 (x:D):hQ0 (.c (.d x))=true:=id rfl
theorem gG1 (k:Nat)(els:List (List D))(i off:Nat)(g:Bool):hQ0 (.c (.elt k els i off g))=true:=id rfl
theorem lS1 (f:FuncId):hQ0 (.c (.fn f [] []))=true:=id rfl
theorem gF1 (cs:List C):hQ0 (.agg cs)=cs.all lW0:=id rfl
theorem rO1 (x:D):lW0 (.d x)=true:=id rfl
theorem gE1 (k:Nat)(els:List (List D))(i off:Nat)(g:Bool):lW0 (.elt k els i off g)=true:=id rfl
theorem lR1 (f:FuncId):lW0 (.fn f [] [])=true:=id rfl
theorem aC0 {e:Env}{lo:List O}{c:Code} (h:gX1 cf c K env loc=some (e,lo)):run P ext (.k cf (.inLoop c::K) env loc)=run P ext (.k cf (.code c :: .inLoop c::K) e lo):=by rw[mX1,h];rfl
def sub : Code→List Nat→Code
 | c,[]=>c
 | .seq a b,i::p=>if i=0 then sub a p else sub b p
 | .cond _ a b,i::p=>if i=0 then sub a p else sub b p
 | .block _ a,_::p=>sub a p
 | .loop a,_::p=>sub a p
 | c,_::_=>c
end
end
section
open Go
variable [Guest]
def lG0 (P:Program)(rec:Rec)(nt:Nat):List Oper→Env→List O→Option (Env × List O)
 | [],env,loc=>some (env,loc)
 | ⟨d,o,_,_,_,none⟩::l,env,loc=>
  if hC0 nt d=true then
   match opA P rec (lk loc) loc.length (ev env) o with
   | some ⟨.val v,upd,_⟩=>lG0 P rec nt l (putO env d v) (updO loc upd)
   | _=>none
  else none
 | ⟨_,_,_,_,_,some _⟩::_,_,_=>none
section
variable {P:Program}
theorem iK1 (hN:iI0 P){ext:Ext} (hext:∀ f g args objs out,ext f=some g→g args objs=some out→(eC0 P f∧eI0 P f args objs out)∨bJ1 P f args objs out)(hMix:P.follows .mixedOrders=true):kO0 P (run P ext):=by
 intro f args objs out h
 obtain⟨n,hn⟩:=(cJ0 P ext _ _).1 h
 exact jM0 hN hext hMix n _ _ hn
def Behind (P:Program)(w:World)(F:Nat→Prop)(β:Int→Nat)(loc:List O)(a:Act)(env':Env)(loc':List O)(a':Act)(w':World)(β':Int→Nat):Prop:=
 Sim w' F β' (lk loc')∧EnvR w' F β' (lk loc') a'.tmps env'∧St (fun _=>True) w β (lk loc) w' β' (lk loc')∧a'.tmps.size=a.tmps.size∧a'.defers=a.defers
theorem wp_op (hN:iI0 P){rec:Rec} (hrec:kO0 P rec){all:Array Oper}{Q:Exit→Act→World→Prop}{i:Nat}{is:List Nat}{a:Act}{w:World}{F:Nat→Prop}{β:Int→Nat}{loc:List O}{env:Env}{o:Oper}{e:Eff}
  (hi:all[i]? = some o) (hg:o.guard=none) (hS:Sim w F β (lk loc)) (hE:EnvR w F β (lk loc) a.tmps env) (hd:hC0 a.tmps.size o.dst=true) (hop:opA P rec (lk loc) loc.length (ev env) o.op=some e)
  (hq:match e.res with
   | .val v=>∀ a' w' β',Behind P w F β loc a (putO env o.dst v) (updO loc e.upd) a' w' β'→wpOps P all Q is a' w'
   | .pan x=>∀ w' β',Sim w' F β' (lk (updO loc e.upd))→St (fun _=>True) w β (lk loc) w' β' (lk (updO loc e.upd))→Q (.panic [{ v:=x,recovered:=false }]) a w') :
  wpOps P all Q (i::is) a w:=by
 have hw:Region.wanted o (yielded all a.tmps)=true:=by unfold Region.wanted;rw[hg]
 simp only[wpOps,hi]
 rw[if_pos hw]
 left
 have hslot:∀ id,loc.length≤id→lk loc id=none:=by
  intro id hid
  simp[lk,List.getElem?_eq_none hid]
 have hgo:=oO0 hN hrec hS (hG0 loc) (hslot _ (Nat.le_refl _)) (a:=a) (fun y=>iO0 hE y) hop (fun id h1 _=>hslot id h1)
 refine hgo _ _ fun w' β' hgd=> ?_
 obtain⟨res,upd,rd⟩:=e
 obtain⟨g1,g2⟩:=hgd
 rw[← eP0]at g1 g2
 cases res with
 | val v=>
  intro x hx
  dsimp only at hx
  rw[← eP0]at hx
  exact hq _ w' β' ⟨g1,(EnvR.mono g2 hE).put hx hd,g2,by rw[bP0],by rw[bG0]⟩
 | pan x=>exact hq w' β' g1 g2
theorem vR0 (hN:iI0 P){rec:Rec} (hrec:kO0 P rec){all:Array Oper}{Q:Exit→Act→World→Prop}{F:Nat→Prop}{rest:List Nat}{env':Env}{loc':List O}:∀ {l:List Oper}{is:List Nat}{env:Env}{loc:List O}{a:Act}{w:World}{β:Int→Nat},
  lG0 P rec a.tmps.size l env loc=some (env',loc')→is.map (fun i=>all[i]?)=l.map some→Sim w F β (lk loc)→EnvR w F β (lk loc) a.tmps env →
  (∀ a' w' β',Behind P w F β loc a env' loc' a' w' β'→wpOps P all Q rest a' w')→wpOps P all Q (is++rest) a w
 | [],is,env,loc,a,w,β,h,hl,hS,hE,hq=>by
  have:is=[]:=by simpa using hl
  subst this
  simp only[lG0,Option.some.injEq,Prod.mk.injEq]at h
  obtain⟨rfl,rfl⟩:=h
  exact hq a w β ⟨hS,hE,St.refl _ _ _ _,rfl,rfl⟩
 | ⟨d,op,t,p,af,some g⟩::l,is,env,loc,a,w,β,h,hl,hS,hE,hq=>by cases h
 | ⟨d,op,t,p,af,none⟩::l,is,env,loc,a,w,β,h,hl,hS,hE,hq=>by
  cases is with
  | nil=>simp at hl
  | cons i is=>
   simp only[List.map_cons,List.cons.injEq]at hl
   obtain⟨hi,hl⟩:=hl
   simp only[lG0]at h
   split at h
   case isFalse=>cases h
   rename_i hd
   cases hop:opA P rec (lk loc) loc.length (ev env) op with
   | none=>simp[hop]at h
   | some e=>
    obtain⟨res,upd,rd⟩:=e
    cases res with
    | pan x=>simp[hop]at h
    | val v=>
     simp only[hop]at h
     refine wp_op hN hrec hi rfl hS hE hd hop fun a1 w1 β1 hb=> ?_
     obtain⟨b1,b2,b3,b4,b5⟩:=hb
     refine vR0 hN hrec (by rw[b4];exact h) hl b1 b2 fun a2 w2 β2 hb2=> ?_
     obtain⟨c1,c2,c3,c4,c5⟩:=hb2
     exact hq a2 w2 β2 ⟨c1,c2,b3.trans c3,by omega,by rw[c5,b5]⟩
theorem iE1 (ops:Array Oper):(List.range ops.size).map (fun i=>ops[i]?)=ops.toList.map some:=by
 apply List.ext_getElem?
 intro i
 simp only[List.getElem?_map]
 rcases Nat.lt_or_ge i ops.size with h | h
 ·simp[List.getElem?_range h,h]
 ·simp[List.getElem?_eq_none,h]
theorem oR0 (hN:iI0 P){rec:Rec} (hrec:kO0 P rec){n nt:Nat}{ops:Array Oper}{k:List Item}{F:Nat→Prop}{env:Env}{loc:List O}{a:Act}{w:World}{β:Int→Nat}{Post:FinK→Act→World→Prop}
  (k0:Nat) (is2:List Nat) (hr:List.range ops.size=List.range k0++is2) (hm:(List.range k0).map (fun i=>ops[i]?)=(ops.toList.take k0).map some) (hn:a.tmps.size=nt) (hS:Sim w F β (lk loc)) (hE:EnvR w F β (lk loc) a.tmps env)
  (hq:match lG0 P rec nt (ops.toList.take k0) env loc with
   | some (env',loc')=>∀ a' w' β',Behind P w F β loc a env' loc' a' w' β'→wpOps P ops (Qr P k Post) is2 a' w'
   | none=>False):Reach P (.code (.region n ops false)::k) a w Post:=by
 subst hn
 refine aF0 (fun b cs=>step_region) (gI0 ?_)
 rw[hr]
 cases h:lG0 P rec a.tmps.size (ops.toList.take k0) env loc with
 | none=>rw[h]at hq;exact hq.elim
 | some p=>rw[h]at hq;exact vR0 hN hrec h hm hS hE hq
theorem dS0 {k:List Item}{F:Nat→Prop}{env:Env}{loc:List O}{a:Act}{w:World}{β:Int→Nat}{Post:FinK→Act→World→Prop}{x:Operand}{c1 c2:Code}{t:Bool}
  (hE:EnvR w F β (lk loc) a.tmps env) (hx:ev env x = .c (.d (.v (.bool t)))) (h:Reach P (.code (if t then c1 else c2)::k) a w Post):Reach P (.code (.cond x c1 c2)::k) a w Post:=by
 have h1:=iO0 hE x
 rw[hx]at h1
 exact aF0 (fun b cs=>step_cond (rv_v h1).1) h
theorem qZ0 {w:World}{F:Nat→Prop}{β:Int→Nat}{objs:List O}{vals:List Value}{args:List V}{n:Nat} (hargs:All2 (RVs w F β (lk objs)) vals args) :
  EnvR w F β (lk objs) (vals.toArray++Array.replicate (n - vals.toArray.size) undef) (args.zipIdx.map fun(v,i)=>(i,v)):=by
 intro t
 have key:∀ (l:List V) (i t:Nat),gt ((l.zipIdx i).map fun(v,i)=>(i,v)) t=if i≤t then(l[t - i]?).getD (.c .any) else .c .any:=by
  intro l
  induction l with
  | nil=>intro i t;simp[gt]
  | cons x l ihl=>
   intro i t
   simp only[List.zipIdx_cons,List.map_cons,gt,ihl]
   by_cases e:i=t
   ·subst e;simp
   ·simp only[e,if_false]
    by_cases h1:i+1≤t
    ·rw[if_pos h1,if_pos (by omega),show t - i=(t - (i+1))+1 by omega];simp
    ·rw[if_neg h1,if_neg (by omega)]
 rw[key args 0 t]
 simp only[Nat.zero_le,if_true,Nat.sub_zero]
 cases ha:args[t]? with
 | none=>exact trivial
 | some x=>
  obtain⟨v,h1,h2⟩:=hargs.get_right ha
  have hlt:t<vals.length:=by
   rcases Nat.lt_or_ge t vals.length with h | h
   ·exact h
   ·rw[List.getElem?_eq_none h]at h1;cases h1
  have:(vals.toArray++Array.replicate (n - vals.toArray.size) undef).getD t undef=v:=by
   rw[Array.getD_eq_getD_getElem?,Array.getElem?_append_left (by simpa using hlt)]
   simp[h1]
  rw[this]
  exact h2
end
end
end Go.Proofs.YteenjodhmppgjaaGreatDoor.Am
