/- A part of the proof of a card. No conditions. -/
import Derived.Test.YteenjodhmppgjaaGreatDoorPb5
set_option linter.all false
set_option maxHeartbeats 16000000
set_option maxRecDepth 10000
namespace Go.Proofs.YteenjodhmppgjaaGreatDoor.Am
open Go.Proofs.Tryz
section
open Go
variable (ext:Ext)
def xF0 {α β:Type} (p:Nat→α→Bool)(g:Nat→α→β):Nat→List α→List β
 | _,[]=>[]
 | k,x::l=>if p k x then g k x::xF0 p g (k+1) l else xF0 p g (k+1) l
theorem eS1 {α β:Type} (p:Nat→α→Bool)(g:Nat→α→β)(l:List α)(S:Int→List β→Option Out)(fin:List β→Option Out)(hl:l.length<2^50)
  (hstep:∀ (k:Nat) (x:α) (els:List β),l[k]? = some x→(k:Int)<l.length→els.length≤k→(p k x=true→∀ out,S (wr ((k:Int)+1)) (els++[g k x])=out→S k els=out)∧(p k x=false→∀ out,S (wr ((k:Int)+1)) els=out→S k els=out))
  (hdone:∀ els,els.length≤l.length→S l.length els=fin els):S 0 []=fin (xF0 p g 0 l):=by
 have key:∀ (m k:Nat) (els:List β),k+m=l.length→els.length≤k→S k els=fin (els++xF0 p g k (l.drop k)):=by
  intro m
  induction m with
  | zero=>
   intro k els hk he
   rw[List.drop_eq_nil_of_le (by omega),show k=l.length by omega]
   simp only[xF0,List.append_nil]
   exact hdone els (by omega)
  | succ m ih=>
   intro k els hk he
   have hlt:k<l.length:=by omega
   rw[List.drop_eq_getElem_cons hlt,xF0]
   obtain⟨h1,h2⟩:=hstep k l[k] els (by simp[hlt]) (by omega) he
   have hw:wr ((k:Int)+1)=((k+1:Nat):Int):=by rw[gL0 (by omega) (by omega)];omega
   cases hp:p k l[k] with
   | true=>
    rw[if_pos rfl]
    refine h1 hp _ ?_
    rw[hw,ih (k+1) _ (by omega) (by simp;omega)]
    simp
   | false=>
    rw[if_neg (by simp)]
    refine h2 hp _ ?_
    rw[hw,ih (k+1) _ (by omega) (by omega)]
 simpa using key l.length 0 [] (by omega) (by simp)
end
section
open Go
variable (ext:Ext)
noncomputable def B116 : Code:=(f116.body.getD .skip)
noncomputable def lT2 : Code:=sub B116 [1,1,1,0,0]
theorem lJ0 : It.code lT2=It.code (sub B116 [1,1,1,0,0]):=rfl
noncomputable def qD0 : List It:=[.inBlock 0]
noncomputable def dU0 (ext:Ext)(m:Nat)(env:Env)(loc:List O):Option Out:=run prog ext (.k ⟨20,m,[],false⟩ (.code lT2 :: .inLoop lT2::qD0) env loc)
def wL1 (x:Tm):Bool:=x.op==2||(x.op==26||(x.op==27||x.op==28))
def hasN (l:List ByteArray)(s:ByteArray):Bool:=l.any fun a=>s.toList==a.toList
def nm1 (l:List ByteArray)(x:Tm):List ByteArray:=if(wL1 x && !hasN l x.s)=true then l++[x.s] else l
theorem sV0 : aJ0 true 1 [] = .v (.slice none 0 0):=rfl
theorem pR0 (x:List D)(l:List (List D)):aJ0 true 1 (x::l) = .s 1 (x::l):=dV0 (by simp)
end
section
open Go
variable (ext:Ext)
def nms (l:List ByteArray):Tm→List ByteArray
 | .mk op n s u zu ls zl=>nmss (nm1 l (.mk op n s u zu ls zl)) ls
where nmss (l:List ByteArray):List Tm→List ByteArray
 | []=>l
 | x::r=>nmss (nms l x) r
theorem yB1 : ∀ (ls:List Tm)(l:List ByteArray),nms.nmss l ls=ls.foldl nms l
 | [],l=>rfl
 | x::r,l=>by rw[nms.nmss,yB1 r];rfl
theorem xZ1 (l:List ByteArray)(x:Tm):nms l x=x.l.foldl nms (nm1 l x):=by cases x;simp only[nms,yB1,Tm.l]
theorem nm1_ne {l:List ByteArray} (x:Tm)(h:l≠[]):nm1 l x≠[]:=by
 unfold nm1;split
 ·simp
 ·exact h
theorem uV1 {f:List ByteArray→Tm→List ByteArray}:∀ (ls:List Tm)(l:List ByteArray),(∀ x∈ls,∀ l,l≠[]→f l x≠[])→l≠[]→ls.foldl f l≠[]
 | [],_,_,h=>h
 | x::r,l,hf,h=>uV1 r (f l x) (fun y hy=>hf y (List.mem_cons_of_mem _ hy)) (hf x List.mem_cons_self l h)
theorem kL2 : ∀ (N:Nat)(x:Tm),x.sz≤N→∀ l,l≠[]→nms l x≠[]
 | 0,x,h,_,_=>by have:=x.sz_pos;omega
 | N+1,x,h,l,hl=>by
  rw[xZ1]
  exact uV1 x.l _ (fun y hy=>kL2 N y (by have:=Tm.sz_lt hy;omega)) (nm1_ne x hl)
theorem xY1 (l:List ByteArray)(x:Tm):(nm1 l x).length≤l.length+1:=by
 unfold nm1;split <;> simp
theorem zT0 {f:List ByteArray→Tm→List ByteArray}:∀ (ls:List Tm)(l:List ByteArray),(∀ x∈ls,∀ l,(f l x).length≤l.length+x.sz)→(ls.foldl f l).length≤l.length+(ls.map Tm.sz).sum
 | [],_,_=>by simp
 | x::r,l,hf=>by
  have h1:=zT0 r (f l x) (fun y hy=>hf y (List.mem_cons_of_mem _ hy))
  have h2:=hf x List.mem_cons_self l
  simp only[List.foldl_cons,List.map_cons,List.sum_cons];omega
theorem yA1 : ∀ (N:Nat)(x:Tm),x.sz≤N→∀ l,(nms l x).length≤l.length+x.sz
 | 0,x,h,_=>by have:=x.sz_pos;omega
 | N+1,x,h,l=>by
  rw[xZ1]
  have h1:=zT0 x.l (nm1 l x) (fun y hy=>yA1 N y (by have:=Tm.sz_lt hy;omega))
  have h2:=xY1 l x
  have h3:=x.sz_eq
  omega
theorem gS0 {α σ:Type} (l:List α)(S:Int→σ→Option Out)(I:Nat→σ→Prop)(Q:Option Out→Prop)(hl:l.length<2^50)
  (hstep:∀ (k:Nat) (x:α) (s:σ),I k s→l[k]? = some x→(k:Int)<l.length→∃ s',I (k+1) s'∧∀ out,S (wr ((k:Int)+1)) s'=out→S k s=out)
  (hdone:∀ s,I l.length s→Q (S l.length s)) (s0:σ) (h0:I 0 s0):Q (S 0 s0):=by
 have key:∀ (m k:Nat) (s:σ),k+m=l.length→I k s→Q (S k s):=by
  intro m
  induction m with
  | zero=>intro k s hk hI;rw[show k=l.length by omega]at hI ⊢;exact hdone s hI
  | succ m ih=>
   intro k s hk hI
   have hlt:k<l.length:=by omega
   obtain⟨s',h1,h2⟩:=hstep k l[k] s hI (by simp[hlt]) (by omega)
   have hw:wr ((k:Int)+1)=((k+1:Nat):Int):=by rw[gL0 (by omega) (by omega)];omega
   rw[h2 _ rfl,hw]
   exact ih (k+1) s' (by omega) h1
 exact key l.length 0 s0 (by omega) h0
section
variable (rec:Rec) (y:Tm) (o1:O)
end
section
variable (rec:Rec) (y:Tm) (o1:O)
end
theorem zU1 {f:List ByteArray→Tm→List ByteArray}{ls:List Tm}{k:Nat}{y:Tm} (l:List ByteArray)(hk:ls[k]? = some y):(ls.take (k+1)).foldl f l=f ((ls.take k).foldl f l) y:=by
 rw[List.take_add_one,hk]
 simp
def chg' (l l':List ByteArray)(g:Bool):Prop:=(g=false→l=[]∨l'=l)∧(g=true→l≠[]∧l'≠[])
end
end Go.Proofs.YteenjodhmppgjaaGreatDoor.Am
