/- A part of the proof of a card. No conditions. -/
import Derived.Test.YteenjodhmppgjaaGreatDoorPc2
set_option linter.all false
set_option maxHeartbeats 16000000
set_option maxRecDepth 10000
namespace Go.Proofs.YteenjodhmppgjaaGreatDoor.Am
open Go.Proofs.Tryz
section
open Go
variable (ext:Ext)
def tabM : List Int:=[0,2000,0,0,0,3,1,1,3,3,0,0,0,0,0,0,0,1,0,0,0,0,0,0,0,1,0,7,1,2000,0]
def eQ0 (op:Int):Int:=tabM.getD op.toNat 0
def oneO (op:Int):Bool:=[(3:Int),(18:Int),(19:Int),(20:Int),(21:Int),(22:Int),(23:Int),(25:Int)].contains op
def levO (op:Int):Int:=if oneO op=true then 1 else 0
def gA2 (op:Int):Bool:=[(2:Int),26,27,28].contains op
noncomputable def B175 : Code:=(f175.body).getD .skip
theorem of175 (hx:ext 175=none)(op:Int)(h1:1≤op)(h2:op≤30):run prog ext (.call 175 [iV op] [])=some (.ret [iV (opP op)] []):=by
 rcases jD1 h1 h2 with rfl | rfl | rfl | rfl | rfl | rfl | rfl | rfl | rfl | rfl | rfl | rfl | rfl | rfl | rfl | rfl | rfl | rfl | rfl | rfl | rfl | rfl | rfl | rfl | rfl | rfl | rfl | rfl | rfl | rfl
 all_goals exact lM1 ext 175 f175 B175 hx func175 (by kernel_rfl) (Nat.le_of_ble_eq_true (by kernel_rfl)) _ _ ((cY0 _ _ _ _).2 ⟨400,by kernel_rfl⟩)
noncomputable def B176 : Code:=(f176.body).getD .skip
theorem of176 (hx:ext 176=none)(op:Int)(h1:1≤op)(h2:op≤30):run prog ext (.call 176 [iV op] [])=some (.ret [bV (oneO op)] []):=by
 rcases jD1 h1 h2 with rfl | rfl | rfl | rfl | rfl | rfl | rfl | rfl | rfl | rfl | rfl | rfl | rfl | rfl | rfl | rfl | rfl | rfl | rfl | rfl | rfl | rfl | rfl | rfl | rfl | rfl | rfl | rfl | rfl | rfl
 all_goals exact lM1 ext 176 f176 B176 hx func176 (by kernel_rfl) (Nat.le_of_ble_eq_true (by kernel_rfl)) _ _ ((cY0 _ _ _ _).2 ⟨400,by kernel_rfl⟩)
noncomputable def B177 : Code:=(f177.body).getD .skip
theorem of177 (hx:ext 177=none)(op:Int)(h1:1≤op)(h2:op≤30):run prog ext (.call 177 [iV op] [])=some (.ret [bV (gA2 op)] []):=by
 rcases jD1 h1 h2 with rfl | rfl | rfl | rfl | rfl | rfl | rfl | rfl | rfl | rfl | rfl | rfl | rfl | rfl | rfl | rfl | rfl | rfl | rfl | rfl | rfl | rfl | rfl | rfl | rfl | rfl | rfl | rfl | rfl | rfl
 all_goals exact lM1 ext 177 f177 B177 hx func177 (by kernel_rfl) (Nat.le_of_ble_eq_true (by kernel_rfl)) _ _ ((cY0 _ _ _ _).2 ⟨400,by kernel_rfl⟩)
theorem gW2 (hx:ext 175=none)(op:Int)(h:¬ (1≤op∧op≤30)):run prog ext (.call 175 [iV op] [])=some (.ret [iV (-2)] []):=by
 have e1:(op==1)=false:=beq_eq_false_iff_ne.2 (by omega)
 have e2:(op==2)=false:=beq_eq_false_iff_ne.2 (by omega)
 have e3:(op==3)=false:=beq_eq_false_iff_ne.2 (by omega)
 have e4:(op==4)=false:=beq_eq_false_iff_ne.2 (by omega)
 have e5:(op==5)=false:=beq_eq_false_iff_ne.2 (by omega)
 have e6:(op==6)=false:=beq_eq_false_iff_ne.2 (by omega)
 have e7:(op==7)=false:=beq_eq_false_iff_ne.2 (by omega)
 have e8:(op==8)=false:=beq_eq_false_iff_ne.2 (by omega)
 have e9:(op==9)=false:=beq_eq_false_iff_ne.2 (by omega)
 have e10:(op==10)=false:=beq_eq_false_iff_ne.2 (by omega)
 have e11:(op==11)=false:=beq_eq_false_iff_ne.2 (by omega)
 have e12:(op==12)=false:=beq_eq_false_iff_ne.2 (by omega)
 have e13:(op==13)=false:=beq_eq_false_iff_ne.2 (by omega)
 have e14:(op==14)=false:=beq_eq_false_iff_ne.2 (by omega)
 have e15:(op==15)=false:=beq_eq_false_iff_ne.2 (by omega)
 have e16:(op==16)=false:=beq_eq_false_iff_ne.2 (by omega)
 have e17:(op==17)=false:=beq_eq_false_iff_ne.2 (by omega)
 have e18:(op==18)=false:=beq_eq_false_iff_ne.2 (by omega)
 have e19:(op==19)=false:=beq_eq_false_iff_ne.2 (by omega)
 have e20:(op==20)=false:=beq_eq_false_iff_ne.2 (by omega)
 have e21:(op==21)=false:=beq_eq_false_iff_ne.2 (by omega)
 have e22:(op==22)=false:=beq_eq_false_iff_ne.2 (by omega)
 have e23:(op==23)=false:=beq_eq_false_iff_ne.2 (by omega)
 have e24:(op==24)=false:=beq_eq_false_iff_ne.2 (by omega)
 have e25:(op==25)=false:=beq_eq_false_iff_ne.2 (by omega)
 have e26:(op==26)=false:=beq_eq_false_iff_ne.2 (by omega)
 have e27:(op==27)=false:=beq_eq_false_iff_ne.2 (by omega)
 have e28:(op==28)=false:=beq_eq_false_iff_ne.2 (by omega)
 have e29:(op==29)=false:=beq_eq_false_iff_ne.2 (by omega)
 have e30:(op==30)=false:=beq_eq_false_iff_ne.2 (by omega)
 (rw[enT hx func175 rfl];simp only[f175,zR,simprocAttr,zE])
 simp only[iV]
 simp only[zS,zD,e1,e2,e3,e4,e5,e6,e7,e8,e9,e10,e11,e12,e13,e14,e15,e16,e17,e18,e19,e20,e21,e22,e23,e24,e25,e26,e27,e28,e29,e30,simprocAttr]
 (refine .trans ?_ rfl;kernel_rfl)
def uK2 (op n:Int):Bool:=decide (0≤n)&&decide (n≤eQ0 op)
theorem num180 (hx:ext 180=none)(x:Tm)(h1:1≤x.op)(h2:x.op≤30):run prog ext (.call 180 [tmV x] [])=some (.ret [bV (uK2 x.op x.n)] []):=by
 unfold uK2
 rcases jD1 h1 h2 with h | h | h | h | h | h | h | h | h | h | h | h | h | h | h | h | h | h | h | h | h | h | h | h | h | h | h | h | h | h
 ·rw[h,show eQ0 1=2000 from rfl]
  cases hn:decide (0≤x.n)
  all_goals
   simp only[Bool.false_and,Bool.true_and]
   (rw[enT hx func180 rfl];simp only[f180,zR,simprocAttr,zE])
   simp only[tmV,tmC,bV]
   simp only[zS,zD,zT33,zT3,h,ge_iff_le,hn,simprocAttr]
   (refine .trans ?_ rfl;kernel_rfl)
 ·rw[h,show eQ0 2=0 from rfl]
  have g:(decide (0≤x.n)&&decide (x.n≤0))=(x.n==0):=by rw[Bool.eq_iff_iff,Bool.and_eq_true,decide_eq_true_eq,decide_eq_true_eq,beq_iff_eq];omega
  rw[g]
  (rw[enT hx func180 rfl];simp only[f180,zR,simprocAttr,zE])
  simp only[tmV,tmC,bV]
  simp only[zS,zD,zT33,zT3,h,simprocAttr]
  (refine .trans ?_ rfl;kernel_rfl)
 ·rw[h,show eQ0 3=0 from rfl]
  have g:(decide (0≤x.n)&&decide (x.n≤0))=(x.n==0):=by rw[Bool.eq_iff_iff,Bool.and_eq_true,decide_eq_true_eq,decide_eq_true_eq,beq_iff_eq];omega
  rw[g]
  (rw[enT hx func180 rfl];simp only[f180,zR,simprocAttr,zE])
  simp only[tmV,tmC,bV]
  simp only[zS,zD,zT33,zT3,h,simprocAttr]
  (refine .trans ?_ rfl;kernel_rfl)
 ·rw[h,show eQ0 4=0 from rfl]
  have g:(decide (0≤x.n)&&decide (x.n≤0))=(x.n==0):=by rw[Bool.eq_iff_iff,Bool.and_eq_true,decide_eq_true_eq,decide_eq_true_eq,beq_iff_eq];omega
  rw[g]
  (rw[enT hx func180 rfl];simp only[f180,zR,simprocAttr,zE])
  simp only[tmV,tmC,bV]
  simp only[zS,zD,zT33,zT3,h,simprocAttr]
  (refine .trans ?_ rfl;kernel_rfl)
 ·rw[h,show eQ0 5=3 from rfl]
  cases hn:decide (0≤x.n)
  all_goals
   simp only[Bool.false_and,Bool.true_and]
   (rw[enT hx func180 rfl];simp only[f180,zR,simprocAttr,zE])
   simp only[tmV,tmC,bV]
   simp only[zS,zD,zT33,zT3,h,ge_iff_le,hn,simprocAttr]
   (refine .trans ?_ rfl;kernel_rfl)
 ·rw[h,show eQ0 6=1 from rfl]
  cases h0:(x.n==0)
  all_goals
   have g:(decide (0≤x.n)&&decide (x.n≤1))=((x.n==0)||(x.n==1)):=by rw[Bool.eq_iff_iff,Bool.and_eq_true,Bool.or_eq_true,decide_eq_true_eq,decide_eq_true_eq,beq_iff_eq,beq_iff_eq];omega
   rw[g,h0]
   simp only[Bool.false_or,Bool.true_or]
   (rw[enT hx func180 rfl];simp only[f180,zR,simprocAttr,zE])
   simp only[tmV,tmC,bV]
   simp only[zS,zD,zT33,zT3,h,h0,simprocAttr]
   (refine .trans ?_ rfl;kernel_rfl)
 ·rw[h,show eQ0 7=1 from rfl]
  cases h0:(x.n==0)
  all_goals
   have g:(decide (0≤x.n)&&decide (x.n≤1))=((x.n==0)||(x.n==1)):=by rw[Bool.eq_iff_iff,Bool.and_eq_true,Bool.or_eq_true,decide_eq_true_eq,decide_eq_true_eq,beq_iff_eq,beq_iff_eq];omega
   rw[g,h0]
   simp only[Bool.false_or,Bool.true_or]
   (rw[enT hx func180 rfl];simp only[f180,zR,simprocAttr,zE])
   simp only[tmV,tmC,bV]
   simp only[zS,zD,zT33,zT3,h,h0,simprocAttr]
   (refine .trans ?_ rfl;kernel_rfl)
 ·rw[h,show eQ0 8=3 from rfl]
  cases hn:decide (0≤x.n)
  all_goals
   simp only[Bool.false_and,Bool.true_and]
   (rw[enT hx func180 rfl];simp only[f180,zR,simprocAttr,zE])
   simp only[tmV,tmC,bV]
   simp only[zS,zD,zT33,zT3,h,ge_iff_le,hn,simprocAttr]
   (refine .trans ?_ rfl;kernel_rfl)
 ·rw[h,show eQ0 9=3 from rfl]
  cases hn:decide (0≤x.n)
  all_goals
   simp only[Bool.false_and,Bool.true_and]
   (rw[enT hx func180 rfl];simp only[f180,zR,simprocAttr,zE])
   simp only[tmV,tmC,bV]
   simp only[zS,zD,zT33,zT3,h,ge_iff_le,hn,simprocAttr]
   (refine .trans ?_ rfl;kernel_rfl)
 ·rw[h,show eQ0 10=0 from rfl]
  have g:(decide (0≤x.n)&&decide (x.n≤0))=(x.n==0):=by rw[Bool.eq_iff_iff,Bool.and_eq_true,decide_eq_true_eq,decide_eq_true_eq,beq_iff_eq];omega
  rw[g]
  (rw[enT hx func180 rfl];simp only[f180,zR,simprocAttr,zE])
  simp only[tmV,tmC,bV]
  simp only[zS,zD,zT33,zT3,h,simprocAttr]
  (refine .trans ?_ rfl;kernel_rfl)
 ·rw[h,show eQ0 11=0 from rfl]
  have g:(decide (0≤x.n)&&decide (x.n≤0))=(x.n==0):=by rw[Bool.eq_iff_iff,Bool.and_eq_true,decide_eq_true_eq,decide_eq_true_eq,beq_iff_eq];omega
  rw[g]
  (rw[enT hx func180 rfl];simp only[f180,zR,simprocAttr,zE])
  simp only[tmV,tmC,bV]
  simp only[zS,zD,zT33,zT3,h,simprocAttr]
  (refine .trans ?_ rfl;kernel_rfl)
 ·rw[h,show eQ0 12=0 from rfl]
  have g:(decide (0≤x.n)&&decide (x.n≤0))=(x.n==0):=by rw[Bool.eq_iff_iff,Bool.and_eq_true,decide_eq_true_eq,decide_eq_true_eq,beq_iff_eq];omega
  rw[g]
  (rw[enT hx func180 rfl];simp only[f180,zR,simprocAttr,zE])
  simp only[tmV,tmC,bV]
  simp only[zS,zD,zT33,zT3,h,simprocAttr]
  (refine .trans ?_ rfl;kernel_rfl)
 ·rw[h,show eQ0 13=0 from rfl]
  have g:(decide (0≤x.n)&&decide (x.n≤0))=(x.n==0):=by rw[Bool.eq_iff_iff,Bool.and_eq_true,decide_eq_true_eq,decide_eq_true_eq,beq_iff_eq];omega
  rw[g]
  (rw[enT hx func180 rfl];simp only[f180,zR,simprocAttr,zE])
  simp only[tmV,tmC,bV]
  simp only[zS,zD,zT33,zT3,h,simprocAttr]
  (refine .trans ?_ rfl;kernel_rfl)
 ·rw[h,show eQ0 14=0 from rfl]
  have g:(decide (0≤x.n)&&decide (x.n≤0))=(x.n==0):=by rw[Bool.eq_iff_iff,Bool.and_eq_true,decide_eq_true_eq,decide_eq_true_eq,beq_iff_eq];omega
  rw[g]
  (rw[enT hx func180 rfl];simp only[f180,zR,simprocAttr,zE])
  simp only[tmV,tmC,bV]
  simp only[zS,zD,zT33,zT3,h,simprocAttr]
  (refine .trans ?_ rfl;kernel_rfl)
 ·rw[h,show eQ0 15=0 from rfl]
  have g:(decide (0≤x.n)&&decide (x.n≤0))=(x.n==0):=by rw[Bool.eq_iff_iff,Bool.and_eq_true,decide_eq_true_eq,decide_eq_true_eq,beq_iff_eq];omega
  rw[g]
  (rw[enT hx func180 rfl];simp only[f180,zR,simprocAttr,zE])
  simp only[tmV,tmC,bV]
  simp only[zS,zD,zT33,zT3,h,simprocAttr]
  (refine .trans ?_ rfl;kernel_rfl)
 ·rw[h,show eQ0 16=0 from rfl]
  have g:(decide (0≤x.n)&&decide (x.n≤0))=(x.n==0):=by rw[Bool.eq_iff_iff,Bool.and_eq_true,decide_eq_true_eq,decide_eq_true_eq,beq_iff_eq];omega
  rw[g]
  (rw[enT hx func180 rfl];simp only[f180,zR,simprocAttr,zE])
  simp only[tmV,tmC,bV]
  simp only[zS,zD,zT33,zT3,h,simprocAttr]
  (refine .trans ?_ rfl;kernel_rfl)
 ·rw[h,show eQ0 17=1 from rfl]
  cases h0:(x.n==0)
  all_goals
   have g:(decide (0≤x.n)&&decide (x.n≤1))=((x.n==0)||(x.n==1)):=by rw[Bool.eq_iff_iff,Bool.and_eq_true,Bool.or_eq_true,decide_eq_true_eq,decide_eq_true_eq,beq_iff_eq,beq_iff_eq];omega
   rw[g,h0]
   simp only[Bool.false_or,Bool.true_or]
   (rw[enT hx func180 rfl];simp only[f180,zR,simprocAttr,zE])
   simp only[tmV,tmC,bV]
   simp only[zS,zD,zT33,zT3,h,h0,simprocAttr]
   (refine .trans ?_ rfl;kernel_rfl)
 ·rw[h,show eQ0 18=0 from rfl]
  have g:(decide (0≤x.n)&&decide (x.n≤0))=(x.n==0):=by rw[Bool.eq_iff_iff,Bool.and_eq_true,decide_eq_true_eq,decide_eq_true_eq,beq_iff_eq];omega
  rw[g]
  (rw[enT hx func180 rfl];simp only[f180,zR,simprocAttr,zE])
  simp only[tmV,tmC,bV]
  simp only[zS,zD,zT33,zT3,h,simprocAttr]
  (refine .trans ?_ rfl;kernel_rfl)
 ·rw[h,show eQ0 19=0 from rfl]
  have g:(decide (0≤x.n)&&decide (x.n≤0))=(x.n==0):=by rw[Bool.eq_iff_iff,Bool.and_eq_true,decide_eq_true_eq,decide_eq_true_eq,beq_iff_eq];omega
  rw[g]
  (rw[enT hx func180 rfl];simp only[f180,zR,simprocAttr,zE])
  simp only[tmV,tmC,bV]
  simp only[zS,zD,zT33,zT3,h,simprocAttr]
  (refine .trans ?_ rfl;kernel_rfl)
 ·rw[h,show eQ0 20=0 from rfl]
  have g:(decide (0≤x.n)&&decide (x.n≤0))=(x.n==0):=by rw[Bool.eq_iff_iff,Bool.and_eq_true,decide_eq_true_eq,decide_eq_true_eq,beq_iff_eq];omega
  rw[g]
  (rw[enT hx func180 rfl];simp only[f180,zR,simprocAttr,zE])
  simp only[tmV,tmC,bV]
  simp only[zS,zD,zT33,zT3,h,simprocAttr]
  (refine .trans ?_ rfl;kernel_rfl)
 ·rw[h,show eQ0 21=0 from rfl]
  have g:(decide (0≤x.n)&&decide (x.n≤0))=(x.n==0):=by rw[Bool.eq_iff_iff,Bool.and_eq_true,decide_eq_true_eq,decide_eq_true_eq,beq_iff_eq];omega
  rw[g]
  (rw[enT hx func180 rfl];simp only[f180,zR,simprocAttr,zE])
  simp only[tmV,tmC,bV]
  simp only[zS,zD,zT33,zT3,h,simprocAttr]
  (refine .trans ?_ rfl;kernel_rfl)
 ·rw[h,show eQ0 22=0 from rfl]
  have g:(decide (0≤x.n)&&decide (x.n≤0))=(x.n==0):=by rw[Bool.eq_iff_iff,Bool.and_eq_true,decide_eq_true_eq,decide_eq_true_eq,beq_iff_eq];omega
  rw[g]
  (rw[enT hx func180 rfl];simp only[f180,zR,simprocAttr,zE])
  simp only[tmV,tmC,bV]
  simp only[zS,zD,zT33,zT3,h,simprocAttr]
  (refine .trans ?_ rfl;kernel_rfl)
 ·rw[h,show eQ0 23=0 from rfl]
  have g:(decide (0≤x.n)&&decide (x.n≤0))=(x.n==0):=by rw[Bool.eq_iff_iff,Bool.and_eq_true,decide_eq_true_eq,decide_eq_true_eq,beq_iff_eq];omega
  rw[g]
  (rw[enT hx func180 rfl];simp only[f180,zR,simprocAttr,zE])
  simp only[tmV,tmC,bV]
  simp only[zS,zD,zT33,zT3,h,simprocAttr]
  (refine .trans ?_ rfl;kernel_rfl)
 ·rw[h,show eQ0 24=0 from rfl]
  have g:(decide (0≤x.n)&&decide (x.n≤0))=(x.n==0):=by rw[Bool.eq_iff_iff,Bool.and_eq_true,decide_eq_true_eq,decide_eq_true_eq,beq_iff_eq];omega
  rw[g]
  (rw[enT hx func180 rfl];simp only[f180,zR,simprocAttr,zE])
  simp only[tmV,tmC,bV]
  simp only[zS,zD,zT33,zT3,h,simprocAttr]
  (refine .trans ?_ rfl;kernel_rfl)
 ·rw[h,show eQ0 25=1 from rfl]
  cases h0:(x.n==0)
  all_goals
   have g:(decide (0≤x.n)&&decide (x.n≤1))=((x.n==0)||(x.n==1)):=by rw[Bool.eq_iff_iff,Bool.and_eq_true,Bool.or_eq_true,decide_eq_true_eq,decide_eq_true_eq,beq_iff_eq,beq_iff_eq];omega
   rw[g,h0]
   simp only[Bool.false_or,Bool.true_or]
   (rw[enT hx func180 rfl];simp only[f180,zR,simprocAttr,zE])
   simp only[tmV,tmC,bV]
   simp only[zS,zD,zT33,zT3,h,h0,simprocAttr]
   (refine .trans ?_ rfl;kernel_rfl)
 ·rw[h,show eQ0 26=0 from rfl]
  have g:(decide (0≤x.n)&&decide (x.n≤0))=(x.n==0):=by rw[Bool.eq_iff_iff,Bool.and_eq_true,decide_eq_true_eq,decide_eq_true_eq,beq_iff_eq];omega
  rw[g]
  (rw[enT hx func180 rfl];simp only[f180,zR,simprocAttr,zE])
  simp only[tmV,tmC,bV]
  simp only[zS,zD,zT33,zT3,h,simprocAttr]
  (refine .trans ?_ rfl;kernel_rfl)
 ·rw[h,show eQ0 27=7 from rfl]
  have g2:decide (x.n<8)=decide (x.n≤7):=by rw[Bool.eq_iff_iff,decide_eq_true_eq,decide_eq_true_eq];omega
  cases hn:decide (0≤x.n)
  all_goals
   simp only[Bool.false_and,Bool.true_and]
   (rw[enT hx func180 rfl];simp only[f180,zR,simprocAttr,zE])
   simp only[tmV,tmC,bV]
   simp only[zS,zD,zT33,zT3,h,ge_iff_le,hn,g2,simprocAttr]
   (refine .trans ?_ rfl;kernel_rfl)
 ·rw[h,show eQ0 28=1 from rfl]
  cases h0:(x.n==0)
  all_goals
   have g:(decide (0≤x.n)&&decide (x.n≤1))=((x.n==0)||(x.n==1)):=by rw[Bool.eq_iff_iff,Bool.and_eq_true,Bool.or_eq_true,decide_eq_true_eq,decide_eq_true_eq,beq_iff_eq,beq_iff_eq];omega
   rw[g,h0]
   simp only[Bool.false_or,Bool.true_or]
   (rw[enT hx func180 rfl];simp only[f180,zR,simprocAttr,zE])
   simp only[tmV,tmC,bV]
   simp only[zS,zD,zT33,zT3,h,h0,simprocAttr]
   (refine .trans ?_ rfl;kernel_rfl)
 ·rw[h,show eQ0 29=2000 from rfl]
  cases hn:decide (0≤x.n)
  all_goals
   simp only[Bool.false_and,Bool.true_and]
   (rw[enT hx func180 rfl];simp only[f180,zR,simprocAttr,zE])
   simp only[tmV,tmC,bV]
   simp only[zS,zD,zT33,zT3,h,ge_iff_le,hn,simprocAttr]
   (refine .trans ?_ rfl;kernel_rfl)
 ·rw[h,show eQ0 30=0 from rfl]
  have g:(decide (0≤x.n)&&decide (x.n≤0))=(x.n==0):=by rw[Bool.eq_iff_iff,Bool.and_eq_true,decide_eq_true_eq,decide_eq_true_eq,beq_iff_eq];omega
  rw[g]
  (rw[enT hx func180 rfl];simp only[f180,zR,simprocAttr,zE])
  simp only[tmV,tmC,bV]
  simp only[zS,zD,zT33,zT3,h,simprocAttr]
  (refine .trans ?_ rfl;kernel_rfl)
end
section
open Go
variable (ext:Ext)
noncomputable def B110 : Code:=(f110.body.getD .skip)
noncomputable def lR2 : Code:=sub B110 [1,1,1,1,1,1,0,1,0,0]
theorem xU0 : It.code lR2=It.code (sub B110 [1,1,1,1,1,1,0,1,0,0]):=rfl
noncomputable def gV1 : List It:=[.inBlock 0,.code (sub B110 [1,1,1,1,1,1,1])]
noncomputable def sA0 (ext:Ext)(m:Nat)(env:Env)(loc:List O):Option Out:=run prog ext (.k ⟨94,m,[.tmp 2],false⟩ (.code lR2 :: .inLoop lR2::gV1) env loc)
def xE0 (many:Bool)(lev:Int)(elim:Bool)(pq:Int)(x:Tm)(c nb:Bool):Bool:=
 (if elim=true then decide (3≤(x.l.length:Int))&&decide ((x.l.length:Int)≤11) else decide ((x.l.length:Int)=pq))&&((if many=true then decide ((x.u.length:Int)≤8) else decide ((x.u.length:Int)=lev)) &&
  (c&&((if many=true then cJ0 x.s else(x.s.toList==emptyS.toList))&&nb)))
def E110 (k:Int):Env:=[(1,.c (.ptr 0 0)),(5,iV k)]
def O110 (x:Tm):List O:=[.box (tmC x)]
theorem aA1 (x:Tm)(many nb:Bool)(hl:x.u.length<2^50)(h178:∀ y∈x.u,run prog ext (.call 178 [levV y] [])=some (.ret [bV (cX0 y)] []))(h177:run prog ext (.call 177 [iV x.op] [])=some (.ret [bV many] []))
  (hn:run prog ext (.call 179 [sV x.s] [])=some (.ret [bV (cJ0 x.s)] []))(h180:run prog ext (.call 180 [tmV x] [])=some (.ret [bV nb] [])) :
  sA0 ext 0 (E110 0) (O110 x)=some (.ret [bV (x.u.all cX0&&((if many=true then cJ0 x.s else(x.s.toList==emptyS.toList))&&nb))] []):=by
 have:=bS0 x.u (fun k=>sA0 ext 0 (E110 k) (O110 x)) (fun y=> !cX0 y) (fun _=>some (.ret [bV false] [])) (some (.ret [bV ((if many=true then cJ0 x.s else(x.s.toList==emptyS.toList))&&nb)] [])) (by omega) (fun k y hk hl=>by
   have h0:(0:Int)≤k:=by omega
   have hy:=h178 y (List.mem_of_getElem? hk)
   have hd:x.uD = .s 2 (x.u.map levD):=aM0 h0 (by simpa using hl)
   unfold sA0
   refine⟨fun hp=> ?_,fun hp out h=> ?_⟩
   ·have hp:cX0 y=false:=by simpa using hp
    rw[hp]at hy
    simp only[iV,bV,levV,levC,tmC,E110,O110,hd]at hy ⊢
    (rw[xU0];simp only[B110,gV1,sub,f110,↓reduceIte,zG])
    simp only[zS,zD,aT0,zT36,zT30,h0,hl,Int.toNat_natCast,hk,iR0 y,hy,simprocAttr]
    (refine .trans ?_ rfl;kernel_rfl)
   ·have hp:cX0 y=true:=by simpa using hp
    rw[hp]at hy
    simp only[iV,bV,levV,levC,tmC,E110,O110,hd]at hy h ⊢
    (rw[xU0];simp only[B110,gV1,sub,f110,↓reduceIte,zG])
    simp only[zS,zD,aT0,zT36,zT30,h0,hl,Int.toNat_natCast,hk,iR0 y,hy,simprocAttr]
    (refine(aA0 ?_).trans h;kernel_rfl)) (by
   unfold sA0
   cases many with
   | true=>
    rw[if_pos rfl]
    cases hs:cJ0 x.s with
    | false=>
     rw[hs]at hn
     rw[Bool.false_and]
     simp only[iV,bV,sV,tmV,tmC,Tm.uD,E110,O110]at h177 hn h180 ⊢
     (rw[xU0];simp only[B110,gV1,sub,f110,↓reduceIte,zG])
     simp only[zS,zD,zT33,zT30,zT9,zT3,Int.lt_irrefl,h177,hn,simprocAttr]
     (refine .trans ?_ rfl;kernel_rfl)
    | true=>
     rw[hs]at hn
     rw[Bool.true_and]
     simp only[iV,bV,sV,tmV,tmC,Tm.uD,E110,O110]at h177 hn h180 ⊢
     (rw[xU0];simp only[B110,gV1,sub,f110,↓reduceIte,zG])
     simp only[zS,zD,zT33,zT30,zT9,zT3,Int.lt_irrefl,h177,hn,h180,simprocAttr]
     (refine .trans ?_ rfl;kernel_rfl)
   | false=>
    rw[if_neg (by simp)]
    cases hs:(x.s.toList==emptyS.toList) with
    | false=>
     unfold emptyS at hs
     rw[Bool.false_and]
     simp only[iV,bV,sV,tmV,tmC,Tm.uD,E110,O110]at h177 hn h180 ⊢
     (rw[xU0];simp only[B110,gV1,sub,f110,↓reduceIte,zG])
     simp only[zS,zD,zT33,zT30,zT9,zT3,Int.lt_irrefl,h177,hs,simprocAttr]
     (refine .trans ?_ rfl;kernel_rfl)
    | true=>
     unfold emptyS at hs
     rw[Bool.true_and]
     simp only[iV,bV,sV,tmV,tmC,Tm.uD,E110,O110]at h177 hn h180 ⊢
     (rw[xU0];simp only[B110,gV1,sub,f110,↓reduceIte,zG])
     simp only[zS,zD,zT33,zT30,zT9,zT3,Int.lt_irrefl,h177,hs,h180,simprocAttr]
     (refine .trans ?_ rfl;kernel_rfl))
 rw[this]
 have hall:x.u.all cX0 = !(x.u.any fun y=> !cX0 y):=by rw[List.not_any_eq_all_not];simp
 rw[hall,← List.findIdx?_isSome]
 cases x.u.findIdx? (fun y=> !cX0 y) <;> rfl
theorem hF2 (hx:ext 110=none)(x:Tm)(nb:Bool)(h175:run prog ext (.call 175 [iV x.op] [])=some (.ret [iV (-1)] []))(h176:run prog ext (.call 176 [iV x.op] [])=some (.ret [bV false] []))(h177:run prog ext (.call 177 [iV x.op] [])=some (.ret [bV true] []))
  (hl:x.u.length<2^50) (h178:∀ y∈x.u,run prog ext (.call 178 [levV y] [])=some (.ret [bV (cX0 y)] [])) (hn:run prog ext (.call 179 [sV x.s] [])=some (.ret [bV (cJ0 x.s)] [])) (h180:run prog ext (.call 180 [tmV x] [])=some (.ret [bV nb] [])) :
  run prog ext (.call 110 [tmV x] [])=some (.ret [bV (xE0 true 0 true (-1) x (x.u.all cX0) nb)] []):=by
 have hloop:=aA1 ext x true nb hl h178 h177 hn h180
 unfold xE0
 simp only[if_true,reduceCtorEq]at hloop ⊢
 have d5:=dlt (x.l.length:Int) 3
 have d6:=dgt (x.l.length:Int) 11
 have d3:=dgt (x.u.length:Int) 8
 cases h0:decide (3≤(x.l.length:Int)) with
 | false=>
  rw[h0]at d5
  simp only[Bool.false_and]
  (rw[enT hx func110 rfl];simp only[f110,zR,simprocAttr,zE])
  simp only[tmV,tmC,iV,bV,Tm.uD]at h175 h176 h177 ⊢
  simp only[zS,zD,zT33,zT31,zT3,aI0,h175,d5,ge_iff_le,simprocAttr]
  (refine .trans ?_ rfl;kernel_rfl)
 | true=>
  rw[h0]at d5
  simp only[Bool.true_and]
  cases h1:decide ((x.l.length:Int)≤11) with
  | false=>
   rw[h1]at d6
   simp only[Bool.false_and]
   (rw[enT hx func110 rfl];simp only[f110,zR,simprocAttr,zE])
   simp only[tmV,tmC,iV,bV,Tm.uD]at h175 h176 h177 ⊢
   simp only[zS,zD,zT33,zT31,zT3,aI0,h175,d5,d6,ge_iff_le,simprocAttr]
   (refine .trans ?_ rfl;kernel_rfl)
  | true=>
   rw[h1]at d6
   simp only[Bool.true_and]
   cases h2:decide ((x.u.length:Int)≤8) with
   | false=>
    rw[h2]at d3
    simp only[Bool.false_and]
    (rw[enT hx func110 rfl];simp only[f110,zR,simprocAttr,zE])
    simp only[tmV,tmC,iV,bV,Tm.uD]at h175 h176 h177 ⊢
    simp only[zS,zD,zT33,zT31,zT30,zT3,aI0,h175,h176,h177,d5,d6,ge_iff_le,d3,simprocAttr]
    (refine .trans ?_ rfl;kernel_rfl)
   | true=>
    rw[h2]at d3
    simp only[Bool.true_and]
    refine Eq.trans ?_ hloop
    generalize hout:sA0 ext 0 (E110 0) (O110 x)=out
    have h:=hout
    unfold sA0 at h
    (rw[enT hx func110 rfl];simp only[f110,zR,simprocAttr,zE])
    simp only[tmV,tmC,iV,bV,Tm.uD,E110,O110]at h175 h176 h177 h ⊢
    simp only[zS,zD,zT33,zT31,zT30,zT3,aI0,h175,h176,h177,d5,d6,ge_iff_le,d3,simprocAttr]
    (refine(aA0 ?_).trans h;kernel_rfl)
theorem aP1 (hx:ext 110=none)(x:Tm)(nb:Bool)(pq:Int)(hpq:0≤pq)(h175:run prog ext (.call 175 [iV x.op] [])=some (.ret [iV pq] []))(h176:run prog ext (.call 176 [iV x.op] [])=some (.ret [bV false] []))(h177:run prog ext (.call 177 [iV x.op] [])=some (.ret [bV true] []))
  (hl:x.u.length<2^50) (h178:∀ y∈x.u,run prog ext (.call 178 [levV y] [])=some (.ret [bV (cX0 y)] [])) (hn:run prog ext (.call 179 [sV x.s] [])=some (.ret [bV (cJ0 x.s)] [])) (h180:run prog ext (.call 180 [tmV x] [])=some (.ret [bV nb] [])) :
  run prog ext (.call 110 [tmV x] [])=some (.ret [bV (xE0 true 0 false pq x (x.u.all cX0) nb)] []):=by
 have hloop:=aA1 ext x true nb hl h178 h177 hn h180
 unfold xE0
 simp only[if_true,if_false,Bool.false_eq_true]at hloop ⊢
 have q1:(pq == -2)=false:=beq_eq_false_iff_ne.2 (by omega)
 have q2:(pq == -1)=false:=beq_eq_false_iff_ne.2 (by omega)
 have q3:decide (0≤pq)=true:=decide_eq_true hpq
 have d5:=dne (x.l.length:Int) pq
 have d3:=dgt (x.u.length:Int) 8
 cases h0:decide ((x.l.length:Int)=pq) with
 | false=>
  rw[h0]at d5
  simp only[Bool.false_and]
  (rw[enT hx func110 rfl];simp only[f110,zR,simprocAttr,zE])
  simp only[tmV,tmC,iV,bV,Tm.uD]at h175 h176 h177 ⊢
  simp only[zS,zD,zT33,zT31,zT3,aI0,h175,d5,q1,q3,ge_iff_le,simprocAttr]
  (refine .trans ?_ rfl;kernel_rfl)
 | true=>
  rw[h0]at d5
  simp only[Bool.true_and]
  cases h1:decide ((x.u.length:Int)≤8) with
  | false=>
   rw[h1]at d3
   simp only[Bool.false_and]
   (rw[enT hx func110 rfl];simp only[f110,zR,simprocAttr,zE])
   simp only[tmV,tmC,iV,bV,Tm.uD]at h175 h176 h177 ⊢
   simp only[zS,zD,zT33,zT31,zT30,zT3,aI0,h175,h176,h177,d5,q1,q2,q3,ge_iff_le,d3,simprocAttr]
   (refine .trans ?_ rfl;kernel_rfl)
  | true=>
   rw[h1]at d3
   simp only[Bool.true_and]
   refine Eq.trans ?_ hloop
   generalize hout:sA0 ext 0 (E110 0) (O110 x)=out
   have h:=hout
   unfold sA0 at h
   (rw[enT hx func110 rfl];simp only[f110,zR,simprocAttr,zE])
   simp only[tmV,tmC,iV,bV,Tm.uD,E110,O110]at h175 h176 h177 h ⊢
   simp only[zS,zD,zT33,zT31,zT30,zT3,aI0,h175,h176,h177,d5,q1,q2,q3,ge_iff_le,d3,simprocAttr]
   (refine(aA0 ?_).trans h;kernel_rfl)
theorem jG0 (hx:ext 110=none)(x:Tm)(nb:Bool)(pq:Int)(hpq:0≤pq)(h175:run prog ext (.call 175 [iV x.op] [])=some (.ret [iV pq] []))(h176:run prog ext (.call 176 [iV x.op] [])=some (.ret [bV true] []))(h177:run prog ext (.call 177 [iV x.op] [])=some (.ret [bV false] []))
  (hl:x.u.length<2^50) (h178:∀ y∈x.u,run prog ext (.call 178 [levV y] [])=some (.ret [bV (cX0 y)] [])) (hn:run prog ext (.call 179 [sV x.s] [])=some (.ret [bV (cJ0 x.s)] [])) (h180:run prog ext (.call 180 [tmV x] [])=some (.ret [bV nb] [])) :
  run prog ext (.call 110 [tmV x] [])=some (.ret [bV (xE0 false 1 false pq x (x.u.all cX0) nb)] []):=by
 have hloop:=aA1 ext x false nb hl h178 h177 hn h180
 unfold xE0
 simp only[if_false,Bool.false_eq_true]at hloop ⊢
 have q1:(pq == -2)=false:=beq_eq_false_iff_ne.2 (by omega)
 have q2:(pq == -1)=false:=beq_eq_false_iff_ne.2 (by omega)
 have q3:decide (0≤pq)=true:=decide_eq_true hpq
 have d5:=dne (x.l.length:Int) pq
 have d3:=dne (x.u.length:Int) 1
 cases h0:decide ((x.l.length:Int)=pq) with
 | false=>
  rw[h0]at d5
  simp only[Bool.false_and]
  (rw[enT hx func110 rfl];simp only[f110,zR,simprocAttr,zE])
  simp only[tmV,tmC,iV,bV,Tm.uD]at h175 h176 h177 ⊢
  simp only[zS,zD,zT33,zT31,zT3,aI0,h175,d5,q1,q3,ge_iff_le,simprocAttr]
  (refine .trans ?_ rfl;kernel_rfl)
 | true=>
  rw[h0]at d5
  simp only[Bool.true_and]
  cases h1:decide ((x.u.length:Int)=1) with
  | false=>
   rw[h1]at d3
   simp only[Bool.false_and]
   (rw[enT hx func110 rfl];simp only[f110,zR,simprocAttr,zE])
   simp only[tmV,tmC,iV,bV,Tm.uD]at h175 h176 h177 ⊢
   simp only[zS,zD,zT33,zT31,zT30,zT3,aI0,h175,h176,h177,d5,q1,q2,q3,ge_iff_le,d3,simprocAttr]
   (refine .trans ?_ rfl;kernel_rfl)
  | true=>
   rw[h1]at d3
   have d8:decide ((x.u.length:Int)>8)=false:=decide_eq_false (by have:=of_decide_eq_true h1;omega)
   simp only[Bool.true_and]
   refine Eq.trans ?_ hloop
   generalize hout:sA0 ext 0 (E110 0) (O110 x)=out
   have h:=hout
   unfold sA0 at h
   (rw[enT hx func110 rfl];simp only[f110,zR,simprocAttr,zE])
   simp only[tmV,tmC,iV,bV,Tm.uD,E110,O110]at h175 h176 h177 h ⊢
   simp only[zS,zD,zT33,zT31,zT30,zT3,aI0,h175,h176,h177,d5,q1,q2,q3,ge_iff_le,d3,d8,simprocAttr]
   (refine(aA0 ?_).trans h;kernel_rfl)
theorem dO0 (hx:ext 110=none)(x:Tm)(nb:Bool)(pq:Int)(hpq:0≤pq)(h175:run prog ext (.call 175 [iV x.op] [])=some (.ret [iV pq] []))(h176:run prog ext (.call 176 [iV x.op] [])=some (.ret [bV false] []))(h177:run prog ext (.call 177 [iV x.op] [])=some (.ret [bV false] []))
  (hl:x.u.length<2^50) (h178:∀ y∈x.u,run prog ext (.call 178 [levV y] [])=some (.ret [bV (cX0 y)] [])) (hn:run prog ext (.call 179 [sV x.s] [])=some (.ret [bV (cJ0 x.s)] [])) (h180:run prog ext (.call 180 [tmV x] [])=some (.ret [bV nb] [])) :
  run prog ext (.call 110 [tmV x] [])=some (.ret [bV (xE0 false 0 false pq x (x.u.all cX0) nb)] []):=by
 have hloop:=aA1 ext x false nb hl h178 h177 hn h180
 unfold xE0
 simp only[if_false,Bool.false_eq_true]at hloop ⊢
 have q1:(pq == -2)=false:=beq_eq_false_iff_ne.2 (by omega)
 have q2:(pq == -1)=false:=beq_eq_false_iff_ne.2 (by omega)
 have q3:decide (0≤pq)=true:=decide_eq_true hpq
 have d5:=dne (x.l.length:Int) pq
 have d3:=dne (x.u.length:Int) 0
 cases h0:decide ((x.l.length:Int)=pq) with
 | false=>
  rw[h0]at d5
  simp only[Bool.false_and]
  (rw[enT hx func110 rfl];simp only[f110,zR,simprocAttr,zE])
  simp only[tmV,tmC,iV,bV,Tm.uD]at h175 h176 h177 ⊢
  simp only[zS,zD,zT33,zT31,zT3,aI0,h175,d5,q1,q3,ge_iff_le,simprocAttr]
  (refine .trans ?_ rfl;kernel_rfl)
 | true=>
  rw[h0]at d5
  simp only[Bool.true_and]
  cases h1:decide ((x.u.length:Int)=0) with
  | false=>
   rw[h1]at d3
   simp only[Bool.false_and]
   (rw[enT hx func110 rfl];simp only[f110,zR,simprocAttr,zE])
   simp only[tmV,tmC,iV,bV,Tm.uD]at h175 h176 h177 ⊢
   simp only[zS,zD,zT33,zT31,zT30,zT3,aI0,h175,h176,h177,d5,q1,q2,q3,ge_iff_le,d3,simprocAttr]
   (refine .trans ?_ rfl;kernel_rfl)
  | true=>
   rw[h1]at d3
   have d8:decide ((x.u.length:Int)>8)=false:=decide_eq_false (by have:=of_decide_eq_true h1;omega)
   simp only[Bool.true_and]
   refine Eq.trans ?_ hloop
   generalize hout:sA0 ext 0 (E110 0) (O110 x)=out
   have h:=hout
   unfold sA0 at h
   (rw[enT hx func110 rfl];simp only[f110,zR,simprocAttr,zE])
   simp only[tmV,tmC,iV,bV,Tm.uD,E110,O110]at h175 h176 h177 h ⊢
   simp only[zS,zD,zT33,zT31,zT30,zT3,aI0,h175,h176,h177,d5,q1,q2,q3,ge_iff_le,d3,d8,simprocAttr]
   (refine(aA0 ?_).trans h;kernel_rfl)
end
section
open Go
variable (ext:Ext)
noncomputable def B66 : Code:=(f66.body.getD .skip)
noncomputable def L66a : Code:=sub B66 [1,1,0,1,0,0]
theorem qZ2 : It.code L66a=It.code (sub B66 [1,1,0,1,0,0]):=rfl
noncomputable def K66a : List It:=[.inBlock 0,.code (sub B66 [1,1,1])]
noncomputable def H66a (ext:Ext)(m:Nat)(env:Env)(loc:List O):Option Out:=run prog ext (.k ⟨21,m,[.tmp 2],false⟩ (.code L66a :: .inLoop L66a::K66a) env loc)
def oB0 (x:Tm):Bool:=decide (1≤x.op)&&(decide (x.op≤30)&&iS0 (eQ0 x.op) (gA2 x.op) (levO x.op) (x.op==28) (opP x.op) x (x.u.all cX0))
theorem sZ2 (most:Int)(many:Bool)(lev:Int)(elim:Bool)(pq:Int)(x:Tm)(c:Bool):xE0 many lev elim pq x c (decide (0≤x.n)&&decide (x.n≤most))=iS0 most many lev elim pq x c:=by
 unfold xE0 iS0
 generalize (if many=true then decide ((x.u.length:Int)≤8) else decide ((x.u.length:Int)=lev))=a1
 generalize (if many=true then cJ0 x.s else(x.s.toList==emptyS.toList))=a2
 generalize (if elim=true then decide (3≤(x.l.length:Int))&&decide ((x.l.length:Int)≤11) else decide ((x.l.length:Int)=pq))=a3
 generalize decide (0≤x.n)=a4
 generalize decide (x.n≤most)=a5
 cases a1 <;> cases a2 <;> cases a3 <;> cases a4 <;> cases a5 <;> cases c <;> rfl
theorem nY2 (l:List Lev):(!(l.any fun y=> !cX0 y))=l.all cX0:=by rw[List.not_any_eq_all_not];simp
theorem sW2 (hx:ext 106=none)(h169:ext 169=none)(x:Tm)(hn:run prog ext (.call 170 [sV x.s] [])=some (.ret [bV (cJ0 x.s)] []))(ha:run prog ext (.call 171 [dV x.uD,.c (.fn 172 [] [])] [])=some (.ret [bV (x.u.any fun y=> !cX0 y)] [])) :
  run prog ext (.call 106 [tmV x] [])=some (.ret [bV (oB0 x)] []):=by
 unfold oB0
 by_cases h:1≤x.op∧x.op≤30
 ·obtain⟨h1,h2⟩:=h
  rw[decide_eq_true h1,decide_eq_true h2,Bool.true_and,Bool.true_and,← nY2]
  have hof:=of169 ext h169 x.op h1 h2
  rcases jD1 h1 h2 with h | h | h | h | h | h | h | h | h | h | h | h | h | h | h | h | h | h | h | h | h | h | h | h | h | h | h | h | h | h
  ·rw[h]at hof ⊢;exact kN2 ext hx x _ _ _ (by rw[h];exact hof) (by rw[h];rfl) hn ha
  ·rw[h]at hof ⊢;exact kM2 ext hx x _ _ _ (by rw[h];exact hof) (by rw[h];rfl) hn ha
  ·rw[h]at hof ⊢;exact wA0 ext hx x _ _ _ (by rw[h];exact hof) (by rw[h];rfl) hn ha
  ·rw[h]at hof ⊢;exact oC0 ext hx x _ _ _ (by rw[h];exact hof) (by rw[h];rfl) hn ha
  ·rw[h]at hof ⊢;exact jI1 ext hx x _ _ _ (by rw[h];exact hof) (by rw[h];rfl) hn ha
  ·rw[h]at hof ⊢;exact jH1 ext hx x _ _ _ (by rw[h];exact hof) (by rw[h];rfl) hn ha
  ·rw[h]at hof ⊢;exact jH1 ext hx x _ _ _ (by rw[h];exact hof) (by rw[h];rfl) hn ha
  ·rw[h]at hof ⊢;exact jI1 ext hx x _ _ _ (by rw[h];exact hof) (by rw[h];rfl) hn ha
  ·rw[h]at hof ⊢;exact jI1 ext hx x _ _ _ (by rw[h];exact hof) (by rw[h];rfl) hn ha
  ·rw[h]at hof ⊢;exact oC0 ext hx x _ _ _ (by rw[h];exact hof) (by rw[h];rfl) hn ha
  ·rw[h]at hof ⊢;exact oC0 ext hx x _ _ _ (by rw[h];exact hof) (by rw[h];rfl) hn ha
  ·rw[h]at hof ⊢;exact oC0 ext hx x _ _ _ (by rw[h];exact hof) (by rw[h];rfl) hn ha
  ·rw[h]at hof ⊢;exact oC0 ext hx x _ _ _ (by rw[h];exact hof) (by rw[h];rfl) hn ha
  ·rw[h]at hof ⊢;exact oC0 ext hx x _ _ _ (by rw[h];exact hof) (by rw[h];rfl) hn ha
  ·rw[h]at hof ⊢;exact oC0 ext hx x _ _ _ (by rw[h];exact hof) (by rw[h];rfl) hn ha
  ·rw[h]at hof ⊢;exact oC0 ext hx x _ _ _ (by rw[h];exact hof) (by rw[h];rfl) hn ha
  ·rw[h]at hof ⊢;exact jH1 ext hx x _ _ _ (by rw[h];exact hof) (by rw[h];rfl) hn ha
  ·rw[h]at hof ⊢;exact wA0 ext hx x _ _ _ (by rw[h];exact hof) (by rw[h];rfl) hn ha
  ·rw[h]at hof ⊢;exact wA0 ext hx x _ _ _ (by rw[h];exact hof) (by rw[h];rfl) hn ha
  ·rw[h]at hof ⊢;exact wA0 ext hx x _ _ _ (by rw[h];exact hof) (by rw[h];rfl) hn ha
  ·rw[h]at hof ⊢;exact wA0 ext hx x _ _ _ (by rw[h];exact hof) (by rw[h];rfl) hn ha
  ·rw[h]at hof ⊢;exact wA0 ext hx x _ _ _ (by rw[h];exact hof) (by rw[h];rfl) hn ha
  ·rw[h]at hof ⊢;exact wA0 ext hx x _ _ _ (by rw[h];exact hof) (by rw[h];rfl) hn ha
  ·rw[h]at hof ⊢;exact oC0 ext hx x _ _ _ (by rw[h];exact hof) (by rw[h];rfl) hn ha
  ·rw[h]at hof ⊢;exact uB2 ext hx x _ _ _ (by rw[h];exact hof) (by rw[h];rfl) hn ha
  ·rw[h]at hof ⊢;exact kM2 ext hx x _ _ _ (by rw[h];exact hof) (by rw[h];rfl) hn ha
  ·rw[h]at hof ⊢;exact uA2 ext hx x _ _ _ (by rw[h];exact hof) (by rw[h];rfl) hn ha
  ·rw[h]at hof ⊢;exact uC2 ext hx x _ _ _ (by rw[h];exact hof) (by rw[h];rfl) hn ha
  ·rw[h]at hof ⊢;exact kN2 ext hx x _ _ _ (by rw[h];exact hof) (by rw[h];rfl) hn ha
  ·rw[h]at hof ⊢;exact oC0 ext hx x _ _ _ (by rw[h];exact hof) (by rw[h];rfl) hn ha
 ·have hof:=gV2 ext h169 x.op h
  have e:(decide (1≤x.op)&&(decide (x.op≤30)&&iS0 (eQ0 x.op) (gA2 x.op) (levO x.op) (x.op==28) (opP x.op) x (x.u.all cX0)))=false:=by
   by_cases h1:1≤x.op
   ·have h2:¬ x.op≤30:=fun h2=>h ⟨h1,h2⟩
    rw[decide_eq_false h2,Bool.false_and,Bool.and_false]
   ·rw[decide_eq_false h1,Bool.false_and]
  rw[e]
  (rw[enT hx func106 rfl];simp only[f106,zR,simprocAttr,zE])
  simp only[tmV,tmC,bV,iV,Tm.uD]at hof ⊢
  simp only[zS,zD,cN0,bJ0,zT3,hof,aG0,simprocAttr]
  (refine .trans ?_ rfl;kernel_rfl)
theorem sY2 (hx:ext 110=none)(h175:ext 175=none)(h176:ext 176=none)(h177:ext 177=none)(h180:ext 180=none)(x:Tm)(hl:x.u.length<2^50)
  (h178:∀ y∈x.u,run prog ext (.call 178 [levV y] [])=some (.ret [bV (cX0 y)] [])) (hn:run prog ext (.call 179 [sV x.s] [])=some (.ret [bV (cJ0 x.s)] [])) :
  run prog ext (.call 110 [tmV x] [])=some (.ret [bV (oB0 x)] []):=by
 unfold oB0
 by_cases h:1≤x.op∧x.op≤30
 ·obtain⟨h1,h2⟩:=h
  rw[decide_eq_true h1,decide_eq_true h2,Bool.true_and,Bool.true_and]
  have p1:=of175 ext h175 x.op h1 h2
  have p2:=of176 ext h176 x.op h1 h2
  have p3:=of177 ext h177 x.op h1 h2
  have p4:=num180 ext h180 x h1 h2
  unfold uK2 at p4
  rw[← sZ2]
  rcases jD1 h1 h2 with h | h | h | h | h | h | h | h | h | h | h | h | h | h | h | h | h | h | h | h | h | h | h | h | h | h | h | h | h | h
  ·rw[h]at p1 p2 p3 p4 ⊢;exact dO0 ext hx x _ _ (by decide) (by rw[h];exact p1) (by rw[h];exact p2) (by rw[h];exact p3) hl h178 hn p4
  ·rw[h]at p1 p2 p3 p4 ⊢;exact aP1 ext hx x _ _ (by decide) (by rw[h];exact p1) (by rw[h];exact p2) (by rw[h];exact p3) hl h178 hn p4
  ·rw[h]at p1 p2 p3 p4 ⊢;exact jG0 ext hx x _ _ (by decide) (by rw[h];exact p1) (by rw[h];exact p2) (by rw[h];exact p3) hl h178 hn p4
  ·rw[h]at p1 p2 p3 p4 ⊢;exact dO0 ext hx x _ _ (by decide) (by rw[h];exact p1) (by rw[h];exact p2) (by rw[h];exact p3) hl h178 hn p4
  ·rw[h]at p1 p2 p3 p4 ⊢;exact dO0 ext hx x _ _ (by decide) (by rw[h];exact p1) (by rw[h];exact p2) (by rw[h];exact p3) hl h178 hn p4
  ·rw[h]at p1 p2 p3 p4 ⊢;exact dO0 ext hx x _ _ (by decide) (by rw[h];exact p1) (by rw[h];exact p2) (by rw[h];exact p3) hl h178 hn p4
  ·rw[h]at p1 p2 p3 p4 ⊢;exact dO0 ext hx x _ _ (by decide) (by rw[h];exact p1) (by rw[h];exact p2) (by rw[h];exact p3) hl h178 hn p4
  ·rw[h]at p1 p2 p3 p4 ⊢;exact dO0 ext hx x _ _ (by decide) (by rw[h];exact p1) (by rw[h];exact p2) (by rw[h];exact p3) hl h178 hn p4
  ·rw[h]at p1 p2 p3 p4 ⊢;exact dO0 ext hx x _ _ (by decide) (by rw[h];exact p1) (by rw[h];exact p2) (by rw[h];exact p3) hl h178 hn p4
  ·rw[h]at p1 p2 p3 p4 ⊢;exact dO0 ext hx x _ _ (by decide) (by rw[h];exact p1) (by rw[h];exact p2) (by rw[h];exact p3) hl h178 hn p4
  ·rw[h]at p1 p2 p3 p4 ⊢;exact dO0 ext hx x _ _ (by decide) (by rw[h];exact p1) (by rw[h];exact p2) (by rw[h];exact p3) hl h178 hn p4
  ·rw[h]at p1 p2 p3 p4 ⊢;exact dO0 ext hx x _ _ (by decide) (by rw[h];exact p1) (by rw[h];exact p2) (by rw[h];exact p3) hl h178 hn p4
  ·rw[h]at p1 p2 p3 p4 ⊢;exact dO0 ext hx x _ _ (by decide) (by rw[h];exact p1) (by rw[h];exact p2) (by rw[h];exact p3) hl h178 hn p4
  ·rw[h]at p1 p2 p3 p4 ⊢;exact dO0 ext hx x _ _ (by decide) (by rw[h];exact p1) (by rw[h];exact p2) (by rw[h];exact p3) hl h178 hn p4
  ·rw[h]at p1 p2 p3 p4 ⊢;exact dO0 ext hx x _ _ (by decide) (by rw[h];exact p1) (by rw[h];exact p2) (by rw[h];exact p3) hl h178 hn p4
  ·rw[h]at p1 p2 p3 p4 ⊢;exact dO0 ext hx x _ _ (by decide) (by rw[h];exact p1) (by rw[h];exact p2) (by rw[h];exact p3) hl h178 hn p4
  ·rw[h]at p1 p2 p3 p4 ⊢;exact dO0 ext hx x _ _ (by decide) (by rw[h];exact p1) (by rw[h];exact p2) (by rw[h];exact p3) hl h178 hn p4
  ·rw[h]at p1 p2 p3 p4 ⊢;exact jG0 ext hx x _ _ (by decide) (by rw[h];exact p1) (by rw[h];exact p2) (by rw[h];exact p3) hl h178 hn p4
  ·rw[h]at p1 p2 p3 p4 ⊢;exact jG0 ext hx x _ _ (by decide) (by rw[h];exact p1) (by rw[h];exact p2) (by rw[h];exact p3) hl h178 hn p4
  ·rw[h]at p1 p2 p3 p4 ⊢;exact jG0 ext hx x _ _ (by decide) (by rw[h];exact p1) (by rw[h];exact p2) (by rw[h];exact p3) hl h178 hn p4
  ·rw[h]at p1 p2 p3 p4 ⊢;exact jG0 ext hx x _ _ (by decide) (by rw[h];exact p1) (by rw[h];exact p2) (by rw[h];exact p3) hl h178 hn p4
  ·rw[h]at p1 p2 p3 p4 ⊢;exact jG0 ext hx x _ _ (by decide) (by rw[h];exact p1) (by rw[h];exact p2) (by rw[h];exact p3) hl h178 hn p4
  ·rw[h]at p1 p2 p3 p4 ⊢;exact jG0 ext hx x _ _ (by decide) (by rw[h];exact p1) (by rw[h];exact p2) (by rw[h];exact p3) hl h178 hn p4
  ·rw[h]at p1 p2 p3 p4 ⊢;exact dO0 ext hx x _ _ (by decide) (by rw[h];exact p1) (by rw[h];exact p2) (by rw[h];exact p3) hl h178 hn p4
  ·rw[h]at p1 p2 p3 p4 ⊢;exact jG0 ext hx x _ _ (by decide) (by rw[h];exact p1) (by rw[h];exact p2) (by rw[h];exact p3) hl h178 hn p4
  ·rw[h]at p1 p2 p3 p4 ⊢;exact aP1 ext hx x _ _ (by decide) (by rw[h];exact p1) (by rw[h];exact p2) (by rw[h];exact p3) hl h178 hn p4
  ·rw[h]at p1 p2 p3 p4 ⊢;exact aP1 ext hx x _ _ (by decide) (by rw[h];exact p1) (by rw[h];exact p2) (by rw[h];exact p3) hl h178 hn p4
  ·rw[h]at p1 p2 p3 p4 ⊢;exact hF2 ext hx x _ (by rw[h];exact p1) (by rw[h];exact p2) (by rw[h];exact p3) hl h178 hn p4
  ·rw[h]at p1 p2 p3 p4 ⊢;exact dO0 ext hx x _ _ (by decide) (by rw[h];exact p1) (by rw[h];exact p2) (by rw[h];exact p3) hl h178 hn p4
  ·rw[h]at p1 p2 p3 p4 ⊢;exact dO0 ext hx x _ _ (by decide) (by rw[h];exact p1) (by rw[h];exact p2) (by rw[h];exact p3) hl h178 hn p4
 ·have p1:=gW2 ext h175 x.op h
  have e:(decide (1≤x.op)&&(decide (x.op≤30)&&iS0 (eQ0 x.op) (gA2 x.op) (levO x.op) (x.op==28) (opP x.op) x (x.u.all cX0)))=false:=by
   by_cases h1:1≤x.op
   ·have h2:¬ x.op≤30:=fun h2=>h ⟨h1,h2⟩
    rw[decide_eq_false h2,Bool.false_and,Bool.and_false]
   ·rw[decide_eq_false h1,Bool.false_and]
  rw[e]
  (rw[enT hx func110 rfl];simp only[f110,zR,simprocAttr,zE])
  simp only[tmV,tmC,bV,iV,Tm.uD]at p1 ⊢
  simp only[zS,zD,bJ0,zT3,p1,simprocAttr]
  (refine .trans ?_ rfl;kernel_rfl)
def formOK : Tm→Bool
 | .mk op n s u zu l zl=>oB0 (.mk op n s u zu l zl)&&forms l
where forms:List Tm→Bool
 | []=>true
 | x::r=>formOK x&&forms r
theorem eL2 (l:List Tm):formOK.forms l=l.all formOK:=by induction l <;> simp_all [formOK.forms]
theorem eE1 (x:Tm):formOK x=(oB0 x&&x.l.all formOK):=by cases x;simp only[formOK,eL2,Tm.l]
theorem clo108 (hx:ext 108=none)(x:Tm)(b:Bool)(hr:run prog ext (.call 64 [tmV x] [])=some (.ret [bV b] [])):run prog ext (.call 108 [tmV x] [])=some (.ret [bV (!b)] []):=by
 (rw[enT hx func108 rfl];simp only[f108,zR,simprocAttr,zE])
 simp only[tmV,tmC,bV]at hr ⊢
 simp only[zS,zD,zT33,hr,simprocAttr]
 (refine .trans ?_ rfl;kernel_rfl)
def F174 (x:Tm)(k:Int):Env:=[(0,dV x.lD),(1,.c (.fn 108 [] [])),(7,iV x.l.length),(8,iV k)]
theorem rN2 (hx:ext 174=none)(x:Tm)(hs:x.l.length<2^50)(p:Tm→Bool)(hr:∀ y∈x.l,run prog ext (.call 108 [tmV y] [])=some (.ret [bV (p y)] [])) :
  run prog ext (.call 174 [dV x.lD,.c (.fn 108 [] [])] [])=some (.ret [iV (ixOf (x.l.findIdx? p))] []):=by
 have he:∀ out,jL0 ext 0 (F174 x 0) []=out→run prog ext (.call 174 [dV x.lD,.c (.fn 108 [] [])] [])=out:=by
  intro out h
  unfold jL0 at h
  (rw[enT hx func174 rfl];simp only[f174,zR,simprocAttr,zE])
  simp only[dV,iV,F174]at h ⊢
  simp only[zS,zD,bL0,aI0,simprocAttr]
  (refine(aA0 ?_).trans h;kernel_rfl)
 refine he _ ?_
 have:=bS0 x.l (fun k=>jL0 ext 0 (F174 x k) []) p (fun k=>some (.ret [iV k] [])) (some (.ret [iV (-1)] [])) (by omega) (fun k y hk hl=>by
   have h0:(0:Int)≤k:=by omega
   have hy:=hr y (List.mem_of_getElem? hk)
   unfold jL0
   refine⟨fun hp=> ?_,fun hp out h=> ?_⟩
   ·rw[hp]at hy
    simp only[dV,iV,bV,tmV,tmC,F174,bC0 hl]at hy ⊢
    (rw[lL0];simp only[B174,qF0,sub,f174,↓reduceIte,zG])
    simp only[zS,zD,zT33,bL0,h0,hl,Int.toNat_natCast,hk,aH0 y,hy,simprocAttr]
    (refine .trans ?_ rfl;kernel_rfl)
   ·rw[hp]at hy
    simp only[dV,iV,bV,tmV,tmC,F174,bC0 hl]at hy h ⊢
    (rw[lL0];simp only[B174,qF0,sub,f174,↓reduceIte,zG])
    simp only[zS,zD,zT33,bL0,h0,hl,Int.toNat_natCast,hk,aH0 y,hy,simprocAttr]
    (refine(aA0 ?_).trans h;kernel_rfl)) (by
   unfold jL0
   simp only[dV,iV,F174]
   (rw[lL0];simp only[B174,qF0,sub,f174,↓reduceIte,zG])
   simp only[zS,zD,Int.lt_irrefl,simprocAttr]
   (refine .trans ?_ rfl;kernel_rfl))
 rw[this]
 cases x.l.findIdx? p <;> rfl
theorem oA2 (hx:ext 107=none)(x:Tm)(n:Int)(hr:run prog ext (.call 174 [dV x.lD,.c (.fn 108 [] [])] [])=some (.ret [iV n] [])) :
  run prog ext (.call 107 [dV x.lD,.c (.fn 108 [] [])] [])=some (.ret [bV (decide (0≤n))] []):=by
 (rw[enT hx func107 rfl];simp only[f107,zR,simprocAttr,zE])
 simp only[dV,iV,bV]at hr ⊢
 simp only[zS,zD,hr,ge_iff_le,simprocAttr]
 (refine .trans ?_ rfl;kernel_rfl)
theorem kN1 (l:List Tm)(p:Tm→Bool):(!(l.any fun y=> !p y))=l.all p:=by rw[List.not_any_eq_all_not];simp
theorem jS2 (hx:ext 64=none)(h107:ext 107=none)(h108:ext 108=none)(h174:ext 174=none)(I:Tm→Prop)(hI:∀ x,I x→∀ y∈x.l,I y)(hr:∀ x,I x→run prog ext (.call 106 [tmV x] [])=some (.ret [bV (oB0 x)] [])):∀ (N:Nat)(x:Tm),I x→x.sz≤N→N<2^50→run prog ext (.call 64 [tmV x] [])=some (.ret [bV (formOK x)] [])
 | 0,x,_,h,_=>by have:=x.sz_pos;omega
 | N+1,x,hi,h,hN=>by
  have hll:=x.len_lt
  have h1:=hr x hi
  have h2:=oA2 ext h107 x _ (rN2 ext h174 x (by omega) (fun y=> !formOK y) (fun y hy=>clo108 ext h108 y _ (jS2 hx h107 h108 h174 I hI hr N y (hI x hi y hy) (by have:=Tm.sz_lt hy;omega) (by omega))))
  rw[← nV0]at h2
  rw[eE1,← kN1]
  cases c:oB0 x with
  | false=>
   rw[c]at h1
   rw[Bool.false_and]
   (rw[enT hx func64 rfl];simp only[f64,zR,simprocAttr,zE])
   simp only[tmV,tmC,bV]at h1 ⊢
   simp only[zS,zD,zT33,h1,simprocAttr]
   (refine .trans ?_ rfl;kernel_rfl)
  | true=>
   rw[c]at h1
   rw[Bool.true_and]
   (rw[enT hx func64 rfl];simp only[f64,zR,simprocAttr,zE])
   simp only[tmV,tmC,dV,bV]at h1 h2 ⊢
   simp only[zS,zD,zT33,zT31,h1,h2,simprocAttr]
   (refine .trans ?_ rfl;kernel_rfl)
def E66 (k:Int):Env:=[(1,.c (.ptr 0 0)),(3,iV k)]
theorem jT2 (hx:ext 66=none)(I:Tm→Prop)(hI:∀ x,I x→∀ y∈x.l,I y)(hr:∀ x,I x→run prog ext (.call 110 [tmV x] [])=some (.ret [bV (oB0 x)] [])):∀ (N:Nat)(x:Tm),I x→x.sz≤N→N<2^50→run prog ext (.call 66 [tmV x] [])=some (.ret [bV (formOK x)] [])
 | 0,x,_,h,_=>by have:=x.sz_pos;omega
 | N+1,x,hi,h,hN=>by
  have hll:=x.len_lt
  have h1:=hr x hi
  rw[eE1]
  cases c:oB0 x with
  | false=>
   rw[c]at h1
   rw[Bool.false_and]
   (rw[enT hx func66 rfl];simp only[f66,zR,simprocAttr,zE])
   simp only[tmV,tmC,bV]at h1 ⊢
   simp only[zS,zD,zT33,h1,simprocAttr]
   (refine .trans ?_ rfl;kernel_rfl)
  | true=>
   rw[c]at h1
   rw[Bool.true_and]
   have he:∀ out,H66a ext 0 (E66 0) [.box (tmC x)]=out→run prog ext (.call 66 [tmV x] [])=out:=by
    intro out h
    unfold H66a at h
    (rw[enT hx func66 rfl];simp only[f66,zR,simprocAttr,zE])
    simp only[tmV,tmC,iV,bV,E66]at h1 h ⊢
    simp only[zS,zD,zT33,h1,simprocAttr]
    (refine(aA0 ?_).trans h;kernel_rfl)
   refine he _ ?_
   have:=bS0 x.l (fun k=>H66a ext 0 (E66 k) [.box (tmC x)]) (fun y=> !formOK y) (fun _=>some (.ret [bV false] [])) (some (.ret [bV true] [])) (by omega) (fun k y hk hl=>by
     have h0:(0:Int)≤k:=by omega
     have hy:=jT2 hx I hI hr N y (hI x hi y (List.mem_of_getElem? hk)) (by have:=Tm.sz_lt (List.mem_of_getElem? hk);omega) (by omega)
     unfold H66a
     refine⟨fun hp=> ?_,fun hp out h=> ?_⟩
     ·have hp:formOK y=false:=by simpa using hp
      rw[hp]at hy
      simp only[iV,bV,tmV,tmC,E66,bC0 hl]at hy ⊢
      (rw[qZ2];simp only[B66,K66a,sub,f66,↓reduceIte,zG])
      simp only[zS,zD,zT33,zT31,h0,hl,Int.toNat_natCast,hk,aH0 y,hy,simprocAttr]
      (refine .trans ?_ rfl;kernel_rfl)
     ·have hp:formOK y=true:=by simpa using hp
      rw[hp]at hy
      simp only[iV,bV,tmV,tmC,E66,bC0 hl]at hy h ⊢
      (rw[qZ2];simp only[B66,K66a,sub,f66,↓reduceIte,zG])
      simp only[zS,zD,zT33,zT31,h0,hl,Int.toNat_natCast,hk,aH0 y,hy,simprocAttr]
      (refine(aA0 ?_).trans h;kernel_rfl)) (by
     unfold H66a
     simp only[iV,tmC,E66]
     (rw[qZ2];simp only[B66,K66a,sub,f66,↓reduceIte,zG])
     simp only[zS,zD,bD0,zT31,aI0,Int.lt_irrefl,simprocAttr]
     (refine .trans ?_ rfl;kernel_rfl))
   rw[this,← kN1,← List.findIdx?_isSome]
   cases x.l.findIdx? (fun y=> !formOK y) <;> rfl
end
end Go.Proofs.YteenjodhmppgjaaGreatDoor.Am
