/- A part of the proof of a card. No conditions. -/
import Derived.Test.YteenjodhmppgjaaGreatDoorPa2
import Derived.Test.YteenjodhmppgjaaGreatDoorProg
set_option linter.all false
set_option maxHeartbeats 16000000
set_option maxRecDepth 10000
namespace Go.Proofs.YteenjodhmppgjaaGreatDoor.Am
section
open Go
theorem named : cH1 Tryz.prog:=by unfold cH1;kernel_rfl
theorem mixes : Tryz.prog.follows .mixedOrders=true:=by kernel_rfl
theorem aggT_3 : aggT Tryz.prog 3=some false:=by kernel_rfl
theorem gT0 : cT0 Tryz.prog 3=some 1:=by kernel_rfl
theorem hZ0 : eJ0 Tryz.prog 3=some 8:=by kernel_rfl
theorem und_3 : Tryz.prog.underlying 3=some (.int .i64):=by kernel_rfl
theorem xE2 : wM0 Tryz.prog 3=some (.int .i64 0):=by kernel_rfl
theorem kJ1 : dT0 Tryz.prog 3=some [.d (.v (.int .i64 0))]:=by kernel_rfl
theorem rK1 : aggT Tryz.prog 4=some false:=by kernel_rfl
theorem jY1 : cT0 Tryz.prog 4=some 1:=by kernel_rfl
theorem und_4 : Tryz.prog.underlying 4=some .bool:=by kernel_rfl
theorem xF2 : wM0 Tryz.prog 4=some (.bool false):=by kernel_rfl
theorem aG2 : dT0 Tryz.prog 4=some [.d (.v (.bool false))]:=by kernel_rfl
theorem aggT_9 : aggT Tryz.prog 9=some false:=by kernel_rfl
theorem aY1 : cT0 Tryz.prog 9=some 1:=by kernel_rfl
theorem zH0 : eJ0 Tryz.prog 9=some 16:=by kernel_rfl
theorem iG0 : Tryz.prog.underlying 9=some .string:=by kernel_rfl
theorem xG2 : wM0 Tryz.prog 9=some (.string ⟨#[]⟩):=by kernel_rfl
theorem kK1 : dT0 Tryz.prog 9=some [.d (.v (.string ⟨#[]⟩))]:=by kernel_rfl
theorem nP2 : aggT Tryz.prog 22=some false:=by kernel_rfl
theorem hQ2 : cT0 Tryz.prog 22=some 1:=by kernel_rfl
theorem rX1 : eJ0 Tryz.prog 22=some 24:=by kernel_rfl
theorem nP1 : Tryz.prog.underlying 22=some (.slice 39):=by kernel_rfl
theorem sS0 : jJ0 Tryz.prog 22=some 39:=by kernel_rfl
theorem iW1 : dR0 Tryz.prog 22=true:=by kernel_rfl
theorem iV2 : wM0 Tryz.prog 22=some (.slice none 0 0):=by kernel_rfl
theorem jB2 : dT0 Tryz.prog 22=some [.d (.v (.slice none 0 0))]:=by kernel_rfl
theorem nQ2 : aggT Tryz.prog 24=some true:=by kernel_rfl
theorem hR2 : cT0 Tryz.prog 24=some 1:=by kernel_rfl
theorem rY1 : eJ0 Tryz.prog 24=some 24:=by kernel_rfl
theorem bO0 : dA0 Tryz.prog 24 0=some (0,22):=by kernel_rfl
theorem qA1 : hC0 Tryz.prog 24=some [(0,1)]:=by kernel_rfl
theorem jC2 : dT0 Tryz.prog 24=some [.d (.v (.slice none 0 0))]:=by kernel_rfl
theorem nR2 : aggT Tryz.prog 27=some false:=by kernel_rfl
theorem hT2 : cT0 Tryz.prog 27=some 1:=by kernel_rfl
theorem rZ1 : eJ0 Tryz.prog 27=some 8:=by kernel_rfl
theorem und_27 : Tryz.prog.underlying 27=some (.int .i64):=by kernel_rfl
theorem iW2 : wM0 Tryz.prog 27=some (.int .i64 0):=by kernel_rfl
theorem jD2 : dT0 Tryz.prog 27=some [.d (.v (.int .i64 0))]:=by kernel_rfl
theorem nS2 : aggT Tryz.prog 30=some false:=by kernel_rfl
theorem hU2 : cT0 Tryz.prog 30=some 1:=by kernel_rfl
theorem sA1 : eJ0 Tryz.prog 30=some 24:=by kernel_rfl
theorem eN0 : Tryz.prog.underlying 30=some (.slice 36):=by kernel_rfl
theorem zO0 : jJ0 Tryz.prog 30=some 36:=by kernel_rfl
theorem vM0 : dR0 Tryz.prog 30=true:=by kernel_rfl
theorem iX2 : wM0 Tryz.prog 30=some (.slice none 0 0):=by kernel_rfl
theorem jE2 : dT0 Tryz.prog 30=some [.d (.v (.slice none 0 0))]:=by kernel_rfl
theorem uL0 : aggT Tryz.prog 31=some false:=by kernel_rfl
theorem eS0 : cT0 Tryz.prog 31=some 1:=by kernel_rfl
theorem sB1 : eJ0 Tryz.prog 31=some 24:=by kernel_rfl
theorem bL0 : Tryz.prog.underlying 31=some (.slice 33):=by kernel_rfl
theorem nG0 : jJ0 Tryz.prog 31=some 33:=by kernel_rfl
theorem iX1 : dR0 Tryz.prog 31=true:=by kernel_rfl
theorem iY2 : wM0 Tryz.prog 31=some (.slice none 0 0):=by kernel_rfl
theorem jF2 : dT0 Tryz.prog 31=some [.d (.v (.slice none 0 0))]:=by kernel_rfl
theorem uM0 : aggT Tryz.prog 33=some true:=by kernel_rfl
theorem hG0 : cT0 Tryz.prog 33=some 5:=by kernel_rfl
theorem uV0 : eJ0 Tryz.prog 33=some 80:=by kernel_rfl
theorem bJ0 : dA0 Tryz.prog 33 0=some (0,3):=by kernel_rfl
theorem oJ0 : dA0 Tryz.prog 33 1=some (1,3):=by kernel_rfl
theorem iQ0 : dA0 Tryz.prog 33 2=some (2,9):=by kernel_rfl
theorem aT0 : dA0 Tryz.prog 33 3=some (3,30):=by kernel_rfl
theorem bD0 : dA0 Tryz.prog 33 4=some (4,31):=by kernel_rfl
theorem qB1 : hC0 Tryz.prog 33=some [(0,1),(1,1),(2,1),(3,1),(4,1)]:=by kernel_rfl
theorem bL1 : dT0 Tryz.prog 33=some [.d (.v (.int .i64 0)),.d (.v (.int .i64 0)),.d (.v (.string ⟨#[]⟩)),.d (.v (.slice none 0 0)),.d (.v (.slice none 0 0))]:=by kernel_rfl
theorem nT2 : aggT Tryz.prog 34=some false:=by kernel_rfl
theorem hV2 : cT0 Tryz.prog 34=some 1:=by kernel_rfl
theorem sC1 : eJ0 Tryz.prog 34=some 24:=by kernel_rfl
theorem dB0 : Tryz.prog.underlying 34=some (.slice 110):=by kernel_rfl
theorem nH0 : jJ0 Tryz.prog 34=some 110:=by kernel_rfl
theorem vN0 : dR0 Tryz.prog 34=true:=by kernel_rfl
theorem iZ2 : wM0 Tryz.prog 34=some (.slice none 0 0):=by kernel_rfl
theorem jG2 : dT0 Tryz.prog 34=some [.d (.v (.slice none 0 0))]:=by kernel_rfl
theorem nU2 : aggT Tryz.prog 36=some true:=by kernel_rfl
theorem nK1 : cT0 Tryz.prog 36=some 2:=by kernel_rfl
theorem dB1 : eJ0 Tryz.prog 36=some 32:=by kernel_rfl
theorem eK0 : dA0 Tryz.prog 36 0=some (0,3):=by kernel_rfl
theorem bF0 : dA0 Tryz.prog 36 1=some (1,34):=by kernel_rfl
theorem qC1 : hC0 Tryz.prog 36=some [(0,1),(1,1)]:=by kernel_rfl
theorem nU1 : dT0 Tryz.prog 36=some [.d (.v (.int .i64 0)),.d (.v (.slice none 0 0))]:=by kernel_rfl
theorem nV2 : aggT Tryz.prog 37=some false:=by kernel_rfl
theorem hW2 : cT0 Tryz.prog 37=some 1:=by kernel_rfl
theorem sD1 : eJ0 Tryz.prog 37=some 24:=by kernel_rfl
theorem lO0 : Tryz.prog.underlying 37=some (.slice 98):=by kernel_rfl
theorem dI2 : jJ0 Tryz.prog 37=some 98:=by kernel_rfl
theorem iY1 : dR0 Tryz.prog 37=true:=by kernel_rfl
theorem jA2 : wM0 Tryz.prog 37=some (.slice none 0 0):=by kernel_rfl
theorem jH2 : dT0 Tryz.prog 37=some [.d (.v (.slice none 0 0))]:=by kernel_rfl
theorem uN0 : aggT Tryz.prog 39=some true:=by kernel_rfl
theorem iF0 : cT0 Tryz.prog 39=some 23:=by kernel_rfl
theorem uW0 : eJ0 Tryz.prog 39=some 360:=by kernel_rfl
theorem aE0 : dA0 Tryz.prog 39 0=some (0,9):=by kernel_rfl
theorem vD0 : dA0 Tryz.prog 39 1=some (1,3):=by kernel_rfl
theorem bG0 : dA0 Tryz.prog 39 2=some (2,3):=by kernel_rfl
theorem iI1 : dA0 Tryz.prog 39 3=some (3,33):=by kernel_rfl
theorem iJ1 : dA0 Tryz.prog 39 4=some (8,33):=by kernel_rfl
theorem iK1 : dA0 Tryz.prog 39 5=some (13,33):=by kernel_rfl
theorem iL1 : dA0 Tryz.prog 39 6=some (18,36):=by kernel_rfl
theorem iM1 : dA0 Tryz.prog 39 7=some (20,36):=by kernel_rfl
theorem cM0 : dA0 Tryz.prog 39 8=some (22,37):=by kernel_rfl
theorem qD1 : hC0 Tryz.prog 39=some [(0,1),(1,1),(2,1),(3,5),(8,5),(13,5),(18,2),(20,2),(22,1)]:=by kernel_rfl
theorem bM1 : dT0 Tryz.prog 39=some [.d (.v (.string ⟨#[]⟩)),.d (.v (.int .i64 0)),.d (.v (.int .i64 0)),.d (.v (.int .i64 0)),.d (.v (.int .i64 0)),.d (.v (.string ⟨#[]⟩)),.d (.v (.slice none 0 0)),.d (.v (.slice none 0 0)),.d (.v (.int .i64 0)),.d (.v (.int .i64 0)),.d (.v (.string ⟨#[]⟩)),.d (.v (.slice none 0 0)),.d (.v (.slice none 0 0)),.d (.v (.int .i64 0)),.d (.v (.int .i64 0)),.d (.v (.string ⟨#[]⟩)),.d (.v (.slice none 0 0)),.d (.v (.slice none 0 0)),.d (.v (.int .i64 0)),.d (.v (.slice none 0 0)),.d (.v (.int .i64 0)),.d (.v (.slice none 0 0)),.d (.v (.slice none 0 0))]:=by kernel_rfl
theorem qK0 : aggT Tryz.prog 43=some false:=by kernel_rfl
theorem nM0 : cT0 Tryz.prog 43=some 1:=by kernel_rfl
theorem dN0 : Tryz.prog.underlying 43=some (.slice 3):=by kernel_rfl
theorem eP0 : jJ0 Tryz.prog 43=some 3:=by kernel_rfl
theorem vO0 : dR0 Tryz.prog 43=true:=by kernel_rfl
theorem nV1 : dT0 Tryz.prog 43=some [.d (.v (.slice none 0 0))]:=by kernel_rfl
theorem nW2 : aggT Tryz.prog 45=some true:=by kernel_rfl
theorem jH0 : cT0 Tryz.prog 45=some 2:=by kernel_rfl
theorem sE1 : eJ0 Tryz.prog 45=some 32:=by kernel_rfl
theorem bP0 : dA0 Tryz.prog 45 0=some (0,27):=by kernel_rfl
theorem iN1 : dA0 Tryz.prog 45 1=some (1,43):=by kernel_rfl
theorem qE1 : hC0 Tryz.prog 45=some [(0,1),(1,1)]:=by kernel_rfl
theorem bN1 : dT0 Tryz.prog 45=some [.d (.v (.int .i64 0)),.d (.v (.slice none 0 0))]:=by kernel_rfl
theorem aA2 : Tryz.prog.underlying 52=some (.slice 9):=by kernel_rfl
theorem zP0 : jJ0 Tryz.prog 52=some 9:=by kernel_rfl
theorem aR0 : iA0 Tryz.prog 85=true:=by kernel_rfl
theorem qL0 : aggT Tryz.prog 89=some false:=by kernel_rfl
theorem nN0 : cT0 Tryz.prog 89=some 1:=by kernel_rfl
theorem nX2 : aggT Tryz.prog 98=some true:=by kernel_rfl
theorem hX2 : cT0 Tryz.prog 98=some 6:=by kernel_rfl
theorem sF1 : eJ0 Tryz.prog 98=some 96:=by kernel_rfl
theorem iO1 : dA0 Tryz.prog 98 0=some (0,9):=by kernel_rfl
theorem iP1 : dA0 Tryz.prog 98 1=some (1,33):=by kernel_rfl
theorem qF1 : hC0 Tryz.prog 98=some [(0,1),(1,5)]:=by kernel_rfl
theorem jI2 : dT0 Tryz.prog 98=some [.d (.v (.string ⟨#[]⟩)),.d (.v (.int .i64 0)),.d (.v (.int .i64 0)),.d (.v (.string ⟨#[]⟩)),.d (.v (.slice none 0 0)),.d (.v (.slice none 0 0))]:=by kernel_rfl
theorem bM2 : aggT Tryz.prog 110=some true:=by kernel_rfl
theorem iY0 : cT0 Tryz.prog 110=some 2:=by kernel_rfl
theorem kA0 : eJ0 Tryz.prog 110=some 16:=by kernel_rfl
theorem jD0 : dA0 Tryz.prog 110 0=some (0,3):=by kernel_rfl
theorem dT1 : dA0 Tryz.prog 110 1=some (1,3):=by kernel_rfl
theorem jK1 : hC0 Tryz.prog 110=some [(0,1),(1,1)]:=by kernel_rfl
theorem wN0 : dT0 Tryz.prog 110=some [.d (.v (.int .i64 0)),.d (.v (.int .i64 0))]:=by kernel_rfl
theorem wE0 : hC0 Tryz.prog 128=some [(0,1),(1,1)]:=by kernel_rfl
theorem gS1 : dT0 Tryz.prog 128=some [.d (.v (.int .i64 0)),.d (.v (.slice none 0 0))]:=by kernel_rfl
theorem cC0 : vL0 Tryz.prog 133=true:=by kernel_rfl
theorem hS0 : Tryz.prog.underlying 144=some (.slice 110):=by kernel_rfl
theorem dO1 : jJ0 Tryz.prog 144=some 110:=by kernel_rfl
theorem eJ1 : dR0 Tryz.prog 144=true:=by kernel_rfl
theorem hD0 : aggT Tryz.prog 156=some false:=by kernel_rfl
theorem gB0 : cT0 Tryz.prog 156=some 1:=by kernel_rfl
theorem gT1 : dT0 Tryz.prog 156=some [.d (.v (.nilFunc))]:=by kernel_rfl
theorem bN2 : aggT Tryz.prog 186=some true:=by kernel_rfl
theorem zK1 : cT0 Tryz.prog 186=some 3:=by kernel_rfl
theorem oN1 : eJ0 Tryz.prog 186=some 32:=by kernel_rfl
theorem dU1 : dA0 Tryz.prog 186 0=some (0,9):=by kernel_rfl
theorem dV1 : dA0 Tryz.prog 186 1=some (1,3):=by kernel_rfl
theorem dW1 : dA0 Tryz.prog 186 2=some (2,3):=by kernel_rfl
theorem jL1 : hC0 Tryz.prog 186=some [(0,1),(1,1),(2,1)]:=by kernel_rfl
theorem aF2 : dT0 Tryz.prog 186=some [.d (.v (.string ⟨#[]⟩)),.d (.v (.int .i64 0)),.d (.v (.int .i64 0))]:=by kernel_rfl
theorem gL1 : cT0 Tryz.prog 225=some 93:=by kernel_rfl
theorem gU1 : dT0 Tryz.prog 225=some [.d (.v (.string ⟨#[]⟩)),.d (.v (.int .i64 0)),.d (.v (.int .i64 0)),.d (.v (.string ⟨#[]⟩)),.d (.v (.int .i64 0)),.d (.v (.int .i64 0)),.d (.v (.string ⟨#[]⟩)),.d (.v (.int .i64 0)),.d (.v (.int .i64 0)),.d (.v (.string ⟨#[]⟩)),.d (.v (.int .i64 0)),.d (.v (.int .i64 0)),.d (.v (.string ⟨#[]⟩)),.d (.v (.int .i64 0)),.d (.v (.int .i64 0)),.d (.v (.string ⟨#[]⟩)),.d (.v (.int .i64 0)),.d (.v (.int .i64 0)),.d (.v (.string ⟨#[]⟩)),.d (.v (.int .i64 0)),.d (.v (.int .i64 0)),.d (.v (.string ⟨#[]⟩)),.d (.v (.int .i64 0)),.d (.v (.int .i64 0)),.d (.v (.string ⟨#[]⟩)),.d (.v (.int .i64 0)),.d (.v (.int .i64 0)),.d (.v (.string ⟨#[]⟩)),.d (.v (.int .i64 0)),.d (.v (.int .i64 0)),.d (.v (.string ⟨#[]⟩)),.d (.v (.int .i64 0)),.d (.v (.int .i64 0)),.d (.v (.string ⟨#[]⟩)),.d (.v (.int .i64 0)),.d (.v (.int .i64 0)),.d (.v (.string ⟨#[]⟩)),.d (.v (.int .i64 0)),.d (.v (.int .i64 0)),.d (.v (.string ⟨#[]⟩)),.d (.v (.int .i64 0)),.d (.v (.int .i64 0)),.d (.v (.string ⟨#[]⟩)),.d (.v (.int .i64 0)),.d (.v (.int .i64 0)),.d (.v (.string ⟨#[]⟩)),.d (.v (.int .i64 0)),.d (.v (.int .i64 0)),.d (.v (.string ⟨#[]⟩)),.d (.v (.int .i64 0)),.d (.v (.int .i64 0)),.d (.v (.string ⟨#[]⟩)),.d (.v (.int .i64 0)),.d (.v (.int .i64 0)),.d (.v (.string ⟨#[]⟩)),.d (.v (.int .i64 0)),.d (.v (.int .i64 0)),.d (.v (.string ⟨#[]⟩)),.d (.v (.int .i64 0)),.d (.v (.int .i64 0)),.d (.v (.string ⟨#[]⟩)),.d (.v (.int .i64 0)),.d (.v (.int .i64 0)),.d (.v (.string ⟨#[]⟩)),.d (.v (.int .i64 0)),.d (.v (.int .i64 0)),.d (.v (.string ⟨#[]⟩)),.d (.v (.int .i64 0)),.d (.v (.int .i64 0)),.d (.v (.string ⟨#[]⟩)),.d (.v (.int .i64 0)),.d (.v (.int .i64 0)),.d (.v (.string ⟨#[]⟩)),.d (.v (.int .i64 0)),.d (.v (.int .i64 0)),.d (.v (.string ⟨#[]⟩)),.d (.v (.int .i64 0)),.d (.v (.int .i64 0)),.d (.v (.string ⟨#[]⟩)),.d (.v (.int .i64 0)),.d (.v (.int .i64 0)),.d (.v (.string ⟨#[]⟩)),.d (.v (.int .i64 0)),.d (.v (.int .i64 0)),.d (.v (.string ⟨#[]⟩)),.d (.v (.int .i64 0)),.d (.v (.int .i64 0)),.d (.v (.string ⟨#[]⟩)),.d (.v (.int .i64 0)),.d (.v (.int .i64 0)),.d (.v (.string ⟨#[]⟩)),.d (.v (.int .i64 0)),.d (.v (.int .i64 0))]:=by kernel_rfl
theorem wV2 : Tryz.prog.underlying 230=some (.int .u64):=by kernel_rfl
def zT3 := And.intro aggT_3 <| And.intro gT0 <| And.intro hZ0 <| And.intro und_3 <| And.intro xE2 <| kJ1
def zT9 := And.intro aggT_9 <| And.intro aY1 <| And.intro zH0 <| And.intro iG0 <| And.intro xG2 <| kK1
def zT22 := And.intro nP2 <| And.intro hQ2 <| And.intro rX1 <| And.intro nP1 <| And.intro sS0 <| And.intro iW1 <| And.intro iV2 <| jB2
def zT24 := And.intro nQ2 <| And.intro hR2 <| And.intro rY1 <| And.intro bO0 <| And.intro qA1 <| jC2
def zT27 := And.intro nR2 <| And.intro hT2 <| And.intro rZ1 <| And.intro und_27 <| And.intro iW2 <| jD2
def zT30 := And.intro nS2 <| And.intro hU2 <| And.intro sA1 <| And.intro eN0 <| And.intro zO0 <| And.intro vM0 <| And.intro iX2 <| jE2
def zT31 := And.intro uL0 <| And.intro eS0 <| And.intro sB1 <| And.intro bL0 <| And.intro nG0 <| And.intro iX1 <| And.intro iY2 <| jF2
def zT33 := And.intro uM0 <| And.intro hG0 <| And.intro uV0 <| And.intro bJ0 <| And.intro oJ0 <| And.intro iQ0 <| And.intro aT0 <| And.intro bD0 <| And.intro qB1 <| bL1
def zT34 := And.intro nT2 <| And.intro hV2 <| And.intro sC1 <| And.intro dB0 <| And.intro nH0 <| And.intro vN0 <| And.intro iZ2 <| jG2
def zT36 := And.intro nU2 <| And.intro nK1 <| And.intro dB1 <| And.intro eK0 <| And.intro bF0 <| And.intro qC1 <| nU1
def zT37 := And.intro nV2 <| And.intro hW2 <| And.intro sD1 <| And.intro lO0 <| And.intro dI2 <| And.intro iY1 <| And.intro jA2 <| jH2
def zT39 := And.intro uN0 <| And.intro iF0 <| And.intro uW0 <| And.intro aE0 <| And.intro vD0 <| And.intro bG0 <| And.intro iI1 <| And.intro iJ1 <| And.intro iK1 <| And.intro iL1 <| And.intro iM1 <| And.intro cM0 <| And.intro qD1 <| bM1
def zT45 := And.intro nW2 <| And.intro jH0 <| And.intro sE1 <| And.intro bP0 <| And.intro iN1 <| And.intro qE1 <| bN1
def zT98 := And.intro nX2 <| And.intro hX2 <| And.intro sF1 <| And.intro iO1 <| And.intro iP1 <| And.intro qF1 <| jI2
def cV0 := And.intro bM2 <| And.intro iY0 <| And.intro kA0 <| And.intro jD0 <| And.intro dT1 <| And.intro jK1 <| wN0
def cN0 := And.intro bN2 <| And.intro zK1 <| And.intro oN1 <| And.intro dU1 <| And.intro dV1 <| And.intro dW1 <| And.intro jL1 <| aF2
theorem zE : (∀ (α:Type)(a:α)(l:List α),(a::l).length=l.length+1)∧(∀ α:Type,([]:List α).length=0)∧(∀ (α:Type)(a:α)(l:List α)(n:Nat),(a::l).zipIdx n=(a,n)::l.zipIdx (n+1))∧(∀ (α:Type)(n:Nat),([]:List α).zipIdx n=[])∧(∀ (α β:Type)(f:α→β)(a:α)(l:List α),(a::l).map f=f a::l.map f)∧(∀ (α β:Type)(f:α→β),([]:List α).map f=[]):=⟨fun _ _ _=>rfl,fun _=>rfl,fun _ _ _ _=>rfl,fun _ _=>rfl,fun _ _ _ _ _=>rfl,fun _ _ _=>rfl⟩
theorem zG : (∀ (α:Type)(a b:α),(some a).getD b=a)∧((1:Nat)=0)=False:=⟨fun _ _ _=>rfl,eq_false (by decide)⟩
theorem zR : retF 3=false∧retF 4=false∧retF 5=false∧retF 6=false∧retF 8=false∧retF 13=false∧retF 15=false∧retF 16=false∧retF 17=false∧retF 18=false∧retF 19=false∧retF 20=false∧retF 21=false∧retF 22=false∧retF 23=false∧retF 24=false∧retF 25=false∧retF 26=false∧retF 27=false∧retF 28=false∧retF 29=false∧retF 30=false∧retF 31=false∧retF 32=false∧retF 33=false∧retF 34=false∧retF 35=false∧retF 36=false∧retF 37=false∧retF 38=false∧retF 39=false∧retF 40=false∧retF 41=false∧retF 42=false∧retF 43=false∧retF 44=false∧retF 45=false∧retF 46=false∧retF 47=false∧retF 49=false∧retF 52=false∧retF 57=false∧retF 60=false∧retF 61=false∧retF 62=false∧retF 63=false∧retF 64=false∧retF 65=false∧retF 66=false∧retF 67=false∧retF 68=false∧retF 69=false∧retF 70=false∧retF 71=false∧retF 72=false∧retF 73=false∧retF 74=false∧retF 75=false∧retF 76=false∧retF 77=false∧retF 78=false∧retF 79=false∧retF 80=false∧retF 81=false∧retF 82=false∧retF 83=false∧retF 84=false∧retF 85=false∧retF 86=false∧retF 87=false∧retF 88=false∧retF 89=false∧retF 99=false∧retF 101=false∧retF 102=false∧retF 103=false∧retF 104=false∧retF 105=false∧retF 106=false∧retF 107=false∧retF 108=false∧retF 109=false∧retF 110=false∧retF 111=false∧retF 112=false∧retF 113=false∧retF 114=false∧retF 115=false∧retF 116=false∧retF 117=false∧retF 118=false∧retF 119=true∧retF 120=false∧retF 121=true∧retF 122=false∧retF 123=false∧retF 124=false∧retF 125=false∧retF 126=false∧retF 127=false∧retF 128=false∧retF 129=false∧retF 130=false∧retF 131=false∧retF 132=false∧retF 133=false∧retF 146=false∧retF 156=false∧retF 157=false∧retF 158=false∧retF 159=false∧retF 160=false∧retF 161=false∧retF 162=false∧retF 163=false∧retF 164=false∧retF 165=false∧retF 166=false∧retF 167=false∧retF 168=false∧retF 169=false∧retF 170=false∧retF 171=false∧retF 172=false∧retF 173=false∧retF 174=false∧retF 175=false∧retF 177=false∧retF 178=false∧retF 179=false∧retF 180=false∧retF 181=true∧retF 182=false∧retF 183=false∧retF 184=false∧retF 185=false∧retF 186=false∧retF 187=false∧retF 188=false∧retF 189=false∧retF 190=false∧retF 191=true∧retF 192=false∧retF 193=false∧retF 194=false∧retF 195=false∧retF 196=false∧retF 197=false∧retF 198=false∧retF 199=false∧retF 200=false∧retF 201=false∧retF 202=false∧retF 203=false∧retF 204=false∧retF 205=false∧retF 209=false∧retF 213=false∧retF 214=false∧retF 215=false∧retF 216=false∧retF 217=false∧retF 218=false∧retF 219=false∧retF 220=false∧retF 221=false∧retF 222=false∧retF 223=false∧retF 224=false∧retF 225=false∧retF 226=false∧retF 227=false∧retF 228=false∧retF 229=false∧retF 230=false∧retF 231=false∧retF 232=false∧retF 233=false∧retF 234=false∧retF 235=false∧retF 236=false∧retF 238=false∧retF 239=true∧retF 240=false∧retF 242=false∧retF 243=false∧retF 244=false∧retF 245=false∧retF 246=false∧retF 247=false∧retF 248=false∧retF 251=false∧retF 252=false∧retF 253=false∧retF 254=false:=⟨rfl,rfl,rfl,rfl,rfl,rfl,rfl,rfl,rfl,rfl,rfl,rfl,rfl,rfl,rfl,rfl,rfl,rfl,rfl,rfl,rfl,rfl,rfl,rfl,rfl,rfl,rfl,rfl,rfl,rfl,rfl,rfl,rfl,rfl,rfl,rfl,rfl,rfl,rfl,rfl,rfl,rfl,rfl,rfl,rfl,rfl,rfl,rfl,rfl,rfl,rfl,rfl,rfl,rfl,rfl,rfl,rfl,rfl,rfl,rfl,rfl,rfl,rfl,rfl,rfl,rfl,rfl,rfl,rfl,rfl,rfl,rfl,rfl,rfl,rfl,rfl,rfl,rfl,rfl,rfl,rfl,rfl,rfl,rfl,rfl,rfl,rfl,rfl,rfl,rfl,rfl,rfl,rfl,rfl,rfl,rfl,rfl,rfl,rfl,rfl,rfl,rfl,rfl,rfl,rfl,rfl,rfl,rfl,rfl,rfl,rfl,rfl,rfl,rfl,rfl,rfl,rfl,rfl,rfl,rfl,rfl,rfl,rfl,rfl,rfl,rfl,rfl,rfl,rfl,rfl,rfl,rfl,rfl,rfl,rfl,rfl,rfl,rfl,rfl,rfl,rfl,rfl,rfl,rfl,rfl,rfl,rfl,rfl,rfl,rfl,rfl,rfl,rfl,rfl,rfl,rfl,rfl,rfl,rfl,rfl,rfl,rfl,rfl,rfl,rfl,rfl,rfl,rfl,rfl,rfl,rfl,rfl,rfl,rfl,rfl,rfl,rfl,rfl,rfl,rfl,rfl,rfl,rfl,rfl,rfl,rfl,rfl,rfl,rfl,rfl,rfl,rfl,rfl,rfl,rfl⟩
theorem enT {ext:Ext}{f:FuncId}{fn:Func}{c:Code}{args:List V}{objs:List O} (hx:ext f=none)(hf:Tryz.prog.funcs[f]? = some fn)(hb:fn.body=some c) :
  run Tryz.prog ext (.call f args objs)=if args.length≤fn.ntmps then run Tryz.prog ext (.k ⟨fn.ntmps,objs.length,fn.results.toList,retF f⟩ [.code c] (args.zipIdx.map fun p=>(p.2,p.1)) objs) else none:=by
 rw[eE0]
 simp only[hR0,hx,hf,hb]
end
end Go.Proofs.YteenjodhmppgjaaGreatDoor.Am
