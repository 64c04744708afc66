/- A part of the proof of a card. No conditions. -/
import Derived.Test.YteenjodhmppgjaaGreatDoorPa2
import Derived.Test.YteenjodhmppgjaaGreatDoorProg
set_option linter.all false
set_option maxHeartbeats 16000000
set_option maxRecDepth 10000
namespace Go.Proofs.YteenjodhmppgjaaGreatDoor.Am
section
open Go
theorem dU0 : iI0 Tryz.prog:=by unfold iI0;kernel_rfl
theorem eW0 : Tryz.prog.follows .mixedOrders=true:=by kernel_rfl
theorem aggT_3 : aggT Tryz.prog 3=some false:=by kernel_rfl
theorem yW0 : bN0 Tryz.prog 3=some 1:=by kernel_rfl
theorem kS1 : cL0 Tryz.prog 3=some 8:=by kernel_rfl
theorem und_3 : Tryz.prog.underlying 3=some (.int .i64):=by kernel_rfl
theorem wI1 : lM0 Tryz.prog 3=some (.int .i64 0):=by kernel_rfl
theorem wK1 : cV0 Tryz.prog 3=some [.d (.v (.int .i64 0))]:=by kernel_rfl
theorem eU0 : aggT Tryz.prog 4=some false:=by kernel_rfl
theorem dJ0 : bN0 Tryz.prog 4=some 1:=by kernel_rfl
theorem cN0 : cL0 Tryz.prog 4=some 1:=by kernel_rfl
theorem jR0 : Tryz.prog.underlying 4=some .bool:=by kernel_rfl
theorem dK0 : lM0 Tryz.prog 4=some (.bool false):=by kernel_rfl
theorem dL0 : cV0 Tryz.prog 4=some [.d (.v (.bool false))]:=by kernel_rfl
theorem aggT_9 : aggT Tryz.prog 9=some false:=by kernel_rfl
theorem iX1 : bN0 Tryz.prog 9=some 1:=by kernel_rfl
theorem kT1 : cL0 Tryz.prog 9=some 16:=by kernel_rfl
theorem und_9 : Tryz.prog.underlying 9=some .string:=by kernel_rfl
theorem wJ1 : lM0 Tryz.prog 9=some (.string ⟨#[]⟩):=by kernel_rfl
theorem wL1 : cV0 Tryz.prog 9=some [.d (.v (.string ⟨#[]⟩))]:=by kernel_rfl
theorem qL1 : aggT Tryz.prog 22=some false:=by kernel_rfl
theorem nL1 : bN0 Tryz.prog 22=some 1:=by kernel_rfl
theorem eL1 : cL0 Tryz.prog 22=some 24:=by kernel_rfl
theorem und_22 : Tryz.prog.underlying 22=some (.slice 39):=by kernel_rfl
theorem lU1 : iF0 Tryz.prog 22=some 39:=by kernel_rfl
theorem xZ0 : cO0 Tryz.prog 22=true:=by kernel_rfl
theorem oE1 : lM0 Tryz.prog 22=some (.slice none 0 0):=by kernel_rfl
theorem oK1 : cV0 Tryz.prog 22=some [.d (.v (.slice none 0 0))]:=by kernel_rfl
theorem qM1 : aggT Tryz.prog 24=some true:=by kernel_rfl
theorem nM1 : bN0 Tryz.prog 24=some 1:=by kernel_rfl
theorem eM1 : cL0 Tryz.prog 24=some 24:=by kernel_rfl
theorem wY0 : bE0 Tryz.prog 24 0=some (0,22):=by kernel_rfl
theorem cY1 : eQ0 Tryz.prog 24=some [(0,1)]:=by kernel_rfl
theorem oL1 : cV0 Tryz.prog 24=some [.d (.v (.slice none 0 0))]:=by kernel_rfl
theorem qN1 : aggT Tryz.prog 27=some false:=by kernel_rfl
theorem nN1 : bN0 Tryz.prog 27=some 1:=by kernel_rfl
theorem eN1 : cL0 Tryz.prog 27=some 8:=by kernel_rfl
theorem und_27 : Tryz.prog.underlying 27=some (.int .i64):=by kernel_rfl
theorem oF1 : lM0 Tryz.prog 27=some (.int .i64 0):=by kernel_rfl
theorem oM1 : cV0 Tryz.prog 27=some [.d (.v (.int .i64 0))]:=by kernel_rfl
theorem qO1 : aggT Tryz.prog 30=some false:=by kernel_rfl
theorem nO1 : bN0 Tryz.prog 30=some 1:=by kernel_rfl
theorem eO1 : cL0 Tryz.prog 30=some 24:=by kernel_rfl
theorem und_30 : Tryz.prog.underlying 30=some (.slice 36):=by kernel_rfl
theorem jI0 : iF0 Tryz.prog 30=some 36:=by kernel_rfl
theorem yA0 : cO0 Tryz.prog 30=true:=by kernel_rfl
theorem oG1 : lM0 Tryz.prog 30=some (.slice none 0 0):=by kernel_rfl
theorem oN1 : cV0 Tryz.prog 30=some [.d (.v (.slice none 0 0))]:=by kernel_rfl
theorem qP1 : aggT Tryz.prog 31=some false:=by kernel_rfl
theorem nP1 : bN0 Tryz.prog 31=some 1:=by kernel_rfl
theorem eP1 : cL0 Tryz.prog 31=some 24:=by kernel_rfl
theorem und_31 : Tryz.prog.underlying 31=some (.slice 33):=by kernel_rfl
theorem kW0 : iF0 Tryz.prog 31=some 33:=by kernel_rfl
theorem yB0 : cO0 Tryz.prog 31=true:=by kernel_rfl
theorem oH1 : lM0 Tryz.prog 31=some (.slice none 0 0):=by kernel_rfl
theorem oO1 : cV0 Tryz.prog 31=some [.d (.v (.slice none 0 0))]:=by kernel_rfl
theorem qQ1 : aggT Tryz.prog 33=some true:=by kernel_rfl
theorem lH0 : bN0 Tryz.prog 33=some 5:=by kernel_rfl
theorem nU0 : cL0 Tryz.prog 33=some 80:=by kernel_rfl
theorem wZ0 : bE0 Tryz.prog 33 0=some (0,3):=by kernel_rfl
theorem xA0 : bE0 Tryz.prog 33 1=some (1,3):=by kernel_rfl
theorem xB0 : bE0 Tryz.prog 33 2=some (2,9):=by kernel_rfl
theorem xC0 : bE0 Tryz.prog 33 3=some (3,30):=by kernel_rfl
theorem xD0 : bE0 Tryz.prog 33 4=some (4,31):=by kernel_rfl
theorem cZ1 : eQ0 Tryz.prog 33=some [(0,1),(1,1),(2,1),(3,1),(4,1)]:=by kernel_rfl
theorem sO0 : cV0 Tryz.prog 33=some [.d (.v (.int .i64 0)),.d (.v (.int .i64 0)),.d (.v (.string ⟨#[]⟩)),.d (.v (.slice none 0 0)),.d (.v (.slice none 0 0))]:=by kernel_rfl
theorem qR1 : aggT Tryz.prog 34=some false:=by kernel_rfl
theorem nQ1 : bN0 Tryz.prog 34=some 1:=by kernel_rfl
theorem eQ1 : cL0 Tryz.prog 34=some 24:=by kernel_rfl
theorem und_34 : Tryz.prog.underlying 34=some (.slice 110):=by kernel_rfl
theorem gQ0 : iF0 Tryz.prog 34=some 110:=by kernel_rfl
theorem yC0 : cO0 Tryz.prog 34=true:=by kernel_rfl
theorem oI1 : lM0 Tryz.prog 34=some (.slice none 0 0):=by kernel_rfl
theorem oP1 : cV0 Tryz.prog 34=some [.d (.v (.slice none 0 0))]:=by kernel_rfl
theorem qS1 : aggT Tryz.prog 36=some true:=by kernel_rfl
theorem lI0 : bN0 Tryz.prog 36=some 2:=by kernel_rfl
theorem kT0 : cL0 Tryz.prog 36=some 32:=by kernel_rfl
theorem xE0 : bE0 Tryz.prog 36 0=some (0,3):=by kernel_rfl
theorem xF0 : bE0 Tryz.prog 36 1=some (1,34):=by kernel_rfl
theorem dA1 : eQ0 Tryz.prog 36=some [(0,1),(1,1)]:=by kernel_rfl
theorem sP0 : cV0 Tryz.prog 36=some [.d (.v (.int .i64 0)),.d (.v (.slice none 0 0))]:=by kernel_rfl
theorem qT1 : aggT Tryz.prog 37=some false:=by kernel_rfl
theorem nR1 : bN0 Tryz.prog 37=some 1:=by kernel_rfl
theorem eR1 : cL0 Tryz.prog 37=some 24:=by kernel_rfl
theorem und_37 : Tryz.prog.underlying 37=some (.slice 98):=by kernel_rfl
theorem lV1 : iF0 Tryz.prog 37=some 98:=by kernel_rfl
theorem yD0 : cO0 Tryz.prog 37=true:=by kernel_rfl
theorem oJ1 : lM0 Tryz.prog 37=some (.slice none 0 0):=by kernel_rfl
theorem oQ1 : cV0 Tryz.prog 37=some [.d (.v (.slice none 0 0))]:=by kernel_rfl
theorem qU1 : aggT Tryz.prog 39=some true:=by kernel_rfl
theorem nS1 : bN0 Tryz.prog 39=some 23:=by kernel_rfl
theorem eS1 : cL0 Tryz.prog 39=some 360:=by kernel_rfl
theorem xG0 : bE0 Tryz.prog 39 0=some (0,9):=by kernel_rfl
theorem xH0 : bE0 Tryz.prog 39 1=some (1,3):=by kernel_rfl
theorem xI0 : bE0 Tryz.prog 39 2=some (2,3):=by kernel_rfl
theorem xJ0 : bE0 Tryz.prog 39 3=some (3,33):=by kernel_rfl
theorem xK0 : bE0 Tryz.prog 39 4=some (8,33):=by kernel_rfl
theorem xL0 : bE0 Tryz.prog 39 5=some (13,33):=by kernel_rfl
theorem xM0 : bE0 Tryz.prog 39 6=some (18,36):=by kernel_rfl
theorem xN0 : bE0 Tryz.prog 39 7=some (20,36):=by kernel_rfl
theorem xO0 : bE0 Tryz.prog 39 8=some (22,37):=by kernel_rfl
theorem dB1 : eQ0 Tryz.prog 39=some [(0,1),(1,1),(2,1),(3,5),(8,5),(13,5),(18,2),(20,2),(22,1)]:=by kernel_rfl
theorem oR1 : cV0 Tryz.prog 39=some [.d (.v (.string ⟨#[]⟩)),.d (.v (.int .i64 0)),.d (.v (.int .i64 0)),.d (.v (.int .i64 0)),.d (.v (.int .i64 0)),.d (.v (.string ⟨#[]⟩)),.d (.v (.slice none 0 0)),.d (.v (.slice none 0 0)),.d (.v (.int .i64 0)),.d (.v (.int .i64 0)),.d (.v (.string ⟨#[]⟩)),.d (.v (.slice none 0 0)),.d (.v (.slice none 0 0)),.d (.v (.int .i64 0)),.d (.v (.int .i64 0)),.d (.v (.string ⟨#[]⟩)),.d (.v (.slice none 0 0)),.d (.v (.slice none 0 0)),.d (.v (.int .i64 0)),.d (.v (.slice none 0 0)),.d (.v (.int .i64 0)),.d (.v (.slice none 0 0)),.d (.v (.slice none 0 0))]:=by kernel_rfl
theorem aggT_45 : aggT Tryz.prog 45=some true:=by kernel_rfl
theorem sizeT_45 : bN0 Tryz.prog 45=some 2:=by kernel_rfl
theorem bytesT_45 : cL0 Tryz.prog 45=some 32:=by kernel_rfl
theorem sF1 : bE0 Tryz.prog 45 0=some (0,27):=by kernel_rfl
theorem sG1 : bE0 Tryz.prog 45 1=some (1,43):=by kernel_rfl
theorem placesT_45 : eQ0 Tryz.prog 45=some [(0,1),(1,1)]:=by kernel_rfl
theorem zeroT_45 : cV0 Tryz.prog 45=some [.d (.v (.int .i64 0)),.d (.v (.slice none 0 0))]:=by kernel_rfl
theorem qV1 : aggT Tryz.prog 67=some true:=by kernel_rfl
theorem nT1 : bN0 Tryz.prog 67=some 13:=by kernel_rfl
theorem eT1 : cL0 Tryz.prog 67=some 208:=by kernel_rfl
theorem xP0 : bE0 Tryz.prog 67 0=some (0,9):=by kernel_rfl
theorem xQ0 : bE0 Tryz.prog 67 1=some (1,30):=by kernel_rfl
theorem xR0 : bE0 Tryz.prog 67 2=some (2,3):=by kernel_rfl
theorem xS0 : bE0 Tryz.prog 67 3=some (3,33):=by kernel_rfl
theorem xT0 : bE0 Tryz.prog 67 4=some (8,33):=by kernel_rfl
theorem dC1 : eQ0 Tryz.prog 67=some [(0,1),(1,1),(2,1),(3,5),(8,5)]:=by kernel_rfl
theorem oS1 : cV0 Tryz.prog 67=some [.d (.v (.string ⟨#[]⟩)),.d (.v (.slice none 0 0)),.d (.v (.int .i64 0)),.d (.v (.int .i64 0)),.d (.v (.int .i64 0)),.d (.v (.string ⟨#[]⟩)),.d (.v (.slice none 0 0)),.d (.v (.slice none 0 0)),.d (.v (.int .i64 0)),.d (.v (.int .i64 0)),.d (.v (.string ⟨#[]⟩)),.d (.v (.slice none 0 0)),.d (.v (.slice none 0 0))]:=by kernel_rfl
theorem qW1 : aggT Tryz.prog 98=some true:=by kernel_rfl
theorem nU1 : bN0 Tryz.prog 98=some 6:=by kernel_rfl
theorem eU1 : cL0 Tryz.prog 98=some 96:=by kernel_rfl
theorem xU0 : bE0 Tryz.prog 98 0=some (0,9):=by kernel_rfl
theorem xV0 : bE0 Tryz.prog 98 1=some (1,33):=by kernel_rfl
theorem dD1 : eQ0 Tryz.prog 98=some [(0,1),(1,5)]:=by kernel_rfl
theorem oT1 : cV0 Tryz.prog 98=some [.d (.v (.string ⟨#[]⟩)),.d (.v (.int .i64 0)),.d (.v (.int .i64 0)),.d (.v (.string ⟨#[]⟩)),.d (.v (.slice none 0 0)),.d (.v (.slice none 0 0))]:=by kernel_rfl
theorem jY1 : aggT Tryz.prog 110=some true:=by kernel_rfl
theorem eB0 : bN0 Tryz.prog 110=some 2:=by kernel_rfl
theorem eY0 : cL0 Tryz.prog 110=some 16:=by kernel_rfl
theorem uQ0 : bE0 Tryz.prog 110 0=some (0,3):=by kernel_rfl
theorem uR0 : bE0 Tryz.prog 110 1=some (1,3):=by kernel_rfl
theorem yN0 : eQ0 Tryz.prog 110=some [(0,1),(1,1)]:=by kernel_rfl
theorem pD0 : cV0 Tryz.prog 110=some [.d (.v (.int .i64 0)),.d (.v (.int .i64 0))]:=by kernel_rfl
theorem aQ0 : aggT Tryz.prog 144=some false:=by kernel_rfl
theorem aM0 : bN0 Tryz.prog 144=some 1:=by kernel_rfl
theorem aJ0 : cL0 Tryz.prog 144=some 24:=by kernel_rfl
theorem aZ0 : Tryz.prog.underlying 144=some (.slice 110):=by kernel_rfl
theorem aK0 : iF0 Tryz.prog 144=some 110:=by kernel_rfl
theorem aG0 : cO0 Tryz.prog 144=true:=by kernel_rfl
theorem aN0 : lM0 Tryz.prog 144=some (.slice none 0 0):=by kernel_rfl
theorem aO0 : cV0 Tryz.prog 144=some [.d (.v (.slice none 0 0))]:=by kernel_rfl
theorem cM0 : aggT Tryz.prog 156=some false:=by kernel_rfl
theorem bV0 : bN0 Tryz.prog 156=some 1:=by kernel_rfl
theorem bF0 : cL0 Tryz.prog 156=some 8:=by kernel_rfl
theorem bX0 : lM0 Tryz.prog 156=some (.nilFunc):=by kernel_rfl
theorem bY0 : cV0 Tryz.prog 156=some [.d (.v (.nilFunc))]:=by kernel_rfl
theorem aggT_186 : aggT Tryz.prog 186=some true:=by kernel_rfl
theorem sizeT_186 : bN0 Tryz.prog 186=some 3:=by kernel_rfl
theorem bytesT_186 : cL0 Tryz.prog 186=some 32:=by kernel_rfl
theorem pA1 : bE0 Tryz.prog 186 0=some (0,9):=by kernel_rfl
theorem pB1 : bE0 Tryz.prog 186 1=some (1,3):=by kernel_rfl
theorem pC1 : bE0 Tryz.prog 186 2=some (2,3):=by kernel_rfl
theorem uR1 : eQ0 Tryz.prog 186=some [(0,1),(1,1),(2,1)]:=by kernel_rfl
theorem zeroT_186 : cV0 Tryz.prog 186=some [.d (.v (.string ⟨#[]⟩)),.d (.v (.int .i64 0)),.d (.v (.int .i64 0))]:=by kernel_rfl
theorem jZ1 : aggT Tryz.prog 230=some false:=by kernel_rfl
theorem iW1 : bN0 Tryz.prog 230=some 1:=by kernel_rfl
theorem bT1 : cL0 Tryz.prog 230=some 8:=by kernel_rfl
theorem wE1 : Tryz.prog.underlying 230=some (.int .u64):=by kernel_rfl
theorem jQ1 : lM0 Tryz.prog 230=some (.int .u64 0):=by kernel_rfl
theorem jR1 : cV0 Tryz.prog 230=some [.d (.v (.int .u64 0))]:=by kernel_rfl
def zT3 := And.intro aggT_3 <| And.intro yW0 <| And.intro kS1 <| And.intro und_3 <| And.intro wI1 <| wK1
def zT9 := And.intro aggT_9 <| And.intro iX1 <| And.intro kT1 <| And.intro und_9 <| And.intro wJ1 <| wL1
def zT22 := And.intro qL1 <| And.intro nL1 <| And.intro eL1 <| And.intro und_22 <| And.intro lU1 <| And.intro xZ0 <| And.intro oE1 <| oK1
def zT24 := And.intro qM1 <| And.intro nM1 <| And.intro eM1 <| And.intro wY0 <| And.intro cY1 <| oL1
def zT27 := And.intro qN1 <| And.intro nN1 <| And.intro eN1 <| And.intro und_27 <| And.intro oF1 <| oM1
def zT30 := And.intro qO1 <| And.intro nO1 <| And.intro eO1 <| And.intro und_30 <| And.intro jI0 <| And.intro yA0 <| And.intro oG1 <| oN1
def zT31 := And.intro qP1 <| And.intro nP1 <| And.intro eP1 <| And.intro und_31 <| And.intro kW0 <| And.intro yB0 <| And.intro oH1 <| oO1
def zT33 := And.intro qQ1 <| And.intro lH0 <| And.intro nU0 <| And.intro wZ0 <| And.intro xA0 <| And.intro xB0 <| And.intro xC0 <| And.intro xD0 <| And.intro cZ1 <| sO0
def zT34 := And.intro qR1 <| And.intro nQ1 <| And.intro eQ1 <| And.intro und_34 <| And.intro gQ0 <| And.intro yC0 <| And.intro oI1 <| oP1
def zT36 := And.intro qS1 <| And.intro lI0 <| And.intro kT0 <| And.intro xE0 <| And.intro xF0 <| And.intro dA1 <| sP0
def zT37 := And.intro qT1 <| And.intro nR1 <| And.intro eR1 <| And.intro und_37 <| And.intro lV1 <| And.intro yD0 <| And.intro oJ1 <| oQ1
def zT39 := And.intro qU1 <| And.intro nS1 <| And.intro eS1 <| And.intro xG0 <| And.intro xH0 <| And.intro xI0 <| And.intro xJ0 <| And.intro xK0 <| And.intro xL0 <| And.intro xM0 <| And.intro xN0 <| And.intro xO0 <| And.intro dB1 <| oR1
def zT67 := And.intro qV1 <| And.intro nT1 <| And.intro eT1 <| And.intro xP0 <| And.intro xQ0 <| And.intro xR0 <| And.intro xS0 <| And.intro xT0 <| And.intro dC1 <| oS1
def zT98 := And.intro qW1 <| And.intro nU1 <| And.intro eU1 <| And.intro xU0 <| And.intro xV0 <| And.intro dD1 <| oT1
def aR0 := And.intro jY1 <| And.intro eB0 <| And.intro eY0 <| And.intro uQ0 <| And.intro uR0 <| And.intro yN0 <| pD0
theorem zE : (∀ (α:Type)(a:α)(l:List α),(a::l).length=l.length+1)∧(∀ α:Type,([]:List α).length=0)∧(∀ (α:Type)(a:α)(l:List α)(n:Nat),(a::l).zipIdx n=(a,n)::l.zipIdx (n+1))∧(∀ (α:Type)(n:Nat),([]:List α).zipIdx n=[])∧(∀ (α β:Type)(f:α→β)(a:α)(l:List α),(a::l).map f=f a::l.map f)∧(∀ (α β:Type)(f:α→β),([]:List α).map f=[]):=⟨fun _ _ _=>rfl,fun _=>rfl,fun _ _ _ _=>rfl,fun _ _=>rfl,fun _ _ _ _ _=>rfl,fun _ _ _=>rfl⟩
theorem zG : (∀ (α:Type)(a b:α),(some a).getD b=a)∧((1:Nat)=0)=False:=⟨fun _ _ _=>rfl,eq_false (by decide)⟩
theorem zR : retF 8=false∧retF 10=false∧retF 13=false∧retF 17=false∧retF 22=false∧retF 31=false∧retF 32=false∧retF 33=false∧retF 34=false∧retF 35=false∧retF 36=false∧retF 37=false∧retF 38=false∧retF 39=false∧retF 40=false∧retF 41=false∧retF 42=false∧retF 43=false∧retF 44=false∧retF 45=false∧retF 46=false∧retF 47=false∧retF 48=false∧retF 49=false∧retF 52=false∧retF 57=false∧retF 62=false∧retF 63=false∧retF 69=false∧retF 70=false∧retF 71=false∧retF 73=false∧retF 78=false∧retF 79=false∧retF 80=false∧retF 81=false∧retF 82=false∧retF 83=false∧retF 84=false∧retF 85=false∧retF 86=false∧retF 87=false∧retF 88=false∧retF 89=false∧retF 90=false∧retF 99=false∧retF 120=false∧retF 121=true∧retF 122=false∧retF 123=false∧retF 124=false∧retF 125=false∧retF 126=false∧retF 127=false∧retF 128=false∧retF 129=false∧retF 130=false∧retF 131=false∧retF 132=false∧retF 133=false∧retF 190=false∧retF 191=true∧retF 192=false∧retF 193=false∧retF 194=false∧retF 195=false∧retF 196=false∧retF 197=false∧retF 198=false∧retF 199=false∧retF 200=false∧retF 201=false∧retF 202=false∧retF 203=false∧retF 204=false∧retF 205=false∧retF 209=false∧retF 234=false∧retF 235=false∧retF 236=false∧retF 238=false∧retF 239=true∧retF 240=false∧retF 242=false∧retF 254=false:=⟨rfl,rfl,rfl,rfl,rfl,rfl,rfl,rfl,rfl,rfl,rfl,rfl,rfl,rfl,rfl,rfl,rfl,rfl,rfl,rfl,rfl,rfl,rfl,rfl,rfl,rfl,rfl,rfl,rfl,rfl,rfl,rfl,rfl,rfl,rfl,rfl,rfl,rfl,rfl,rfl,rfl,rfl,rfl,rfl,rfl,rfl,rfl,rfl,rfl,rfl,rfl,rfl,rfl,rfl,rfl,rfl,rfl,rfl,rfl,rfl,rfl,rfl,rfl,rfl,rfl,rfl,rfl,rfl,rfl,rfl,rfl,rfl,rfl,rfl,rfl,rfl,rfl,rfl,rfl,rfl,rfl,rfl,rfl,rfl,rfl⟩
theorem enT {ext:Ext}{f:FuncId}{fn:Func}{c:Code}{args:List V}{objs:List O} (hx:ext f=none)(hf:Tryz.prog.funcs[f]? = some fn)(hb:fn.body=some c) :
  run Tryz.prog ext (.call f args objs)=if args.length≤fn.ntmps then run Tryz.prog ext (.k ⟨fn.ntmps,objs.length,fn.results.toList,retF f⟩ [.code c] (args.zipIdx.map fun p=>(p.2,p.1)) objs) else none:=by
 rw[eA0]
 simp only[hW0,hx,hf,hb]
end
end Go.Proofs.YteenjodhmppgjaaGreatDoor.Am
