/- A part of the proof of a card. No conditions. -/
import Derived.Shelf.Sort.Plain
import Derived.Shelf.Slices.CompactI
import Derived.Test.YteenjodhmppgjaaGreatDoorProg
set_option linter.all false
set_option maxHeartbeats 16000000
set_option maxRecDepth 10000
namespace Go.Proofs.YteenjodhmppgjaaGreatDoor.Am
open Go.Proofs.Tryz
section
open Go Go.Shelf
def bH2 : Go.Shelf.Ren:=⟨fun | 189=>249 | 125=>237 | 257=>265 | 128=>262 | 129=>263 | 294=>271 | 295=>272 | 296=>273 | 297=>274 | 298=>275 | 299=>276 | 216=>277 | 300=>278 | 301=>279 | 328=>281 | 329=>267 | 330=>268 | 331=>282 | 332=>283 | 215=>238 | 343=>284 | n=>n,fun | 28=>43 | 3=>3 | 46=>230 | 0=>0 | 51=>246 | 53=>248 | 4=>4 | 183=>239 | 182=>238 | 131=>243 | 5=>5 | 9=>9 | 218=>251 | 222=>255 | 228=>263 | 229=>162 | n=>n,fun | n=>n⟩
theorem L249 : Go.Proofs.Lays.n189 prog bH2:={
 mixed:=by kernel_rfl
 f125:=func237.trans (congrArg some (by kernel_rfl))
 f128:=func262.trans (congrArg some (by kernel_rfl))
 f129:=func263.trans (congrArg some (by kernel_rfl))
 f189:=func249.trans (congrArg some (by kernel_rfl))
 f215:=func238.trans (congrArg some (by kernel_rfl))
 f216:=func277.trans (congrArg some (by kernel_rfl))
 f257:=func265.trans (congrArg some (by kernel_rfl))
 f294:=func271.trans (congrArg some (by kernel_rfl))
 f295:=func272.trans (congrArg some (by kernel_rfl))
 f296:=func273.trans (congrArg some (by kernel_rfl))
 f297:=func274.trans (congrArg some (by kernel_rfl))
 f298:=func275.trans (congrArg some (by kernel_rfl))
 f299:=func276.trans (congrArg some (by kernel_rfl))
 f300:=func278.trans (congrArg some (by kernel_rfl))
 f301:=func279.trans (congrArg some (by kernel_rfl))
 f328:=func281.trans (congrArg some (by kernel_rfl))
 f329:=func267.trans (congrArg some (by kernel_rfl))
 f330:=func268.trans (congrArg some (by kernel_rfl))
 f331:=func282.trans (congrArg some (by kernel_rfl))
 f332:=func283.trans (congrArg some (by kernel_rfl))
 f343:=func284.trans (congrArg some (by kernel_rfl))
 t0:=Tryz.underlying0
 a0:=Tryz.isAgg0
 z0:=Tryz.sizeOf0
 v0:=Tryz.zeroValue0
 t3:=Tryz.underlying3
 a3:=Tryz.isAgg3
 z3:=Tryz.sizeOf3
 v3:=Tryz.zeroValue3
 t4:=Tryz.underlying4
 a4:=Tryz.isAgg4
 z4:=Tryz.sizeOf4
 v4:=Tryz.zeroValue4
 t5:=Tryz.underlying5
 a5:=Tryz.isAgg5
 z5:=Tryz.sizeOf5
 v5:=Tryz.zeroValue5
 t9:=Tryz.underlying9
 a9:=Tryz.isAgg9
 z9:=Tryz.sizeOf9
 v9:=Tryz.zeroValue9
 t28:=Tryz.underlying43
 a28:=Tryz.isAgg43
 z28:=Tryz.sizeOf43
 v28:=Tryz.zeroValue43
 t46:=Tryz.underlying230
 a46:=Tryz.isAgg230
 z46:=Tryz.sizeOf230
 v46:=Tryz.zeroValue230
 t51:=Tryz.underlying246
 a51:=Tryz.isAgg246
 z51:=Tryz.sizeOf246
 v51:=Tryz.zeroValue246
 t53:=Tryz.underlying248
 a53:=Tryz.isAgg248
 z53:=Tryz.sizeOf248
 v53:=Tryz.zeroValue248
 t131:=Tryz.underlying243
 a131:=Tryz.isAgg243
 z131:=Tryz.sizeOf243
 v131:=Tryz.zeroValue243
 t182:=Tryz.underlying238
 a182:=Tryz.isAgg238
 z182:=Tryz.sizeOf238
 v182:=Tryz.zeroValue238
 t183:=Tryz.underlying239
 a183:=Tryz.isAgg239
 z183:=Tryz.sizeOf239
 v183:=Tryz.zeroValue239
 t218:=Tryz.underlying251
 a218:=Tryz.isAgg251
 z218:=Tryz.sizeOf251
 v218:=Tryz.zeroValue251
 t222:=Tryz.underlying255
 a222:=Tryz.isAgg255
 z222:=Tryz.sizeOf255
 v222:=Tryz.zeroValue255
 t228:=Tryz.underlying263
 a228:=Tryz.isAgg263
 z228:=Tryz.sizeOf263
 v228:=Tryz.zeroValue263
 t229:=Tryz.underlying162
 a229:=Tryz.isAgg162
 z229:=Tryz.sizeOf162
 v229:=Tryz.zeroValue162 }

def bI2 : Go.Shelf.Ren:=⟨fun | 20=>250 | n=>n,fun | 22=>43 | 3=>3 | 4=>4 | 0=>0 | n=>n,fun | n=>n⟩
theorem L250 : Go.Proofs.Lays2.n20 prog bI2:={
 mixed:=by kernel_rfl
 f20:=func250.trans (congrArg some (by kernel_rfl))
 t0:=Tryz.underlying0
 a0:=Tryz.isAgg0
 z0:=Tryz.sizeOf0
 v0:=Tryz.zeroValue0
 t3:=Tryz.underlying3
 a3:=Tryz.isAgg3
 z3:=Tryz.sizeOf3
 v3:=Tryz.zeroValue3
 t4:=Tryz.underlying4
 a4:=Tryz.isAgg4
 z4:=Tryz.sizeOf4
 v4:=Tryz.zeroValue4
 t22:=Tryz.underlying43
 a22:=Tryz.isAgg43
 z22:=Tryz.sizeOf43
 v22:=Tryz.zeroValue43
 i3:=by kernel_rfl }
end
end Go.Proofs.YteenjodhmppgjaaGreatDoor.Am
