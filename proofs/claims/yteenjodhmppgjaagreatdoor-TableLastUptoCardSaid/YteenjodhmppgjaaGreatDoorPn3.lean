/- The card of TableLast, second form, is proved: at every input whose bulk is at most 1048576 the law answers true and leaves its input as it was. -/
import Derived.Test.YteenjodhmppgjaaGreatDoorPn1
import Derived.Test.YteenjodhmppgjaaGreatDoorPn2
import Derived.Test.YteenjodhmppgjaaGreatDoorCards
import Derived.Test.YteenjodhmppgjaaGreatDoorTie
import Derived.WalkKit
import Derived.ProofKit
import Derived.OpenShut
import Derived.Deep.DeepHandedRow
import Derived.LaidLaws
import Derived.LaidHandle
import Derived.Stop.Joined
set_option linter.all false
set_option maxHeartbeats 16000000
set_option maxRecDepth 10000
namespace Go.Proofs.YteenjodhmppgjaaGreatDoor.Am
open Go.Proofs.Tryz
section
open Go Go.ChangeShapes Go.WideShapes Go.ChangeAt Go.RowKit
theorem own : ownKnob prog.godebug=none:=by kernel_rfl
noncomputable def errG : Nat := (prog.globalNamed "errors.errorType").getD 0
noncomputable def rtT : TypeId := ((prog.cutTypes.find? (·.1 == "internal/reflectlite.rtype")).map (·.2)).getD 0
noncomputable def errT : TypeId:=((List.range prog.types.size).filter fun t=>prog.rowNamed t [101,114,114,111,114]).headD 0
noncomputable def eL0 (os:Os):World:=
 { World.holding prog os ⟨#[],#[],[]⟩ with heap:=(World.holding prog os ⟨#[],#[],[]⟩).heap.modify errG fun
   | .cells _ t frozen=> .cells #[.iface rtT (.agg #[typeHandle prog errT])] t frozen
   | o=>o }
def wargs : Array Value:= #[.agg #[.slice none 0 0]]
theorem pQ0 (os:Os):laidMetH prog Rows.tableLastUptoRow.laid ((eL0 os).forCall (fun _ _=>0) ⟨#[],wargs,[]⟩).memory:=
 laidMetH_of_parts (laidMet_nil _ _) (by kernel_rfl)
theorem yY1 (os:Os){H:Type} (enc:TypeId × Value→H):∃ places,DataW.whole enc prog ((eL0 os).forCall (fun _ _=>0) ⟨#[],wargs,[]⟩).memory f6.params.toList Rows.tableLastSpec.vars false wargs.toList 9=some ([.agg [.nil]],[],places):=
 ⟨[],by kernel_rfl⟩
set_option maxRecDepth 100000 in
theorem kF0 (os:Os)(started:os.Started)(H:Type)(enc:TypeId × Value→H)(F:Stop.Interp) :
  ReturnsInHanded {} Tryz.checked os 6 .any ((Rows.OpenSpec.upto Rows.tableLastSpec).preRow enc prog f6 Rows.tableLastUptoRow.domain false Rows.tableLastUptoRow.laid) (((Rows.OpenSpec.upto Rows.tableLastSpec).at F).post enc prog f6 false true false false):=by
 obtain⟨places,hx⟩:=yY1 os enc
 refine returnsInHanded_of_row (C:=Tryz.checked) (s:=Rows.OpenSpec.upto Rows.tableLastSpec) own started (by kernel_rfl) func6
  (witness_row_at (enc:=enc) (C:=Tryz.checked) false (eL0 os) wargs rfl (by kernel_rfl) (by kernel_rfl) (by kernel_rfl)
   (OpenSpec.preRow_of_cond 9 hx (by kernel_rfl) (fun k hk=>by cases hk;kernel_rfl) (by kernel_rfl) (pQ0 os))) ?_
 intro W base args ds gs before hval hW _ hcond _ hlaid _ _
 exact sR1 H enc W base args ds gs before hval hW (hcond _ rfl) hlaid
set_option maxRecDepth 100000 in
theorem pX0 : Rows.TableLastUptoSaid:=
 OpenClaim.holds_of_cond 6 f6 rfl rfl rfl rfl rfl rfl rfl ⟨rfl,rfl,rfl,rfl,rfl⟩ rfl rfl rfl rfl rfl (by kernel_rfl) func6 pA2 cV2 cW2
  (fun os started H enc _ F=>by rw[OpenClaim.pre_eq_preRow];exact kF0 os started H enc F)
set_option maxRecDepth 100000 in
theorem yQ1 (f : FuncId) (fn : Func) (hf : Tryz.pinned.checked.prog.funcNamed "tenet/tenetlaw04.TableLast" = some f) (hfn : Tryz.pinned.checked.prog.funcs[f]? = some fn) :
  true=Tryz.pinned.checked.prog.looks []∧∀ (j:Nat) t,fn.params[j]? = some t→Tryz.pinned.checked.prog.wantsStandIn t=false:=by
 obtain rfl : f = 6 := Option.some.inj ((show prog.funcNamed "tenet/tenetlaw04.TableLast" = some 6 by kernel_rfl).symm.trans hf) |>.symm
 obtain rfl:fn=f6:=(Option.some.inj (func6.symm.trans hfn)).symm
 refine⟨by kernel_rfl,fun j t ht=> ?_⟩
 rw[Tryz.params6]at ht
 have:t=24:=by simpa using Array.mem_of_getElem? ht
 subst this
 exact(show prog.wantsStandIn 24=false by kernel_rfl)
set_option maxRecDepth 100000 in
theorem cardLast : Rows.TableLastUptoCardSaid:=
 Claim7.holds_tied_plain_at .later [] _ _ _ _ pX0 (fun _ h=>by cases h) (by kernel_rfl) (fun _ h=>by cases h) tableLastUpto_row_tie rfl ⟨rfl,rfl⟩ (by kernel_rfl) rfl yQ1 (by kernel_rfl)
end
end Go.Proofs.YteenjodhmppgjaaGreatDoor.Am
