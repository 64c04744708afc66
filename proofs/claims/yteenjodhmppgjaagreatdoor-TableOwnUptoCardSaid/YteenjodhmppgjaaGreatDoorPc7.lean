/- The card of TableOwn, second form, is proved: at every input whose bulk is at most 1048576 the law answers true and leaves its input as it was. -/
import Derived.Test.YteenjodhmppgjaaGreatDoorPc5
import Derived.Test.YteenjodhmppgjaaGreatDoorPc6
import Derived.Test.YteenjodhmppgjaaGreatDoorCards
import Derived.Test.YteenjodhmppgjaaGreatDoorTie
import Derived.WalkKit
import Derived.ProofKit
import Derived.OpenShut
import Derived.Deep.DeepHandedRow
import Derived.LaidLaws
import Derived.LaidHandle
import Derived.Stop.Joined
set_option linter.all false
set_option maxHeartbeats 16000000
set_option maxRecDepth 10000
namespace Go.Proofs.YteenjodhmppgjaaGreatDoor.Am
open Go.Proofs.Tryz
section
open Go Go.ChangeShapes Go.WideShapes Go.ChangeAt Go.RowKit
theorem own : ownKnob prog.godebug=none:=by kernel_rfl
noncomputable def errG : Nat := (prog.globalNamed "errors.errorType").getD 0
noncomputable def rtT : TypeId := ((prog.cutTypes.find? (·.1 == "internal/reflectlite.rtype")).map (·.2)).getD 0
noncomputable def errT : TypeId:=((List.range prog.types.size).filter fun t=>prog.rowNamed t [101,114,114,111,114]).headD 0
noncomputable def oJ0 (os:Os):World:=
 { World.holding prog os ⟨#[],#[],[]⟩ with heap:=(World.holding prog os ⟨#[],#[],[]⟩).heap.modify errG fun
   | .cells _ t frozen=> .cells #[.iface rtT (.agg #[typeHandle prog errT])] t frozen
   | o=>o }
def wargs : Array Value:= #[.agg #[.slice none 0 0],.agg #[.string ⟨#[]⟩,.slice none 0 0,.int .i64 0,.int .i64 0,.int .i64 0,.string ⟨#[]⟩,.slice none 0 0,.slice none 0 0,.int .i64 0,.int .i64 0,.string ⟨#[]⟩,.slice none 0 0,.slice none 0 0]]
theorem mK1 (os:Os):laidMetH prog Rows.tableOwnUptoRow.laid ((oJ0 os).forCall (fun _ _=>0) ⟨#[],wargs,[]⟩).memory:=
 laidMetH_of_parts (laidMet_nil _ _) (by kernel_rfl)
theorem reads (os:Os){H:Type} (enc:TypeId × Value→H):∃ places,DataW.whole enc prog ((oJ0 os).forCall (fun _ _=>0) ⟨#[],wargs,[]⟩).memory f10.params.toList Rows.tableOwnSpec.vars false wargs.toList 9=some ([.agg [.nil],.agg [.lit (.string []),.nil,.lit (.int .i64 0),.agg [.lit (.int .i64 0),.lit (.int .i64 0),.lit (.string []),.nil,.nil],.agg [.lit (.int .i64 0),.lit (.int .i64 0),.lit (.string []),.nil,.nil]]],[],places):=
 ⟨[],by kernel_rfl⟩
set_option maxRecDepth 100000 in
theorem cQ1 (os:Os)(started:os.Started)(H:Type)(enc:TypeId × Value→H)(F:Stop.Interp) :
  ReturnsInHanded {} Tryz.checked os 10 .any ((Rows.OpenSpec.upto Rows.tableOwnSpec).preRow enc prog f10 Rows.tableOwnUptoRow.domain false Rows.tableOwnUptoRow.laid) (((Rows.OpenSpec.upto Rows.tableOwnSpec).at F).post enc prog f10 false true false false):=by
 obtain⟨places,hx⟩:=reads os enc
 refine returnsInHanded_of_row (C:=Tryz.checked) (s:=Rows.OpenSpec.upto Rows.tableOwnSpec) own started (by kernel_rfl) func10
  (witness_row_at (enc:=enc) (C:=Tryz.checked) false (oJ0 os) wargs rfl (by kernel_rfl) (by kernel_rfl) (by kernel_rfl)
   (OpenSpec.preRow_of_cond 9 hx (by kernel_rfl) (fun k hk=>by cases hk;kernel_rfl) (by kernel_rfl) (mK1 os))) ?_
 intro W base args ds gs before hval hW _ hcond _ hlaid _ _
 exact cE1 H enc W base args ds gs before hval hW (hcond _ rfl) hlaid
set_option maxRecDepth 100000 in
theorem nD1 : Rows.TableOwnUptoSaid:=
 OpenClaim.holds_of_cond 10 f10 rfl rfl rfl rfl rfl rfl rfl ⟨rfl,rfl,rfl,rfl,rfl⟩ rfl rfl rfl rfl rfl (by kernel_rfl) func10 lL1 lM1 lN1
  (fun os started H enc _ F=>by rw[OpenClaim.pre_eq_preRow];exact cQ1 os started H enc F)
set_option maxRecDepth 100000 in
theorem plain (f : FuncId) (fn : Func) (hf : Tryz.pinned.checked.prog.funcNamed "tenet/tenetlaw04.TableOwn" = some f) (hfn : Tryz.pinned.checked.prog.funcs[f]? = some fn) :
  true=Tryz.pinned.checked.prog.looks []∧∀ (j:Nat) t,fn.params[j]? = some t→Tryz.pinned.checked.prog.wantsStandIn t=false:=by
 obtain rfl : f = 10 := Option.some.inj ((show prog.funcNamed "tenet/tenetlaw04.TableOwn" = some 10 by kernel_rfl).symm.trans hf) |>.symm
 obtain rfl:fn=f10:=(Option.some.inj (func10.symm.trans hfn)).symm
 refine⟨by kernel_rfl,fun j t ht=> ?_⟩
 rw[Tryz.params10]at ht
 have:t=24∨t=67:=by simpa using Array.mem_of_getElem? ht
 rcases this with rfl | rfl
 ·exact(show prog.wantsStandIn 24=false by kernel_rfl)
 ·exact(show prog.wantsStandIn 67=false by kernel_rfl)
set_option maxRecDepth 100000 in
theorem cardOwn : Rows.TableOwnUptoCardSaid:=
 Claim7.holds_tied_plain_at .later [] _ _ _ _ nD1 (fun _ h=>by cases h) (by kernel_rfl) (fun _ h=>by cases h) tableOwnUpto_row_tie rfl ⟨rfl,rfl⟩ (by kernel_rfl) rfl plain (by kernel_rfl)
end
end Go.Proofs.YteenjodhmppgjaaGreatDoor.Am
