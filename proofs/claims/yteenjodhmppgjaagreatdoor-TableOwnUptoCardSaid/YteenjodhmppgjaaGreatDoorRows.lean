/-
  NARROWER THAN 'FOR EVERY INPUT', by the rows' own cells (each row's printed sentence says how): TableChecks: loops, laid · TableMany: loops, laid · TableFits: loops, laid · TableLast: loops, laid · TableRecursive: loops, laid · TableTypes: loops, laid · TableFamilies: loops, laid · TableOwn: loops, laid · TableHypotheses: loops, laid · TableValues: loops, laid.
  DERIVED. THE GIVEN ROWS OF THIS SEAT. 10 by the template 'for every input the law returns true; each argument reads behind the call as it read before'; 0 by the template 'total and deterministic' (their statements: YteenjodhmppgjaaGreatDoorTotals.lean).
  GIVEN WITH THE SEED: the statements are not yours to turn. If you find one false, say at which input.
  Laid BY PROGRAM, IN A SANDBOX (cutbox-rows.mjs): the forced cells as the released guide's own fill.sh prints them over the translation 971c4ca7e6acee89… (all of the seat's roots in one cut). By AI agents, Wed Nov 11 2026. No macro, syntax, notation, axiom, sorry.
-/
import Derived.Test.YteenjodhmppgjaaGreatDoorChecked
import GoSem.Claim
import GoSem.ClaimJoined
import GoSem.ClaimMapViews
import Derived.JoinedTies
import Derived.KernelRfl
namespace Go.Proofs.YteenjodhmppgjaaGreatDoor
/- THE CELL 'sum', in the pinned program and in every row, IS THE sha256 OF THE DUMP (.gsa) THAT YteenjodhmppgjaaGreatDoorProg.lean LOADS. Nothing in Lean hashes anything: it is a label: what it is worth is what the hold of that sum in a sandbox is worth. -/
noncomputable def Tryz.pinned : Pinned := { name := "yteenjodhmppgjaagreatdoor", sum := "971c4ca7e6acee898d0255200f0f8f5de6102ec79edfa020363feda14b2e6252", checked := Tryz.checked }
namespace Rows
def none {H : Type} : Left H := { results := [], args := [] }

/- WHAT THE LISTED PACKAGE-LEVEL VARIABLES READ AS WHEN THE CALL BEGINS. Each datum BY PROGRAM (the guide's laid-datum.mjs) off the statement by which the dump's own 'gosem.cut.vars' lays the variable. In a bare row this is a premise. The card (YteenjodhmppgjaaGreatDoorCards.lean) ties it to the program's text. -/
def laid_errors_errorType {H : Type} : DataW H := .iface "internal/reflectlite.rtype" (.agg [.ptr (.lit (.string [101, 114, 114, 111, 114]))])

/-- 'tenetlaw04.TableChecks': WHATEVER THE INPUT: true; the input reads as it did. -/
def tableChecksSpec : ChangeSpec := { name := "tableChecks", fn := fun _ => fun
  | [d] => { results := [.lit (.bool true)], args := [d] }
  | _ => none }
def tableChecksRow : OpenClaim := { program := "yteenjodhmppgjaagreatdoor", sum := "971c4ca7e6acee898d0255200f0f8f5de6102ec79edfa020363feda14b2e6252", func := "tenet/tenetlaw04.TableChecks", spec := "tableChecks", inPlace := ["internal/reflectlite.ValueOf", "(internal/reflectlite.Value).Type", "(internal/reflectlite.Value).IsNil", "internal/reflectlite.TypeOf", "(internal/reflectlite.Value).Elem", "(internal/reflectlite.Value).Set"], unfollowed := true, recurses := true, named := ["errors.errorType"], loops := true, apart := false, laid := [("errors.errorType", laid_errors_errorType)] }
def TableChecksSaid : Prop := tableChecksRow.holds Tryz.pinned (OpenSpec.ofChange tableChecksSpec)

/-- ITS FALSE NEIGHBOUR: 'it returns false'. Refute it at one input. -/
def tableChecksWrong : ChangeSpec := { name := "tableChecks", fn := fun _ => fun
  | [d] => { results := [.lit (.bool false)], args := [d] }
  | _ => none }
def TableChecksWrongFalsely : Prop := tableChecksRow.holds Tryz.pinned (OpenSpec.ofChange tableChecksWrong)

/-- 'tenetlaw04.TableMany': WHATEVER THE INPUT: true; the input reads as it did. -/
def tableManySpec : ChangeSpec := { name := "tableMany", fn := fun _ => fun
  | [d1, d2] => { results := [.lit (.bool true)], args := [d1, d2] }
  | _ => none }
def tableManyRow : OpenClaim := { program := "yteenjodhmppgjaagreatdoor", sum := "971c4ca7e6acee898d0255200f0f8f5de6102ec79edfa020363feda14b2e6252", func := "tenet/tenetlaw04.TableMany", spec := "tableMany", inPlace := ["internal/reflectlite.ValueOf", "(internal/reflectlite.Value).Type", "(internal/reflectlite.Value).IsNil", "internal/reflectlite.TypeOf", "(internal/reflectlite.Value).Elem", "(internal/reflectlite.Value).Set"], unfollowed := true, recurses := true, named := ["errors.errorType"], loops := true, apart := false, laid := [("errors.errorType", laid_errors_errorType)] }
def TableManySaid : Prop := tableManyRow.holds Tryz.pinned (OpenSpec.ofChange tableManySpec)

/-- ITS FALSE NEIGHBOUR: 'it returns false'. Refute it at one input. -/
def tableManyWrong : ChangeSpec := { name := "tableMany", fn := fun _ => fun
  | [d1, d2] => { results := [.lit (.bool false)], args := [d1, d2] }
  | _ => none }
def TableManyWrongFalsely : Prop := tableManyRow.holds Tryz.pinned (OpenSpec.ofChange tableManyWrong)

/-- 'tenetlaw04.TableFits': WHATEVER THE INPUT: true; the input reads as it did. -/
def tableFitsSpec : ChangeSpec := { name := "tableFits", fn := fun _ => fun
  | [d1, d2] => { results := [.lit (.bool true)], args := [d1, d2] }
  | _ => none }
def tableFitsRow : OpenClaim := { program := "yteenjodhmppgjaagreatdoor", sum := "971c4ca7e6acee898d0255200f0f8f5de6102ec79edfa020363feda14b2e6252", func := "tenet/tenetlaw04.TableFits", spec := "tableFits", inPlace := ["internal/reflectlite.ValueOf", "(internal/reflectlite.Value).Type", "(internal/reflectlite.Value).IsNil", "internal/reflectlite.TypeOf", "(internal/reflectlite.Value).Elem", "(internal/reflectlite.Value).Set"], unfollowed := true, recurses := true, named := ["errors.errorType"], loops := true, apart := false, laid := [("errors.errorType", laid_errors_errorType)] }
def TableFitsSaid : Prop := tableFitsRow.holds Tryz.pinned (OpenSpec.ofChange tableFitsSpec)

/-- ITS FALSE NEIGHBOUR: 'it returns false'. Refute it at one input. -/
def tableFitsWrong : ChangeSpec := { name := "tableFits", fn := fun _ => fun
  | [d1, d2] => { results := [.lit (.bool false)], args := [d1, d2] }
  | _ => none }
def TableFitsWrongFalsely : Prop := tableFitsRow.holds Tryz.pinned (OpenSpec.ofChange tableFitsWrong)

/-- 'tenetlaw04.TableLast': WHATEVER THE INPUT: true; the input reads as it did. -/
def tableLastSpec : ChangeSpec := { name := "tableLast", fn := fun _ => fun
  | [d] => { results := [.lit (.bool true)], args := [d] }
  | _ => none }
def tableLastRow : OpenClaim := { program := "yteenjodhmppgjaagreatdoor", sum := "971c4ca7e6acee898d0255200f0f8f5de6102ec79edfa020363feda14b2e6252", func := "tenet/tenetlaw04.TableLast", spec := "tableLast", inPlace := ["internal/reflectlite.ValueOf", "(internal/reflectlite.Value).Type", "(internal/reflectlite.Value).IsNil", "internal/reflectlite.TypeOf", "(internal/reflectlite.Value).Elem", "(internal/reflectlite.Value).Set"], unfollowed := true, recurses := true, named := ["errors.errorType"], loops := true, apart := false, laid := [("errors.errorType", laid_errors_errorType)] }
def TableLastSaid : Prop := tableLastRow.holds Tryz.pinned (OpenSpec.ofChange tableLastSpec)

/-- ITS FALSE NEIGHBOUR: 'it returns false'. Refute it at one input. -/
def tableLastWrong : ChangeSpec := { name := "tableLast", fn := fun _ => fun
  | [d] => { results := [.lit (.bool false)], args := [d] }
  | _ => none }
def TableLastWrongFalsely : Prop := tableLastRow.holds Tryz.pinned (OpenSpec.ofChange tableLastWrong)

/-- 'tenetlaw04.TableRecursive': WHATEVER THE INPUT: true; the input reads as it did. -/
def tableRecursiveSpec : ChangeSpec := { name := "tableRecursive", fn := fun _ => fun
  | [d1, d2] => { results := [.lit (.bool true)], args := [d1, d2] }
  | _ => none }
def tableRecursiveRow : OpenClaim := { program := "yteenjodhmppgjaagreatdoor", sum := "971c4ca7e6acee898d0255200f0f8f5de6102ec79edfa020363feda14b2e6252", func := "tenet/tenetlaw04.TableRecursive", spec := "tableRecursive", inPlace := ["internal/reflectlite.ValueOf", "(internal/reflectlite.Value).Type", "(internal/reflectlite.Value).IsNil", "internal/reflectlite.TypeOf", "(internal/reflectlite.Value).Elem", "(internal/reflectlite.Value).Set"], unfollowed := true, recurses := true, named := ["errors.errorType"], loops := true, apart := false, laid := [("errors.errorType", laid_errors_errorType)] }
def TableRecursiveSaid : Prop := tableRecursiveRow.holds Tryz.pinned (OpenSpec.ofChange tableRecursiveSpec)

/-- ITS FALSE NEIGHBOUR: 'it returns false'. Refute it at one input. -/
def tableRecursiveWrong : ChangeSpec := { name := "tableRecursive", fn := fun _ => fun
  | [d1, d2] => { results := [.lit (.bool false)], args := [d1, d2] }
  | _ => none }
def TableRecursiveWrongFalsely : Prop := tableRecursiveRow.holds Tryz.pinned (OpenSpec.ofChange tableRecursiveWrong)

/-- 'tenetlaw04.TableTypes': WHATEVER THE INPUT: true; the input reads as it did. -/
def tableTypesSpec : ChangeSpec := { name := "tableTypes", fn := fun _ => fun
  | [d1, d2, d3] => { results := [.lit (.bool true)], args := [d1, d2, d3] }
  | _ => none }
def tableTypesRow : OpenClaim := { program := "yteenjodhmppgjaagreatdoor", sum := "971c4ca7e6acee898d0255200f0f8f5de6102ec79edfa020363feda14b2e6252", func := "tenet/tenetlaw04.TableTypes", spec := "tableTypes", inPlace := ["internal/reflectlite.ValueOf", "(internal/reflectlite.Value).Type", "(internal/reflectlite.Value).IsNil", "internal/reflectlite.TypeOf", "(internal/reflectlite.Value).Elem", "(internal/reflectlite.Value).Set"], unfollowed := true, recurses := true, named := ["errors.errorType"], loops := true, apart := false, laid := [("errors.errorType", laid_errors_errorType)] }
def TableTypesSaid : Prop := tableTypesRow.holds Tryz.pinned (OpenSpec.ofChange tableTypesSpec)

/-- ITS FALSE NEIGHBOUR: 'it returns false'. Refute it at one input. -/
def tableTypesWrong : ChangeSpec := { name := "tableTypes", fn := fun _ => fun
  | [d1, d2, d3] => { results := [.lit (.bool false)], args := [d1, d2, d3] }
  | _ => none }
def TableTypesWrongFalsely : Prop := tableTypesRow.holds Tryz.pinned (OpenSpec.ofChange tableTypesWrong)

/-- 'tenetlaw04.TableFamilies': WHATEVER THE INPUT: true; the input reads as it did. -/
def tableFamiliesSpec : ChangeSpec := { name := "tableFamilies", fn := fun _ => fun
  | [d1, d2] => { results := [.lit (.bool true)], args := [d1, d2] }
  | _ => none }
def tableFamiliesRow : OpenClaim := { program := "yteenjodhmppgjaagreatdoor", sum := "971c4ca7e6acee898d0255200f0f8f5de6102ec79edfa020363feda14b2e6252", func := "tenet/tenetlaw04.TableFamilies", spec := "tableFamilies", inPlace := ["internal/reflectlite.ValueOf", "(internal/reflectlite.Value).Type", "(internal/reflectlite.Value).IsNil", "internal/reflectlite.TypeOf", "(internal/reflectlite.Value).Elem", "(internal/reflectlite.Value).Set"], unfollowed := true, recurses := true, named := ["errors.errorType"], loops := true, apart := false, laid := [("errors.errorType", laid_errors_errorType)] }
def TableFamiliesSaid : Prop := tableFamiliesRow.holds Tryz.pinned (OpenSpec.ofChange tableFamiliesSpec)

/-- ITS FALSE NEIGHBOUR: 'it returns false'. Refute it at one input. -/
def tableFamiliesWrong : ChangeSpec := { name := "tableFamilies", fn := fun _ => fun
  | [d1, d2] => { results := [.lit (.bool false)], args := [d1, d2] }
  | _ => none }
def TableFamiliesWrongFalsely : Prop := tableFamiliesRow.holds Tryz.pinned (OpenSpec.ofChange tableFamiliesWrong)

/-- 'tenetlaw04.TableOwn': WHATEVER THE INPUT: true; the input reads as it did. -/
def tableOwnSpec : ChangeSpec := { name := "tableOwn", fn := fun _ => fun
  | [d1, d2] => { results := [.lit (.bool true)], args := [d1, d2] }
  | _ => none }
def tableOwnRow : OpenClaim := { program := "yteenjodhmppgjaagreatdoor", sum := "971c4ca7e6acee898d0255200f0f8f5de6102ec79edfa020363feda14b2e6252", func := "tenet/tenetlaw04.TableOwn", spec := "tableOwn", inPlace := ["internal/reflectlite.ValueOf", "(internal/reflectlite.Value).Type", "(internal/reflectlite.Value).IsNil", "internal/reflectlite.TypeOf", "(internal/reflectlite.Value).Elem", "(internal/reflectlite.Value).Set"], unfollowed := true, recurses := true, named := ["errors.errorType"], loops := true, apart := false, laid := [("errors.errorType", laid_errors_errorType)] }
def TableOwnSaid : Prop := tableOwnRow.holds Tryz.pinned (OpenSpec.ofChange tableOwnSpec)

/-- ITS FALSE NEIGHBOUR: 'it returns false'. Refute it at one input. -/
def tableOwnWrong : ChangeSpec := { name := "tableOwn", fn := fun _ => fun
  | [d1, d2] => { results := [.lit (.bool false)], args := [d1, d2] }
  | _ => none }
def TableOwnWrongFalsely : Prop := tableOwnRow.holds Tryz.pinned (OpenSpec.ofChange tableOwnWrong)

/-- 'tenetlaw04.TableHypotheses': WHATEVER THE INPUT: true; the input reads as it did. -/
def tableHypothesesSpec : ChangeSpec := { name := "tableHypotheses", fn := fun _ => fun
  | [d1, d2, d3] => { results := [.lit (.bool true)], args := [d1, d2, d3] }
  | _ => none }
def tableHypothesesRow : OpenClaim := { program := "yteenjodhmppgjaagreatdoor", sum := "971c4ca7e6acee898d0255200f0f8f5de6102ec79edfa020363feda14b2e6252", func := "tenet/tenetlaw04.TableHypotheses", spec := "tableHypotheses", inPlace := ["internal/reflectlite.ValueOf", "(internal/reflectlite.Value).Type", "(internal/reflectlite.Value).IsNil", "internal/reflectlite.TypeOf", "(internal/reflectlite.Value).Elem", "(internal/reflectlite.Value).Set", "slices.overlaps[tenet/api.Term]"], unfollowed := true, recurses := true, named := ["errors.errorType"], loops := true, apart := false, laid := [("errors.errorType", laid_errors_errorType)] }
def TableHypothesesSaid : Prop := tableHypothesesRow.holds Tryz.pinned (OpenSpec.ofChange tableHypothesesSpec)

/-- ITS FALSE NEIGHBOUR: 'it returns false'. Refute it at one input. -/
def tableHypothesesWrong : ChangeSpec := { name := "tableHypotheses", fn := fun _ => fun
  | [d1, d2, d3] => { results := [.lit (.bool false)], args := [d1, d2, d3] }
  | _ => none }
def TableHypothesesWrongFalsely : Prop := tableHypothesesRow.holds Tryz.pinned (OpenSpec.ofChange tableHypothesesWrong)

/-- 'tenetlaw04.TableValues': WHATEVER THE INPUT: true; the input reads as it did. -/
def tableValuesSpec : ChangeSpec := { name := "tableValues", fn := fun _ => fun
  | [d1, d2, d3] => { results := [.lit (.bool true)], args := [d1, d2, d3] }
  | _ => none }
def tableValuesRow : OpenClaim := { program := "yteenjodhmppgjaagreatdoor", sum := "971c4ca7e6acee898d0255200f0f8f5de6102ec79edfa020363feda14b2e6252", func := "tenet/tenetlaw04.TableValues", spec := "tableValues", inPlace := ["internal/reflectlite.ValueOf", "(internal/reflectlite.Value).Type", "(internal/reflectlite.Value).IsNil", "internal/reflectlite.TypeOf", "(internal/reflectlite.Value).Elem", "(internal/reflectlite.Value).Set", "slices.overlaps[tenet/api.Term]"], unfollowed := true, recurses := true, named := ["errors.errorType"], loops := true, apart := false, laid := [("errors.errorType", laid_errors_errorType)] }
def TableValuesSaid : Prop := tableValuesRow.holds Tryz.pinned (OpenSpec.ofChange tableValuesSpec)

/-- ITS FALSE NEIGHBOUR: 'it returns false'. Refute it at one input. -/
def tableValuesWrong : ChangeSpec := { name := "tableValues", fn := fun _ => fun
  | [d1, d2, d3] => { results := [.lit (.bool false)], args := [d1, d2, d3] }
  | _ => none }
def TableValuesWrongFalsely : Prop := tableValuesRow.holds Tryz.pinned (OpenSpec.ofChange tableValuesWrong)

/- THE SECOND FORM. 'bulk': how many values and letters a reading holds, each counted each time it is reached (what is shared counts as often as it is met; a slice's spare places count too). A statement '..UptoSaid' is the law's where the arguments, and the package variables that the reading takes, are together of bulk at most 1048576: NARROWER than '..Said'. Prove '..Said' where nothing that the law and all that it calls make is longer than what came in: it says more and counts as full. Else prove '..UptoSaid'. A law counts once. -/
mutual
def uptoBulk {H : Type} : DataW H → Nat
  | .lit (.string bytes) => bytes.length + 1
  | .lit _ => 1
  | .nil => 1
  | .ptr d => uptoBulk d + 1
  | .slice elems spare => uptoBulkAll elems + uptoBulkAll spare + 1
  | .agg parts => uptoBulkAll parts + 1
  | .iface _ d => uptoBulk d + 1
  | .map entries => uptoBulkEntries entries + 1
  | .held _ => 1
def uptoBulkAll {H : Type} : List (DataW H) → Nat
  | [] => 0
  | d :: r => uptoBulk d + uptoBulkAll r
def uptoBulkEntries {H : Type} : List (Lit × DataW H) → Nat
  | [] => 0
  | x :: r => uptoBulkEntry x + uptoBulkEntries r
def uptoBulkEntry {H : Type} : Lit × DataW H → Nat
  | (.string bytes, d) => bytes.length + uptoBulk d + 1
  | (_, d) => uptoBulk d + 1
 end
def uptoSmall : (H : Type) → List (DataW H) → Bool := fun _ ds => decide (uptoBulkAll ds ≤ 1048576)
def OpenSpec.upto (s : _root_.Go.ChangeSpec) : _root_.Go.OpenSpec := { _root_.Go.OpenSpec.ofChange s with cond := some uptoSmall }

/-- 'tenetlaw04.TableChecks', WHERE WHAT IT READS IS OF BULK AT MOST 1048576: true; the input reads as it did. -/
def tableChecksUptoRow : OpenClaim := { program := "yteenjodhmppgjaagreatdoor", sum := "971c4ca7e6acee898d0255200f0f8f5de6102ec79edfa020363feda14b2e6252", func := "tenet/tenetlaw04.TableChecks", spec := "tableChecks", inPlace := ["internal/reflectlite.ValueOf", "(internal/reflectlite.Value).Type", "(internal/reflectlite.Value).IsNil", "internal/reflectlite.TypeOf", "(internal/reflectlite.Value).Elem", "(internal/reflectlite.Value).Set"], unfollowed := true, recurses := true, named := ["errors.errorType"], loops := true, apart := false, laid := [("errors.errorType", laid_errors_errorType)], narrowed := true }
def TableChecksUptoSaid : Prop := tableChecksUptoRow.holds Tryz.pinned (OpenSpec.upto tableChecksSpec)

/-- 'tenetlaw04.TableMany', WHERE WHAT IT READS IS OF BULK AT MOST 1048576: true; the input reads as it did. -/
def tableManyUptoRow : OpenClaim := { program := "yteenjodhmppgjaagreatdoor", sum := "971c4ca7e6acee898d0255200f0f8f5de6102ec79edfa020363feda14b2e6252", func := "tenet/tenetlaw04.TableMany", spec := "tableMany", inPlace := ["internal/reflectlite.ValueOf", "(internal/reflectlite.Value).Type", "(internal/reflectlite.Value).IsNil", "internal/reflectlite.TypeOf", "(internal/reflectlite.Value).Elem", "(internal/reflectlite.Value).Set"], unfollowed := true, recurses := true, named := ["errors.errorType"], loops := true, apart := false, laid := [("errors.errorType", laid_errors_errorType)], narrowed := true }
def TableManyUptoSaid : Prop := tableManyUptoRow.holds Tryz.pinned (OpenSpec.upto tableManySpec)

/-- 'tenetlaw04.TableFits', WHERE WHAT IT READS IS OF BULK AT MOST 1048576: true; the input reads as it did. -/
def tableFitsUptoRow : OpenClaim := { program := "yteenjodhmppgjaagreatdoor", sum := "971c4ca7e6acee898d0255200f0f8f5de6102ec79edfa020363feda14b2e6252", func := "tenet/tenetlaw04.TableFits", spec := "tableFits", inPlace := ["internal/reflectlite.ValueOf", "(internal/reflectlite.Value).Type", "(internal/reflectlite.Value).IsNil", "internal/reflectlite.TypeOf", "(internal/reflectlite.Value).Elem", "(internal/reflectlite.Value).Set"], unfollowed := true, recurses := true, named := ["errors.errorType"], loops := true, apart := false, laid := [("errors.errorType", laid_errors_errorType)], narrowed := true }
def TableFitsUptoSaid : Prop := tableFitsUptoRow.holds Tryz.pinned (OpenSpec.upto tableFitsSpec)

/-- 'tenetlaw04.TableLast', WHERE WHAT IT READS IS OF BULK AT MOST 1048576: true; the input reads as it did. -/
def tableLastUptoRow : OpenClaim := { program := "yteenjodhmppgjaagreatdoor", sum := "971c4ca7e6acee898d0255200f0f8f5de6102ec79edfa020363feda14b2e6252", func := "tenet/tenetlaw04.TableLast", spec := "tableLast", inPlace := ["internal/reflectlite.ValueOf", "(internal/reflectlite.Value).Type", "(internal/reflectlite.Value).IsNil", "internal/reflectlite.TypeOf", "(internal/reflectlite.Value).Elem", "(internal/reflectlite.Value).Set"], unfollowed := true, recurses := true, named := ["errors.errorType"], loops := true, apart := false, laid := [("errors.errorType", laid_errors_errorType)], narrowed := true }
def TableLastUptoSaid : Prop := tableLastUptoRow.holds Tryz.pinned (OpenSpec.upto tableLastSpec)

/-- 'tenetlaw04.TableRecursive', WHERE WHAT IT READS IS OF BULK AT MOST 1048576: true; the input reads as it did. -/
def tableRecursiveUptoRow : OpenClaim := { program := "yteenjodhmppgjaagreatdoor", sum := "971c4ca7e6acee898d0255200f0f8f5de6102ec79edfa020363feda14b2e6252", func := "tenet/tenetlaw04.TableRecursive", spec := "tableRecursive", inPlace := ["internal/reflectlite.ValueOf", "(internal/reflectlite.Value).Type", "(internal/reflectlite.Value).IsNil", "internal/reflectlite.TypeOf", "(internal/reflectlite.Value).Elem", "(internal/reflectlite.Value).Set"], unfollowed := true, recurses := true, named := ["errors.errorType"], loops := true, apart := false, laid := [("errors.errorType", laid_errors_errorType)], narrowed := true }
def TableRecursiveUptoSaid : Prop := tableRecursiveUptoRow.holds Tryz.pinned (OpenSpec.upto tableRecursiveSpec)

/-- 'tenetlaw04.TableTypes', WHERE WHAT IT READS IS OF BULK AT MOST 1048576: true; the input reads as it did. -/
def tableTypesUptoRow : OpenClaim := { program := "yteenjodhmppgjaagreatdoor", sum := "971c4ca7e6acee898d0255200f0f8f5de6102ec79edfa020363feda14b2e6252", func := "tenet/tenetlaw04.TableTypes", spec := "tableTypes", inPlace := ["internal/reflectlite.ValueOf", "(internal/reflectlite.Value).Type", "(internal/reflectlite.Value).IsNil", "internal/reflectlite.TypeOf", "(internal/reflectlite.Value).Elem", "(internal/reflectlite.Value).Set"], unfollowed := true, recurses := true, named := ["errors.errorType"], loops := true, apart := false, laid := [("errors.errorType", laid_errors_errorType)], narrowed := true }
def TableTypesUptoSaid : Prop := tableTypesUptoRow.holds Tryz.pinned (OpenSpec.upto tableTypesSpec)

/-- 'tenetlaw04.TableFamilies', WHERE WHAT IT READS IS OF BULK AT MOST 1048576: true; the input reads as it did. -/
def tableFamiliesUptoRow : OpenClaim := { program := "yteenjodhmppgjaagreatdoor", sum := "971c4ca7e6acee898d0255200f0f8f5de6102ec79edfa020363feda14b2e6252", func := "tenet/tenetlaw04.TableFamilies", spec := "tableFamilies", inPlace := ["internal/reflectlite.ValueOf", "(internal/reflectlite.Value).Type", "(internal/reflectlite.Value).IsNil", "internal/reflectlite.TypeOf", "(internal/reflectlite.Value).Elem", "(internal/reflectlite.Value).Set"], unfollowed := true, recurses := true, named := ["errors.errorType"], loops := true, apart := false, laid := [("errors.errorType", laid_errors_errorType)], narrowed := true }
def TableFamiliesUptoSaid : Prop := tableFamiliesUptoRow.holds Tryz.pinned (OpenSpec.upto tableFamiliesSpec)

/-- 'tenetlaw04.TableOwn', WHERE WHAT IT READS IS OF BULK AT MOST 1048576: true; the input reads as it did. -/
def tableOwnUptoRow : OpenClaim := { program := "yteenjodhmppgjaagreatdoor", sum := "971c4ca7e6acee898d0255200f0f8f5de6102ec79edfa020363feda14b2e6252", func := "tenet/tenetlaw04.TableOwn", spec := "tableOwn", inPlace := ["internal/reflectlite.ValueOf", "(internal/reflectlite.Value).Type", "(internal/reflectlite.Value).IsNil", "internal/reflectlite.TypeOf", "(internal/reflectlite.Value).Elem", "(internal/reflectlite.Value).Set"], unfollowed := true, recurses := true, named := ["errors.errorType"], loops := true, apart := false, laid := [("errors.errorType", laid_errors_errorType)], narrowed := true }
def TableOwnUptoSaid : Prop := tableOwnUptoRow.holds Tryz.pinned (OpenSpec.upto tableOwnSpec)

/-- 'tenetlaw04.TableHypotheses', WHERE WHAT IT READS IS OF BULK AT MOST 1048576: true; the input reads as it did. -/
def tableHypothesesUptoRow : OpenClaim := { program := "yteenjodhmppgjaagreatdoor", sum := "971c4ca7e6acee898d0255200f0f8f5de6102ec79edfa020363feda14b2e6252", func := "tenet/tenetlaw04.TableHypotheses", spec := "tableHypotheses", inPlace := ["internal/reflectlite.ValueOf", "(internal/reflectlite.Value).Type", "(internal/reflectlite.Value).IsNil", "internal/reflectlite.TypeOf", "(internal/reflectlite.Value).Elem", "(internal/reflectlite.Value).Set", "slices.overlaps[tenet/api.Term]"], unfollowed := true, recurses := true, named := ["errors.errorType"], loops := true, apart := false, laid := [("errors.errorType", laid_errors_errorType)], narrowed := true }
def TableHypothesesUptoSaid : Prop := tableHypothesesUptoRow.holds Tryz.pinned (OpenSpec.upto tableHypothesesSpec)

/-- 'tenetlaw04.TableValues', WHERE WHAT IT READS IS OF BULK AT MOST 1048576: true; the input reads as it did. -/
def tableValuesUptoRow : OpenClaim := { program := "yteenjodhmppgjaagreatdoor", sum := "971c4ca7e6acee898d0255200f0f8f5de6102ec79edfa020363feda14b2e6252", func := "tenet/tenetlaw04.TableValues", spec := "tableValues", inPlace := ["internal/reflectlite.ValueOf", "(internal/reflectlite.Value).Type", "(internal/reflectlite.Value).IsNil", "internal/reflectlite.TypeOf", "(internal/reflectlite.Value).Elem", "(internal/reflectlite.Value).Set", "slices.overlaps[tenet/api.Term]"], unfollowed := true, recurses := true, named := ["errors.errorType"], loops := true, apart := false, laid := [("errors.errorType", laid_errors_errorType)], narrowed := true }
def TableValuesUptoSaid : Prop := tableValuesUptoRow.holds Tryz.pinned (OpenSpec.upto tableValuesSpec)

end Rows
end Go.Proofs.YteenjodhmppgjaaGreatDoor
