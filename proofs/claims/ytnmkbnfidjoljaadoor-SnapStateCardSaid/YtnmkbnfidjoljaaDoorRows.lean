/-
  NARROWER THAN 'FOR EVERY INPUT', by the rows' own cells (each row's printed sentence says how): SnapDoes: laid · SnapState: laid · SnapRefuses: laid · SnapGoes: laid · SnapLoses: laid.
  DERIVED. THE GIVEN ROWS OF THIS SEAT. 5 by the template 'for every input the law returns true; each argument reads behind the call as it read before'; 0 by the template 'total and deterministic' (their statements: YtnmkbnfidjoljaaDoorTotals.lean).
  GIVEN WITH THE SEED: the statements are not yours to turn. If you find one false, say at which input.
  Laid BY PROGRAM, IN A SANDBOX (cutbox-rows.mjs): the forced cells as the released guide's own fill.sh prints them over the translation a2f3ef52d0d6e733… (all of the seat's roots in one cut). By AI agents, Wed Nov 11 2026. No macro, syntax, notation, axiom, sorry.
-/
import Derived.Test.YtnmkbnfidjoljaaDoorChecked
import GoSem.Claim
import GoSem.ClaimJoined
import GoSem.ClaimMapViews
import Derived.JoinedTies
import Derived.KernelRfl
namespace Go.Proofs.YtnmkbnfidjoljaaDoor
/- THE CELL 'sum', in the pinned program and in every row, IS THE sha256 OF THE DUMP (.gsa) THAT YtnmkbnfidjoljaaDoorProg.lean LOADS. Nothing in Lean hashes anything: it is a label: what it is worth is what the hold of that sum in a sandbox is worth. -/
noncomputable def Tryd.pinned : Pinned := { name := "ytnmkbnfidjoljaadoor", sum := "a2f3ef52d0d6e7336d7355321adb05051b51fe4d08bec84bdd91171d0529873a", checked := Tryd.checked }
namespace Rows
def none {H : Type} : Left H := { results := [], args := [] }

/- WHAT THE LISTED PACKAGE-LEVEL VARIABLES READ AS WHEN THE CALL BEGINS. Each datum BY PROGRAM (the guide's laid-datum.mjs) off the statement by which the dump's own 'gosem.cut.vars' lays the variable. In a bare row this is a premise. The card (YtnmkbnfidjoljaaDoorCards.lean) ties it to the program's text. -/
def laid_coffret_record_none {H : Type} : DataW H := .agg [.lit (.int .i64 0), .lit (.int .i64 0)]
def laid_coffret_record_id {H : Type} : DataW H := .agg [.lit (.int .i64 1), .lit (.int .i64 1099511627776)]
def laid_coffret_record_queue {H : Type} : DataW H := .agg [.lit (.int .i64 1), .lit (.int .i64 16)]
def laid_coffret_record_when {H : Type} : DataW H := .agg [.lit (.int .i64 0), .lit (.int .i64 1125899906842624)]
def laid_coffret_record_limit {H : Type} : DataW H := .agg [.lit (.int .i64 1), .lit (.int .i64 16)]
def laid_coffret_record_many {H : Type} : DataW H := .agg [.lit (.int .i64 0), .lit (.int .i64 16)]
def laid_coffret_record_late {H : Type} : DataW H := .agg [.lit (.int .i64 1), .lit (.int .i64 1125899907891200)]

/-- 'coffretlaw18.SnapDoes': WHATEVER THE INPUT: true; the input reads as it did. -/
def snapDoesSpec : ChangeSpec := { name := "snapDoes", fn := fun _ => fun
  | [d1, d2, d3, d4] => { results := [.lit (.bool true)], args := [d1, d2, d3, d4] }
  | _ => none }
def snapDoesRow : OpenClaim := { program := "ytnmkbnfidjoljaadoor", sum := "a2f3ef52d0d6e7336d7355321adb05051b51fe4d08bec84bdd91171d0529873a", func := "coffret/coffretlaw18.SnapDoes", spec := "snapDoes", unfollowed := true, recurses := true, named := ["coffret/record.queue", "coffret/record.limit", "coffret/record.none", "coffret/record.id", "coffret/record.late", "coffret/record.when", "coffret/record.many"], plainKeys := false, apart := false, laid := [("coffret/record.none", laid_coffret_record_none), ("coffret/record.id", laid_coffret_record_id), ("coffret/record.queue", laid_coffret_record_queue), ("coffret/record.when", laid_coffret_record_when), ("coffret/record.limit", laid_coffret_record_limit), ("coffret/record.many", laid_coffret_record_many), ("coffret/record.late", laid_coffret_record_late)] }
def SnapDoesSaid : Prop := snapDoesRow.holds Tryd.pinned (OpenSpec.ofChange snapDoesSpec)

/-- ITS FALSE NEIGHBOUR: 'it returns false'. Refute it at one input. -/
def snapDoesWrong : ChangeSpec := { name := "snapDoes", fn := fun _ => fun
  | [d1, d2, d3, d4] => { results := [.lit (.bool false)], args := [d1, d2, d3, d4] }
  | _ => none }
def SnapDoesWrongFalsely : Prop := snapDoesRow.holds Tryd.pinned (OpenSpec.ofChange snapDoesWrong)

/-- 'coffretlaw18.SnapState': WHATEVER THE INPUT: true; the input reads as it did. -/
def snapStateSpec : ChangeSpec := { name := "snapState", fn := fun _ => fun
  | [d1, d2, d3, d4] => { results := [.lit (.bool true)], args := [d1, d2, d3, d4] }
  | _ => none }
def snapStateRow : OpenClaim := { program := "ytnmkbnfidjoljaadoor", sum := "a2f3ef52d0d6e7336d7355321adb05051b51fe4d08bec84bdd91171d0529873a", func := "coffret/coffretlaw18.SnapState", spec := "snapState", unfollowed := true, recurses := true, named := ["coffret/record.queue", "coffret/record.limit", "coffret/record.none", "coffret/record.id", "coffret/record.late", "coffret/record.when", "coffret/record.many"], plainKeys := false, apart := false, laid := [("coffret/record.none", laid_coffret_record_none), ("coffret/record.id", laid_coffret_record_id), ("coffret/record.queue", laid_coffret_record_queue), ("coffret/record.when", laid_coffret_record_when), ("coffret/record.limit", laid_coffret_record_limit), ("coffret/record.many", laid_coffret_record_many), ("coffret/record.late", laid_coffret_record_late)] }
def SnapStateSaid : Prop := snapStateRow.holds Tryd.pinned (OpenSpec.ofChange snapStateSpec)

/-- ITS FALSE NEIGHBOUR: 'it returns false'. Refute it at one input. -/
def snapStateWrong : ChangeSpec := { name := "snapState", fn := fun _ => fun
  | [d1, d2, d3, d4] => { results := [.lit (.bool false)], args := [d1, d2, d3, d4] }
  | _ => none }
def SnapStateWrongFalsely : Prop := snapStateRow.holds Tryd.pinned (OpenSpec.ofChange snapStateWrong)

/-- 'coffretlaw18.SnapRefuses': WHATEVER THE INPUT: true; the input reads as it did. -/
def snapRefusesSpec : ChangeSpec := { name := "snapRefuses", fn := fun _ => fun
  | [d1, d2, d3] => { results := [.lit (.bool true)], args := [d1, d2, d3] }
  | _ => none }
def snapRefusesRow : OpenClaim := { program := "ytnmkbnfidjoljaadoor", sum := "a2f3ef52d0d6e7336d7355321adb05051b51fe4d08bec84bdd91171d0529873a", func := "coffret/coffretlaw18.SnapRefuses", spec := "snapRefuses", unfollowed := true, recurses := true, named := ["coffret/record.queue", "coffret/record.limit", "coffret/record.none", "coffret/record.id", "coffret/record.late", "coffret/record.when", "coffret/record.many"], plainKeys := false, apart := false, laid := [("coffret/record.none", laid_coffret_record_none), ("coffret/record.id", laid_coffret_record_id), ("coffret/record.queue", laid_coffret_record_queue), ("coffret/record.when", laid_coffret_record_when), ("coffret/record.limit", laid_coffret_record_limit), ("coffret/record.many", laid_coffret_record_many), ("coffret/record.late", laid_coffret_record_late)] }
def SnapRefusesSaid : Prop := snapRefusesRow.holds Tryd.pinned (OpenSpec.ofChange snapRefusesSpec)

/-- ITS FALSE NEIGHBOUR: 'it returns false'. Refute it at one input. -/
def snapRefusesWrong : ChangeSpec := { name := "snapRefuses", fn := fun _ => fun
  | [d1, d2, d3] => { results := [.lit (.bool false)], args := [d1, d2, d3] }
  | _ => none }
def SnapRefusesWrongFalsely : Prop := snapRefusesRow.holds Tryd.pinned (OpenSpec.ofChange snapRefusesWrong)

/-- 'coffretlaw18.SnapGoes': WHATEVER THE INPUT: true; the input reads as it did. -/
def snapGoesSpec : ChangeSpec := { name := "snapGoes", fn := fun _ => fun
  | [d1, d2, d3, d4] => { results := [.lit (.bool true)], args := [d1, d2, d3, d4] }
  | _ => none }
def snapGoesRow : OpenClaim := { program := "ytnmkbnfidjoljaadoor", sum := "a2f3ef52d0d6e7336d7355321adb05051b51fe4d08bec84bdd91171d0529873a", func := "coffret/coffretlaw18.SnapGoes", spec := "snapGoes", unfollowed := true, recurses := true, named := ["coffret/record.queue", "coffret/record.limit", "coffret/record.none", "coffret/record.id", "coffret/record.late", "coffret/record.when", "coffret/record.many"], plainKeys := false, apart := false, laid := [("coffret/record.none", laid_coffret_record_none), ("coffret/record.id", laid_coffret_record_id), ("coffret/record.queue", laid_coffret_record_queue), ("coffret/record.when", laid_coffret_record_when), ("coffret/record.limit", laid_coffret_record_limit), ("coffret/record.many", laid_coffret_record_many), ("coffret/record.late", laid_coffret_record_late)] }
def SnapGoesSaid : Prop := snapGoesRow.holds Tryd.pinned (OpenSpec.ofChange snapGoesSpec)

/-- ITS FALSE NEIGHBOUR: 'it returns false'. Refute it at one input. -/
def snapGoesWrong : ChangeSpec := { name := "snapGoes", fn := fun _ => fun
  | [d1, d2, d3, d4] => { results := [.lit (.bool false)], args := [d1, d2, d3, d4] }
  | _ => none }
def SnapGoesWrongFalsely : Prop := snapGoesRow.holds Tryd.pinned (OpenSpec.ofChange snapGoesWrong)

/-- 'coffretlaw18.SnapLoses': WHATEVER THE INPUT: true; the input reads as it did. -/
def snapLosesSpec : ChangeSpec := { name := "snapLoses", fn := fun _ => fun
  | [d1, d2] => { results := [.lit (.bool true)], args := [d1, d2] }
  | _ => none }
def snapLosesRow : OpenClaim := { program := "ytnmkbnfidjoljaadoor", sum := "a2f3ef52d0d6e7336d7355321adb05051b51fe4d08bec84bdd91171d0529873a", func := "coffret/coffretlaw18.SnapLoses", spec := "snapLoses", unfollowed := true, recurses := true, named := ["coffret/record.queue", "coffret/record.limit", "coffret/record.none", "coffret/record.id", "coffret/record.late", "coffret/record.when", "coffret/record.many"], plainKeys := false, apart := false, laid := [("coffret/record.none", laid_coffret_record_none), ("coffret/record.id", laid_coffret_record_id), ("coffret/record.queue", laid_coffret_record_queue), ("coffret/record.when", laid_coffret_record_when), ("coffret/record.limit", laid_coffret_record_limit), ("coffret/record.many", laid_coffret_record_many), ("coffret/record.late", laid_coffret_record_late)] }
def SnapLosesSaid : Prop := snapLosesRow.holds Tryd.pinned (OpenSpec.ofChange snapLosesSpec)

/-- ITS FALSE NEIGHBOUR: 'it returns false'. Refute it at one input. -/
def snapLosesWrong : ChangeSpec := { name := "snapLoses", fn := fun _ => fun
  | [d1, d2] => { results := [.lit (.bool false)], args := [d1, d2] }
  | _ => none }
def SnapLosesWrongFalsely : Prop := snapLosesRow.holds Tryd.pinned (OpenSpec.ofChange snapLosesWrong)

/- THE SECOND FORM. 'bulk': how many values and letters a reading holds, each counted each time it is reached (what is shared counts as often as it is met; a slice's spare places count too). A statement '..UptoSaid' is the law's where the arguments, and the package variables that the reading takes, are together of bulk at most 1048576: NARROWER than '..Said'. Prove '..Said' where nothing that the law and all that it calls make is longer than what came in: it says more and counts as full. Else prove '..UptoSaid'. A law counts once. -/
mutual
def uptoBulk {H : Type} : DataW H → Nat
  | .lit (.string bytes) => bytes.length + 1
  | .lit _ => 1
  | .nil => 1
  | .ptr d => uptoBulk d + 1
  | .slice elems spare => uptoBulkAll elems + uptoBulkAll spare + 1
  | .agg parts => uptoBulkAll parts + 1
  | .iface _ d => uptoBulk d + 1
  | .map entries => uptoBulkEntries entries + 1
  | .held _ => 1
def uptoBulkAll {H : Type} : List (DataW H) → Nat
  | [] => 0
  | d :: r => uptoBulk d + uptoBulkAll r
def uptoBulkEntries {H : Type} : List (Lit × DataW H) → Nat
  | [] => 0
  | x :: r => uptoBulkEntry x + uptoBulkEntries r
def uptoBulkEntry {H : Type} : Lit × DataW H → Nat
  | (.string bytes, d) => bytes.length + uptoBulk d + 1
  | (_, d) => uptoBulk d + 1
 end
def uptoSmall : (H : Type) → List (DataW H) → Bool := fun _ ds => decide (uptoBulkAll ds ≤ 1048576)
def OpenSpec.upto (s : _root_.Go.ChangeSpec) : _root_.Go.OpenSpec := { _root_.Go.OpenSpec.ofChange s with cond := some uptoSmall }

/-- 'coffretlaw18.SnapDoes', WHERE WHAT IT READS IS OF BULK AT MOST 1048576: true; the input reads as it did. -/
def snapDoesUptoRow : OpenClaim := { program := "ytnmkbnfidjoljaadoor", sum := "a2f3ef52d0d6e7336d7355321adb05051b51fe4d08bec84bdd91171d0529873a", func := "coffret/coffretlaw18.SnapDoes", spec := "snapDoes", unfollowed := true, recurses := true, named := ["coffret/record.queue", "coffret/record.limit", "coffret/record.none", "coffret/record.id", "coffret/record.late", "coffret/record.when", "coffret/record.many"], plainKeys := false, apart := false, laid := [("coffret/record.none", laid_coffret_record_none), ("coffret/record.id", laid_coffret_record_id), ("coffret/record.queue", laid_coffret_record_queue), ("coffret/record.when", laid_coffret_record_when), ("coffret/record.limit", laid_coffret_record_limit), ("coffret/record.many", laid_coffret_record_many), ("coffret/record.late", laid_coffret_record_late)], narrowed := true }
def SnapDoesUptoSaid : Prop := snapDoesUptoRow.holds Tryd.pinned (OpenSpec.upto snapDoesSpec)

/-- 'coffretlaw18.SnapState', WHERE WHAT IT READS IS OF BULK AT MOST 1048576: true; the input reads as it did. -/
def snapStateUptoRow : OpenClaim := { program := "ytnmkbnfidjoljaadoor", sum := "a2f3ef52d0d6e7336d7355321adb05051b51fe4d08bec84bdd91171d0529873a", func := "coffret/coffretlaw18.SnapState", spec := "snapState", unfollowed := true, recurses := true, named := ["coffret/record.queue", "coffret/record.limit", "coffret/record.none", "coffret/record.id", "coffret/record.late", "coffret/record.when", "coffret/record.many"], plainKeys := false, apart := false, laid := [("coffret/record.none", laid_coffret_record_none), ("coffret/record.id", laid_coffret_record_id), ("coffret/record.queue", laid_coffret_record_queue), ("coffret/record.when", laid_coffret_record_when), ("coffret/record.limit", laid_coffret_record_limit), ("coffret/record.many", laid_coffret_record_many), ("coffret/record.late", laid_coffret_record_late)], narrowed := true }
def SnapStateUptoSaid : Prop := snapStateUptoRow.holds Tryd.pinned (OpenSpec.upto snapStateSpec)

/-- 'coffretlaw18.SnapRefuses', WHERE WHAT IT READS IS OF BULK AT MOST 1048576: true; the input reads as it did. -/
def snapRefusesUptoRow : OpenClaim := { program := "ytnmkbnfidjoljaadoor", sum := "a2f3ef52d0d6e7336d7355321adb05051b51fe4d08bec84bdd91171d0529873a", func := "coffret/coffretlaw18.SnapRefuses", spec := "snapRefuses", unfollowed := true, recurses := true, named := ["coffret/record.queue", "coffret/record.limit", "coffret/record.none", "coffret/record.id", "coffret/record.late", "coffret/record.when", "coffret/record.many"], plainKeys := false, apart := false, laid := [("coffret/record.none", laid_coffret_record_none), ("coffret/record.id", laid_coffret_record_id), ("coffret/record.queue", laid_coffret_record_queue), ("coffret/record.when", laid_coffret_record_when), ("coffret/record.limit", laid_coffret_record_limit), ("coffret/record.many", laid_coffret_record_many), ("coffret/record.late", laid_coffret_record_late)], narrowed := true }
def SnapRefusesUptoSaid : Prop := snapRefusesUptoRow.holds Tryd.pinned (OpenSpec.upto snapRefusesSpec)

/-- 'coffretlaw18.SnapGoes', WHERE WHAT IT READS IS OF BULK AT MOST 1048576: true; the input reads as it did. -/
def snapGoesUptoRow : OpenClaim := { program := "ytnmkbnfidjoljaadoor", sum := "a2f3ef52d0d6e7336d7355321adb05051b51fe4d08bec84bdd91171d0529873a", func := "coffret/coffretlaw18.SnapGoes", spec := "snapGoes", unfollowed := true, recurses := true, named := ["coffret/record.queue", "coffret/record.limit", "coffret/record.none", "coffret/record.id", "coffret/record.late", "coffret/record.when", "coffret/record.many"], plainKeys := false, apart := false, laid := [("coffret/record.none", laid_coffret_record_none), ("coffret/record.id", laid_coffret_record_id), ("coffret/record.queue", laid_coffret_record_queue), ("coffret/record.when", laid_coffret_record_when), ("coffret/record.limit", laid_coffret_record_limit), ("coffret/record.many", laid_coffret_record_many), ("coffret/record.late", laid_coffret_record_late)], narrowed := true }
def SnapGoesUptoSaid : Prop := snapGoesUptoRow.holds Tryd.pinned (OpenSpec.upto snapGoesSpec)

/-- 'coffretlaw18.SnapLoses', WHERE WHAT IT READS IS OF BULK AT MOST 1048576: true; the input reads as it did. -/
def snapLosesUptoRow : OpenClaim := { program := "ytnmkbnfidjoljaadoor", sum := "a2f3ef52d0d6e7336d7355321adb05051b51fe4d08bec84bdd91171d0529873a", func := "coffret/coffretlaw18.SnapLoses", spec := "snapLoses", unfollowed := true, recurses := true, named := ["coffret/record.queue", "coffret/record.limit", "coffret/record.none", "coffret/record.id", "coffret/record.late", "coffret/record.when", "coffret/record.many"], plainKeys := false, apart := false, laid := [("coffret/record.none", laid_coffret_record_none), ("coffret/record.id", laid_coffret_record_id), ("coffret/record.queue", laid_coffret_record_queue), ("coffret/record.when", laid_coffret_record_when), ("coffret/record.limit", laid_coffret_record_limit), ("coffret/record.many", laid_coffret_record_many), ("coffret/record.late", laid_coffret_record_late)], narrowed := true }
def SnapLosesUptoSaid : Prop := snapLosesUptoRow.holds Tryd.pinned (OpenSpec.upto snapLosesSpec)

end Rows
end Go.Proofs.YtnmkbnfidjoljaaDoor
