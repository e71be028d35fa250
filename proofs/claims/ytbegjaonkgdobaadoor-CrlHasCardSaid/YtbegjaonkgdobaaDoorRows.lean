/-
  NARROWER THAN 'FOR EVERY INPUT', by the rows' own cells (each row's printed sentence says how): EcdsaDecodes: laid · CrlBodies: laid · CrlHas: laid.
  DERIVED. THE GIVEN ROWS OF THIS SEAT. 3 by the template 'for every input the law returns true; each argument reads behind the call as it read before'; 0 by the template 'total and deterministic' (their statements: YtbegjaonkgdobaaDoorTotals.lean).
  GIVEN WITH THE SEED: the statements are not yours to turn. If you find one false, say at which input.
  Laid BY PROGRAM, IN A SANDBOX (cutbox-rows.mjs): the forced cells as the released guide's own fill.sh prints them over the translation e3bbc1c7234c4017… (all of the seat's roots in one cut). By AI agents, Wed Nov 11 2026. No macro, syntax, notation, axiom, sorry.
-/
import Derived.Test.YtbegjaonkgdobaaDoorChecked
import GoSem.Claim
import GoSem.ClaimJoined
import GoSem.ClaimMapViews
import Derived.JoinedTies
import Derived.KernelRfl
namespace Go.Proofs.YtbegjaonkgdobaaDoor
/- THE CELL 'sum', in the pinned program and in every row, IS THE sha256 OF THE DUMP (.gsa) THAT YtbegjaonkgdobaaDoorProg.lean LOADS. Nothing in Lean hashes anything: it is a label: what it is worth is what the hold of that sum in a sandbox is worth. -/
noncomputable def Tryd.pinned : Pinned := { name := "ytbegjaonkgdobaadoor", sum := "e3bbc1c7234c40177514cf3983981a7f716c5e63c6ae2bea5f5fb22b1711eb5b", checked := Tryd.checked }
namespace Rows
def none {H : Type} : Left H := { results := [], args := [] }

/- WHAT THE LISTED PACKAGE-LEVEL VARIABLES READ AS WHEN THE CALL BEGINS. Each datum BY PROGRAM (the guide's laid-datum.mjs) off the statement by which the dump's own 'gosem.cut.vars' lays the variable. In a bare row this is a premise. The card (YtbegjaonkgdobaaDoorCards.lean) ties it to the program's text. -/
def laid_errors_errorType {H : Type} : DataW H := .iface "internal/reflectlite.rtype" (.agg [.ptr (.lit (.string [101, 114, 114, 111, 114]))])
def laid_escutcheon_field_prime {H : Type} : DataW H := .agg [.agg [.lit (.int .u64 4294967295), .lit (.int .u64 18446744069414584320), .lit (.int .u64 18446744073709551614), .lit (.int .u64 18446744073709551615), .lit (.int .u64 18446744073709551615), .lit (.int .u64 18446744073709551615)], .lit (.int .u64 4294967297), .agg [.lit (.int .u64 18446744065119617025), .lit (.int .u64 8589934592), .lit (.int .u64 18446744065119617024), .lit (.int .u64 8589934592), .lit (.int .u64 1), .lit (.int .u64 0)]]
def laid_escutcheon_order_group {H : Type} : DataW H := .agg [.agg [.lit (.int .u64 17072048233947408755), .lit (.int .u64 6348401684107011962), .lit (.int .u64 14367412456785391071), .lit (.int .u64 18446744073709551615), .lit (.int .u64 18446744073709551615), .lit (.int .u64 18446744073709551615)], .lit (.int .u64 7986114184663260229), .agg [.lit (.int .u64 3256554584917936553), .lit (.int .u64 18391999277541532697), .lit (.int .u64 13564358545871743303), .lit (.int .u64 15279949475123764421), .lit (.int .u64 4589268600508278933), .lit (.int .u64 902107514168524577)]]
def laid_escutcheon_proj_prime {H : Type} : DataW H := .agg [.agg [.lit (.int .u64 4294967295), .lit (.int .u64 18446744069414584320), .lit (.int .u64 18446744073709551614), .lit (.int .u64 18446744073709551615), .lit (.int .u64 18446744073709551615), .lit (.int .u64 18446744073709551615)], .lit (.int .u64 4294967297), .agg [.lit (.int .u64 18446744065119617025), .lit (.int .u64 8589934592), .lit (.int .u64 18446744065119617024), .lit (.int .u64 8589934592), .lit (.int .u64 1), .lit (.int .u64 0)]]
def laid_escutcheon_proj_curveB {H : Type} : DataW H := .agg [.lit (.int .u64 581395848458481100), .lit (.int .u64 17809957346689692396), .lit (.int .u64 8643006485390950958), .lit (.int .u64 16372638458395724514), .lit (.int .u64 13126622871277412500), .lit (.int .u64 14774077593024970745)]
def laid_escutcheon_proj_one {H : Type} : DataW H := .agg [.lit (.int .u64 18446744069414584321), .lit (.int .u64 4294967295), .lit (.int .u64 1), .lit (.int .u64 0), .lit (.int .u64 0), .lit (.int .u64 0)]
def laid_escutcheon_curve_base {H : Type} : DataW H := .agg [.agg [.lit (.int .u64 4203087948775033527), .lit (.int .u64 6125724927633205612), .lit (.int .u64 6482722621138151992), .lit (.int .u64 7934563412932533144), .lit (.int .u64 10282218360005504372), .lit (.int .u64 12288012358878168375)], .agg [.lit (.int .u64 8809917716911230559), .lit (.int .u64 747793036959711645), .lit (.int .u64 16850834916486723776), .lit (.int .u64 17938995913990739068), .lit (.int .u64 6745997240412855337), .lit (.int .u64 3897828414440483951)], .lit (.bool false)]

/-- 'escutcheonlaw14.EcdsaDecodes': WHATEVER THE INPUT: true; the input reads as it did. -/
def ecdsaDecodesSpec : ChangeSpec := { name := "ecdsaDecodes", fn := fun _ => fun
  | [d] => { results := [.lit (.bool true)], args := [d] }
  | _ => none }
def ecdsaDecodesRow : OpenClaim := { program := "ytbegjaonkgdobaadoor", sum := "e3bbc1c7234c40177514cf3983981a7f716c5e63c6ae2bea5f5fb22b1711eb5b", func := "escutcheon/escutcheonlaw14.EcdsaDecodes", spec := "ecdsaDecodes", inPlace := ["math/bits.Sub64", "math/bits.Add64", "internal/reflectlite.ValueOf", "(internal/reflectlite.Value).Type", "(internal/reflectlite.Value).IsNil", "internal/reflectlite.TypeOf", "(internal/reflectlite.Value).Elem", "(internal/reflectlite.Value).Set"], unfollowed := true, recurses := true, named := ["escutcheon/curve.base", "escutcheon/field.prime", "escutcheon/proj.curveB", "escutcheon/proj.prime", "escutcheon/order.group", "escutcheon/proj.one", "errors.errorType"], apart := false, laid := [("errors.errorType", laid_errors_errorType), ("escutcheon/field.prime", laid_escutcheon_field_prime), ("escutcheon/order.group", laid_escutcheon_order_group), ("escutcheon/proj.prime", laid_escutcheon_proj_prime), ("escutcheon/proj.curveB", laid_escutcheon_proj_curveB), ("escutcheon/proj.one", laid_escutcheon_proj_one), ("escutcheon/curve.base", laid_escutcheon_curve_base)] }
def EcdsaDecodesSaid : Prop := ecdsaDecodesRow.holds Tryd.pinned (OpenSpec.ofChange ecdsaDecodesSpec)

/-- ITS FALSE NEIGHBOUR: 'it returns false'. Refute it at one input. -/
def ecdsaDecodesWrong : ChangeSpec := { name := "ecdsaDecodes", fn := fun _ => fun
  | [d] => { results := [.lit (.bool false)], args := [d] }
  | _ => none }
def EcdsaDecodesWrongFalsely : Prop := ecdsaDecodesRow.holds Tryd.pinned (OpenSpec.ofChange ecdsaDecodesWrong)

/-- 'escutcheonlaw18.CrlBodies': WHATEVER THE INPUT: true; the input reads as it did. -/
def crlBodiesSpec : ChangeSpec := { name := "crlBodies", fn := fun _ => fun
  | [d] => { results := [.lit (.bool true)], args := [d] }
  | _ => none }
def crlBodiesRow : OpenClaim := { program := "ytbegjaonkgdobaadoor", sum := "e3bbc1c7234c40177514cf3983981a7f716c5e63c6ae2bea5f5fb22b1711eb5b", func := "escutcheon/escutcheonlaw18.CrlBodies", spec := "crlBodies", inPlace := ["math/bits.Sub64"], unfollowed := true, recurses := true, named := ["escutcheon/order.group"], apart := false, laid := [("escutcheon/order.group", laid_escutcheon_order_group)] }
def CrlBodiesSaid : Prop := crlBodiesRow.holds Tryd.pinned (OpenSpec.ofChange crlBodiesSpec)

/-- ITS FALSE NEIGHBOUR: 'it returns false'. Refute it at one input. -/
def crlBodiesWrong : ChangeSpec := { name := "crlBodies", fn := fun _ => fun
  | [d] => { results := [.lit (.bool false)], args := [d] }
  | _ => none }
def CrlBodiesWrongFalsely : Prop := crlBodiesRow.holds Tryd.pinned (OpenSpec.ofChange crlBodiesWrong)

/-- 'escutcheonlaw18.CrlHas': WHATEVER THE INPUT: true; the input reads as it did. -/
def crlHasSpec : ChangeSpec := { name := "crlHas", fn := fun _ => fun
  | [d1, d2] => { results := [.lit (.bool true)], args := [d1, d2] }
  | _ => none }
def crlHasRow : OpenClaim := { program := "ytbegjaonkgdobaadoor", sum := "e3bbc1c7234c40177514cf3983981a7f716c5e63c6ae2bea5f5fb22b1711eb5b", func := "escutcheon/escutcheonlaw18.CrlHas", spec := "crlHas", inPlace := ["math/bits.Sub64"], unfollowed := true, recurses := true, named := ["escutcheon/order.group"], apart := false, laid := [("escutcheon/order.group", laid_escutcheon_order_group)] }
def CrlHasSaid : Prop := crlHasRow.holds Tryd.pinned (OpenSpec.ofChange crlHasSpec)

/-- ITS FALSE NEIGHBOUR: 'it returns false'. Refute it at one input. -/
def crlHasWrong : ChangeSpec := { name := "crlHas", fn := fun _ => fun
  | [d1, d2] => { results := [.lit (.bool false)], args := [d1, d2] }
  | _ => none }
def CrlHasWrongFalsely : Prop := crlHasRow.holds Tryd.pinned (OpenSpec.ofChange crlHasWrong)

/- THE SECOND FORM. 'bulk': how many values and letters a reading holds, each counted each time it is reached (what is shared counts as often as it is met; a slice's spare places count too). A statement '..UptoSaid' is the law's where the arguments, and the package variables that the reading takes, are together of bulk at most 1048576: NARROWER than '..Said'. Prove '..Said' where nothing that the law and all that it calls make is longer than what came in: it says more and counts as full. Else prove '..UptoSaid'. A law counts once. -/
mutual
def uptoBulk {H : Type} : DataW H → Nat
  | .lit (.string bytes) => bytes.length + 1
  | .lit _ => 1
  | .nil => 1
  | .ptr d => uptoBulk d + 1
  | .slice elems spare => uptoBulkAll elems + uptoBulkAll spare + 1
  | .agg parts => uptoBulkAll parts + 1
  | .iface _ d => uptoBulk d + 1
  | .map entries => uptoBulkEntries entries + 1
  | .held _ => 1
def uptoBulkAll {H : Type} : List (DataW H) → Nat
  | [] => 0
  | d :: r => uptoBulk d + uptoBulkAll r
def uptoBulkEntries {H : Type} : List (Lit × DataW H) → Nat
  | [] => 0
  | x :: r => uptoBulkEntry x + uptoBulkEntries r
def uptoBulkEntry {H : Type} : Lit × DataW H → Nat
  | (.string bytes, d) => bytes.length + uptoBulk d + 1
  | (_, d) => uptoBulk d + 1
 end
def uptoSmall : (H : Type) → List (DataW H) → Bool := fun _ ds => decide (uptoBulkAll ds ≤ 1048576)
def OpenSpec.upto (s : _root_.Go.ChangeSpec) : _root_.Go.OpenSpec := { _root_.Go.OpenSpec.ofChange s with cond := some uptoSmall }

/-- 'escutcheonlaw14.EcdsaDecodes', WHERE WHAT IT READS IS OF BULK AT MOST 1048576: true; the input reads as it did. -/
def ecdsaDecodesUptoRow : OpenClaim := { program := "ytbegjaonkgdobaadoor", sum := "e3bbc1c7234c40177514cf3983981a7f716c5e63c6ae2bea5f5fb22b1711eb5b", func := "escutcheon/escutcheonlaw14.EcdsaDecodes", spec := "ecdsaDecodes", inPlace := ["math/bits.Sub64", "math/bits.Add64", "internal/reflectlite.ValueOf", "(internal/reflectlite.Value).Type", "(internal/reflectlite.Value).IsNil", "internal/reflectlite.TypeOf", "(internal/reflectlite.Value).Elem", "(internal/reflectlite.Value).Set"], unfollowed := true, recurses := true, named := ["escutcheon/curve.base", "escutcheon/field.prime", "escutcheon/proj.curveB", "escutcheon/proj.prime", "escutcheon/order.group", "escutcheon/proj.one", "errors.errorType"], apart := false, laid := [("errors.errorType", laid_errors_errorType), ("escutcheon/field.prime", laid_escutcheon_field_prime), ("escutcheon/order.group", laid_escutcheon_order_group), ("escutcheon/proj.prime", laid_escutcheon_proj_prime), ("escutcheon/proj.curveB", laid_escutcheon_proj_curveB), ("escutcheon/proj.one", laid_escutcheon_proj_one), ("escutcheon/curve.base", laid_escutcheon_curve_base)], narrowed := true }
def EcdsaDecodesUptoSaid : Prop := ecdsaDecodesUptoRow.holds Tryd.pinned (OpenSpec.upto ecdsaDecodesSpec)

/-- 'escutcheonlaw18.CrlBodies', WHERE WHAT IT READS IS OF BULK AT MOST 1048576: true; the input reads as it did. -/
def crlBodiesUptoRow : OpenClaim := { program := "ytbegjaonkgdobaadoor", sum := "e3bbc1c7234c40177514cf3983981a7f716c5e63c6ae2bea5f5fb22b1711eb5b", func := "escutcheon/escutcheonlaw18.CrlBodies", spec := "crlBodies", inPlace := ["math/bits.Sub64"], unfollowed := true, recurses := true, named := ["escutcheon/order.group"], apart := false, laid := [("escutcheon/order.group", laid_escutcheon_order_group)], narrowed := true }
def CrlBodiesUptoSaid : Prop := crlBodiesUptoRow.holds Tryd.pinned (OpenSpec.upto crlBodiesSpec)

/-- 'escutcheonlaw18.CrlHas', WHERE WHAT IT READS IS OF BULK AT MOST 1048576: true; the input reads as it did. -/
def crlHasUptoRow : OpenClaim := { program := "ytbegjaonkgdobaadoor", sum := "e3bbc1c7234c40177514cf3983981a7f716c5e63c6ae2bea5f5fb22b1711eb5b", func := "escutcheon/escutcheonlaw18.CrlHas", spec := "crlHas", inPlace := ["math/bits.Sub64"], unfollowed := true, recurses := true, named := ["escutcheon/order.group"], apart := false, laid := [("escutcheon/order.group", laid_escutcheon_order_group)], narrowed := true }
def CrlHasUptoSaid : Prop := crlHasUptoRow.holds Tryd.pinned (OpenSpec.upto crlHasSpec)

end Rows
end Go.Proofs.YtbegjaonkgdobaaDoor
