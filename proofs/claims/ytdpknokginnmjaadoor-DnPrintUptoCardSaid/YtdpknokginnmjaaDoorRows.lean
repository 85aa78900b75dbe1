/-
  NARROWER THAN 'FOR EVERY INPUT', by the rows' own cells (each row's printed sentence says how): DnPrint: laid · DnBack: laid · DnStrangers: laid · DnSame: laid · DnBlind: laid · DnFamily: laid.
  DERIVED. THE GIVEN ROWS OF THIS SEAT. 6 by the template 'for every input the law returns true; each argument reads behind the call as it read before'; 0 by the template 'total and deterministic' (their statements: YtdpknokginnmjaaDoorTotals.lean).
  GIVEN WITH THE SEED: the statements are not yours to turn. If you find one false, say at which input.
  Laid BY PROGRAM, IN A SANDBOX (cutbox-rows.mjs): the forced cells as the released guide's own fill.sh prints them over the translation 236c795083ddea51… (all of the seat's roots in one cut). By AI agents, Wed Nov 11 2026. No macro, syntax, notation, axiom, sorry.
-/
import Derived.Test.YtdpknokginnmjaaDoorChecked
import GoSem.Claim
import GoSem.ClaimJoined
import GoSem.ClaimMapViews
import Derived.JoinedTies
import Derived.KernelRfl
namespace Go.Proofs.YtdpknokginnmjaaDoor
/- THE CELL 'sum', in the pinned program and in every row, IS THE sha256 OF THE DUMP (.gsa) THAT YtdpknokginnmjaaDoorProg.lean LOADS. Nothing in Lean hashes anything: it is a label: what it is worth is what the hold of that sum in a sandbox is worth. -/
noncomputable def Tryd.pinned : Pinned := { name := "ytdpknokginnmjaadoor", sum := "236c795083ddea515c89bc75b802c1d27c54902e3fbb650062f16ebca4237dff", checked := Tryd.checked }
namespace Rows
def none {H : Type} : Left H := { results := [], args := [] }

/- WHAT THE LISTED PACKAGE-LEVEL VARIABLES READ AS WHEN THE CALL BEGINS. Each datum BY PROGRAM (the guide's laid-datum.mjs) off the statement by which the dump's own 'gosem.cut.vars' lays the variable. In a bare row this is a premise. The card (YtdpknokginnmjaaDoorCards.lean) ties it to the program's text. -/
def laid_roster_rosterref01_rows {H : Type} : DataW H := .agg [.agg [.lit (.int .i64 1), .lit (.int .i64 0), .lit (.int .i64 127), .lit (.int .i64 0), .lit (.int .i64 0), .lit (.int .i64 0), .lit (.int .i64 0), .lit (.int .i64 0), .lit (.int .i64 0)], .agg [.lit (.int .i64 2), .lit (.int .i64 194), .lit (.int .i64 223), .lit (.int .i64 128), .lit (.int .i64 191), .lit (.int .i64 0), .lit (.int .i64 0), .lit (.int .i64 0), .lit (.int .i64 0)], .agg [.lit (.int .i64 3), .lit (.int .i64 224), .lit (.int .i64 224), .lit (.int .i64 160), .lit (.int .i64 191), .lit (.int .i64 128), .lit (.int .i64 191), .lit (.int .i64 0), .lit (.int .i64 0)], .agg [.lit (.int .i64 3), .lit (.int .i64 225), .lit (.int .i64 236), .lit (.int .i64 128), .lit (.int .i64 191), .lit (.int .i64 128), .lit (.int .i64 191), .lit (.int .i64 0), .lit (.int .i64 0)], .agg [.lit (.int .i64 3), .lit (.int .i64 237), .lit (.int .i64 237), .lit (.int .i64 128), .lit (.int .i64 159), .lit (.int .i64 128), .lit (.int .i64 191), .lit (.int .i64 0), .lit (.int .i64 0)], .agg [.lit (.int .i64 3), .lit (.int .i64 238), .lit (.int .i64 239), .lit (.int .i64 128), .lit (.int .i64 191), .lit (.int .i64 128), .lit (.int .i64 191), .lit (.int .i64 0), .lit (.int .i64 0)], .agg [.lit (.int .i64 4), .lit (.int .i64 240), .lit (.int .i64 240), .lit (.int .i64 144), .lit (.int .i64 191), .lit (.int .i64 128), .lit (.int .i64 191), .lit (.int .i64 128), .lit (.int .i64 191)], .agg [.lit (.int .i64 4), .lit (.int .i64 241), .lit (.int .i64 243), .lit (.int .i64 128), .lit (.int .i64 191), .lit (.int .i64 128), .lit (.int .i64 191), .lit (.int .i64 128), .lit (.int .i64 191)], .agg [.lit (.int .i64 4), .lit (.int .i64 244), .lit (.int .i64 244), .lit (.int .i64 128), .lit (.int .i64 143), .lit (.int .i64 128), .lit (.int .i64 191), .lit (.int .i64 128), .lit (.int .i64 191)]]
def laid_errors_errorType {H : Type} : DataW H := .iface "internal/reflectlite.rtype" (.agg [.ptr (.lit (.string [101, 114, 114, 111, 114]))])
def laid_roster_dn_ErrLong {H : Type} : DataW H := .iface "*errors.errorString" (.ptr (.agg [.lit (.string [110, 97, 109, 101, 32, 116, 111, 111, 32, 108, 111, 110, 103])]))
def laid_roster_dn_ErrUTF8 {H : Type} : DataW H := .iface "*errors.errorString" (.ptr (.agg [.lit (.string [110, 111, 32, 85, 84, 70, 45, 56])]))
def laid_roster_dn_ErrType {H : Type} : DataW H := .iface "*errors.errorString" (.ptr (.agg [.lit (.string [110, 111, 32, 97, 116, 116, 114, 105, 98, 117, 116, 101, 32, 116, 121, 112, 101])]))
def laid_roster_dn_ErrEquals {H : Type} : DataW H := .iface "*errors.errorString" (.ptr (.agg [.lit (.string [110, 111, 32, 101, 113, 117, 97, 108, 115, 32, 115, 105, 103, 110])]))
def laid_roster_dn_ErrEscape {H : Type} : DataW H := .iface "*errors.errorString" (.ptr (.agg [.lit (.string [110, 111, 116, 104, 105, 110, 103, 32, 114, 105, 103, 104, 116, 32, 98, 101, 104, 105, 110, 100, 32, 97, 32, 98, 97, 99, 107, 115, 108, 97, 115, 104])]))
def laid_roster_dn_ErrChar {H : Type} : DataW H := .iface "*errors.errorString" (.ptr (.agg [.lit (.string [97, 32, 98, 121, 116, 101, 32, 116, 104, 97, 116, 32, 109, 117, 115, 116, 32, 98, 101, 32, 101, 115, 99, 97, 112, 101, 100])]))
def laid_roster_dn_ErrHex {H : Type} : DataW H := .iface "*errors.errorString" (.ptr (.agg [.lit (.string [110, 111, 32, 104, 101, 120, 32, 118, 97, 108, 117, 101])]))
def laid_roster_dn_ErrTwice {H : Type} : DataW H := .iface "*errors.errorString" (.ptr (.agg [.lit (.string [97, 32, 116, 121, 112, 101, 32, 116, 119, 105, 99, 101, 32, 105, 110, 32, 97, 32, 112, 97, 114, 116])]))
def laid_roster_dn_ErrWide {H : Type} : DataW H := .iface "*errors.errorString" (.ptr (.agg [.lit (.string [116, 111, 111, 32, 109, 97, 110, 121, 32, 112, 97, 114, 116, 115, 32, 111, 114, 32, 112, 97, 105, 114, 115])]))
def laid_roster_dn_ErrMade {H : Type} : DataW H := .iface "*errors.errorString" (.ptr (.agg [.lit (.string [97, 32, 110, 97, 109, 101, 32, 116, 104, 97, 116, 32, 110, 111, 32, 116, 101, 120, 116, 32, 109, 101, 97, 110, 115])]))

/-- 'rosterlaw05.DnPrint': WHATEVER THE INPUT: true; the input reads as it did. -/
def dnPrintSpec : ChangeSpec := { name := "dnPrint", fn := fun _ => fun
  | [d] => { results := [.lit (.bool true)], args := [d] }
  | _ => none }
def dnPrintRow : OpenClaim := { program := "ytdpknokginnmjaadoor", sum := "236c795083ddea515c89bc75b802c1d27c54902e3fbb650062f16ebca4237dff", func := "roster/rosterlaw05.DnPrint", spec := "dnPrint", inPlace := ["internal/abi.NoEscape", "internal/bytealg.IndexByteString", "internal/bytealg.MakeNoZero", "internal/reflectlite.ValueOf", "(internal/reflectlite.Value).Type", "(internal/reflectlite.Value).IsNil", "internal/reflectlite.TypeOf", "(internal/reflectlite.Value).Elem", "(internal/reflectlite.Value).Set"], unfollowed := true, recurses := true, named := ["roster/dn.ErrLong", "roster/dn.ErrWide", "roster/dn.ErrMade", "roster/dn.ErrTwice", "roster/dn.ErrUTF8", "roster/rosterref01.rows", "errors.errorType", "roster/dn.ErrType", "roster/dn.ErrEquals", "roster/dn.ErrEscape", "roster/dn.ErrChar", "roster/dn.ErrHex"], apart := false, laid := [("roster/rosterref01.rows", laid_roster_rosterref01_rows), ("errors.errorType", laid_errors_errorType), ("roster/dn.ErrLong", laid_roster_dn_ErrLong), ("roster/dn.ErrUTF8", laid_roster_dn_ErrUTF8), ("roster/dn.ErrType", laid_roster_dn_ErrType), ("roster/dn.ErrEquals", laid_roster_dn_ErrEquals), ("roster/dn.ErrEscape", laid_roster_dn_ErrEscape), ("roster/dn.ErrChar", laid_roster_dn_ErrChar), ("roster/dn.ErrHex", laid_roster_dn_ErrHex), ("roster/dn.ErrTwice", laid_roster_dn_ErrTwice), ("roster/dn.ErrWide", laid_roster_dn_ErrWide), ("roster/dn.ErrMade", laid_roster_dn_ErrMade)] }
def DnPrintSaid : Prop := dnPrintRow.holds Tryd.pinned (OpenSpec.ofChange dnPrintSpec)

/-- ITS FALSE NEIGHBOUR: 'it returns false'. Refute it at one input. -/
def dnPrintWrong : ChangeSpec := { name := "dnPrint", fn := fun _ => fun
  | [d] => { results := [.lit (.bool false)], args := [d] }
  | _ => none }
def DnPrintWrongFalsely : Prop := dnPrintRow.holds Tryd.pinned (OpenSpec.ofChange dnPrintWrong)

/-- 'rosterlaw05.DnBack': WHATEVER THE INPUT: true; the input reads as it did. -/
def dnBackSpec : ChangeSpec := { name := "dnBack", fn := fun _ => fun
  | [d] => { results := [.lit (.bool true)], args := [d] }
  | _ => none }
def dnBackRow : OpenClaim := { program := "ytdpknokginnmjaadoor", sum := "236c795083ddea515c89bc75b802c1d27c54902e3fbb650062f16ebca4237dff", func := "roster/rosterlaw05.DnBack", spec := "dnBack", inPlace := ["internal/abi.NoEscape", "internal/bytealg.IndexByteString", "internal/bytealg.MakeNoZero"], unfollowed := true, recurses := true, named := ["roster/dn.ErrLong", "roster/dn.ErrWide", "roster/dn.ErrMade", "roster/dn.ErrTwice", "roster/dn.ErrUTF8", "roster/dn.ErrType", "roster/dn.ErrEquals", "roster/dn.ErrChar", "roster/dn.ErrEscape", "roster/dn.ErrHex"], apart := false, laid := [("roster/dn.ErrLong", laid_roster_dn_ErrLong), ("roster/dn.ErrUTF8", laid_roster_dn_ErrUTF8), ("roster/dn.ErrType", laid_roster_dn_ErrType), ("roster/dn.ErrEquals", laid_roster_dn_ErrEquals), ("roster/dn.ErrEscape", laid_roster_dn_ErrEscape), ("roster/dn.ErrChar", laid_roster_dn_ErrChar), ("roster/dn.ErrHex", laid_roster_dn_ErrHex), ("roster/dn.ErrTwice", laid_roster_dn_ErrTwice), ("roster/dn.ErrWide", laid_roster_dn_ErrWide), ("roster/dn.ErrMade", laid_roster_dn_ErrMade)] }
def DnBackSaid : Prop := dnBackRow.holds Tryd.pinned (OpenSpec.ofChange dnBackSpec)

/-- ITS FALSE NEIGHBOUR: 'it returns false'. Refute it at one input. -/
def dnBackWrong : ChangeSpec := { name := "dnBack", fn := fun _ => fun
  | [d] => { results := [.lit (.bool false)], args := [d] }
  | _ => none }
def DnBackWrongFalsely : Prop := dnBackRow.holds Tryd.pinned (OpenSpec.ofChange dnBackWrong)

/-- 'rosterlaw05.DnStrangers': WHATEVER THE INPUT: true; the input reads as it did. -/
def dnStrangersSpec : ChangeSpec := { name := "dnStrangers", fn := fun _ => fun
  | [] => { results := [.lit (.bool true)], args := [] }
  | _ => none }
def dnStrangersRow : OpenClaim := { program := "ytdpknokginnmjaadoor", sum := "236c795083ddea515c89bc75b802c1d27c54902e3fbb650062f16ebca4237dff", func := "roster/rosterlaw05.DnStrangers", spec := "dnStrangers", inPlace := ["internal/reflectlite.ValueOf", "(internal/reflectlite.Value).Type", "(internal/reflectlite.Value).IsNil", "internal/reflectlite.TypeOf", "(internal/reflectlite.Value).Elem", "(internal/reflectlite.Value).Set", "internal/bytealg.IndexByteString"], unfollowed := true, recurses := true, named := ["roster/dn.ErrLong", "roster/dn.ErrUTF8", "roster/dn.ErrType", "roster/dn.ErrEquals", "roster/dn.ErrEscape", "roster/dn.ErrChar", "roster/dn.ErrHex", "roster/dn.ErrTwice", "roster/dn.ErrWide", "roster/dn.ErrMade", "errors.errorType"], apart := false, laid := [("errors.errorType", laid_errors_errorType), ("roster/dn.ErrLong", laid_roster_dn_ErrLong), ("roster/dn.ErrUTF8", laid_roster_dn_ErrUTF8), ("roster/dn.ErrType", laid_roster_dn_ErrType), ("roster/dn.ErrEquals", laid_roster_dn_ErrEquals), ("roster/dn.ErrEscape", laid_roster_dn_ErrEscape), ("roster/dn.ErrChar", laid_roster_dn_ErrChar), ("roster/dn.ErrHex", laid_roster_dn_ErrHex), ("roster/dn.ErrTwice", laid_roster_dn_ErrTwice), ("roster/dn.ErrWide", laid_roster_dn_ErrWide), ("roster/dn.ErrMade", laid_roster_dn_ErrMade)] }
def DnStrangersSaid : Prop := dnStrangersRow.holds Tryd.pinned (OpenSpec.ofChange dnStrangersSpec)

/-- ITS FALSE NEIGHBOUR: 'it returns false'. Refute it at one input. -/
def dnStrangersWrong : ChangeSpec := { name := "dnStrangers", fn := fun _ => fun
  | [] => { results := [.lit (.bool false)], args := [] }
  | _ => none }
def DnStrangersWrongFalsely : Prop := dnStrangersRow.holds Tryd.pinned (OpenSpec.ofChange dnStrangersWrong)

/-- 'rosterlaw05.DnSame': WHATEVER THE INPUT: true; the input reads as it did. -/
def dnSameSpec : ChangeSpec := { name := "dnSame", fn := fun _ => fun
  | [d1, d2] => { results := [.lit (.bool true)], args := [d1, d2] }
  | _ => none }
def dnSameRow : OpenClaim := { program := "ytdpknokginnmjaadoor", sum := "236c795083ddea515c89bc75b802c1d27c54902e3fbb650062f16ebca4237dff", func := "roster/rosterlaw05.DnSame", spec := "dnSame", inPlace := ["internal/abi.NoEscape", "internal/bytealg.IndexByteString", "internal/bytealg.MakeNoZero"], unfollowed := true, recurses := true, named := ["roster/dn.ErrWide", "roster/dn.ErrMade", "roster/dn.ErrTwice", "roster/dn.ErrUTF8"], apart := false, laid := [("roster/dn.ErrUTF8", laid_roster_dn_ErrUTF8), ("roster/dn.ErrTwice", laid_roster_dn_ErrTwice), ("roster/dn.ErrWide", laid_roster_dn_ErrWide), ("roster/dn.ErrMade", laid_roster_dn_ErrMade)] }
def DnSameSaid : Prop := dnSameRow.holds Tryd.pinned (OpenSpec.ofChange dnSameSpec)

/-- ITS FALSE NEIGHBOUR: 'it returns false'. Refute it at one input. -/
def dnSameWrong : ChangeSpec := { name := "dnSame", fn := fun _ => fun
  | [d1, d2] => { results := [.lit (.bool false)], args := [d1, d2] }
  | _ => none }
def DnSameWrongFalsely : Prop := dnSameRow.holds Tryd.pinned (OpenSpec.ofChange dnSameWrong)

/-- 'rosterlaw05.DnBlind': WHATEVER THE INPUT: true; the input reads as it did. -/
def dnBlindSpec : ChangeSpec := { name := "dnBlind", fn := fun _ => fun
  | [d1, d2] => { results := [.lit (.bool true)], args := [d1, d2] }
  | _ => none }
def dnBlindRow : OpenClaim := { program := "ytdpknokginnmjaadoor", sum := "236c795083ddea515c89bc75b802c1d27c54902e3fbb650062f16ebca4237dff", func := "roster/rosterlaw05.DnBlind", spec := "dnBlind", inPlace := ["internal/abi.NoEscape", "internal/bytealg.IndexByteString", "internal/bytealg.MakeNoZero"], unfollowed := true, recurses := true, named := ["roster/dn.ErrWide", "roster/dn.ErrMade", "roster/dn.ErrTwice", "roster/dn.ErrUTF8"], apart := false, laid := [("roster/dn.ErrUTF8", laid_roster_dn_ErrUTF8), ("roster/dn.ErrTwice", laid_roster_dn_ErrTwice), ("roster/dn.ErrWide", laid_roster_dn_ErrWide), ("roster/dn.ErrMade", laid_roster_dn_ErrMade)] }
def DnBlindSaid : Prop := dnBlindRow.holds Tryd.pinned (OpenSpec.ofChange dnBlindSpec)

/-- ITS FALSE NEIGHBOUR: 'it returns false'. Refute it at one input. -/
def dnBlindWrong : ChangeSpec := { name := "dnBlind", fn := fun _ => fun
  | [d1, d2] => { results := [.lit (.bool false)], args := [d1, d2] }
  | _ => none }
def DnBlindWrongFalsely : Prop := dnBlindRow.holds Tryd.pinned (OpenSpec.ofChange dnBlindWrong)

/-- 'rosterlaw05.DnFamily': WHATEVER THE INPUT: true; the input reads as it did. -/
def dnFamilySpec : ChangeSpec := { name := "dnFamily", fn := fun _ => fun
  | [d] => { results := [.lit (.bool true)], args := [d] }
  | _ => none }
def dnFamilyRow : OpenClaim := { program := "ytdpknokginnmjaadoor", sum := "236c795083ddea515c89bc75b802c1d27c54902e3fbb650062f16ebca4237dff", func := "roster/rosterlaw05.DnFamily", spec := "dnFamily", inPlace := ["internal/abi.NoEscape", "internal/bytealg.IndexByteString", "internal/bytealg.MakeNoZero"], unfollowed := true, recurses := true, named := ["roster/dn.ErrWide", "roster/dn.ErrMade", "roster/dn.ErrTwice", "roster/dn.ErrUTF8"], apart := false, laid := [("roster/dn.ErrUTF8", laid_roster_dn_ErrUTF8), ("roster/dn.ErrTwice", laid_roster_dn_ErrTwice), ("roster/dn.ErrWide", laid_roster_dn_ErrWide), ("roster/dn.ErrMade", laid_roster_dn_ErrMade)] }
def DnFamilySaid : Prop := dnFamilyRow.holds Tryd.pinned (OpenSpec.ofChange dnFamilySpec)

/-- ITS FALSE NEIGHBOUR: 'it returns false'. Refute it at one input. -/
def dnFamilyWrong : ChangeSpec := { name := "dnFamily", fn := fun _ => fun
  | [d] => { results := [.lit (.bool false)], args := [d] }
  | _ => none }
def DnFamilyWrongFalsely : Prop := dnFamilyRow.holds Tryd.pinned (OpenSpec.ofChange dnFamilyWrong)

/- THE SECOND FORM. 'bulk': how many values and letters a reading holds, each counted each time it is reached (what is shared counts as often as it is met; a slice's spare places count too). A statement '..UptoSaid' is the law's where the arguments, and the package variables that the reading takes, are together of bulk at most 1048576: NARROWER than '..Said'. Prove '..Said' where nothing that the law and all that it calls make is longer than what came in: it says more and counts as full. Else prove '..UptoSaid'. A law counts once. -/
mutual
def uptoBulk {H : Type} : DataW H → Nat
  | .lit (.string bytes) => bytes.length + 1
  | .lit _ => 1
  | .nil => 1
  | .ptr d => uptoBulk d + 1
  | .slice elems spare => uptoBulkAll elems + uptoBulkAll spare + 1
  | .agg parts => uptoBulkAll parts + 1
  | .iface _ d => uptoBulk d + 1
  | .map entries => uptoBulkEntries entries + 1
  | .held _ => 1
def uptoBulkAll {H : Type} : List (DataW H) → Nat
  | [] => 0
  | d :: r => uptoBulk d + uptoBulkAll r
def uptoBulkEntries {H : Type} : List (Lit × DataW H) → Nat
  | [] => 0
  | x :: r => uptoBulkEntry x + uptoBulkEntries r
def uptoBulkEntry {H : Type} : Lit × DataW H → Nat
  | (.string bytes, d) => bytes.length + uptoBulk d + 1
  | (_, d) => uptoBulk d + 1
 end
def uptoSmall : (H : Type) → List (DataW H) → Bool := fun _ ds => decide (uptoBulkAll ds ≤ 1048576)
def OpenSpec.upto (s : _root_.Go.ChangeSpec) : _root_.Go.OpenSpec := { _root_.Go.OpenSpec.ofChange s with cond := some uptoSmall }

/-- 'rosterlaw05.DnPrint', WHERE WHAT IT READS IS OF BULK AT MOST 1048576: true; the input reads as it did. -/
def dnPrintUptoRow : OpenClaim := { program := "ytdpknokginnmjaadoor", sum := "236c795083ddea515c89bc75b802c1d27c54902e3fbb650062f16ebca4237dff", func := "roster/rosterlaw05.DnPrint", spec := "dnPrint", inPlace := ["internal/abi.NoEscape", "internal/bytealg.IndexByteString", "internal/bytealg.MakeNoZero", "internal/reflectlite.ValueOf", "(internal/reflectlite.Value).Type", "(internal/reflectlite.Value).IsNil", "internal/reflectlite.TypeOf", "(internal/reflectlite.Value).Elem", "(internal/reflectlite.Value).Set"], unfollowed := true, recurses := true, named := ["roster/dn.ErrLong", "roster/dn.ErrWide", "roster/dn.ErrMade", "roster/dn.ErrTwice", "roster/dn.ErrUTF8", "roster/rosterref01.rows", "errors.errorType", "roster/dn.ErrType", "roster/dn.ErrEquals", "roster/dn.ErrEscape", "roster/dn.ErrChar", "roster/dn.ErrHex"], apart := false, laid := [("roster/rosterref01.rows", laid_roster_rosterref01_rows), ("errors.errorType", laid_errors_errorType), ("roster/dn.ErrLong", laid_roster_dn_ErrLong), ("roster/dn.ErrUTF8", laid_roster_dn_ErrUTF8), ("roster/dn.ErrType", laid_roster_dn_ErrType), ("roster/dn.ErrEquals", laid_roster_dn_ErrEquals), ("roster/dn.ErrEscape", laid_roster_dn_ErrEscape), ("roster/dn.ErrChar", laid_roster_dn_ErrChar), ("roster/dn.ErrHex", laid_roster_dn_ErrHex), ("roster/dn.ErrTwice", laid_roster_dn_ErrTwice), ("roster/dn.ErrWide", laid_roster_dn_ErrWide), ("roster/dn.ErrMade", laid_roster_dn_ErrMade)], narrowed := true }
def DnPrintUptoSaid : Prop := dnPrintUptoRow.holds Tryd.pinned (OpenSpec.upto dnPrintSpec)

/-- 'rosterlaw05.DnBack', WHERE WHAT IT READS IS OF BULK AT MOST 1048576: true; the input reads as it did. -/
def dnBackUptoRow : OpenClaim := { program := "ytdpknokginnmjaadoor", sum := "236c795083ddea515c89bc75b802c1d27c54902e3fbb650062f16ebca4237dff", func := "roster/rosterlaw05.DnBack", spec := "dnBack", inPlace := ["internal/abi.NoEscape", "internal/bytealg.IndexByteString", "internal/bytealg.MakeNoZero"], unfollowed := true, recurses := true, named := ["roster/dn.ErrLong", "roster/dn.ErrWide", "roster/dn.ErrMade", "roster/dn.ErrTwice", "roster/dn.ErrUTF8", "roster/dn.ErrType", "roster/dn.ErrEquals", "roster/dn.ErrChar", "roster/dn.ErrEscape", "roster/dn.ErrHex"], apart := false, laid := [("roster/dn.ErrLong", laid_roster_dn_ErrLong), ("roster/dn.ErrUTF8", laid_roster_dn_ErrUTF8), ("roster/dn.ErrType", laid_roster_dn_ErrType), ("roster/dn.ErrEquals", laid_roster_dn_ErrEquals), ("roster/dn.ErrEscape", laid_roster_dn_ErrEscape), ("roster/dn.ErrChar", laid_roster_dn_ErrChar), ("roster/dn.ErrHex", laid_roster_dn_ErrHex), ("roster/dn.ErrTwice", laid_roster_dn_ErrTwice), ("roster/dn.ErrWide", laid_roster_dn_ErrWide), ("roster/dn.ErrMade", laid_roster_dn_ErrMade)], narrowed := true }
def DnBackUptoSaid : Prop := dnBackUptoRow.holds Tryd.pinned (OpenSpec.upto dnBackSpec)

/-- 'rosterlaw05.DnStrangers', WHERE WHAT IT READS IS OF BULK AT MOST 1048576: true; the input reads as it did. -/
def dnStrangersUptoRow : OpenClaim := { program := "ytdpknokginnmjaadoor", sum := "236c795083ddea515c89bc75b802c1d27c54902e3fbb650062f16ebca4237dff", func := "roster/rosterlaw05.DnStrangers", spec := "dnStrangers", inPlace := ["internal/reflectlite.ValueOf", "(internal/reflectlite.Value).Type", "(internal/reflectlite.Value).IsNil", "internal/reflectlite.TypeOf", "(internal/reflectlite.Value).Elem", "(internal/reflectlite.Value).Set", "internal/bytealg.IndexByteString"], unfollowed := true, recurses := true, named := ["roster/dn.ErrLong", "roster/dn.ErrUTF8", "roster/dn.ErrType", "roster/dn.ErrEquals", "roster/dn.ErrEscape", "roster/dn.ErrChar", "roster/dn.ErrHex", "roster/dn.ErrTwice", "roster/dn.ErrWide", "roster/dn.ErrMade", "errors.errorType"], apart := false, laid := [("errors.errorType", laid_errors_errorType), ("roster/dn.ErrLong", laid_roster_dn_ErrLong), ("roster/dn.ErrUTF8", laid_roster_dn_ErrUTF8), ("roster/dn.ErrType", laid_roster_dn_ErrType), ("roster/dn.ErrEquals", laid_roster_dn_ErrEquals), ("roster/dn.ErrEscape", laid_roster_dn_ErrEscape), ("roster/dn.ErrChar", laid_roster_dn_ErrChar), ("roster/dn.ErrHex", laid_roster_dn_ErrHex), ("roster/dn.ErrTwice", laid_roster_dn_ErrTwice), ("roster/dn.ErrWide", laid_roster_dn_ErrWide), ("roster/dn.ErrMade", laid_roster_dn_ErrMade)], narrowed := true }
def DnStrangersUptoSaid : Prop := dnStrangersUptoRow.holds Tryd.pinned (OpenSpec.upto dnStrangersSpec)

/-- 'rosterlaw05.DnSame', WHERE WHAT IT READS IS OF BULK AT MOST 1048576: true; the input reads as it did. -/
def dnSameUptoRow : OpenClaim := { program := "ytdpknokginnmjaadoor", sum := "236c795083ddea515c89bc75b802c1d27c54902e3fbb650062f16ebca4237dff", func := "roster/rosterlaw05.DnSame", spec := "dnSame", inPlace := ["internal/abi.NoEscape", "internal/bytealg.IndexByteString", "internal/bytealg.MakeNoZero"], unfollowed := true, recurses := true, named := ["roster/dn.ErrWide", "roster/dn.ErrMade", "roster/dn.ErrTwice", "roster/dn.ErrUTF8"], apart := false, laid := [("roster/dn.ErrUTF8", laid_roster_dn_ErrUTF8), ("roster/dn.ErrTwice", laid_roster_dn_ErrTwice), ("roster/dn.ErrWide", laid_roster_dn_ErrWide), ("roster/dn.ErrMade", laid_roster_dn_ErrMade)], narrowed := true }
def DnSameUptoSaid : Prop := dnSameUptoRow.holds Tryd.pinned (OpenSpec.upto dnSameSpec)

/-- 'rosterlaw05.DnBlind', WHERE WHAT IT READS IS OF BULK AT MOST 1048576: true; the input reads as it did. -/
def dnBlindUptoRow : OpenClaim := { program := "ytdpknokginnmjaadoor", sum := "236c795083ddea515c89bc75b802c1d27c54902e3fbb650062f16ebca4237dff", func := "roster/rosterlaw05.DnBlind", spec := "dnBlind", inPlace := ["internal/abi.NoEscape", "internal/bytealg.IndexByteString", "internal/bytealg.MakeNoZero"], unfollowed := true, recurses := true, named := ["roster/dn.ErrWide", "roster/dn.ErrMade", "roster/dn.ErrTwice", "roster/dn.ErrUTF8"], apart := false, laid := [("roster/dn.ErrUTF8", laid_roster_dn_ErrUTF8), ("roster/dn.ErrTwice", laid_roster_dn_ErrTwice), ("roster/dn.ErrWide", laid_roster_dn_ErrWide), ("roster/dn.ErrMade", laid_roster_dn_ErrMade)], narrowed := true }
def DnBlindUptoSaid : Prop := dnBlindUptoRow.holds Tryd.pinned (OpenSpec.upto dnBlindSpec)

/-- 'rosterlaw05.DnFamily', WHERE WHAT IT READS IS OF BULK AT MOST 1048576: true; the input reads as it did. -/
def dnFamilyUptoRow : OpenClaim := { program := "ytdpknokginnmjaadoor", sum := "236c795083ddea515c89bc75b802c1d27c54902e3fbb650062f16ebca4237dff", func := "roster/rosterlaw05.DnFamily", spec := "dnFamily", inPlace := ["internal/abi.NoEscape", "internal/bytealg.IndexByteString", "internal/bytealg.MakeNoZero"], unfollowed := true, recurses := true, named := ["roster/dn.ErrWide", "roster/dn.ErrMade", "roster/dn.ErrTwice", "roster/dn.ErrUTF8"], apart := false, laid := [("roster/dn.ErrUTF8", laid_roster_dn_ErrUTF8), ("roster/dn.ErrTwice", laid_roster_dn_ErrTwice), ("roster/dn.ErrWide", laid_roster_dn_ErrWide), ("roster/dn.ErrMade", laid_roster_dn_ErrMade)], narrowed := true }
def DnFamilyUptoSaid : Prop := dnFamilyUptoRow.holds Tryd.pinned (OpenSpec.upto dnFamilySpec)

end Rows
end Go.Proofs.YtdpknokginnmjaaDoor
