/- attr.byName by walks, a name each; and what is no name of its own. -/
import Derived.Test.YtdpknokginnmjaaDoorTabN
set_option linter.unusedVariables false
set_option linter.unusedSimpArgs false
namespace Go.Proofs.YtdpknokginnmjaaDoor
open Go.RowKit
set_option maxRecDepth 100000 in
set_option maxHeartbeats 1600000 in
theorem byName_n0 (w : World) : Calls Tryd.prog 73 #[.string ⟨#[111, 98, 106, 101, 99, 116, 99, 108, 97, 115, 115]⟩] w fun e w' => e = .returned (.tuple #[.int .i64 0, .bool true]) ∧ w = w' := by
  go_enter Tryd.func73, Tryd.ntmps73
  go_wp2
  go_ret2
  exact ⟨rfl, rfl⟩
set_option maxRecDepth 100000 in
set_option maxHeartbeats 1600000 in
theorem byName_n1 (w : World) : Calls Tryd.prog 73 #[.string ⟨#[50, 46, 53, 46, 52, 46, 48]⟩] w fun e w' => e = .returned (.tuple #[.int .i64 0, .bool true]) ∧ w = w' := by
  go_enter Tryd.func73, Tryd.ntmps73
  go_wp2
  go_ret2
  exact ⟨rfl, rfl⟩
set_option maxRecDepth 100000 in
set_option maxHeartbeats 1600000 in
theorem byName_n2 (w : World) : Calls Tryd.prog 73 #[.string ⟨#[97, 108, 105, 97, 115, 101, 100, 111, 98, 106, 101, 99, 116, 110, 97, 109, 101]⟩] w fun e w' => e = .returned (.tuple #[.int .i64 1, .bool true]) ∧ w = w' := by
  go_enter Tryd.func73, Tryd.ntmps73
  go_wp2
  go_ret2
  exact ⟨rfl, rfl⟩
set_option maxRecDepth 100000 in
set_option maxHeartbeats 1600000 in
theorem byName_n3 (w : World) : Calls Tryd.prog 73 #[.string ⟨#[97, 108, 105, 97, 115, 101, 100, 101, 110, 116, 114, 121, 110, 97, 109, 101]⟩] w fun e w' => e = .returned (.tuple #[.int .i64 1, .bool true]) ∧ w = w' := by
  go_enter Tryd.func73, Tryd.ntmps73
  go_wp2
  go_ret2
  exact ⟨rfl, rfl⟩
set_option maxRecDepth 100000 in
set_option maxHeartbeats 1600000 in
theorem byName_n4 (w : World) : Calls Tryd.prog 73 #[.string ⟨#[50, 46, 53, 46, 52, 46, 49]⟩] w fun e w' => e = .returned (.tuple #[.int .i64 1, .bool true]) ∧ w = w' := by
  go_enter Tryd.func73, Tryd.ntmps73
  go_wp2
  go_ret2
  exact ⟨rfl, rfl⟩
set_option maxRecDepth 100000 in
set_option maxHeartbeats 1600000 in
theorem byName_n5 (w : World) : Calls Tryd.prog 73 #[.string ⟨#[110, 97, 109, 101]⟩] w fun e w' => e = .returned (.tuple #[.int .i64 2, .bool true]) ∧ w = w' := by
  go_enter Tryd.func73, Tryd.ntmps73
  go_wp2
  go_ret2
  exact ⟨rfl, rfl⟩
set_option maxRecDepth 100000 in
set_option maxHeartbeats 1600000 in
theorem byName_n6 (w : World) : Calls Tryd.prog 73 #[.string ⟨#[50, 46, 53, 46, 52, 46, 52, 49]⟩] w fun e w' => e = .returned (.tuple #[.int .i64 2, .bool true]) ∧ w = w' := by
  go_enter Tryd.func73, Tryd.ntmps73
  go_wp2
  go_ret2
  exact ⟨rfl, rfl⟩
set_option maxRecDepth 100000 in
set_option maxHeartbeats 1600000 in
theorem byName_n7 (w : World) : Calls Tryd.prog 73 #[.string ⟨#[100, 105, 115, 116, 105, 110, 103, 117, 105, 115, 104, 101, 100, 110, 97, 109, 101]⟩] w fun e w' => e = .returned (.tuple #[.int .i64 3, .bool true]) ∧ w = w' := by
  go_enter Tryd.func73, Tryd.ntmps73
  go_wp2
  go_ret2
  exact ⟨rfl, rfl⟩
set_option maxRecDepth 100000 in
set_option maxHeartbeats 1600000 in
theorem byName_n8 (w : World) : Calls Tryd.prog 73 #[.string ⟨#[50, 46, 53, 46, 52, 46, 52, 57]⟩] w fun e w' => e = .returned (.tuple #[.int .i64 3, .bool true]) ∧ w = w' := by
  go_enter Tryd.func73, Tryd.ntmps73
  go_wp2
  go_ret2
  exact ⟨rfl, rfl⟩
set_option maxRecDepth 100000 in
set_option maxHeartbeats 1600000 in
theorem byName_n9 (w : World) : Calls Tryd.prog 73 #[.string ⟨#[99, 110]⟩] w fun e w' => e = .returned (.tuple #[.int .i64 4, .bool true]) ∧ w = w' := by
  go_enter Tryd.func73, Tryd.ntmps73
  go_wp2
  go_ret2
  exact ⟨rfl, rfl⟩
set_option maxRecDepth 100000 in
set_option maxHeartbeats 1600000 in
theorem byName_n10 (w : World) : Calls Tryd.prog 73 #[.string ⟨#[99, 111, 109, 109, 111, 110, 110, 97, 109, 101]⟩] w fun e w' => e = .returned (.tuple #[.int .i64 4, .bool true]) ∧ w = w' := by
  go_enter Tryd.func73, Tryd.ntmps73
  go_wp2
  go_ret2
  exact ⟨rfl, rfl⟩
set_option maxRecDepth 100000 in
set_option maxHeartbeats 1600000 in
theorem byName_n11 (w : World) : Calls Tryd.prog 73 #[.string ⟨#[50, 46, 53, 46, 52, 46, 51]⟩] w fun e w' => e = .returned (.tuple #[.int .i64 4, .bool true]) ∧ w = w' := by
  go_enter Tryd.func73, Tryd.ntmps73
  go_wp2
  go_ret2
  exact ⟨rfl, rfl⟩
set_option maxRecDepth 100000 in
set_option maxHeartbeats 1600000 in
theorem byName_n12 (w : World) : Calls Tryd.prog 73 #[.string ⟨#[115, 110]⟩] w fun e w' => e = .returned (.tuple #[.int .i64 5, .bool true]) ∧ w = w' := by
  go_enter Tryd.func73, Tryd.ntmps73
  go_wp2
  go_ret2
  exact ⟨rfl, rfl⟩
set_option maxRecDepth 100000 in
set_option maxHeartbeats 1600000 in
theorem byName_n13 (w : World) : Calls Tryd.prog 73 #[.string ⟨#[115, 117, 114, 110, 97, 109, 101]⟩] w fun e w' => e = .returned (.tuple #[.int .i64 5, .bool true]) ∧ w = w' := by
  go_enter Tryd.func73, Tryd.ntmps73
  go_wp2
  go_ret2
  exact ⟨rfl, rfl⟩
set_option maxRecDepth 100000 in
set_option maxHeartbeats 1600000 in
theorem byName_n14 (w : World) : Calls Tryd.prog 73 #[.string ⟨#[50, 46, 53, 46, 52, 46, 52]⟩] w fun e w' => e = .returned (.tuple #[.int .i64 5, .bool true]) ∧ w = w' := by
  go_enter Tryd.func73, Tryd.ntmps73
  go_wp2
  go_ret2
  exact ⟨rfl, rfl⟩
set_option maxRecDepth 100000 in
set_option maxHeartbeats 1600000 in
theorem byName_n15 (w : World) : Calls Tryd.prog 73 #[.string ⟨#[115, 101, 114, 105, 97, 108, 110, 117, 109, 98, 101, 114]⟩] w fun e w' => e = .returned (.tuple #[.int .i64 6, .bool true]) ∧ w = w' := by
  go_enter Tryd.func73, Tryd.ntmps73
  go_wp2
  go_ret2
  exact ⟨rfl, rfl⟩
set_option maxRecDepth 100000 in
set_option maxHeartbeats 1600000 in
theorem byName_n16 (w : World) : Calls Tryd.prog 73 #[.string ⟨#[50, 46, 53, 46, 52, 46, 53]⟩] w fun e w' => e = .returned (.tuple #[.int .i64 6, .bool true]) ∧ w = w' := by
  go_enter Tryd.func73, Tryd.ntmps73
  go_wp2
  go_ret2
  exact ⟨rfl, rfl⟩
set_option maxRecDepth 100000 in
set_option maxHeartbeats 1600000 in
theorem byName_n17 (w : World) : Calls Tryd.prog 73 #[.string ⟨#[99]⟩] w fun e w' => e = .returned (.tuple #[.int .i64 7, .bool true]) ∧ w = w' := by
  go_enter Tryd.func73, Tryd.ntmps73
  go_wp2
  go_ret2
  exact ⟨rfl, rfl⟩
set_option maxRecDepth 100000 in
set_option maxHeartbeats 1600000 in
theorem byName_n18 (w : World) : Calls Tryd.prog 73 #[.string ⟨#[99, 111, 117, 110, 116, 114, 121, 110, 97, 109, 101]⟩] w fun e w' => e = .returned (.tuple #[.int .i64 7, .bool true]) ∧ w = w' := by
  go_enter Tryd.func73, Tryd.ntmps73
  go_wp2
  go_ret2
  exact ⟨rfl, rfl⟩
set_option maxRecDepth 100000 in
set_option maxHeartbeats 1600000 in
theorem byName_n19 (w : World) : Calls Tryd.prog 73 #[.string ⟨#[50, 46, 53, 46, 52, 46, 54]⟩] w fun e w' => e = .returned (.tuple #[.int .i64 7, .bool true]) ∧ w = w' := by
  go_enter Tryd.func73, Tryd.ntmps73
  go_wp2
  go_ret2
  exact ⟨rfl, rfl⟩
set_option maxRecDepth 100000 in
set_option maxHeartbeats 1600000 in
theorem byName_n20 (w : World) : Calls Tryd.prog 73 #[.string ⟨#[108]⟩] w fun e w' => e = .returned (.tuple #[.int .i64 8, .bool true]) ∧ w = w' := by
  go_enter Tryd.func73, Tryd.ntmps73
  go_wp2
  go_ret2
  exact ⟨rfl, rfl⟩
set_option maxRecDepth 100000 in
set_option maxHeartbeats 1600000 in
theorem byName_n21 (w : World) : Calls Tryd.prog 73 #[.string ⟨#[108, 111, 99, 97, 108, 105, 116, 121, 110, 97, 109, 101]⟩] w fun e w' => e = .returned (.tuple #[.int .i64 8, .bool true]) ∧ w = w' := by
  go_enter Tryd.func73, Tryd.ntmps73
  go_wp2
  go_ret2
  exact ⟨rfl, rfl⟩
set_option maxRecDepth 100000 in
set_option maxHeartbeats 1600000 in
theorem byName_n22 (w : World) : Calls Tryd.prog 73 #[.string ⟨#[50, 46, 53, 46, 52, 46, 55]⟩] w fun e w' => e = .returned (.tuple #[.int .i64 8, .bool true]) ∧ w = w' := by
  go_enter Tryd.func73, Tryd.ntmps73
  go_wp2
  go_ret2
  exact ⟨rfl, rfl⟩
set_option maxRecDepth 100000 in
set_option maxHeartbeats 1600000 in
theorem byName_n23 (w : World) : Calls Tryd.prog 73 #[.string ⟨#[115, 116]⟩] w fun e w' => e = .returned (.tuple #[.int .i64 9, .bool true]) ∧ w = w' := by
  go_enter Tryd.func73, Tryd.ntmps73
  go_wp2
  go_ret2
  exact ⟨rfl, rfl⟩
set_option maxRecDepth 100000 in
set_option maxHeartbeats 1600000 in
theorem byName_n24 (w : World) : Calls Tryd.prog 73 #[.string ⟨#[115, 116, 97, 116, 101, 111, 114, 112, 114, 111, 118, 105, 110, 99, 101, 110, 97, 109, 101]⟩] w fun e w' => e = .returned (.tuple #[.int .i64 9, .bool true]) ∧ w = w' := by
  go_enter Tryd.func73, Tryd.ntmps73
  go_wp2
  go_ret2
  exact ⟨rfl, rfl⟩
set_option maxRecDepth 100000 in
set_option maxHeartbeats 1600000 in
theorem byName_n25 (w : World) : Calls Tryd.prog 73 #[.string ⟨#[50, 46, 53, 46, 52, 46, 56]⟩] w fun e w' => e = .returned (.tuple #[.int .i64 9, .bool true]) ∧ w = w' := by
  go_enter Tryd.func73, Tryd.ntmps73
  go_wp2
  go_ret2
  exact ⟨rfl, rfl⟩
set_option maxRecDepth 100000 in
set_option maxHeartbeats 1600000 in
theorem byName_n26 (w : World) : Calls Tryd.prog 73 #[.string ⟨#[115, 116, 114, 101, 101, 116]⟩] w fun e w' => e = .returned (.tuple #[.int .i64 10, .bool true]) ∧ w = w' := by
  go_enter Tryd.func73, Tryd.ntmps73
  go_wp2
  go_ret2
  exact ⟨rfl, rfl⟩
set_option maxRecDepth 100000 in
set_option maxHeartbeats 1600000 in
theorem byName_n27 (w : World) : Calls Tryd.prog 73 #[.string ⟨#[115, 116, 114, 101, 101, 116, 97, 100, 100, 114, 101, 115, 115]⟩] w fun e w' => e = .returned (.tuple #[.int .i64 10, .bool true]) ∧ w = w' := by
  go_enter Tryd.func73, Tryd.ntmps73
  go_wp2
  go_ret2
  exact ⟨rfl, rfl⟩
set_option maxRecDepth 100000 in
set_option maxHeartbeats 1600000 in
theorem byName_n28 (w : World) : Calls Tryd.prog 73 #[.string ⟨#[50, 46, 53, 46, 52, 46, 57]⟩] w fun e w' => e = .returned (.tuple #[.int .i64 10, .bool true]) ∧ w = w' := by
  go_enter Tryd.func73, Tryd.ntmps73
  go_wp2
  go_ret2
  exact ⟨rfl, rfl⟩
set_option maxRecDepth 100000 in
set_option maxHeartbeats 1600000 in
theorem byName_n29 (w : World) : Calls Tryd.prog 73 #[.string ⟨#[111]⟩] w fun e w' => e = .returned (.tuple #[.int .i64 11, .bool true]) ∧ w = w' := by
  go_enter Tryd.func73, Tryd.ntmps73
  go_wp2
  go_ret2
  exact ⟨rfl, rfl⟩
set_option maxRecDepth 100000 in
set_option maxHeartbeats 1600000 in
theorem byName_n30 (w : World) : Calls Tryd.prog 73 #[.string ⟨#[111, 114, 103, 97, 110, 105, 122, 97, 116, 105, 111, 110, 110, 97, 109, 101]⟩] w fun e w' => e = .returned (.tuple #[.int .i64 11, .bool true]) ∧ w = w' := by
  go_enter Tryd.func73, Tryd.ntmps73
  go_wp2
  go_ret2
  exact ⟨rfl, rfl⟩
set_option maxRecDepth 100000 in
set_option maxHeartbeats 1600000 in
theorem byName_n31 (w : World) : Calls Tryd.prog 73 #[.string ⟨#[50, 46, 53, 46, 52, 46, 49, 48]⟩] w fun e w' => e = .returned (.tuple #[.int .i64 11, .bool true]) ∧ w = w' := by
  go_enter Tryd.func73, Tryd.ntmps73
  go_wp2
  go_ret2
  exact ⟨rfl, rfl⟩
set_option maxRecDepth 100000 in
set_option maxHeartbeats 1600000 in
theorem byName_n32 (w : World) : Calls Tryd.prog 73 #[.string ⟨#[111, 117]⟩] w fun e w' => e = .returned (.tuple #[.int .i64 12, .bool true]) ∧ w = w' := by
  go_enter Tryd.func73, Tryd.ntmps73
  go_wp2
  go_ret2
  exact ⟨rfl, rfl⟩
set_option maxRecDepth 100000 in
set_option maxHeartbeats 1600000 in
theorem byName_n33 (w : World) : Calls Tryd.prog 73 #[.string ⟨#[111, 114, 103, 97, 110, 105, 122, 97, 116, 105, 111, 110, 97, 108, 117, 110, 105, 116, 110, 97, 109, 101]⟩] w fun e w' => e = .returned (.tuple #[.int .i64 12, .bool true]) ∧ w = w' := by
  go_enter Tryd.func73, Tryd.ntmps73
  go_wp2
  go_ret2
  exact ⟨rfl, rfl⟩
set_option maxRecDepth 100000 in
set_option maxHeartbeats 1600000 in
theorem byName_n34 (w : World) : Calls Tryd.prog 73 #[.string ⟨#[50, 46, 53, 46, 52, 46, 49, 49]⟩] w fun e w' => e = .returned (.tuple #[.int .i64 12, .bool true]) ∧ w = w' := by
  go_enter Tryd.func73, Tryd.ntmps73
  go_wp2
  go_ret2
  exact ⟨rfl, rfl⟩
set_option maxRecDepth 100000 in
set_option maxHeartbeats 1600000 in
theorem byName_n35 (w : World) : Calls Tryd.prog 73 #[.string ⟨#[116, 105, 116, 108, 101]⟩] w fun e w' => e = .returned (.tuple #[.int .i64 13, .bool true]) ∧ w = w' := by
  go_enter Tryd.func73, Tryd.ntmps73
  go_wp2
  go_ret2
  exact ⟨rfl, rfl⟩
set_option maxRecDepth 100000 in
set_option maxHeartbeats 1600000 in
theorem byName_n36 (w : World) : Calls Tryd.prog 73 #[.string ⟨#[50, 46, 53, 46, 52, 46, 49, 50]⟩] w fun e w' => e = .returned (.tuple #[.int .i64 13, .bool true]) ∧ w = w' := by
  go_enter Tryd.func73, Tryd.ntmps73
  go_wp2
  go_ret2
  exact ⟨rfl, rfl⟩
set_option maxRecDepth 100000 in
set_option maxHeartbeats 1600000 in
theorem byName_n37 (w : World) : Calls Tryd.prog 73 #[.string ⟨#[100, 101, 115, 99, 114, 105, 112, 116, 105, 111, 110]⟩] w fun e w' => e = .returned (.tuple #[.int .i64 14, .bool true]) ∧ w = w' := by
  go_enter Tryd.func73, Tryd.ntmps73
  go_wp2
  go_ret2
  exact ⟨rfl, rfl⟩
set_option maxRecDepth 100000 in
set_option maxHeartbeats 1600000 in
theorem byName_n38 (w : World) : Calls Tryd.prog 73 #[.string ⟨#[50, 46, 53, 46, 52, 46, 49, 51]⟩] w fun e w' => e = .returned (.tuple #[.int .i64 14, .bool true]) ∧ w = w' := by
  go_enter Tryd.func73, Tryd.ntmps73
  go_wp2
  go_ret2
  exact ⟨rfl, rfl⟩
set_option maxRecDepth 100000 in
set_option maxHeartbeats 1600000 in
theorem byName_n39 (w : World) : Calls Tryd.prog 73 #[.string ⟨#[98, 117, 115, 105, 110, 101, 115, 115, 99, 97, 116, 101, 103, 111, 114, 121]⟩] w fun e w' => e = .returned (.tuple #[.int .i64 15, .bool true]) ∧ w = w' := by
  go_enter Tryd.func73, Tryd.ntmps73
  go_wp2
  go_ret2
  exact ⟨rfl, rfl⟩
set_option maxRecDepth 100000 in
set_option maxHeartbeats 1600000 in
theorem byName_n40 (w : World) : Calls Tryd.prog 73 #[.string ⟨#[50, 46, 53, 46, 52, 46, 49, 53]⟩] w fun e w' => e = .returned (.tuple #[.int .i64 15, .bool true]) ∧ w = w' := by
  go_enter Tryd.func73, Tryd.ntmps73
  go_wp2
  go_ret2
  exact ⟨rfl, rfl⟩
set_option maxRecDepth 100000 in
set_option maxHeartbeats 1600000 in
theorem byName_n41 (w : World) : Calls Tryd.prog 73 #[.string ⟨#[112, 111, 115, 116, 97, 108, 97, 100, 100, 114, 101, 115, 115]⟩] w fun e w' => e = .returned (.tuple #[.int .i64 16, .bool true]) ∧ w = w' := by
  go_enter Tryd.func73, Tryd.ntmps73
  go_wp2
  go_ret2
  exact ⟨rfl, rfl⟩
set_option maxRecDepth 100000 in
set_option maxHeartbeats 1600000 in
theorem byName_n42 (w : World) : Calls Tryd.prog 73 #[.string ⟨#[50, 46, 53, 46, 52, 46, 49, 54]⟩] w fun e w' => e = .returned (.tuple #[.int .i64 16, .bool true]) ∧ w = w' := by
  go_enter Tryd.func73, Tryd.ntmps73
  go_wp2
  go_ret2
  exact ⟨rfl, rfl⟩
set_option maxRecDepth 100000 in
set_option maxHeartbeats 1600000 in
theorem byName_n43 (w : World) : Calls Tryd.prog 73 #[.string ⟨#[112, 111, 115, 116, 97, 108, 99, 111, 100, 101]⟩] w fun e w' => e = .returned (.tuple #[.int .i64 17, .bool true]) ∧ w = w' := by
  go_enter Tryd.func73, Tryd.ntmps73
  go_wp2
  go_ret2
  exact ⟨rfl, rfl⟩
set_option maxRecDepth 100000 in
set_option maxHeartbeats 1600000 in
theorem byName_n44 (w : World) : Calls Tryd.prog 73 #[.string ⟨#[50, 46, 53, 46, 52, 46, 49, 55]⟩] w fun e w' => e = .returned (.tuple #[.int .i64 17, .bool true]) ∧ w = w' := by
  go_enter Tryd.func73, Tryd.ntmps73
  go_wp2
  go_ret2
  exact ⟨rfl, rfl⟩
set_option maxRecDepth 100000 in
set_option maxHeartbeats 1600000 in
theorem byName_n45 (w : World) : Calls Tryd.prog 73 #[.string ⟨#[112, 111, 115, 116, 111, 102, 102, 105, 99, 101, 98, 111, 120]⟩] w fun e w' => e = .returned (.tuple #[.int .i64 18, .bool true]) ∧ w = w' := by
  go_enter Tryd.func73, Tryd.ntmps73
  go_wp2
  go_ret2
  exact ⟨rfl, rfl⟩
set_option maxRecDepth 100000 in
set_option maxHeartbeats 1600000 in
theorem byName_n46 (w : World) : Calls Tryd.prog 73 #[.string ⟨#[50, 46, 53, 46, 52, 46, 49, 56]⟩] w fun e w' => e = .returned (.tuple #[.int .i64 18, .bool true]) ∧ w = w' := by
  go_enter Tryd.func73, Tryd.ntmps73
  go_wp2
  go_ret2
  exact ⟨rfl, rfl⟩
set_option maxRecDepth 100000 in
set_option maxHeartbeats 1600000 in
theorem byName_n47 (w : World) : Calls Tryd.prog 73 #[.string ⟨#[112, 104, 121, 115, 105, 99, 97, 108, 100, 101, 108, 105, 118, 101, 114, 121, 111, 102, 102, 105, 99, 101, 110, 97, 109, 101]⟩] w fun e w' => e = .returned (.tuple #[.int .i64 19, .bool true]) ∧ w = w' := by
  go_enter Tryd.func73, Tryd.ntmps73
  go_wp2
  go_ret2
  exact ⟨rfl, rfl⟩
set_option maxRecDepth 100000 in
set_option maxHeartbeats 1600000 in
theorem byName_n48 (w : World) : Calls Tryd.prog 73 #[.string ⟨#[50, 46, 53, 46, 52, 46, 49, 57]⟩] w fun e w' => e = .returned (.tuple #[.int .i64 19, .bool true]) ∧ w = w' := by
  go_enter Tryd.func73, Tryd.ntmps73
  go_wp2
  go_ret2
  exact ⟨rfl, rfl⟩
set_option maxRecDepth 100000 in
set_option maxHeartbeats 1600000 in
theorem byName_n49 (w : World) : Calls Tryd.prog 73 #[.string ⟨#[116, 101, 108, 101, 112, 104, 111, 110, 101, 110, 117, 109, 98, 101, 114]⟩] w fun e w' => e = .returned (.tuple #[.int .i64 20, .bool true]) ∧ w = w' := by
  go_enter Tryd.func73, Tryd.ntmps73
  go_wp2
  go_ret2
  exact ⟨rfl, rfl⟩
set_option maxRecDepth 100000 in
set_option maxHeartbeats 1600000 in
theorem byName_n50 (w : World) : Calls Tryd.prog 73 #[.string ⟨#[50, 46, 53, 46, 52, 46, 50, 48]⟩] w fun e w' => e = .returned (.tuple #[.int .i64 20, .bool true]) ∧ w = w' := by
  go_enter Tryd.func73, Tryd.ntmps73
  go_wp2
  go_ret2
  exact ⟨rfl, rfl⟩
set_option maxRecDepth 100000 in
set_option maxHeartbeats 1600000 in
theorem byName_n51 (w : World) : Calls Tryd.prog 73 #[.string ⟨#[102, 97, 99, 115, 105, 109, 105, 108, 101, 116, 101, 108, 101, 112, 104, 111, 110, 101, 110, 117, 109, 98, 101, 114]⟩] w fun e w' => e = .returned (.tuple #[.int .i64 21, .bool true]) ∧ w = w' := by
  go_enter Tryd.func73, Tryd.ntmps73
  go_wp2
  go_ret2
  exact ⟨rfl, rfl⟩
set_option maxRecDepth 100000 in
set_option maxHeartbeats 1600000 in
theorem byName_n52 (w : World) : Calls Tryd.prog 73 #[.string ⟨#[102, 97, 120]⟩] w fun e w' => e = .returned (.tuple #[.int .i64 21, .bool true]) ∧ w = w' := by
  go_enter Tryd.func73, Tryd.ntmps73
  go_wp2
  go_ret2
  exact ⟨rfl, rfl⟩
set_option maxRecDepth 100000 in
set_option maxHeartbeats 1600000 in
theorem byName_n53 (w : World) : Calls Tryd.prog 73 #[.string ⟨#[50, 46, 53, 46, 52, 46, 50, 51]⟩] w fun e w' => e = .returned (.tuple #[.int .i64 21, .bool true]) ∧ w = w' := by
  go_enter Tryd.func73, Tryd.ntmps73
  go_wp2
  go_ret2
  exact ⟨rfl, rfl⟩
set_option maxRecDepth 100000 in
set_option maxHeartbeats 1600000 in
theorem byName_n54 (w : World) : Calls Tryd.prog 73 #[.string ⟨#[120, 49, 50, 49, 97, 100, 100, 114, 101, 115, 115]⟩] w fun e w' => e = .returned (.tuple #[.int .i64 22, .bool true]) ∧ w = w' := by
  go_enter Tryd.func73, Tryd.ntmps73
  go_wp2
  go_ret2
  exact ⟨rfl, rfl⟩
set_option maxRecDepth 100000 in
set_option maxHeartbeats 1600000 in
theorem byName_n55 (w : World) : Calls Tryd.prog 73 #[.string ⟨#[50, 46, 53, 46, 52, 46, 50, 52]⟩] w fun e w' => e = .returned (.tuple #[.int .i64 22, .bool true]) ∧ w = w' := by
  go_enter Tryd.func73, Tryd.ntmps73
  go_wp2
  go_ret2
  exact ⟨rfl, rfl⟩
set_option maxRecDepth 100000 in
set_option maxHeartbeats 1600000 in
theorem byName_n56 (w : World) : Calls Tryd.prog 73 #[.string ⟨#[105, 110, 116, 101, 114, 110, 97, 116, 105, 111, 110, 97, 108, 105, 115, 100, 110, 110, 117, 109, 98, 101, 114]⟩] w fun e w' => e = .returned (.tuple #[.int .i64 23, .bool true]) ∧ w = w' := by
  go_enter Tryd.func73, Tryd.ntmps73
  go_wp2
  go_ret2
  exact ⟨rfl, rfl⟩
set_option maxRecDepth 100000 in
set_option maxHeartbeats 1600000 in
theorem byName_n57 (w : World) : Calls Tryd.prog 73 #[.string ⟨#[50, 46, 53, 46, 52, 46, 50, 53]⟩] w fun e w' => e = .returned (.tuple #[.int .i64 23, .bool true]) ∧ w = w' := by
  go_enter Tryd.func73, Tryd.ntmps73
  go_wp2
  go_ret2
  exact ⟨rfl, rfl⟩
set_option maxRecDepth 100000 in
set_option maxHeartbeats 1600000 in
theorem byName_n58 (w : World) : Calls Tryd.prog 73 #[.string ⟨#[114, 101, 103, 105, 115, 116, 101, 114, 101, 100, 97, 100, 100, 114, 101, 115, 115]⟩] w fun e w' => e = .returned (.tuple #[.int .i64 24, .bool true]) ∧ w = w' := by
  go_enter Tryd.func73, Tryd.ntmps73
  go_wp2
  go_ret2
  exact ⟨rfl, rfl⟩
set_option maxRecDepth 100000 in
set_option maxHeartbeats 1600000 in
theorem byName_n59 (w : World) : Calls Tryd.prog 73 #[.string ⟨#[50, 46, 53, 46, 52, 46, 50, 54]⟩] w fun e w' => e = .returned (.tuple #[.int .i64 24, .bool true]) ∧ w = w' := by
  go_enter Tryd.func73, Tryd.ntmps73
  go_wp2
  go_ret2
  exact ⟨rfl, rfl⟩
set_option maxRecDepth 100000 in
set_option maxHeartbeats 1600000 in
theorem byName_n60 (w : World) : Calls Tryd.prog 73 #[.string ⟨#[100, 101, 115, 116, 105, 110, 97, 116, 105, 111, 110, 105, 110, 100, 105, 99, 97, 116, 111, 114]⟩] w fun e w' => e = .returned (.tuple #[.int .i64 25, .bool true]) ∧ w = w' := by
  go_enter Tryd.func73, Tryd.ntmps73
  go_wp2
  go_ret2
  exact ⟨rfl, rfl⟩
set_option maxRecDepth 100000 in
set_option maxHeartbeats 1600000 in
theorem byName_n61 (w : World) : Calls Tryd.prog 73 #[.string ⟨#[50, 46, 53, 46, 52, 46, 50, 55]⟩] w fun e w' => e = .returned (.tuple #[.int .i64 25, .bool true]) ∧ w = w' := by
  go_enter Tryd.func73, Tryd.ntmps73
  go_wp2
  go_ret2
  exact ⟨rfl, rfl⟩
set_option maxRecDepth 100000 in
set_option maxHeartbeats 1600000 in
theorem byName_n62 (w : World) : Calls Tryd.prog 73 #[.string ⟨#[109, 101, 109, 98, 101, 114]⟩] w fun e w' => e = .returned (.tuple #[.int .i64 26, .bool true]) ∧ w = w' := by
  go_enter Tryd.func73, Tryd.ntmps73
  go_wp2
  go_ret2
  exact ⟨rfl, rfl⟩
set_option maxRecDepth 100000 in
set_option maxHeartbeats 1600000 in
theorem byName_n63 (w : World) : Calls Tryd.prog 73 #[.string ⟨#[50, 46, 53, 46, 52, 46, 51, 49]⟩] w fun e w' => e = .returned (.tuple #[.int .i64 26, .bool true]) ∧ w = w' := by
  go_enter Tryd.func73, Tryd.ntmps73
  go_wp2
  go_ret2
  exact ⟨rfl, rfl⟩
set_option maxRecDepth 100000 in
set_option maxHeartbeats 1600000 in
theorem byName_n64 (w : World) : Calls Tryd.prog 73 #[.string ⟨#[111, 119, 110, 101, 114]⟩] w fun e w' => e = .returned (.tuple #[.int .i64 27, .bool true]) ∧ w = w' := by
  go_enter Tryd.func73, Tryd.ntmps73
  go_wp2
  go_ret2
  exact ⟨rfl, rfl⟩
set_option maxRecDepth 100000 in
set_option maxHeartbeats 1600000 in
theorem byName_n65 (w : World) : Calls Tryd.prog 73 #[.string ⟨#[50, 46, 53, 46, 52, 46, 51, 50]⟩] w fun e w' => e = .returned (.tuple #[.int .i64 27, .bool true]) ∧ w = w' := by
  go_enter Tryd.func73, Tryd.ntmps73
  go_wp2
  go_ret2
  exact ⟨rfl, rfl⟩
set_option maxRecDepth 100000 in
set_option maxHeartbeats 1600000 in
theorem byName_n66 (w : World) : Calls Tryd.prog 73 #[.string ⟨#[114, 111, 108, 101, 111, 99, 99, 117, 112, 97, 110, 116]⟩] w fun e w' => e = .returned (.tuple #[.int .i64 28, .bool true]) ∧ w = w' := by
  go_enter Tryd.func73, Tryd.ntmps73
  go_wp2
  go_ret2
  exact ⟨rfl, rfl⟩
set_option maxRecDepth 100000 in
set_option maxHeartbeats 1600000 in
theorem byName_n67 (w : World) : Calls Tryd.prog 73 #[.string ⟨#[50, 46, 53, 46, 52, 46, 51, 51]⟩] w fun e w' => e = .returned (.tuple #[.int .i64 28, .bool true]) ∧ w = w' := by
  go_enter Tryd.func73, Tryd.ntmps73
  go_wp2
  go_ret2
  exact ⟨rfl, rfl⟩
set_option maxRecDepth 100000 in
set_option maxHeartbeats 1600000 in
theorem byName_n68 (w : World) : Calls Tryd.prog 73 #[.string ⟨#[115, 101, 101, 97, 108, 115, 111]⟩] w fun e w' => e = .returned (.tuple #[.int .i64 29, .bool true]) ∧ w = w' := by
  go_enter Tryd.func73, Tryd.ntmps73
  go_wp2
  go_ret2
  exact ⟨rfl, rfl⟩
set_option maxRecDepth 100000 in
set_option maxHeartbeats 1600000 in
theorem byName_n69 (w : World) : Calls Tryd.prog 73 #[.string ⟨#[50, 46, 53, 46, 52, 46, 51, 52]⟩] w fun e w' => e = .returned (.tuple #[.int .i64 29, .bool true]) ∧ w = w' := by
  go_enter Tryd.func73, Tryd.ntmps73
  go_wp2
  go_ret2
  exact ⟨rfl, rfl⟩
set_option maxRecDepth 100000 in
set_option maxHeartbeats 1600000 in
theorem byName_n70 (w : World) : Calls Tryd.prog 73 #[.string ⟨#[117, 115, 101, 114, 112, 97, 115, 115, 119, 111, 114, 100]⟩] w fun e w' => e = .returned (.tuple #[.int .i64 30, .bool true]) ∧ w = w' := by
  go_enter Tryd.func73, Tryd.ntmps73
  go_wp2
  go_ret2
  exact ⟨rfl, rfl⟩
set_option maxRecDepth 100000 in
set_option maxHeartbeats 1600000 in
theorem byName_n71 (w : World) : Calls Tryd.prog 73 #[.string ⟨#[50, 46, 53, 46, 52, 46, 51, 53]⟩] w fun e w' => e = .returned (.tuple #[.int .i64 30, .bool true]) ∧ w = w' := by
  go_enter Tryd.func73, Tryd.ntmps73
  go_wp2
  go_ret2
  exact ⟨rfl, rfl⟩
set_option maxRecDepth 100000 in
set_option maxHeartbeats 4000000 in
theorem byName_no (s : ByteArray) (w : World) (h0 : (s.toList == ([111, 98, 106, 101, 99, 116, 99, 108, 97, 115, 115] : List UInt8)) = false) (h1 : (s.toList == ([50, 46, 53, 46, 52, 46, 48] : List UInt8)) = false) (h2 : (s.toList == ([97, 108, 105, 97, 115, 101, 100, 111, 98, 106, 101, 99, 116, 110, 97, 109, 101] : List UInt8)) = false) (h3 : (s.toList == ([97, 108, 105, 97, 115, 101, 100, 101, 110, 116, 114, 121, 110, 97, 109, 101] : List UInt8)) = false) (h4 : (s.toList == ([50, 46, 53, 46, 52, 46, 49] : List UInt8)) = false) (h5 : (s.toList == ([110, 97, 109, 101] : List UInt8)) = false) (h6 : (s.toList == ([50, 46, 53, 46, 52, 46, 52, 49] : List UInt8)) = false) (h7 : (s.toList == ([100, 105, 115, 116, 105, 110, 103, 117, 105, 115, 104, 101, 100, 110, 97, 109, 101] : List UInt8)) = false) (h8 : (s.toList == ([50, 46, 53, 46, 52, 46, 52, 57] : List UInt8)) = false) (h9 : (s.toList == ([99, 110] : List UInt8)) = false) (h10 : (s.toList == ([99, 111, 109, 109, 111, 110, 110, 97, 109, 101] : List UInt8)) = false) (h11 : (s.toList == ([50, 46, 53, 46, 52, 46, 51] : List UInt8)) = false) (h12 : (s.toList == ([115, 110] : List UInt8)) = false) (h13 : (s.toList == ([115, 117, 114, 110, 97, 109, 101] : List UInt8)) = false) (h14 : (s.toList == ([50, 46, 53, 46, 52, 46, 52] : List UInt8)) = false) (h15 : (s.toList == ([115, 101, 114, 105, 97, 108, 110, 117, 109, 98, 101, 114] : List UInt8)) = false) (h16 : (s.toList == ([50, 46, 53, 46, 52, 46, 53] : List UInt8)) = false) (h17 : (s.toList == ([99] : List UInt8)) = false) (h18 : (s.toList == ([99, 111, 117, 110, 116, 114, 121, 110, 97, 109, 101] : List UInt8)) = false) (h19 : (s.toList == ([50, 46, 53, 46, 52, 46, 54] : List UInt8)) = false) (h20 : (s.toList == ([108] : List UInt8)) = false) (h21 : (s.toList == ([108, 111, 99, 97, 108, 105, 116, 121, 110, 97, 109, 101] : List UInt8)) = false) (h22 : (s.toList == ([50, 46, 53, 46, 52, 46, 55] : List UInt8)) = false) (h23 : (s.toList == ([115, 116] : List UInt8)) = false) (h24 : (s.toList == ([115, 116, 97, 116, 101, 111, 114, 112, 114, 111, 118, 105, 110, 99, 101, 110, 97, 109, 101] : List UInt8)) = false) (h25 : (s.toList == ([50, 46, 53, 46, 52, 46, 56] : List UInt8)) = false) (h26 : (s.toList == ([115, 116, 114, 101, 101, 116] : List UInt8)) = false) (h27 : (s.toList == ([115, 116, 114, 101, 101, 116, 97, 100, 100, 114, 101, 115, 115] : List UInt8)) = false) (h28 : (s.toList == ([50, 46, 53, 46, 52, 46, 57] : List UInt8)) = false) (h29 : (s.toList == ([111] : List UInt8)) = false) (h30 : (s.toList == ([111, 114, 103, 97, 110, 105, 122, 97, 116, 105, 111, 110, 110, 97, 109, 101] : List UInt8)) = false) (h31 : (s.toList == ([50, 46, 53, 46, 52, 46, 49, 48] : List UInt8)) = false) (h32 : (s.toList == ([111, 117] : List UInt8)) = false) (h33 : (s.toList == ([111, 114, 103, 97, 110, 105, 122, 97, 116, 105, 111, 110, 97, 108, 117, 110, 105, 116, 110, 97, 109, 101] : List UInt8)) = false) (h34 : (s.toList == ([50, 46, 53, 46, 52, 46, 49, 49] : List UInt8)) = false) (h35 : (s.toList == ([116, 105, 116, 108, 101] : List UInt8)) = false) (h36 : (s.toList == ([50, 46, 53, 46, 52, 46, 49, 50] : List UInt8)) = false) (h37 : (s.toList == ([100, 101, 115, 99, 114, 105, 112, 116, 105, 111, 110] : List UInt8)) = false) (h38 : (s.toList == ([50, 46, 53, 46, 52, 46, 49, 51] : List UInt8)) = false) (h39 : (s.toList == ([98, 117, 115, 105, 110, 101, 115, 115, 99, 97, 116, 101, 103, 111, 114, 121] : List UInt8)) = false) (h40 : (s.toList == ([50, 46, 53, 46, 52, 46, 49, 53] : List UInt8)) = false) (h41 : (s.toList == ([112, 111, 115, 116, 97, 108, 97, 100, 100, 114, 101, 115, 115] : List UInt8)) = false) (h42 : (s.toList == ([50, 46, 53, 46, 52, 46, 49, 54] : List UInt8)) = false) (h43 : (s.toList == ([112, 111, 115, 116, 97, 108, 99, 111, 100, 101] : List UInt8)) = false) (h44 : (s.toList == ([50, 46, 53, 46, 52, 46, 49, 55] : List UInt8)) = false) (h45 : (s.toList == ([112, 111, 115, 116, 111, 102, 102, 105, 99, 101, 98, 111, 120] : List UInt8)) = false) (h46 : (s.toList == ([50, 46, 53, 46, 52, 46, 49, 56] : List UInt8)) = false) (h47 : (s.toList == ([112, 104, 121, 115, 105, 99, 97, 108, 100, 101, 108, 105, 118, 101, 114, 121, 111, 102, 102, 105, 99, 101, 110, 97, 109, 101] : List UInt8)) = false) (h48 : (s.toList == ([50, 46, 53, 46, 52, 46, 49, 57] : List UInt8)) = false) (h49 : (s.toList == ([116, 101, 108, 101, 112, 104, 111, 110, 101, 110, 117, 109, 98, 101, 114] : List UInt8)) = false) (h50 : (s.toList == ([50, 46, 53, 46, 52, 46, 50, 48] : List UInt8)) = false) (h51 : (s.toList == ([102, 97, 99, 115, 105, 109, 105, 108, 101, 116, 101, 108, 101, 112, 104, 111, 110, 101, 110, 117, 109, 98, 101, 114] : List UInt8)) = false) (h52 : (s.toList == ([102, 97, 120] : List UInt8)) = false) (h53 : (s.toList == ([50, 46, 53, 46, 52, 46, 50, 51] : List UInt8)) = false) (h54 : (s.toList == ([120, 49, 50, 49, 97, 100, 100, 114, 101, 115, 115] : List UInt8)) = false) (h55 : (s.toList == ([50, 46, 53, 46, 52, 46, 50, 52] : List UInt8)) = false) (h56 : (s.toList == ([105, 110, 116, 101, 114, 110, 97, 116, 105, 111, 110, 97, 108, 105, 115, 100, 110, 110, 117, 109, 98, 101, 114] : List UInt8)) = false) (h57 : (s.toList == ([50, 46, 53, 46, 52, 46, 50, 53] : List UInt8)) = false) (h58 : (s.toList == ([114, 101, 103, 105, 115, 116, 101, 114, 101, 100, 97, 100, 100, 114, 101, 115, 115] : List UInt8)) = false) (h59 : (s.toList == ([50, 46, 53, 46, 52, 46, 50, 54] : List UInt8)) = false) (h60 : (s.toList == ([100, 101, 115, 116, 105, 110, 97, 116, 105, 111, 110, 105, 110, 100, 105, 99, 97, 116, 111, 114] : List UInt8)) = false) (h61 : (s.toList == ([50, 46, 53, 46, 52, 46, 50, 55] : List UInt8)) = false) (h62 : (s.toList == ([109, 101, 109, 98, 101, 114] : List UInt8)) = false) (h63 : (s.toList == ([50, 46, 53, 46, 52, 46, 51, 49] : List UInt8)) = false) (h64 : (s.toList == ([111, 119, 110, 101, 114] : List UInt8)) = false) (h65 : (s.toList == ([50, 46, 53, 46, 52, 46, 51, 50] : List UInt8)) = false) (h66 : (s.toList == ([114, 111, 108, 101, 111, 99, 99, 117, 112, 97, 110, 116] : List UInt8)) = false) (h67 : (s.toList == ([50, 46, 53, 46, 52, 46, 51, 51] : List UInt8)) = false) (h68 : (s.toList == ([115, 101, 101, 97, 108, 115, 111] : List UInt8)) = false) (h69 : (s.toList == ([50, 46, 53, 46, 52, 46, 51, 52] : List UInt8)) = false) (h70 : (s.toList == ([117, 115, 101, 114, 112, 97, 115, 115, 119, 111, 114, 100] : List UInt8)) = false) (h71 : (s.toList == ([50, 46, 53, 46, 52, 46, 51, 53] : List UInt8)) = false) : Calls Tryd.prog 73 #[.string s] w fun e w' => e = .returned (nameV (findName laterNames (ls s))) ∧ w = w' := by
  cases hf : findName laterNames (ls s) with
  | none =>
    have Hf := Lib.hid hf; clear hf
    go_enter Tryd.func73, Tryd.ntmps73
    go_wp2_with (go_at_call 99; refine (laterName_any s _).mono ?_; rintro e w' ⟨rfl, rfl⟩; rw [Hf.out]; simp only [nameV])
    go_ret2
    exact ⟨rfl, rfl⟩
  | some i =>
    have Hf := Lib.hid hf; clear hf
    go_enter Tryd.func73, Tryd.ntmps73
    go_wp2_with (go_at_call 99; refine (laterName_any s _).mono ?_; rintro e w' ⟨rfl, rfl⟩; rw [Hf.out]; simp only [nameV])
    go_ret2
    exact ⟨rfl, rfl⟩
theorem byName_any (s : ByteArray) (w : World) : Calls Tryd.prog 73 #[.string s] w fun e w' => e = .returned (nameV (nameRow (ls s))) ∧ w = w' := by
  have e : nameRow (ls s) = match findName firstNames (ls s) with | some i => some i | none => findName laterNames (ls s) := by
    unfold nameRow findName
    rw [List.find?_append]
    cases firstNames.find? (fun p => p.1 == ls s) <;> rfl
  rw [e]; clear e
  unfold findName
  cases h : firstNames.find? (fun p => p.1 == ls s) with
  | none =>
    have hn : ∀ p ∈ firstNames, (s.toList == p.1) = false := fun p hp => by
      have := List.find?_eq_none.1 h p hp
      rw [toList_ls]
      simp only [beq_iff_eq, Bool.not_eq_true] at this ⊢
      rw [beq_eq_false_iff_ne]; exact fun e => this (by rw [e])
    simp only [firstNames, List.forall_mem_cons] at hn
    obtain ⟨h0, h1, h2, h3, h4, h5, h6, h7, h8, h9, h10, h11, h12, h13, h14, h15, h16, h17, h18, h19, h20, h21, h22, h23, h24, h25, h26, h27, h28, h29, h30, h31, h32, h33, h34, h35, h36, h37, h38, h39, h40, h41, h42, h43, h44, h45, h46, h47, h48, h49, h50, h51, h52, h53, h54, h55, h56, h57, h58, h59, h60, h61, h62, h63, h64, h65, h66, h67, h68, h69, h70, h71, _⟩ := hn
    exact byName_no s w h0 h1 h2 h3 h4 h5 h6 h7 h8 h9 h10 h11 h12 h13 h14 h15 h16 h17 h18 h19 h20 h21 h22 h23 h24 h25 h26 h27 h28 h29 h30 h31 h32 h33 h34 h35 h36 h37 h38 h39 h40 h41 h42 h43 h44 h45 h46 h47 h48 h49 h50 h51 h52 h53 h54 h55 h56 h57 h58 h59 h60 h61 h62 h63 h64 h65 h66 h67 h68 h69 h70 h71
  | some p =>
    have hp := List.mem_of_find?_eq_some h
    have he : p.1 = ls s := by simpa using List.find?_some h
    have hs : mk p.1 = s := by rw [he, mk_ls]
    rw [← hs]
    have hy : ∀ p ∈ firstNames, Calls Tryd.prog 73 #[.string (mk p.1)] w fun e w' => e = .returned (.tuple #[.int .i64 (p.2 : Nat), .bool true]) ∧ w = w' := by
      simp only [firstNames, List.forall_mem_cons]
      exact ⟨byName_n0 w, byName_n1 w, byName_n2 w, byName_n3 w, byName_n4 w, byName_n5 w, byName_n6 w, byName_n7 w, byName_n8 w, byName_n9 w, byName_n10 w, byName_n11 w, byName_n12 w, byName_n13 w, byName_n14 w, byName_n15 w, byName_n16 w, byName_n17 w, byName_n18 w, byName_n19 w, byName_n20 w, byName_n21 w, byName_n22 w, byName_n23 w, byName_n24 w, byName_n25 w, byName_n26 w, byName_n27 w, byName_n28 w, byName_n29 w, byName_n30 w, byName_n31 w, byName_n32 w, byName_n33 w, byName_n34 w, byName_n35 w, byName_n36 w, byName_n37 w, byName_n38 w, byName_n39 w, byName_n40 w, byName_n41 w, byName_n42 w, byName_n43 w, byName_n44 w, byName_n45 w, byName_n46 w, byName_n47 w, byName_n48 w, byName_n49 w, byName_n50 w, byName_n51 w, byName_n52 w, byName_n53 w, byName_n54 w, byName_n55 w, byName_n56 w, byName_n57 w, byName_n58 w, byName_n59 w, byName_n60 w, byName_n61 w, byName_n62 w, byName_n63 w, byName_n64 w, byName_n65 w, byName_n66 w, byName_n67 w, byName_n68 w, byName_n69 w, byName_n70 w, byName_n71 w, fun _ h => absurd h List.not_mem_nil⟩
    exact hy p hp
end Go.Proofs.YtdpknokginnmjaaDoor
