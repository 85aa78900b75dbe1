/- attr.laterName and attr.byName by walks, a name each; and what is no name. -/
import Derived.Test.YtdpknokginnmjaaDoorB
import Derived.Test.YtdpknokginnmjaaDoorTabD
set_option linter.unusedVariables false
set_option linter.unusedSimpArgs false
namespace Go.Proofs.YtdpknokginnmjaaDoor
open Go.RowKit
set_option maxRecDepth 100000 in
set_option maxHeartbeats 1600000 in
theorem laterName_n0 (w : World) : Calls Tryd.prog 99 #[.string ⟨#[103, 105, 118, 101, 110, 110, 97, 109, 101]⟩] w fun e w' => e = .returned (.tuple #[.int .i64 31, .bool true]) ∧ w = w' := by
  go_enter Tryd.func99, Tryd.ntmps99
  go_wp2
  go_ret2
  exact ⟨rfl, rfl⟩
set_option maxRecDepth 100000 in
set_option maxHeartbeats 1600000 in
theorem laterName_n1 (w : World) : Calls Tryd.prog 99 #[.string ⟨#[103, 110]⟩] w fun e w' => e = .returned (.tuple #[.int .i64 31, .bool true]) ∧ w = w' := by
  go_enter Tryd.func99, Tryd.ntmps99
  go_wp2
  go_ret2
  exact ⟨rfl, rfl⟩
set_option maxRecDepth 100000 in
set_option maxHeartbeats 1600000 in
theorem laterName_n2 (w : World) : Calls Tryd.prog 99 #[.string ⟨#[50, 46, 53, 46, 52, 46, 52, 50]⟩] w fun e w' => e = .returned (.tuple #[.int .i64 31, .bool true]) ∧ w = w' := by
  go_enter Tryd.func99, Tryd.ntmps99
  go_wp2
  go_ret2
  exact ⟨rfl, rfl⟩
set_option maxRecDepth 100000 in
set_option maxHeartbeats 1600000 in
theorem laterName_n3 (w : World) : Calls Tryd.prog 99 #[.string ⟨#[105, 110, 105, 116, 105, 97, 108, 115]⟩] w fun e w' => e = .returned (.tuple #[.int .i64 32, .bool true]) ∧ w = w' := by
  go_enter Tryd.func99, Tryd.ntmps99
  go_wp2
  go_ret2
  exact ⟨rfl, rfl⟩
set_option maxRecDepth 100000 in
set_option maxHeartbeats 1600000 in
theorem laterName_n4 (w : World) : Calls Tryd.prog 99 #[.string ⟨#[50, 46, 53, 46, 52, 46, 52, 51]⟩] w fun e w' => e = .returned (.tuple #[.int .i64 32, .bool true]) ∧ w = w' := by
  go_enter Tryd.func99, Tryd.ntmps99
  go_wp2
  go_ret2
  exact ⟨rfl, rfl⟩
set_option maxRecDepth 100000 in
set_option maxHeartbeats 1600000 in
theorem laterName_n5 (w : World) : Calls Tryd.prog 99 #[.string ⟨#[103, 101, 110, 101, 114, 97, 116, 105, 111, 110, 113, 117, 97, 108, 105, 102, 105, 101, 114]⟩] w fun e w' => e = .returned (.tuple #[.int .i64 33, .bool true]) ∧ w = w' := by
  go_enter Tryd.func99, Tryd.ntmps99
  go_wp2
  go_ret2
  exact ⟨rfl, rfl⟩
set_option maxRecDepth 100000 in
set_option maxHeartbeats 1600000 in
theorem laterName_n6 (w : World) : Calls Tryd.prog 99 #[.string ⟨#[50, 46, 53, 46, 52, 46, 52, 52]⟩] w fun e w' => e = .returned (.tuple #[.int .i64 33, .bool true]) ∧ w = w' := by
  go_enter Tryd.func99, Tryd.ntmps99
  go_wp2
  go_ret2
  exact ⟨rfl, rfl⟩
set_option maxRecDepth 100000 in
set_option maxHeartbeats 1600000 in
theorem laterName_n7 (w : World) : Calls Tryd.prog 99 #[.string ⟨#[100, 110, 113, 117, 97, 108, 105, 102, 105, 101, 114]⟩] w fun e w' => e = .returned (.tuple #[.int .i64 34, .bool true]) ∧ w = w' := by
  go_enter Tryd.func99, Tryd.ntmps99
  go_wp2
  go_ret2
  exact ⟨rfl, rfl⟩
set_option maxRecDepth 100000 in
set_option maxHeartbeats 1600000 in
theorem laterName_n8 (w : World) : Calls Tryd.prog 99 #[.string ⟨#[50, 46, 53, 46, 52, 46, 52, 54]⟩] w fun e w' => e = .returned (.tuple #[.int .i64 34, .bool true]) ∧ w = w' := by
  go_enter Tryd.func99, Tryd.ntmps99
  go_wp2
  go_ret2
  exact ⟨rfl, rfl⟩
set_option maxRecDepth 100000 in
set_option maxHeartbeats 1600000 in
theorem laterName_n9 (w : World) : Calls Tryd.prog 99 #[.string ⟨#[104, 111, 117, 115, 101, 105, 100, 101, 110, 116, 105, 102, 105, 101, 114]⟩] w fun e w' => e = .returned (.tuple #[.int .i64 35, .bool true]) ∧ w = w' := by
  go_enter Tryd.func99, Tryd.ntmps99
  go_wp2
  go_ret2
  exact ⟨rfl, rfl⟩
set_option maxRecDepth 100000 in
set_option maxHeartbeats 1600000 in
theorem laterName_n10 (w : World) : Calls Tryd.prog 99 #[.string ⟨#[50, 46, 53, 46, 52, 46, 53, 49]⟩] w fun e w' => e = .returned (.tuple #[.int .i64 35, .bool true]) ∧ w = w' := by
  go_enter Tryd.func99, Tryd.ntmps99
  go_wp2
  go_ret2
  exact ⟨rfl, rfl⟩
set_option maxRecDepth 100000 in
set_option maxHeartbeats 1600000 in
theorem laterName_n11 (w : World) : Calls Tryd.prog 99 #[.string ⟨#[99, 45, 108]⟩] w fun e w' => e = .returned (.tuple #[.int .i64 36, .bool true]) ∧ w = w' := by
  go_enter Tryd.func99, Tryd.ntmps99
  go_wp2
  go_ret2
  exact ⟨rfl, rfl⟩
set_option maxRecDepth 100000 in
set_option maxHeartbeats 1600000 in
theorem laterName_n12 (w : World) : Calls Tryd.prog 99 #[.string ⟨#[50, 46, 53, 46, 52, 46, 55, 46, 49]⟩] w fun e w' => e = .returned (.tuple #[.int .i64 36, .bool true]) ∧ w = w' := by
  go_enter Tryd.func99, Tryd.ntmps99
  go_wp2
  go_ret2
  exact ⟨rfl, rfl⟩
set_option maxRecDepth 100000 in
set_option maxHeartbeats 1600000 in
theorem laterName_n13 (w : World) : Calls Tryd.prog 99 #[.string ⟨#[99, 45, 115, 116]⟩] w fun e w' => e = .returned (.tuple #[.int .i64 37, .bool true]) ∧ w = w' := by
  go_enter Tryd.func99, Tryd.ntmps99
  go_wp2
  go_ret2
  exact ⟨rfl, rfl⟩
set_option maxRecDepth 100000 in
set_option maxHeartbeats 1600000 in
theorem laterName_n14 (w : World) : Calls Tryd.prog 99 #[.string ⟨#[50, 46, 53, 46, 52, 46, 56, 46, 49]⟩] w fun e w' => e = .returned (.tuple #[.int .i64 37, .bool true]) ∧ w = w' := by
  go_enter Tryd.func99, Tryd.ntmps99
  go_wp2
  go_ret2
  exact ⟨rfl, rfl⟩
set_option maxRecDepth 100000 in
set_option maxHeartbeats 1600000 in
theorem laterName_n15 (w : World) : Calls Tryd.prog 99 #[.string ⟨#[99, 45, 111]⟩] w fun e w' => e = .returned (.tuple #[.int .i64 38, .bool true]) ∧ w = w' := by
  go_enter Tryd.func99, Tryd.ntmps99
  go_wp2
  go_ret2
  exact ⟨rfl, rfl⟩
set_option maxRecDepth 100000 in
set_option maxHeartbeats 1600000 in
theorem laterName_n16 (w : World) : Calls Tryd.prog 99 #[.string ⟨#[50, 46, 53, 46, 52, 46, 49, 48, 46, 49]⟩] w fun e w' => e = .returned (.tuple #[.int .i64 38, .bool true]) ∧ w = w' := by
  go_enter Tryd.func99, Tryd.ntmps99
  go_wp2
  go_ret2
  exact ⟨rfl, rfl⟩
set_option maxRecDepth 100000 in
set_option maxHeartbeats 1600000 in
theorem laterName_n17 (w : World) : Calls Tryd.prog 99 #[.string ⟨#[99, 45, 111, 117]⟩] w fun e w' => e = .returned (.tuple #[.int .i64 39, .bool true]) ∧ w = w' := by
  go_enter Tryd.func99, Tryd.ntmps99
  go_wp2
  go_ret2
  exact ⟨rfl, rfl⟩
set_option maxRecDepth 100000 in
set_option maxHeartbeats 1600000 in
theorem laterName_n18 (w : World) : Calls Tryd.prog 99 #[.string ⟨#[50, 46, 53, 46, 52, 46, 49, 49, 46, 49]⟩] w fun e w' => e = .returned (.tuple #[.int .i64 39, .bool true]) ∧ w = w' := by
  go_enter Tryd.func99, Tryd.ntmps99
  go_wp2
  go_ret2
  exact ⟨rfl, rfl⟩
set_option maxRecDepth 100000 in
set_option maxHeartbeats 1600000 in
theorem laterName_n19 (w : World) : Calls Tryd.prog 99 #[.string ⟨#[117, 105, 100]⟩] w fun e w' => e = .returned (.tuple #[.int .i64 40, .bool true]) ∧ w = w' := by
  go_enter Tryd.func99, Tryd.ntmps99
  go_wp2
  go_ret2
  exact ⟨rfl, rfl⟩
set_option maxRecDepth 100000 in
set_option maxHeartbeats 1600000 in
theorem laterName_n20 (w : World) : Calls Tryd.prog 99 #[.string ⟨#[117, 115, 101, 114, 105, 100]⟩] w fun e w' => e = .returned (.tuple #[.int .i64 40, .bool true]) ∧ w = w' := by
  go_enter Tryd.func99, Tryd.ntmps99
  go_wp2
  go_ret2
  exact ⟨rfl, rfl⟩
set_option maxRecDepth 100000 in
set_option maxHeartbeats 1600000 in
theorem laterName_n21 (w : World) : Calls Tryd.prog 99 #[.string ⟨#[48, 46, 57, 46, 50, 51, 52, 50, 46, 49, 57, 50, 48, 48, 51, 48, 48, 46, 49, 48, 48, 46, 49, 46, 49]⟩] w fun e w' => e = .returned (.tuple #[.int .i64 40, .bool true]) ∧ w = w' := by
  go_enter Tryd.func99, Tryd.ntmps99
  go_wp2
  go_ret2
  exact ⟨rfl, rfl⟩
set_option maxRecDepth 100000 in
set_option maxHeartbeats 1600000 in
theorem laterName_n22 (w : World) : Calls Tryd.prog 99 #[.string ⟨#[109, 97, 105, 108]⟩] w fun e w' => e = .returned (.tuple #[.int .i64 41, .bool true]) ∧ w = w' := by
  go_enter Tryd.func99, Tryd.ntmps99
  go_wp2
  go_ret2
  exact ⟨rfl, rfl⟩
set_option maxRecDepth 100000 in
set_option maxHeartbeats 1600000 in
theorem laterName_n23 (w : World) : Calls Tryd.prog 99 #[.string ⟨#[114, 102, 99, 56, 50, 50, 109, 97, 105, 108, 98, 111, 120]⟩] w fun e w' => e = .returned (.tuple #[.int .i64 41, .bool true]) ∧ w = w' := by
  go_enter Tryd.func99, Tryd.ntmps99
  go_wp2
  go_ret2
  exact ⟨rfl, rfl⟩
set_option maxRecDepth 100000 in
set_option maxHeartbeats 1600000 in
theorem laterName_n24 (w : World) : Calls Tryd.prog 99 #[.string ⟨#[48, 46, 57, 46, 50, 51, 52, 50, 46, 49, 57, 50, 48, 48, 51, 48, 48, 46, 49, 48, 48, 46, 49, 46, 51]⟩] w fun e w' => e = .returned (.tuple #[.int .i64 41, .bool true]) ∧ w = w' := by
  go_enter Tryd.func99, Tryd.ntmps99
  go_wp2
  go_ret2
  exact ⟨rfl, rfl⟩
set_option maxRecDepth 100000 in
set_option maxHeartbeats 1600000 in
theorem laterName_n25 (w : World) : Calls Tryd.prog 99 #[.string ⟨#[114, 111, 111, 109, 110, 117, 109, 98, 101, 114]⟩] w fun e w' => e = .returned (.tuple #[.int .i64 42, .bool true]) ∧ w = w' := by
  go_enter Tryd.func99, Tryd.ntmps99
  go_wp2
  go_ret2
  exact ⟨rfl, rfl⟩
set_option maxRecDepth 100000 in
set_option maxHeartbeats 1600000 in
theorem laterName_n26 (w : World) : Calls Tryd.prog 99 #[.string ⟨#[48, 46, 57, 46, 50, 51, 52, 50, 46, 49, 57, 50, 48, 48, 51, 48, 48, 46, 49, 48, 48, 46, 49, 46, 54]⟩] w fun e w' => e = .returned (.tuple #[.int .i64 42, .bool true]) ∧ w = w' := by
  go_enter Tryd.func99, Tryd.ntmps99
  go_wp2
  go_ret2
  exact ⟨rfl, rfl⟩
set_option maxRecDepth 100000 in
set_option maxHeartbeats 1600000 in
theorem laterName_n27 (w : World) : Calls Tryd.prog 99 #[.string ⟨#[109, 97, 110, 97, 103, 101, 114]⟩] w fun e w' => e = .returned (.tuple #[.int .i64 43, .bool true]) ∧ w = w' := by
  go_enter Tryd.func99, Tryd.ntmps99
  go_wp2
  go_ret2
  exact ⟨rfl, rfl⟩
set_option maxRecDepth 100000 in
set_option maxHeartbeats 1600000 in
theorem laterName_n28 (w : World) : Calls Tryd.prog 99 #[.string ⟨#[48, 46, 57, 46, 50, 51, 52, 50, 46, 49, 57, 50, 48, 48, 51, 48, 48, 46, 49, 48, 48, 46, 49, 46, 49, 48]⟩] w fun e w' => e = .returned (.tuple #[.int .i64 43, .bool true]) ∧ w = w' := by
  go_enter Tryd.func99, Tryd.ntmps99
  go_wp2
  go_ret2
  exact ⟨rfl, rfl⟩
set_option maxRecDepth 100000 in
set_option maxHeartbeats 1600000 in
theorem laterName_n29 (w : World) : Calls Tryd.prog 99 #[.string ⟨#[104, 111, 109, 101, 112, 104, 111, 110, 101]⟩] w fun e w' => e = .returned (.tuple #[.int .i64 44, .bool true]) ∧ w = w' := by
  go_enter Tryd.func99, Tryd.ntmps99
  go_wp2
  go_ret2
  exact ⟨rfl, rfl⟩
set_option maxRecDepth 100000 in
set_option maxHeartbeats 1600000 in
theorem laterName_n30 (w : World) : Calls Tryd.prog 99 #[.string ⟨#[104, 111, 109, 101, 116, 101, 108, 101, 112, 104, 111, 110, 101, 110, 117, 109, 98, 101, 114]⟩] w fun e w' => e = .returned (.tuple #[.int .i64 44, .bool true]) ∧ w = w' := by
  go_enter Tryd.func99, Tryd.ntmps99
  go_wp2
  go_ret2
  exact ⟨rfl, rfl⟩
set_option maxRecDepth 100000 in
set_option maxHeartbeats 1600000 in
theorem laterName_n31 (w : World) : Calls Tryd.prog 99 #[.string ⟨#[48, 46, 57, 46, 50, 51, 52, 50, 46, 49, 57, 50, 48, 48, 51, 48, 48, 46, 49, 48, 48, 46, 49, 46, 50, 48]⟩] w fun e w' => e = .returned (.tuple #[.int .i64 44, .bool true]) ∧ w = w' := by
  go_enter Tryd.func99, Tryd.ntmps99
  go_wp2
  go_ret2
  exact ⟨rfl, rfl⟩
set_option maxRecDepth 100000 in
set_option maxHeartbeats 1600000 in
theorem laterName_n32 (w : World) : Calls Tryd.prog 99 #[.string ⟨#[115, 101, 99, 114, 101, 116, 97, 114, 121]⟩] w fun e w' => e = .returned (.tuple #[.int .i64 45, .bool true]) ∧ w = w' := by
  go_enter Tryd.func99, Tryd.ntmps99
  go_wp2
  go_ret2
  exact ⟨rfl, rfl⟩
set_option maxRecDepth 100000 in
set_option maxHeartbeats 1600000 in
theorem laterName_n33 (w : World) : Calls Tryd.prog 99 #[.string ⟨#[48, 46, 57, 46, 50, 51, 52, 50, 46, 49, 57, 50, 48, 48, 51, 48, 48, 46, 49, 48, 48, 46, 49, 46, 50, 49]⟩] w fun e w' => e = .returned (.tuple #[.int .i64 45, .bool true]) ∧ w = w' := by
  go_enter Tryd.func99, Tryd.ntmps99
  go_wp2
  go_ret2
  exact ⟨rfl, rfl⟩
set_option maxRecDepth 100000 in
set_option maxHeartbeats 1600000 in
theorem laterName_n34 (w : World) : Calls Tryd.prog 99 #[.string ⟨#[100, 99]⟩] w fun e w' => e = .returned (.tuple #[.int .i64 46, .bool true]) ∧ w = w' := by
  go_enter Tryd.func99, Tryd.ntmps99
  go_wp2
  go_ret2
  exact ⟨rfl, rfl⟩
set_option maxRecDepth 100000 in
set_option maxHeartbeats 1600000 in
theorem laterName_n35 (w : World) : Calls Tryd.prog 99 #[.string ⟨#[100, 111, 109, 97, 105, 110, 99, 111, 109, 112, 111, 110, 101, 110, 116]⟩] w fun e w' => e = .returned (.tuple #[.int .i64 46, .bool true]) ∧ w = w' := by
  go_enter Tryd.func99, Tryd.ntmps99
  go_wp2
  go_ret2
  exact ⟨rfl, rfl⟩
set_option maxRecDepth 100000 in
set_option maxHeartbeats 1600000 in
theorem laterName_n36 (w : World) : Calls Tryd.prog 99 #[.string ⟨#[48, 46, 57, 46, 50, 51, 52, 50, 46, 49, 57, 50, 48, 48, 51, 48, 48, 46, 49, 48, 48, 46, 49, 46, 50, 53]⟩] w fun e w' => e = .returned (.tuple #[.int .i64 46, .bool true]) ∧ w = w' := by
  go_enter Tryd.func99, Tryd.ntmps99
  go_wp2
  go_ret2
  exact ⟨rfl, rfl⟩
set_option maxRecDepth 100000 in
set_option maxHeartbeats 1600000 in
theorem laterName_n37 (w : World) : Calls Tryd.prog 99 #[.string ⟨#[109, 111, 98, 105, 108, 101]⟩] w fun e w' => e = .returned (.tuple #[.int .i64 47, .bool true]) ∧ w = w' := by
  go_enter Tryd.func99, Tryd.ntmps99
  go_wp2
  go_ret2
  exact ⟨rfl, rfl⟩
set_option maxRecDepth 100000 in
set_option maxHeartbeats 1600000 in
theorem laterName_n38 (w : World) : Calls Tryd.prog 99 #[.string ⟨#[109, 111, 98, 105, 108, 101, 116, 101, 108, 101, 112, 104, 111, 110, 101, 110, 117, 109, 98, 101, 114]⟩] w fun e w' => e = .returned (.tuple #[.int .i64 47, .bool true]) ∧ w = w' := by
  go_enter Tryd.func99, Tryd.ntmps99
  go_wp2
  go_ret2
  exact ⟨rfl, rfl⟩
set_option maxRecDepth 100000 in
set_option maxHeartbeats 1600000 in
theorem laterName_n39 (w : World) : Calls Tryd.prog 99 #[.string ⟨#[48, 46, 57, 46, 50, 51, 52, 50, 46, 49, 57, 50, 48, 48, 51, 48, 48, 46, 49, 48, 48, 46, 49, 46, 52, 49]⟩] w fun e w' => e = .returned (.tuple #[.int .i64 47, .bool true]) ∧ w = w' := by
  go_enter Tryd.func99, Tryd.ntmps99
  go_wp2
  go_ret2
  exact ⟨rfl, rfl⟩
set_option maxRecDepth 100000 in
set_option maxHeartbeats 1600000 in
theorem laterName_n40 (w : World) : Calls Tryd.prog 99 #[.string ⟨#[112, 97, 103, 101, 114]⟩] w fun e w' => e = .returned (.tuple #[.int .i64 48, .bool true]) ∧ w = w' := by
  go_enter Tryd.func99, Tryd.ntmps99
  go_wp2
  go_ret2
  exact ⟨rfl, rfl⟩
set_option maxRecDepth 100000 in
set_option maxHeartbeats 1600000 in
theorem laterName_n41 (w : World) : Calls Tryd.prog 99 #[.string ⟨#[112, 97, 103, 101, 114, 116, 101, 108, 101, 112, 104, 111, 110, 101, 110, 117, 109, 98, 101, 114]⟩] w fun e w' => e = .returned (.tuple #[.int .i64 48, .bool true]) ∧ w = w' := by
  go_enter Tryd.func99, Tryd.ntmps99
  go_wp2
  go_ret2
  exact ⟨rfl, rfl⟩
set_option maxRecDepth 100000 in
set_option maxHeartbeats 1600000 in
theorem laterName_n42 (w : World) : Calls Tryd.prog 99 #[.string ⟨#[48, 46, 57, 46, 50, 51, 52, 50, 46, 49, 57, 50, 48, 48, 51, 48, 48, 46, 49, 48, 48, 46, 49, 46, 52, 50]⟩] w fun e w' => e = .returned (.tuple #[.int .i64 48, .bool true]) ∧ w = w' := by
  go_enter Tryd.func99, Tryd.ntmps99
  go_wp2
  go_ret2
  exact ⟨rfl, rfl⟩
set_option maxRecDepth 100000 in
set_option maxHeartbeats 1600000 in
theorem laterName_n43 (w : World) : Calls Tryd.prog 99 #[.string ⟨#[101, 109, 112, 108, 111, 121, 101, 101, 110, 117, 109, 98, 101, 114]⟩] w fun e w' => e = .returned (.tuple #[.int .i64 49, .bool true]) ∧ w = w' := by
  go_enter Tryd.func99, Tryd.ntmps99
  go_wp2
  go_ret2
  exact ⟨rfl, rfl⟩
set_option maxRecDepth 100000 in
set_option maxHeartbeats 1600000 in
theorem laterName_n44 (w : World) : Calls Tryd.prog 99 #[.string ⟨#[50, 46, 49, 54, 46, 56, 52, 48, 46, 49, 46, 49, 49, 51, 55, 51, 48, 46, 51, 46, 49, 46, 51]⟩] w fun e w' => e = .returned (.tuple #[.int .i64 49, .bool true]) ∧ w = w' := by
  go_enter Tryd.func99, Tryd.ntmps99
  go_wp2
  go_ret2
  exact ⟨rfl, rfl⟩
set_option maxRecDepth 100000 in
set_option maxHeartbeats 1600000 in
theorem laterName_n45 (w : World) : Calls Tryd.prog 99 #[.string ⟨#[100, 105, 115, 112, 108, 97, 121, 110, 97, 109, 101]⟩] w fun e w' => e = .returned (.tuple #[.int .i64 50, .bool true]) ∧ w = w' := by
  go_enter Tryd.func99, Tryd.ntmps99
  go_wp2
  go_ret2
  exact ⟨rfl, rfl⟩
set_option maxRecDepth 100000 in
set_option maxHeartbeats 1600000 in
theorem laterName_n46 (w : World) : Calls Tryd.prog 99 #[.string ⟨#[50, 46, 49, 54, 46, 56, 52, 48, 46, 49, 46, 49, 49, 51, 55, 51, 48, 46, 51, 46, 49, 46, 50, 52, 49]⟩] w fun e w' => e = .returned (.tuple #[.int .i64 50, .bool true]) ∧ w = w' := by
  go_enter Tryd.func99, Tryd.ntmps99
  go_wp2
  go_ret2
  exact ⟨rfl, rfl⟩
set_option maxRecDepth 100000 in
set_option maxHeartbeats 1600000 in
theorem laterName_n47 (w : World) : Calls Tryd.prog 99 #[.string ⟨#[117, 105, 100, 110, 117, 109, 98, 101, 114]⟩] w fun e w' => e = .returned (.tuple #[.int .i64 51, .bool true]) ∧ w = w' := by
  go_enter Tryd.func99, Tryd.ntmps99
  go_wp2
  go_ret2
  exact ⟨rfl, rfl⟩
set_option maxRecDepth 100000 in
set_option maxHeartbeats 1600000 in
theorem laterName_n48 (w : World) : Calls Tryd.prog 99 #[.string ⟨#[49, 46, 51, 46, 54, 46, 49, 46, 49, 46, 49, 46, 49, 46, 48]⟩] w fun e w' => e = .returned (.tuple #[.int .i64 51, .bool true]) ∧ w = w' := by
  go_enter Tryd.func99, Tryd.ntmps99
  go_wp2
  go_ret2
  exact ⟨rfl, rfl⟩
set_option maxRecDepth 100000 in
set_option maxHeartbeats 1600000 in
theorem laterName_n49 (w : World) : Calls Tryd.prog 99 #[.string ⟨#[103, 105, 100, 110, 117, 109, 98, 101, 114]⟩] w fun e w' => e = .returned (.tuple #[.int .i64 52, .bool true]) ∧ w = w' := by
  go_enter Tryd.func99, Tryd.ntmps99
  go_wp2
  go_ret2
  exact ⟨rfl, rfl⟩
set_option maxRecDepth 100000 in
set_option maxHeartbeats 1600000 in
theorem laterName_n50 (w : World) : Calls Tryd.prog 99 #[.string ⟨#[49, 46, 51, 46, 54, 46, 49, 46, 49, 46, 49, 46, 49, 46, 49]⟩] w fun e w' => e = .returned (.tuple #[.int .i64 52, .bool true]) ∧ w = w' := by
  go_enter Tryd.func99, Tryd.ntmps99
  go_wp2
  go_ret2
  exact ⟨rfl, rfl⟩
set_option maxRecDepth 100000 in
set_option maxHeartbeats 1600000 in
theorem laterName_n51 (w : World) : Calls Tryd.prog 99 #[.string ⟨#[104, 111, 109, 101, 100, 105, 114, 101, 99, 116, 111, 114, 121]⟩] w fun e w' => e = .returned (.tuple #[.int .i64 53, .bool true]) ∧ w = w' := by
  go_enter Tryd.func99, Tryd.ntmps99
  go_wp2
  go_ret2
  exact ⟨rfl, rfl⟩
set_option maxRecDepth 100000 in
set_option maxHeartbeats 1600000 in
theorem laterName_n52 (w : World) : Calls Tryd.prog 99 #[.string ⟨#[49, 46, 51, 46, 54, 46, 49, 46, 49, 46, 49, 46, 49, 46, 51]⟩] w fun e w' => e = .returned (.tuple #[.int .i64 53, .bool true]) ∧ w = w' := by
  go_enter Tryd.func99, Tryd.ntmps99
  go_wp2
  go_ret2
  exact ⟨rfl, rfl⟩
set_option maxRecDepth 100000 in
set_option maxHeartbeats 1600000 in
theorem laterName_n53 (w : World) : Calls Tryd.prog 99 #[.string ⟨#[108, 111, 103, 105, 110, 115, 104, 101, 108, 108]⟩] w fun e w' => e = .returned (.tuple #[.int .i64 54, .bool true]) ∧ w = w' := by
  go_enter Tryd.func99, Tryd.ntmps99
  go_wp2
  go_ret2
  exact ⟨rfl, rfl⟩
set_option maxRecDepth 100000 in
set_option maxHeartbeats 1600000 in
theorem laterName_n54 (w : World) : Calls Tryd.prog 99 #[.string ⟨#[49, 46, 51, 46, 54, 46, 49, 46, 49, 46, 49, 46, 49, 46, 52]⟩] w fun e w' => e = .returned (.tuple #[.int .i64 54, .bool true]) ∧ w = w' := by
  go_enter Tryd.func99, Tryd.ntmps99
  go_wp2
  go_ret2
  exact ⟨rfl, rfl⟩
set_option maxRecDepth 100000 in
set_option maxHeartbeats 1600000 in
theorem laterName_n55 (w : World) : Calls Tryd.prog 99 #[.string ⟨#[108, 97, 98, 101, 108, 101, 100, 117, 114, 105]⟩] w fun e w' => e = .returned (.tuple #[.int .i64 55, .bool true]) ∧ w = w' := by
  go_enter Tryd.func99, Tryd.ntmps99
  go_wp2
  go_ret2
  exact ⟨rfl, rfl⟩
set_option maxRecDepth 100000 in
set_option maxHeartbeats 1600000 in
theorem laterName_n56 (w : World) : Calls Tryd.prog 99 #[.string ⟨#[49, 46, 51, 46, 54, 46, 49, 46, 52, 46, 49, 46, 50, 53, 48, 46, 49, 46, 53, 55]⟩] w fun e w' => e = .returned (.tuple #[.int .i64 55, .bool true]) ∧ w = w' := by
  go_enter Tryd.func99, Tryd.ntmps99
  go_wp2
  go_ret2
  exact ⟨rfl, rfl⟩
set_option maxRecDepth 100000 in
set_option maxHeartbeats 1600000 in
theorem laterName_n57 (w : World) : Calls Tryd.prog 99 #[.string ⟨#[99, 114, 101, 97, 116, 101, 116, 105, 109, 101, 115, 116, 97, 109, 112]⟩] w fun e w' => e = .returned (.tuple #[.int .i64 56, .bool true]) ∧ w = w' := by
  go_enter Tryd.func99, Tryd.ntmps99
  go_wp2
  go_ret2
  exact ⟨rfl, rfl⟩
set_option maxRecDepth 100000 in
set_option maxHeartbeats 1600000 in
theorem laterName_n58 (w : World) : Calls Tryd.prog 99 #[.string ⟨#[50, 46, 53, 46, 49, 56, 46, 49]⟩] w fun e w' => e = .returned (.tuple #[.int .i64 56, .bool true]) ∧ w = w' := by
  go_enter Tryd.func99, Tryd.ntmps99
  go_wp2
  go_ret2
  exact ⟨rfl, rfl⟩
set_option maxRecDepth 100000 in
set_option maxHeartbeats 1600000 in
theorem laterName_n59 (w : World) : Calls Tryd.prog 99 #[.string ⟨#[109, 111, 100, 105, 102, 121, 116, 105, 109, 101, 115, 116, 97, 109, 112]⟩] w fun e w' => e = .returned (.tuple #[.int .i64 57, .bool true]) ∧ w = w' := by
  go_enter Tryd.func99, Tryd.ntmps99
  go_wp2
  go_ret2
  exact ⟨rfl, rfl⟩
set_option maxRecDepth 100000 in
set_option maxHeartbeats 1600000 in
theorem laterName_n60 (w : World) : Calls Tryd.prog 99 #[.string ⟨#[50, 46, 53, 46, 49, 56, 46, 50]⟩] w fun e w' => e = .returned (.tuple #[.int .i64 57, .bool true]) ∧ w = w' := by
  go_enter Tryd.func99, Tryd.ntmps99
  go_wp2
  go_ret2
  exact ⟨rfl, rfl⟩
set_option maxRecDepth 100000 in
set_option maxHeartbeats 1600000 in
theorem laterName_n61 (w : World) : Calls Tryd.prog 99 #[.string ⟨#[99, 114, 101, 97, 116, 111, 114, 115, 110, 97, 109, 101]⟩] w fun e w' => e = .returned (.tuple #[.int .i64 58, .bool true]) ∧ w = w' := by
  go_enter Tryd.func99, Tryd.ntmps99
  go_wp2
  go_ret2
  exact ⟨rfl, rfl⟩
set_option maxRecDepth 100000 in
set_option maxHeartbeats 1600000 in
theorem laterName_n62 (w : World) : Calls Tryd.prog 99 #[.string ⟨#[50, 46, 53, 46, 49, 56, 46, 51]⟩] w fun e w' => e = .returned (.tuple #[.int .i64 58, .bool true]) ∧ w = w' := by
  go_enter Tryd.func99, Tryd.ntmps99
  go_wp2
  go_ret2
  exact ⟨rfl, rfl⟩
set_option maxRecDepth 100000 in
set_option maxHeartbeats 1600000 in
theorem laterName_n63 (w : World) : Calls Tryd.prog 99 #[.string ⟨#[109, 111, 100, 105, 102, 105, 101, 114, 115, 110, 97, 109, 101]⟩] w fun e w' => e = .returned (.tuple #[.int .i64 59, .bool true]) ∧ w = w' := by
  go_enter Tryd.func99, Tryd.ntmps99
  go_wp2
  go_ret2
  exact ⟨rfl, rfl⟩
set_option maxRecDepth 100000 in
set_option maxHeartbeats 1600000 in
theorem laterName_n64 (w : World) : Calls Tryd.prog 99 #[.string ⟨#[50, 46, 53, 46, 49, 56, 46, 52]⟩] w fun e w' => e = .returned (.tuple #[.int .i64 59, .bool true]) ∧ w = w' := by
  go_enter Tryd.func99, Tryd.ntmps99
  go_wp2
  go_ret2
  exact ⟨rfl, rfl⟩
set_option maxRecDepth 100000 in
set_option maxHeartbeats 1600000 in
theorem laterName_n65 (w : World) : Calls Tryd.prog 99 #[.string ⟨#[104, 97, 115, 115, 117, 98, 111, 114, 100, 105, 110, 97, 116, 101, 115]⟩] w fun e w' => e = .returned (.tuple #[.int .i64 60, .bool true]) ∧ w = w' := by
  go_enter Tryd.func99, Tryd.ntmps99
  go_wp2
  go_ret2
  exact ⟨rfl, rfl⟩
set_option maxRecDepth 100000 in
set_option maxHeartbeats 1600000 in
theorem laterName_n66 (w : World) : Calls Tryd.prog 99 #[.string ⟨#[50, 46, 53, 46, 49, 56, 46, 57]⟩] w fun e w' => e = .returned (.tuple #[.int .i64 60, .bool true]) ∧ w = w' := by
  go_enter Tryd.func99, Tryd.ntmps99
  go_wp2
  go_ret2
  exact ⟨rfl, rfl⟩
set_option maxRecDepth 100000 in
set_option maxHeartbeats 1600000 in
theorem laterName_n67 (w : World) : Calls Tryd.prog 99 #[.string ⟨#[120, 53, 48, 48, 117, 110, 105, 113, 117, 101, 105, 100, 101, 110, 116, 105, 102, 105, 101, 114]⟩] w fun e w' => e = .returned (.tuple #[.int .i64 61, .bool true]) ∧ w = w' := by
  go_enter Tryd.func99, Tryd.ntmps99
  go_wp2
  go_ret2
  exact ⟨rfl, rfl⟩
set_option maxRecDepth 100000 in
set_option maxHeartbeats 1600000 in
theorem laterName_n68 (w : World) : Calls Tryd.prog 99 #[.string ⟨#[50, 46, 53, 46, 52, 46, 52, 53]⟩] w fun e w' => e = .returned (.tuple #[.int .i64 61, .bool true]) ∧ w = w' := by
  go_enter Tryd.func99, Tryd.ntmps99
  go_wp2
  go_ret2
  exact ⟨rfl, rfl⟩
set_option maxRecDepth 100000 in
set_option maxHeartbeats 4000000 in
theorem laterName_no (s : ByteArray) (w : World) (h0 : (s.toList == ([103, 105, 118, 101, 110, 110, 97, 109, 101] : List UInt8)) = false) (h1 : (s.toList == ([103, 110] : List UInt8)) = false) (h2 : (s.toList == ([50, 46, 53, 46, 52, 46, 52, 50] : List UInt8)) = false) (h3 : (s.toList == ([105, 110, 105, 116, 105, 97, 108, 115] : List UInt8)) = false) (h4 : (s.toList == ([50, 46, 53, 46, 52, 46, 52, 51] : List UInt8)) = false) (h5 : (s.toList == ([103, 101, 110, 101, 114, 97, 116, 105, 111, 110, 113, 117, 97, 108, 105, 102, 105, 101, 114] : List UInt8)) = false) (h6 : (s.toList == ([50, 46, 53, 46, 52, 46, 52, 52] : List UInt8)) = false) (h7 : (s.toList == ([100, 110, 113, 117, 97, 108, 105, 102, 105, 101, 114] : List UInt8)) = false) (h8 : (s.toList == ([50, 46, 53, 46, 52, 46, 52, 54] : List UInt8)) = false) (h9 : (s.toList == ([104, 111, 117, 115, 101, 105, 100, 101, 110, 116, 105, 102, 105, 101, 114] : List UInt8)) = false) (h10 : (s.toList == ([50, 46, 53, 46, 52, 46, 53, 49] : List UInt8)) = false) (h11 : (s.toList == ([99, 45, 108] : List UInt8)) = false) (h12 : (s.toList == ([50, 46, 53, 46, 52, 46, 55, 46, 49] : List UInt8)) = false) (h13 : (s.toList == ([99, 45, 115, 116] : List UInt8)) = false) (h14 : (s.toList == ([50, 46, 53, 46, 52, 46, 56, 46, 49] : List UInt8)) = false) (h15 : (s.toList == ([99, 45, 111] : List UInt8)) = false) (h16 : (s.toList == ([50, 46, 53, 46, 52, 46, 49, 48, 46, 49] : List UInt8)) = false) (h17 : (s.toList == ([99, 45, 111, 117] : List UInt8)) = false) (h18 : (s.toList == ([50, 46, 53, 46, 52, 46, 49, 49, 46, 49] : List UInt8)) = false) (h19 : (s.toList == ([117, 105, 100] : List UInt8)) = false) (h20 : (s.toList == ([117, 115, 101, 114, 105, 100] : List UInt8)) = false) (h21 : (s.toList == ([48, 46, 57, 46, 50, 51, 52, 50, 46, 49, 57, 50, 48, 48, 51, 48, 48, 46, 49, 48, 48, 46, 49, 46, 49] : List UInt8)) = false) (h22 : (s.toList == ([109, 97, 105, 108] : List UInt8)) = false) (h23 : (s.toList == ([114, 102, 99, 56, 50, 50, 109, 97, 105, 108, 98, 111, 120] : List UInt8)) = false) (h24 : (s.toList == ([48, 46, 57, 46, 50, 51, 52, 50, 46, 49, 57, 50, 48, 48, 51, 48, 48, 46, 49, 48, 48, 46, 49, 46, 51] : List UInt8)) = false) (h25 : (s.toList == ([114, 111, 111, 109, 110, 117, 109, 98, 101, 114] : List UInt8)) = false) (h26 : (s.toList == ([48, 46, 57, 46, 50, 51, 52, 50, 46, 49, 57, 50, 48, 48, 51, 48, 48, 46, 49, 48, 48, 46, 49, 46, 54] : List UInt8)) = false) (h27 : (s.toList == ([109, 97, 110, 97, 103, 101, 114] : List UInt8)) = false) (h28 : (s.toList == ([48, 46, 57, 46, 50, 51, 52, 50, 46, 49, 57, 50, 48, 48, 51, 48, 48, 46, 49, 48, 48, 46, 49, 46, 49, 48] : List UInt8)) = false) (h29 : (s.toList == ([104, 111, 109, 101, 112, 104, 111, 110, 101] : List UInt8)) = false) (h30 : (s.toList == ([104, 111, 109, 101, 116, 101, 108, 101, 112, 104, 111, 110, 101, 110, 117, 109, 98, 101, 114] : List UInt8)) = false) (h31 : (s.toList == ([48, 46, 57, 46, 50, 51, 52, 50, 46, 49, 57, 50, 48, 48, 51, 48, 48, 46, 49, 48, 48, 46, 49, 46, 50, 48] : List UInt8)) = false) (h32 : (s.toList == ([115, 101, 99, 114, 101, 116, 97, 114, 121] : List UInt8)) = false) (h33 : (s.toList == ([48, 46, 57, 46, 50, 51, 52, 50, 46, 49, 57, 50, 48, 48, 51, 48, 48, 46, 49, 48, 48, 46, 49, 46, 50, 49] : List UInt8)) = false) (h34 : (s.toList == ([100, 99] : List UInt8)) = false) (h35 : (s.toList == ([100, 111, 109, 97, 105, 110, 99, 111, 109, 112, 111, 110, 101, 110, 116] : List UInt8)) = false) (h36 : (s.toList == ([48, 46, 57, 46, 50, 51, 52, 50, 46, 49, 57, 50, 48, 48, 51, 48, 48, 46, 49, 48, 48, 46, 49, 46, 50, 53] : List UInt8)) = false) (h37 : (s.toList == ([109, 111, 98, 105, 108, 101] : List UInt8)) = false) (h38 : (s.toList == ([109, 111, 98, 105, 108, 101, 116, 101, 108, 101, 112, 104, 111, 110, 101, 110, 117, 109, 98, 101, 114] : List UInt8)) = false) (h39 : (s.toList == ([48, 46, 57, 46, 50, 51, 52, 50, 46, 49, 57, 50, 48, 48, 51, 48, 48, 46, 49, 48, 48, 46, 49, 46, 52, 49] : List UInt8)) = false) (h40 : (s.toList == ([112, 97, 103, 101, 114] : List UInt8)) = false) (h41 : (s.toList == ([112, 97, 103, 101, 114, 116, 101, 108, 101, 112, 104, 111, 110, 101, 110, 117, 109, 98, 101, 114] : List UInt8)) = false) (h42 : (s.toList == ([48, 46, 57, 46, 50, 51, 52, 50, 46, 49, 57, 50, 48, 48, 51, 48, 48, 46, 49, 48, 48, 46, 49, 46, 52, 50] : List UInt8)) = false) (h43 : (s.toList == ([101, 109, 112, 108, 111, 121, 101, 101, 110, 117, 109, 98, 101, 114] : List UInt8)) = false) (h44 : (s.toList == ([50, 46, 49, 54, 46, 56, 52, 48, 46, 49, 46, 49, 49, 51, 55, 51, 48, 46, 51, 46, 49, 46, 51] : List UInt8)) = false) (h45 : (s.toList == ([100, 105, 115, 112, 108, 97, 121, 110, 97, 109, 101] : List UInt8)) = false) (h46 : (s.toList == ([50, 46, 49, 54, 46, 56, 52, 48, 46, 49, 46, 49, 49, 51, 55, 51, 48, 46, 51, 46, 49, 46, 50, 52, 49] : List UInt8)) = false) (h47 : (s.toList == ([117, 105, 100, 110, 117, 109, 98, 101, 114] : List UInt8)) = false) (h48 : (s.toList == ([49, 46, 51, 46, 54, 46, 49, 46, 49, 46, 49, 46, 49, 46, 48] : List UInt8)) = false) (h49 : (s.toList == ([103, 105, 100, 110, 117, 109, 98, 101, 114] : List UInt8)) = false) (h50 : (s.toList == ([49, 46, 51, 46, 54, 46, 49, 46, 49, 46, 49, 46, 49, 46, 49] : List UInt8)) = false) (h51 : (s.toList == ([104, 111, 109, 101, 100, 105, 114, 101, 99, 116, 111, 114, 121] : List UInt8)) = false) (h52 : (s.toList == ([49, 46, 51, 46, 54, 46, 49, 46, 49, 46, 49, 46, 49, 46, 51] : List UInt8)) = false) (h53 : (s.toList == ([108, 111, 103, 105, 110, 115, 104, 101, 108, 108] : List UInt8)) = false) (h54 : (s.toList == ([49, 46, 51, 46, 54, 46, 49, 46, 49, 46, 49, 46, 49, 46, 52] : List UInt8)) = false) (h55 : (s.toList == ([108, 97, 98, 101, 108, 101, 100, 117, 114, 105] : List UInt8)) = false) (h56 : (s.toList == ([49, 46, 51, 46, 54, 46, 49, 46, 52, 46, 49, 46, 50, 53, 48, 46, 49, 46, 53, 55] : List UInt8)) = false) (h57 : (s.toList == ([99, 114, 101, 97, 116, 101, 116, 105, 109, 101, 115, 116, 97, 109, 112] : List UInt8)) = false) (h58 : (s.toList == ([50, 46, 53, 46, 49, 56, 46, 49] : List UInt8)) = false) (h59 : (s.toList == ([109, 111, 100, 105, 102, 121, 116, 105, 109, 101, 115, 116, 97, 109, 112] : List UInt8)) = false) (h60 : (s.toList == ([50, 46, 53, 46, 49, 56, 46, 50] : List UInt8)) = false) (h61 : (s.toList == ([99, 114, 101, 97, 116, 111, 114, 115, 110, 97, 109, 101] : List UInt8)) = false) (h62 : (s.toList == ([50, 46, 53, 46, 49, 56, 46, 51] : List UInt8)) = false) (h63 : (s.toList == ([109, 111, 100, 105, 102, 105, 101, 114, 115, 110, 97, 109, 101] : List UInt8)) = false) (h64 : (s.toList == ([50, 46, 53, 46, 49, 56, 46, 52] : List UInt8)) = false) (h65 : (s.toList == ([104, 97, 115, 115, 117, 98, 111, 114, 100, 105, 110, 97, 116, 101, 115] : List UInt8)) = false) (h66 : (s.toList == ([50, 46, 53, 46, 49, 56, 46, 57] : List UInt8)) = false) (h67 : (s.toList == ([120, 53, 48, 48, 117, 110, 105, 113, 117, 101, 105, 100, 101, 110, 116, 105, 102, 105, 101, 114] : List UInt8)) = false) (h68 : (s.toList == ([50, 46, 53, 46, 52, 46, 52, 53] : List UInt8)) = false) : Calls Tryd.prog 99 #[.string s] w fun e w' => e = .returned (.tuple #[.int .i64 0, .bool false]) ∧ w = w' := by
  go_enter Tryd.func99, Tryd.ntmps99
  go_wp2
  go_ret2
  exact ⟨rfl, rfl⟩
def nameV (o : Option Nat) : Value := match o with | some i => .tuple #[.int .i64 i, .bool true] | none => .tuple #[.int .i64 0, .bool false]
theorem by_names {P : Program} {f : FuncId} {t : List (List UInt8 × Nat)} {s : ByteArray} {w : World}
    (hy : ∀ p ∈ t, Calls P f #[.string (mk p.1)] w fun e w' => e = .returned (.tuple #[.int .i64 (p.2 : Nat), .bool true]) ∧ w = w')
    (hn : (∀ p ∈ t, (s.toList == p.1) = false) → Calls P f #[.string s] w fun e w' => e = .returned (.tuple #[.int .i64 0, .bool false]) ∧ w = w') :
    Calls P f #[.string s] w fun e w' => e = .returned (nameV (findName t (ls s))) ∧ w = w' := by
  unfold findName
  cases h : t.find? (fun p => p.1 == ls s) with
  | none =>
    exact hn fun p hp => by
      have := List.find?_eq_none.1 h p hp
      rw [toList_ls]
      simp only [beq_iff_eq, Bool.not_eq_true] at this ⊢
      rw [beq_eq_false_iff_ne]; exact fun e => this (by rw [e])
  | some p =>
    have hp := List.mem_of_find?_eq_some h
    have he : p.1 = ls s := by simpa using List.find?_some h
    have hs : mk p.1 = s := by rw [he, mk_ls]
    rw [← hs]
    exact hy p hp
theorem laterName_any (s : ByteArray) (w : World) : Calls Tryd.prog 99 #[.string s] w fun e w' => e = .returned (nameV (findName laterNames (ls s))) ∧ w = w' := by
  refine by_names ?_ ?_
  · simp only [laterNames, List.forall_mem_cons]
    exact ⟨laterName_n0 w, laterName_n1 w, laterName_n2 w, laterName_n3 w, laterName_n4 w, laterName_n5 w, laterName_n6 w, laterName_n7 w, laterName_n8 w, laterName_n9 w, laterName_n10 w, laterName_n11 w, laterName_n12 w, laterName_n13 w, laterName_n14 w, laterName_n15 w, laterName_n16 w, laterName_n17 w, laterName_n18 w, laterName_n19 w, laterName_n20 w, laterName_n21 w, laterName_n22 w, laterName_n23 w, laterName_n24 w, laterName_n25 w, laterName_n26 w, laterName_n27 w, laterName_n28 w, laterName_n29 w, laterName_n30 w, laterName_n31 w, laterName_n32 w, laterName_n33 w, laterName_n34 w, laterName_n35 w, laterName_n36 w, laterName_n37 w, laterName_n38 w, laterName_n39 w, laterName_n40 w, laterName_n41 w, laterName_n42 w, laterName_n43 w, laterName_n44 w, laterName_n45 w, laterName_n46 w, laterName_n47 w, laterName_n48 w, laterName_n49 w, laterName_n50 w, laterName_n51 w, laterName_n52 w, laterName_n53 w, laterName_n54 w, laterName_n55 w, laterName_n56 w, laterName_n57 w, laterName_n58 w, laterName_n59 w, laterName_n60 w, laterName_n61 w, laterName_n62 w, laterName_n63 w, laterName_n64 w, laterName_n65 w, laterName_n66 w, laterName_n67 w, laterName_n68 w, fun _ h => absurd h List.not_mem_nil⟩
  · intro h
    simp only [laterNames, List.forall_mem_cons] at h
    obtain ⟨h0, h1, h2, h3, h4, h5, h6, h7, h8, h9, h10, h11, h12, h13, h14, h15, h16, h17, h18, h19, h20, h21, h22, h23, h24, h25, h26, h27, h28, h29, h30, h31, h32, h33, h34, h35, h36, h37, h38, h39, h40, h41, h42, h43, h44, h45, h46, h47, h48, h49, h50, h51, h52, h53, h54, h55, h56, h57, h58, h59, h60, h61, h62, h63, h64, h65, h66, h67, h68, _⟩ := h
    exact laterName_no s w h0 h1 h2 h3 h4 h5 h6 h7 h8 h9 h10 h11 h12 h13 h14 h15 h16 h17 h18 h19 h20 h21 h22 h23 h24 h25 h26 h27 h28 h29 h30 h31 h32 h33 h34 h35 h36 h37 h38 h39 h40 h41 h42 h43 h44 h45 h46 h47 h48 h49 h50 h51 h52 h53 h54 h55 h56 h57 h58 h59 h60 h61 h62 h63 h64 h65 h66 h67 h68
end Go.Proofs.YtdpknokginnmjaaDoor
