/- Texts joined. -/
import Derived.Test.YtmhajfnfjjbflaaGreatDoorEvTabOk
namespace Go.Proofs.YtmhajfnfjjbflaaGreatDoor.Ev
open Go Go.Proofs
noncomputable def tw (c : Int) : Bool := isTrue (callA env 3000 60 6 [.int .i64 c] a0)
theorem tw_neg (m : Nat) : tw (Int.negSucc m) = true := by kernel_rfl
theorem tw_big (m : Nat) : tw (Int.ofNat (m + 10)) = true := by kernel_rfl
theorem tw_0 : tw (Int.ofNat 0) = true := by kernel_rfl
theorem tw_1 : tw (Int.ofNat 1) = true := by kernel_rfl
theorem tw_2 : tw (Int.ofNat 2) = true := by kernel_rfl
theorem tw_3 : tw (Int.ofNat 3) = true := by kernel_rfl
theorem tw_4 : tw (Int.ofNat 4) = true := by kernel_rfl
theorem tw_5 : tw (Int.ofNat 5) = true := by kernel_rfl
theorem tw_6 : tw (Int.ofNat 6) = true := by kernel_rfl
theorem tw_7 : tw (Int.ofNat 7) = true := by kernel_rfl
theorem tw_8 : tw (Int.ofNat 8) = true := by kernel_rfl
theorem tw_9 : tw (Int.ofNat 9) = true := by kernel_rfl
theorem tw_all (c : Int) : tw c = true := by
  match c with
  | .negSucc m => exact tw_neg m
  | .ofNat 0 => exact tw_0
  | .ofNat 1 => exact tw_1
  | .ofNat 2 => exact tw_2
  | .ofNat 3 => exact tw_3
  | .ofNat 4 => exact tw_4
  | .ofNat 5 => exact tw_5
  | .ofNat 6 => exact tw_6
  | .ofNat 7 => exact tw_7
  | .ofNat 8 => exact tw_8
  | .ofNat 9 => exact tw_9
  | .ofNat (m + 10) => exact tw_big m
end Go.Proofs.YtmhajfnfjjbflaaGreatDoor.Ev
