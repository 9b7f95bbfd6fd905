/- Texts joined. -/
import Derived.Test.YtmhajfnfjjbflaaGreatDoorRows
import Derived.ProofKit
namespace Go.Proofs.YtmhajfnfjjbflaaGreatDoor
open Go.RowKit Go.ChangeShapes Go.WideShapes Go.ChangeAt
theorem and_t {a b : Bool} (h : a = true) (k : b = true) : (a && b) = true := by rw [h, k]; rfl
set_option maxRecDepth 100000 in
set_option maxHeartbeats 4000000 in
theorem tellWords_facts : joinedFacts Tryz.pinned.checked.prog 6 Tryz.f6 Rows.tellWordsSpec Rows.tellWordsRow = true := by
  unfold joinedFacts
  repeat' (with_reducible apply and_t)
  all_goals as_aux_lemma => kernel_rfl
set_option maxHeartbeats 4000000 in
theorem tellWords_wr : Tryz.f6.isWrapper Tryz.pinned.checked.prog Rows.tellWordsRow.wrapper Rows.tellWordsRow.mainSum := by unfold Func.isWrapper; first | (rw [if_pos (by decide +kernel)]; kernel_rfl) | (rw [if_neg (by decide +kernel)]; exact ⟨rfl, rfl⟩)
theorem tellWords_fn : Tryz.pinned.checked.prog.funcNamed Rows.tellWordsRow.func = some 6 := by kernel_rfl
end Go.Proofs.YtmhajfnfjjbflaaGreatDoor
