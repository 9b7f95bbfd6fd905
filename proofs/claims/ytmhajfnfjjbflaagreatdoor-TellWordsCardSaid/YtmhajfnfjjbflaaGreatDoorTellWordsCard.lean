/- polyglotlaw20.TellWords: for every integer the law returns true; the argument reads as it read; memory that was there is as it was. No condition of ours. -/
import Derived.Test.YtmhajfnfjjbflaaGreatDoorTellWordsRun
import Derived.Test.YtmhajfnfjjbflaaGreatDoorTellWordsFacts
import Derived.Test.YtmhajfnfjjbflaaGreatDoorRows
import Derived.Test.YtmhajfnfjjbflaaGreatDoorTie
import Derived.Test.YtmhajfnfjjbflaaGreatDoorCards
import Derived.ProofKit
import Derived.Lay
namespace Go.Proofs.YtmhajfnfjjbflaaGreatDoor
open Go.RowKit Go.ChangeShapes Go.WideShapes Go.ChangeAt Go.Proofs.YtmhajfnfjjbflaaGreatDoor.Ev

theorem tellWords_own : ownKnob Tryz.prog.godebug = none := by kernel_rfl

theorem tellWords_calls (c : Int) (w : World) : Calls Tryz.prog 6 #[.int .i64 c] w fun e w' => e = .returned (.bool true) ∧ Below w.heap.size w w' := by
  refine Calls.mono (calls_true (E := env) rfl (env_ok 3000 60) (f := 6) (fn := Tryz.f6) Tryz.func6 (by decide) rfl (LR1_int .i64 c) (tw_all c) w).calls fun e w' he => ?_
  obtain ⟨v, rfl, rfl, hb⟩ := he
  exact ⟨rfl, hb⟩

set_option maxRecDepth 100000 in
set_option maxHeartbeats 4000000 in
theorem tellWords_lifted (os : Os) (started : os.Started) (H : Type) (enc : TypeId × Value → H) :
    ReturnsInHanded {} Tryz.checked os 6 .any (fun w args => (Rows.tellWordsSpec.pre enc Tryz.prog Tryz.f6 [] false w args ∧ laidMetH Tryz.prog Rows.tellWordsRow.laid w) ∧ sizedMet enc Tryz.prog Tryz.f6 (OpenSpec.ofChange Rows.tellWordsSpec) false w args)
      (Rows.tellWordsSpec.post enc Tryz.prog Tryz.f6 false true false false) := by
  refine returnsInHanded_of_change_and (C := Tryz.checked) (X := fun w _ => laidMetH Tryz.prog Rows.tellWordsRow.laid w) (fun _ _ _ hh h => h.of_heap hh) tellWords_own started (by kernel_rfl) Tryz.func6
    (ChangeSpec.witness_shaped (enc := enc) (C := Tryz.checked) (os := os) (X := fun w _ => laidMetH Tryz.prog Rows.tellWordsRow.laid w) false (World.laidAll Tryz.prog os Rows.tellWordsRow.laid) #[.int .i64 0] 8 (World.laidAll_os _ _ _)
      (World.shaped_of_ZipB (by kernel_rfl) (by kernel_rfl)) (by kernel_rfl) (by kernel_rfl) (by kernel_rfl)
      (by rw [MakeChecks.laidMetH_plain _ _ _ (by kernel_rfl)]; exact laidMet_laidAll _ (by kernel_rfl) (by kernel_rfl))) ?_
  intro W base args ds gs before hval0 hW _ _ _ _
  have hval : ∀ (j : Nat) t v, Tryz.f6.params[j]? = some t → args[j]? = some v → Value.okWide Tryz.prog W .any base t v := hval0
  have hW' := hW
  obtain ⟨p, q, hA0, hV, rfl, _, _⟩ := hW
  have hA : DataW.TrodAll enc Tryz.prog W 0 (fun _ => true) true Tryz.f6.params.toList args.toList ds p := hA0
  rw [Tryz.params6] at hA hval
  obtain ⟨v0, d0, rfl, rfl, h0⟩ := trodAll_one hA
  obtain ⟨rfl, rfl⟩ := trodVars_none hV
  obtain ⟨x, rfl, rfl, rfl, wx⟩ := open_int Tryz.underlying3 (hval 0 3 v0 rfl rfl) h0
  simp only [List.append_nil] at hW'
  refine (tellWords_calls x W).mono fun e W' ⟨he, hb⟩ => ?_
  subst he
  exact ⟨_, rfl, _, _, _, [], [], [], hW', trodAll_mk1 (shut_bool Tryz.underlying4 _), trodAll_mk1 (shut_int Tryz.underlying3 wx), rfl, hb.frame _, fun h => by cases h⟩

set_option maxHeartbeats 4000000 in
theorem tellWords_row : Rows.TellWordsSaid :=
  OpenClaim.holds_of_wide 6 Tryz.f6 rfl rfl rfl rfl rfl rfl rfl ⟨rfl, rfl, rfl, rfl, rfl⟩ rfl rfl rfl rfl rfl tellWords_fn Tryz.func6 tellWords_facts
    (of_decide_eq_true (by as_aux_lemma => kernel_rfl)) tellWords_wr
    (fun os started H enc _ => tellWords_lifted os started H enc)

theorem tellWords_stand : ([3].all fun u => !Tryz.prog.wantsStandIn u) = true := by kernel_rfl
theorem tellWords_named : Tryz.prog.funcNamed "polyglot/polyglotlaw20.TellWords" = some 6 := by kernel_rfl

set_option maxHeartbeats 4000000 in
theorem tellWords_holds : Rows.TellWordsCardSaid :=
  Claim7.holds_tied_plain_at .later [] [.data, .data, .data, .data, .sentinel, .sentinel, .listed, .sentinel, .data, .pinned] true (true, "76b2230f72d6b046c94ee1c5b306aeae67a9ea10b8e70b2f1723715765f304e1") true tellWords_row (fun _ h => by cases h) (by as_aux_lemma => kernel_rfl) (fun _ h => by cases h) tellWords_row_tie rfl ⟨rfl, rfl⟩ (by as_aux_lemma => kernel_rfl) rfl
    (fun f fn hf hfn => by
      obtain rfl : f = 6 := Option.some.inj (tellWords_named.symm.trans hf) |>.symm
      obtain rfl : fn = Tryz.f6 := (Option.some.inj (Tryz.func6.symm.trans hfn)).symm
      exact ⟨by as_aux_lemma => kernel_rfl, fun j t ht => by
        rw [Tryz.params6] at ht
        have hm : t ∈ [3] := by simpa using Array.mem_of_getElem? ht
        exact (show Tryz.prog.wantsStandIn t = false by simpa using List.all_eq_true.1 tellWords_stand t hm)⟩)
    (by as_aux_lemma => kernel_rfl)
end Go.Proofs.YtmhajfnfjjbflaaGreatDoor
