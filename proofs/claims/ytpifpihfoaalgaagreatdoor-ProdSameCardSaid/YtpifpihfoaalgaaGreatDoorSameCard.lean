/- Proved here: the row and the tied card of ProdSame: whatever the input, it returns true, and each argument reads behind the call as it read before. No condition beyond the row. -/
import Derived.Test.YtpifpihfoaalgaaGreatDoorTie
import Derived.Test.YtpifpihfoaalgaaGreatDoorCards
import Derived.Test.YtpifpihfoaalgaaGreatDoorSameRow
import Derived.Test.YtpifpihfoaalgaaGreatDoorSameFacts
set_option linter.unusedVariables false
set_option linter.unusedSimpArgs false
namespace Go.Proofs.YtpifpihfoaalgaaGreatDoor
open Go Go.Dp Go.RowKit Go.Lib
open Go.ChangeShapes Go.WideShapes Go.ChangeAt
set_option maxRecDepth 100000
theorem same_own : ownKnob Tryz.prog.godebug = none := by kernel_rfl
theorem same_laidOut : laidOutB Tryz.prog = true := by kernel_rfl
theorem same_readable : Tryz.prog.readableRec 24 = true := by kernel_rfl
theorem same_readable3 : Tryz.prog.readableRec 3 = true := by kernel_rfl
def sameArgs : Array Value := #[.agg #[.string ByteArray.empty, .int .i64 0, .int .i64 0, .int .i64 0, .slice none 0 0], .int .i64 0]
theorem same_lifted (os : Os) (started : os.Started) (H : Type) (enc : TypeId × Value → H) :
    ReturnsInHanded {} Tryz.checked os 8 .any (fun w args => (Rows.prodSameSpec.pre enc Tryz.prog Tryz.f8 [] false w args ∧ laidMetH Tryz.prog Rows.prodSameRow.laid w) ∧ sizedMet enc Tryz.prog Tryz.f8 (OpenSpec.ofChange Rows.prodSameSpec) false w args)
      (Rows.prodSameSpec.post enc Tryz.prog Tryz.f8 false true false false) := by
  refine returnsInHanded_of_calls (C := Tryz.checked) same_own started (by kernel_rfl)
    (ChangeSpec.witness_shaped (enc := enc) (C := Tryz.checked) (os := os) (X := fun w _ => laidMetH Tryz.prog Rows.prodSameRow.laid w) false (World.laidAll Tryz.prog os Rows.prodSameRow.laid) sameArgs 8 (World.laidAll_os _ _ _)
      (World.shaped_of_ZipB (by kernel_rfl) (by kernel_rfl)) (by kernel_rfl) (by kernel_rfl) (by kernel_rfl)
      (by rw [MakeChecks.laidMetH_plain _ _ _ (by kernel_rfl)]; exact laidMet_laidAll _ (by kernel_rfl) (by kernel_rfl))) ?_
  intro w tape i _ hsh _ hok hpre _
  obtain ⟨_, _, _, fn', hfn', _, _, _, _, hval⟩ := hok
  have e : fn' = Tryz.f8 := Option.some.inj (hfn'.symm.trans Tryz.func8)
  subst e
  obtain ⟨⟨⟨ds, gs, before, hw, _⟩, hx⟩, _⟩ := hpre
  have hW := DataW.Whole.of_heap (w' := w.forCall tape i) (by rfl) hw
  have hL : laidMetH Tryz.prog Rows.prodSameRow.laid (w.forCall tape i) := hx.of_heap (by rfl)
  generalize w.forCall tape i = W at *
  obtain ⟨blocks, args, vars⟩ := i
  simp only at *
  have hW' := hW
  obtain ⟨p, q, hA0, hV, rfl, _, _⟩ := hW
  have hA : DataW.TrodAll enc Tryz.prog W 0 (fun _ => true) true Tryz.f8.params.toList args.toList ds p := hA0
  rw [Tryz.params8] at hA hval
  obtain ⟨v0, v1, d0, d1, p0, p1, rfl, rfl, rfl, h0, h1⟩ := trodAll_two hA
  obtain ⟨rfl, rfl⟩ := trodVars_none hV
  refine (same_calls hL hsh (hval 0 24 v0 rfl rfl) (hval 1 3 v1 rfl rfl) h0 h1).calls fun v' w' hk => ?_
  obtain ⟨rfl, hk⟩ := hk
  refine ChangeSpec.post_blind ?_
  have hb := below_of_kept hk
  have hlt : ∀ x ∈ p0 ++ p1 ++ [], x.block < W.heap.size := fun x hx => hW'.lt x hx
  have k0 := Below.trod same_laidOut same_readable (of_decide_eq_true (by kernel_rfl)) h0 hb fun x hx => hlt x (by simp [hx])
  have k1 := Below.trod same_laidOut same_readable3 (of_decide_eq_true (by kernel_rfl)) h1 hb fun x hx => hlt x (by simp [hx])
  exact ⟨_, _, _, [], _, [], hW', trodAll_mk1 (shut_bool Tryz.underlying4 _), trodAll_mk2 k0 k1, rfl, hb.frame _, fun h => by cases h⟩
theorem prodSame_holds : Rows.ProdSameSaid :=
  OpenClaim.holds_of_wide 8 Tryz.f8 rfl rfl rfl rfl rfl rfl rfl ⟨rfl, rfl, rfl, rfl, rfl⟩ rfl rfl rfl rfl rfl sameA1 Tryz.func8 sameB sameA2 sameA3
    (fun os started H enc _ => same_lifted os started H enc)
theorem sameW : Rows.prodSameRow.wfByText (OpenSpec.ofChange Rows.prodSameSpec) = true := by kernel_rfl
theorem sameM : Tryz.prog.mainIs = some (true, "a1579a529147450f1e1594918029abdcea54b88cad5be36de0c707487eda4a45".toList) := by kernel_rfl
theorem sameG : false = Rows.prodSameRow.goesBy Tryz.prog := by kernel_rfl
theorem sameLooks : false = Tryz.prog.looks [] := by kernel_rfl
theorem sameStand : ([24, 3].all fun u => !Tryz.prog.wantsStandIn u) = true := by kernel_rfl
theorem prodSame_card : Rows.ProdSameCardSaid :=
  Claim7.holds_tied_plain_at .later [] [.data, .data, .data, .data, .listed, .data, .pinned, .pinned, .pinned, .pinned, .pinned, .pinned, .pinned] true (true, "a1579a529147450f1e1594918029abdcea54b88cad5be36de0c707487eda4a45") false prodSame_holds (fun _ h => by cases h) sameW (fun _ h => by cases h) prodSame_row_tie rfl ⟨rfl, rfl⟩ sameM rfl
    (fun f fn hf hfn => by
      obtain rfl : f = 8 := Option.some.inj (hf.symm.trans sameA1)
      obtain rfl : fn = Tryz.f8 := (Option.some.inj (Tryz.func8.symm.trans hfn)).symm
      exact ⟨sameLooks, fun j t ht => by
        rw [Tryz.params8] at ht
        have hm : t ∈ [24, 3] := by simpa using Array.mem_of_getElem? ht
        exact (show Tryz.prog.wantsStandIn t = false by simpa using List.all_eq_true.1 sameStand t hm)⟩)
    sameG
end Go.Proofs.YtpifpihfoaalgaaGreatDoor
