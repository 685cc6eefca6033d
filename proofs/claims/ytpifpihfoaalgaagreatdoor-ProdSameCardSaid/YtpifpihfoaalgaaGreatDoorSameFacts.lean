/- Proved here: the closed facts of the row of ProdSame. No condition. -/
import Derived.Test.YtpifpihfoaalgaaGreatDoorRows
import Derived.Test.YtpifpihfoaalgaaGreatDoorChecked
import Derived.LaidOnce
import Derived.JoinedOf
set_option linter.unusedVariables false
set_option linter.unusedSimpArgs false
namespace Go.Proofs.YtpifpihfoaalgaaGreatDoor
open Go
set_option maxRecDepth 100000
theorem sameA1 : Tryz.pinned.checked.prog.funcNamed Rows.prodSameRow.func = some 8 := by kernel_rfl
theorem sameA2 : Tryz.f8.isInstance Tryz.pinned.checked.prog Rows.prodSameRow.origin Rows.prodSameRow.targs := of_decide_eq_true (by kernel_rfl)
theorem sameA3 : Tryz.f8.isWrapper Tryz.pinned.checked.prog Rows.prodSameRow.wrapper Rows.prodSameRow.mainSum := by unfold Func.isWrapper; first | (rw [if_pos (by decide +kernel)]; kernel_rfl) | (rw [if_neg (by decide +kernel)]; exact ⟨rfl, rfl⟩)
theorem sameJ0 : (Rows.prodSameRow.wf (OpenSpec.ofChange Rows.prodSameSpec)) = true := by kernel_rfl
theorem sameJ1 : (laidOutB Tryz.prog) = true := by kernel_rfl
theorem sameJ2 : (mapsRowed Tryz.prog) = true := by kernel_rfl
theorem sameJ3 : (Tryz.f8.params.all (Tryz.prog.readableRec ·)) = true := by kernel_rfl
theorem sameJ4 : (namedTie Tryz.prog Rows.prodSameRow.named Rows.prodSameSpec.vars) = true := by kernel_rfl
theorem sameJ5 : ((Rows.prodSameRow.stops == [])) = true := by kernel_rfl
theorem sameJ6 : ((Tryz.prog.stops == [])) = true := by kernel_rfl
theorem sameJ7 : ((Rows.prodSameRow.knobs == [])) = true := by kernel_rfl
theorem sameJ8 : ((Tryz.prog.stopKnobs == [])) = true := by kernel_rfl
theorem sameJ9 : ((Rows.prodSameRow.inPlace == Tryz.prog.inPlace 8)) = true := by kernel_rfl
theorem sameJ10 : ((Rows.prodSameRow.unfollowed == Tryz.prog.unfollowed 8)) = true := by kernel_rfl
theorem sameJ11 : ((Rows.prodSameRow.recurses == Tryz.prog.recurses 8)) = true := by kernel_rfl
theorem sameJ12 : ((Rows.prodSameRow.named == Tryz.prog.varsNamed 8)) = true := by kernel_rfl
theorem sameJ13 : ((Rows.prodSameRow.maps == (Tryz.f8.params.toList ++ Rows.prodSameSpec.plain.varTypes Tryz.prog).any (Tryz.prog.mapsRec ·))) = true := by kernel_rfl
theorem sameJ14 : ((Rows.prodSameRow.ifaces == (Tryz.f8.params.toList ++ Rows.prodSameSpec.plain.varTypes Tryz.prog).any (Tryz.prog.ifacesRec ·))) = true := by kernel_rfl
theorem sameJ15 : ((Rows.prodSameRow.mapsOut == Tryz.prog.mapsAmong Tryz.f8.resultTypes.toList)) = true := by kernel_rfl
theorem sameJ16 : ((Rows.prodSameRow.loops == (Tryz.f8.params.toList ++ Rows.prodSameSpec.plain.varTypes Tryz.prog).any (Tryz.prog.loopsFrom ·))) = true := by kernel_rfl
theorem sameJ17 : ((Rows.prodSameRow.wideKeys == (Tryz.f8.params.toList ++ Rows.prodSameSpec.plain.varTypes Tryz.prog ++ Tryz.f8.resultTypes.toList).any (Tryz.prog.wideKeysFrom ·))) = true := by kernel_rfl
theorem sameJ18 : (Rows.prodSameSpec.vars.all (Tryz.prog.varReadable ·)) = true := by kernel_rfl
theorem sameJ19 : (Tryz.f8.resultTypes.all (fun t => Tryz.prog.readableRec t && decide (t < Tryz.prog.types.size))) = true := by kernel_rfl
theorem sameJ20 : ((Rows.prodSameRow.ifacesOut == Tryz.f8.resultTypes.toList.any (Tryz.prog.ifacesRec ·))) = true := by kernel_rfl
theorem sameJ21 : ((Rows.prodSameRow.loopsOut == Tryz.f8.resultTypes.toList.any (Tryz.prog.loopsFrom ·))) = true := by kernel_rfl
theorem sameJ22 : ((Rows.prodSameRow.plainKeys == Tryz.prog.plainKeys)) = true := by kernel_rfl
theorem sameJ23 : (Rows.prodSameRow.shortTexts.isNone) = true := by kernel_rfl
theorem sameJ24 : (Tryz.prog.stopsHeard) = true := by kernel_rfl
theorem sameJ25 : (Tryz.prog.mayEnter) = true := by kernel_rfl
theorem sameJ26 : ((Rows.prodSameRow.lifted == Tryz.prog.liftsFinal)) = true := by kernel_rfl
theorem sameJ27 : ((Tryz.prog.make == some Rows.prodSameRow.make)) = true := by kernel_rfl
theorem sameJ28 : ((Rows.prodSameRow.kinds == (if Rows.prodSameRow.domain.isEmpty then [] else Tryz.f8.params.toList.map fun t => match Tryz.prog.underlying t with | some (.int k) => some k | _ => none))) = true := by kernel_rfl
theorem sameJ29 : ((Rows.prodSameRow.pinned == Rows.prodSameRow.pinnedBy)) = true := by kernel_rfl
theorem sameJ30 : ((Rows.prodSameRow.veiled == (Tryz.f8.params.toList ++ Rows.prodSameSpec.plain.varTypes Tryz.prog ++ Tryz.f8.resultTypes.toList).any (Tryz.prog.veiledRec ·))) = true := by kernel_rfl
theorem sameJ31 : (Rows.prodSameRow.veiledFits Tryz.prog Tryz.f8.params.toList (Tryz.f8.params.toList ++ Rows.prodSameSpec.plain.varTypes Tryz.prog ++ Tryz.f8.resultTypes.toList)) = true := by kernel_rfl
theorem sameB : joinedFacts Tryz.pinned.checked.prog 8 Tryz.f8 Rows.prodSameSpec Rows.prodSameRow = true := by
  show joinedFacts Tryz.prog 8 Tryz.f8 Rows.prodSameSpec Rows.prodSameRow = true
  unfold joinedFacts
  simp only [Bool.and_eq_true]
  exact ⟨⟨⟨⟨⟨⟨⟨⟨⟨⟨⟨⟨⟨⟨⟨⟨⟨⟨⟨⟨⟨⟨⟨⟨⟨⟨⟨⟨⟨⟨⟨sameJ0, sameJ1⟩, sameJ2⟩, sameJ3⟩, sameJ4⟩, sameJ5⟩, sameJ6⟩, sameJ7⟩, sameJ8⟩, sameJ9⟩, sameJ10⟩, sameJ11⟩, sameJ12⟩, sameJ13⟩, sameJ14⟩, sameJ15⟩, sameJ16⟩, sameJ17⟩, sameJ18⟩, sameJ19⟩, sameJ20⟩, sameJ21⟩, sameJ22⟩, sameJ23⟩, sameJ24⟩, sameJ25⟩, sameJ26⟩, sameJ27⟩, sameJ28⟩, sameJ29⟩, sameJ30⟩, sameJ31⟩
end Go.Proofs.YtpifpihfoaalgaaGreatDoor
