/- The closed facts of the row of queueNone, one by one. -/
import Derived.Test.YtoapkonigbkcgaaGreatDoorTie
import Derived.ProofKit
namespace Go.Proofs.YtoapkonigbkcgaaGreatDoor
open Go
set_option maxRecDepth 100000
theorem j0 : (Rows.queueNoneRow.wf (OpenSpec.ofChange Rows.queueNoneSpec)) = true := by kernel_rfl
theorem j1 : (laidOutB Tryz.prog) = true := by kernel_rfl
theorem j2 : (mapsRowed Tryz.prog) = true := by kernel_rfl
theorem j3 : (Tryz.f12.params.all (Tryz.prog.readableRec ·)) = true := by kernel_rfl
theorem j4 : (namedTie Tryz.prog Rows.queueNoneRow.named Rows.queueNoneSpec.vars) = true := by kernel_rfl
theorem j5 : ((Rows.queueNoneRow.stops == [])) = true := by kernel_rfl
theorem j6 : ((Tryz.prog.stops == [])) = true := by kernel_rfl
theorem j7 : ((Rows.queueNoneRow.knobs == [])) = true := by kernel_rfl
theorem j8 : ((Tryz.prog.stopKnobs == [])) = true := by kernel_rfl
theorem j9 : ((Rows.queueNoneRow.inPlace == Tryz.prog.inPlace 12)) = true := by kernel_rfl
theorem j10 : ((Rows.queueNoneRow.unfollowed == Tryz.prog.unfollowed 12)) = true := by kernel_rfl
theorem j11 : ((Rows.queueNoneRow.recurses == Tryz.prog.recurses 12)) = true := by kernel_rfl
theorem j12 : ((Rows.queueNoneRow.named == Tryz.prog.varsNamed 12)) = true := by kernel_rfl
theorem j13 : ((Rows.queueNoneRow.maps == (Tryz.f12.params.toList ++ Rows.queueNoneSpec.plain.varTypes Tryz.prog).any (Tryz.prog.mapsRec ·))) = true := by kernel_rfl
theorem j14 : ((Rows.queueNoneRow.ifaces == (Tryz.f12.params.toList ++ Rows.queueNoneSpec.plain.varTypes Tryz.prog).any (Tryz.prog.ifacesRec ·))) = true := by kernel_rfl
theorem j15 : ((Rows.queueNoneRow.mapsOut == Tryz.prog.mapsAmong Tryz.f12.resultTypes.toList)) = true := by kernel_rfl
theorem j16 : ((Rows.queueNoneRow.loops == (Tryz.f12.params.toList ++ Rows.queueNoneSpec.plain.varTypes Tryz.prog).any (Tryz.prog.loopsFrom ·))) = true := by kernel_rfl
theorem j17 : ((Rows.queueNoneRow.wideKeys == (Tryz.f12.params.toList ++ Rows.queueNoneSpec.plain.varTypes Tryz.prog ++ Tryz.f12.resultTypes.toList).any (Tryz.prog.wideKeysFrom ·))) = true := by kernel_rfl
theorem j18 : (Rows.queueNoneSpec.vars.all (Tryz.prog.varReadable ·)) = true := by kernel_rfl
theorem j19 : (Tryz.f12.resultTypes.all (fun t => Tryz.prog.readableRec t && decide (t < Tryz.prog.types.size))) = true := by kernel_rfl
theorem j20 : ((Rows.queueNoneRow.ifacesOut == Tryz.f12.resultTypes.toList.any (Tryz.prog.ifacesRec ·))) = true := by kernel_rfl
theorem j21 : ((Rows.queueNoneRow.loopsOut == Tryz.f12.resultTypes.toList.any (Tryz.prog.loopsFrom ·))) = true := by kernel_rfl
theorem j22 : ((Rows.queueNoneRow.plainKeys == Tryz.prog.plainKeys)) = true := by kernel_rfl
theorem j23 : (Rows.queueNoneRow.shortTexts.isNone) = true := by kernel_rfl
theorem j24 : (Tryz.prog.stopsHeard) = true := by kernel_rfl
theorem j25 : (Tryz.prog.mayEnter) = true := by kernel_rfl
theorem j26 : ((Rows.queueNoneRow.lifted == Tryz.prog.liftsFinal)) = true := by kernel_rfl
theorem j27 : ((Tryz.prog.make == some Rows.queueNoneRow.make)) = true := by kernel_rfl
theorem j28 : ((Rows.queueNoneRow.kinds == (if Rows.queueNoneRow.domain.isEmpty then [] else Tryz.f12.params.toList.map fun t => match Tryz.prog.underlying t with | some (.int k) => some k | _ => none))) = true := by kernel_rfl
theorem j29 : ((Rows.queueNoneRow.pinned == Rows.queueNoneRow.pinnedBy)) = true := by kernel_rfl
theorem j30 : ((Rows.queueNoneRow.veiled == (Tryz.f12.params.toList ++ Rows.queueNoneSpec.plain.varTypes Tryz.prog ++ Tryz.f12.resultTypes.toList).any (Tryz.prog.veiledRec ·))) = true := by kernel_rfl
theorem j31 : (Rows.queueNoneRow.veiledFits Tryz.prog Tryz.f12.params.toList (Tryz.f12.params.toList ++ Rows.queueNoneSpec.plain.varTypes Tryz.prog ++ Tryz.f12.resultTypes.toList)) = true := by kernel_rfl
theorem and2 {a b : Bool} (h : a = true) (k : b = true) : (a && b) = true := by rw [h, k]; rfl
theorem joined : joinedFacts Tryz.prog 12 Tryz.f12 Rows.queueNoneSpec Rows.queueNoneRow = true := (and2 (and2 (and2 (and2 (and2 (and2 (and2 (and2 (and2 (and2 (and2 (and2 (and2 (and2 (and2 (and2 (and2 (and2 (and2 (and2 (and2 (and2 (and2 (and2 (and2 (and2 (and2 (and2 (and2 (and2 (and2 j0 j1) j2) j3) j4) j5) j6) j7) j8) j9) j10) j11) j12) j13) j14) j15) j16) j17) j18) j19) j20) j21) j22) j23) j24) j25) j26) j27) j28) j29) j30) j31)
end Go.Proofs.YtoapkonigbkcgaaGreatDoor
