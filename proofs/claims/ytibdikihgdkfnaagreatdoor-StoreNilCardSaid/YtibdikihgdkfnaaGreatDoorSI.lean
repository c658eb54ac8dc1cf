/- Texts of this proof, put into one: EvFa. -/
import Derived.Test.YtibdikihgdkfnaaGreatDoorRows
import Derived.JoinedOf
import Derived.KernelRfl
section
/- The closed facts of the row, each by a kernel check of its own. -/
namespace Go.Proofs.YtibdikihgdkfnaaGreatDoor.Facts
set_option linter.unusedVariables false
theorem k1 : (Rows.storeNilRow.wf (OpenSpec.ofChange Rows.storeNilSpec)) = true := by kernel_rfl
theorem k2 : (laidOutB Tryz.prog) = true := by kernel_rfl
theorem k3 : (mapsRowed Tryz.prog) = true := by kernel_rfl
theorem k4 : (Tryz.f3.params.all (Tryz.prog.readableRec ·)) = true := by kernel_rfl
theorem k5 : (namedTie Tryz.prog Rows.storeNilRow.named Rows.storeNilSpec.vars) = true := by kernel_rfl
theorem k6 : ((Rows.storeNilRow.stops == [])) = true := by kernel_rfl
theorem k7 : ((Tryz.prog.stops == [])) = true := by kernel_rfl
theorem k8 : ((Rows.storeNilRow.knobs == [])) = true := by kernel_rfl
theorem k9 : ((Tryz.prog.stopKnobs == [])) = true := by kernel_rfl
theorem k10 : ((Rows.storeNilRow.inPlace == Tryz.prog.inPlace 3)) = true := by kernel_rfl
theorem k11 : ((Rows.storeNilRow.unfollowed == Tryz.prog.unfollowed 3)) = true := by kernel_rfl
theorem k12 : ((Rows.storeNilRow.recurses == Tryz.prog.recurses 3)) = true := by kernel_rfl
theorem k13 : ((Rows.storeNilRow.named == Tryz.prog.varsNamed 3)) = true := by kernel_rfl
theorem k14 : ((Rows.storeNilRow.maps == (Tryz.f3.params.toList ++ Rows.storeNilSpec.plain.varTypes Tryz.prog).any (Tryz.prog.mapsRec ·))) = true := by kernel_rfl
theorem k15 : ((Rows.storeNilRow.ifaces == (Tryz.f3.params.toList ++ Rows.storeNilSpec.plain.varTypes Tryz.prog).any (Tryz.prog.ifacesRec ·))) = true := by kernel_rfl
theorem k16 : ((Rows.storeNilRow.mapsOut == Tryz.prog.mapsAmong Tryz.f3.resultTypes.toList)) = true := by kernel_rfl
theorem k17 : ((Rows.storeNilRow.loops == (Tryz.f3.params.toList ++ Rows.storeNilSpec.plain.varTypes Tryz.prog).any (Tryz.prog.loopsFrom ·))) = true := by kernel_rfl
theorem k18 : ((Rows.storeNilRow.wideKeys == (Tryz.f3.params.toList ++ Rows.storeNilSpec.plain.varTypes Tryz.prog ++ Tryz.f3.resultTypes.toList).any (Tryz.prog.wideKeysFrom ·))) = true := by kernel_rfl
theorem k19 : (Rows.storeNilSpec.vars.all (Tryz.prog.varReadable ·)) = true := by kernel_rfl
theorem k20 : (Tryz.f3.resultTypes.all (fun t => Tryz.prog.readableRec t && decide (t < Tryz.prog.types.size))) = true := by kernel_rfl
theorem k21 : ((Rows.storeNilRow.ifacesOut == Tryz.f3.resultTypes.toList.any (Tryz.prog.ifacesRec ·))) = true := by kernel_rfl
theorem k22 : ((Rows.storeNilRow.loopsOut == Tryz.f3.resultTypes.toList.any (Tryz.prog.loopsFrom ·))) = true := by kernel_rfl
theorem k23 : ((Rows.storeNilRow.plainKeys == Tryz.prog.plainKeys)) = true := by kernel_rfl
theorem k24 : (Rows.storeNilRow.shortTexts.isNone) = true := by kernel_rfl
theorem k25 : (Tryz.prog.stopsHeard) = true := by kernel_rfl
theorem k26 : (Tryz.prog.mayEnter) = true := by kernel_rfl
theorem k27 : ((Rows.storeNilRow.lifted == Tryz.prog.liftsFinal)) = true := by kernel_rfl
theorem k28 : ((Tryz.prog.make == some Rows.storeNilRow.make)) = true := by kernel_rfl
theorem k29 : ((Rows.storeNilRow.kinds == (if Rows.storeNilRow.domain.isEmpty then [] else Tryz.f3.params.toList.map fun t => match Tryz.prog.underlying t with | some (.int k) => some k | _ => none))) = true := by kernel_rfl
theorem k30 : ((Rows.storeNilRow.pinned == Rows.storeNilRow.pinnedBy)) = true := by kernel_rfl
theorem k31 : ((Rows.storeNilRow.veiled == (Tryz.f3.params.toList ++ Rows.storeNilSpec.plain.varTypes Tryz.prog ++ Tryz.f3.resultTypes.toList).any (Tryz.prog.veiledRec ·))) = true := by kernel_rfl
theorem k32 : (Rows.storeNilRow.veiledFits Tryz.prog Tryz.f3.params.toList (Tryz.f3.params.toList ++ Rows.storeNilSpec.plain.varTypes Tryz.prog ++ Tryz.f3.resultTypes.toList)) = true := by kernel_rfl
theorem both {a b : Bool} (h : a = true) (k : b = true) : (a && b) = true := by rw [h, k]; rfl
set_option maxRecDepth 1000000 in
theorem closed : joinedFacts Tryz.prog 3 Tryz.f3 Rows.storeNilSpec Rows.storeNilRow = true := by
  unfold joinedFacts
  exact (both (both (both (both (both (both (both (both (both (both (both (both (both (both (both (both (both (both (both (both (both (both (both (both (both (both (both (both (both (both (both k1 k2) k3) k4) k5) k6) k7) k8) k9) k10) k11) k12) k13) k14) k15) k16) k17) k18) k19) k20) k21) k22) k23) k24) k25) k26) k27) k28) k29) k30) k31) k32)
end Go.Proofs.YtibdikihgdkfnaaGreatDoor.Facts
end
