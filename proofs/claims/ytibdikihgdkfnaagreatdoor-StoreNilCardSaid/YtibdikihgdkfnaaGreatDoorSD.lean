/- Texts of this proof, put into one: EvXA. -/
import Derived.Test.YtibdikihgdkfnaaGreatDoorSC
section
/- A reckoner: a block's words (run once on unknown bytes). -/
namespace Go.Proofs.YtibdikihgdkfnaaGreatDoor.Ev
set_option linter.unusedVariables false
def turnS : FuncId → Option Sum := fun f => bif f == 218 then some turnG else none
theorem e218 : entersB 218 = true := by kernel_rfl
theorem turnS_ok {Gd : World → Prop} (hG : ∀ w, Gd w → ShaT w) : ∀ f g, turnS f = some g → SumOk Tryz.prog Gd f g ∧ entersB f = true := by
  intro f g h
  unfold turnS at h
  simp only [cond_eq_ite, beq_iff_eq] at h
  split at h
  · rename_i hf
    subst hf
    simp only [Option.some.injEq] at h
    subst h
    exact ⟨turn_ok hG, e218⟩
  · simp at h
set_option maxHeartbeats 0 in
theorem words_run : aggOk .u32 64 (callF turnS 217 [ceV (.slc 0 0 64 64 (some 0))] (rowM 64)) = true := by kernel_rfl
def wordsG : Sum := aggG (fun n => n == 64) false .u32 64
theorem e217 : entersB 217 = true := by kernel_rfl
theorem words_ok {Gd : World → Prop} (hG : ∀ w, Gd w → ShaT w) : SumOk Tryz.prog Gd 217 wordsG :=
  agg_ok hG (turnS_ok hG) (fun n hn => by rw [beq_iff_eq] at hn; subst hn; exact words_run) (fun h => by cases h)
/-- .. the turned words and a block's words told. -/
def wordS : FuncId → Option Sum := fun f => bif f == 217 then some wordsG else turnS f
theorem wordS_ok {Gd : World → Prop} (hG : ∀ w, Gd w → ShaT w) : ∀ f g, wordS f = some g → SumOk Tryz.prog Gd f g ∧ entersB f = true := by
  intro f g h
  unfold wordS at h
  simp only [cond_eq_ite, beq_iff_eq] at h
  split at h
  · rename_i hf
    subst hf
    simp only [Option.some.injEq] at h
    subst h
    exact ⟨words_ok hG, e217⟩
  · exact turnS_ok hG f g h
end Go.Proofs.YtibdikihgdkfnaaGreatDoor.Ev
end
