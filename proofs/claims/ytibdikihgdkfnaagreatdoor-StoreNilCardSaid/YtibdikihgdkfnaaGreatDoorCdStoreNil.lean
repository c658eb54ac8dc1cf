/- StoreNil: the law's row, its listed variables tied to the program's text: for every input the call returns true and leaves the input as it was, where the listed variables start as the program's text lays them. -/
import Derived.Test.YtibdikihgdkfnaaGreatDoorRows
import Derived.Test.YtibdikihgdkfnaaGreatDoorSI
import Derived.Test.YtibdikihgdkfnaaGreatDoorSJ
import Derived.Test.YtibdikihgdkfnaaGreatDoorSH
import Derived.WalkKit
import Derived.Deep.Matrix
import Derived.ProofKit
import Derived.OpenShut
import Derived.ShutString
import Derived.ChangeOld
import Derived.Below
import Derived.SizedLaws
import Derived.ChangeSame
import Derived.ChangeVars
import Derived.JoinedOf
import Derived.RowKitTokens
import Derived.LaidLaws
import Derived.LaidHandle
import Derived.Lay
import Derived.LaidSub
import Derived.Lib.LaidTab
import Derived.Deep.DeepLaidRun
import Derived.Stop.Joined
import Derived.SevenTiedAt
import Derived.Test.YtibdikihgdkfnaaGreatDoorTie
import Derived.Test.YtibdikihgdkfnaaGreatDoorCards
import Derived.Test.YtibdikihgdkfnaaGreatDoorWSized
namespace Go.Proofs.YtibdikihgdkfnaaGreatDoor.storeNil
open Go.ChangeShapes Go.WideShapes Go.ChangeAt Go.RowKit
open Go.ChangeMaps (open_string shut_string)
set_option linter.unusedVariables false
theorem own : ownKnob Tryz.prog.godebug = none := by kernel_rfl
theorem laidOut : laidOutB Tryz.prog = true := by kernel_rfl
def IsRow (k : IntKind) (w : World) (a : Option Addr) (len cap : Nat) (zs : List Int) : Prop :=
  (a = none ∧ len = 0 ∧ cap = 0 ∧ zs = []) ∨
  ∃ x, a = some x ∧ len ≤ cap ∧ cap ≤ maxLen ∧ zs.length = cap ∧ (∀ i, i < zs.length → w.cell? (x.add i) = some (.int k (zs.getD i 0))) ∧ ∀ n ∈ zs, (Lit.int k n).wf = true
theorem et : Tryz.prog.globalNamed "errors.errorType" = some 0 := by kernel_rfl
theorem rt : (Tryz.prog.cutTypes.find? (·.1 == "internal/reflectlite.rtype")).map (·.2) = some 231 := by kernel_rfl
theorem oneRow : ((List.range 455).filter fun t => Tryz.prog.rowNamed t [101, 114, 114, 111, 114]) = [57] := by kernel_rfl
theorem tsize : Tryz.prog.types.size = 455 := by kernel_rfl
/-- The listed tables. -/
def tabs : List (String × DataW Unit) := [("math/bits.deBruijn32tab", Rows.laid_math_bits_deBruijn32tab), ("math/bits.deBruijn64tab", Rows.laid_math_bits_deBruijn64tab), ("internal/strconv.uint64pow10", Rows.laid_internal_strconv_uint64pow10), ("estreat/sha.table", Rows.laid_estreat_sha_table), ("estreat/pred.shapes", Rows.laid_estreat_pred_shapes)]
/-- .. and the one variable that holds a type's handle. -/
def hand : List (String × DataW Unit) := [("errors.errorType", Rows.laid_errors_errorType)]
/-- All that the row lists. -/
def listed : List (String × DataW Unit) := [("math/bits.deBruijn32tab", Rows.laid_math_bits_deBruijn32tab), ("math/bits.deBruijn64tab", Rows.laid_math_bits_deBruijn64tab), ("internal/strconv.uint64pow10", Rows.laid_internal_strconv_uint64pow10), ("errors.errorType", Rows.laid_errors_errorType), ("estreat/sha.table", Rows.laid_estreat_sha_table), ("estreat/pred.shapes", Rows.laid_estreat_pred_shapes)]
theorem listed_tabs : (listed.filter fun x => x.2.handleName?.isNone) = tabs := rfl
theorem listed_hand : (listed.filter fun x => x.2.handleName?.isSome) = hand := rfl
theorem parts {W : World} (h : laidMetH Tryz.prog listed W) : laidMet Tryz.prog tabs W ∧ handlesMet Tryz.prog hand W := by
  unfold laidMetH at h
  rw [listed_hand, listed_tabs] at h
  exact h
/-- What the condition gives a walk: the variable's one cell. -/
theorem handle_of_laid {W : World} (h : laidMetH Tryz.prog listed W) : W.cell? ⟨0, 0, none⟩ = some (.iface 231 (.agg #[.pointer (some ⟨6, 57, none⟩)])) := by
  obtain ⟨name, u, ty, e1, e2, e3, e4, e5⟩ := (parts h).2 _ (List.mem_singleton.2 rfl)
  have en : name = [101, 114, 114, 111, 114] := (Option.some.inj e1).symm
  subst en
  obtain rfl := Option.some.inj (rt.symm.trans e2)
  have hm : ty ∈ (List.range 455).filter fun t => Tryz.prog.rowNamed t [101, 114, 114, 111, 114] := List.mem_filter.2 ⟨List.mem_range.2 (by rw [← tsize]; exact e3), e4⟩
  rw [oneRow] at hm
  obtain rfl := List.mem_singleton.1 hm
  have hh : typeHandle Tryz.prog 57 = .pointer (some ⟨6, 57, none⟩) := by kernel_rfl
  rw [hh] at e5
  simpa using World.var?_cell et e5 0
theorem tabs_sha : (tabs.filter fun x => x.1 == "estreat/sha.table") = [("estreat/sha.table", Lib.tabData .u32 Ev.shaNs)] := by kernel_rfl
theorem sha_var : Tryz.prog.globalNamed "estreat/sha.table" = some 2 := by kernel_rfl
/-- .. and the digests' table. -/
theorem sha_of_laid {W : World} (h : laidMetH Tryz.prog listed W) : Ev.ShaT W := by
  have h1 := laidMet.filter (fun x => x.1 == "estreat/sha.table") (parts h).1
  rw [tabs_sha] at h1
  have h2 : W.var? Tryz.prog "estreat/sha.table" = some (Ev.shaNs.map (Value.int .u32)).toArray := Lib.tabIs_of_head (g := 2) (t := 317) (e := 107) (n := 64) sha_var (by kernel_rfl) Tryz.underlying317 Tryz.underlying107 (by kernel_rfl) (by kernel_rfl) h1
  intro i u hu
  have h3 := World.var?_cell sha_var h2 i
  rw [Nat.zero_add, h3]
  rw [Ev.shaVs_eq] at hu
  simpa using hu
/-- A world that meets the condition: the settled one, the variables' cells laid. -/
noncomputable def laidWorld (os : Os) : World :=
  let w0 := World.laidAll Tryz.prog os tabs
  { w0 with heap := w0.heap.modify 0 fun
      | .cells _ t frozen => .cells #[.iface 231 (.agg #[.pointer (some ⟨6, 57, none⟩)])] t frozen
      | o => o }
theorem laidWorld_os (os : Os) : (laidWorld os).os = os := by
  unfold laidWorld
  generalize hw : World.laidAll Tryz.prog os tabs = w0
  have h : w0.os = os := by rw [← hw]; exact World.laidAll_os _ _ _
  exact h
theorem laidWorld_met (os : Os) (args : Array Value) : laidMetH Tryz.prog listed ((laidWorld os).forCall (fun _ _ => 0) ⟨#[], args, []⟩).memory :=
  laidMetH_of_parts (laidMet_of_run' 65 (by kernel_rfl) (by kernel_rfl)) (by kernel_rfl)
set_option maxRecDepth 100000 in
theorem lifted (os : Os) (started : os.Started) (H : Type) (enc : TypeId × Value → H) :
    ReturnsInHanded {} Tryz.checked os 3 .any (fun w args => (Rows.storeNilSpec.pre enc Tryz.prog Tryz.f3 [] false w args ∧ laidMetH Tryz.prog listed w) ∧ sizedMet enc Tryz.prog Tryz.f3 (OpenSpec.ofChange Rows.storeNilSpec) false w args) (Rows.storeNilSpec.post enc Tryz.prog Tryz.f3 false true false false) := by
  refine returnsInHanded_of_change_and (C := Tryz.checked) (X := fun w _ => laidMetH Tryz.prog listed w) (fun _ _ _ hh h => h.of_heap hh) own started (by kernel_rfl) Tryz.func3
    (ChangeSpec.witness_at (enc := enc) (C := Tryz.checked) (os := os) (X := fun w _ => laidMetH Tryz.prog listed w) false (laidWorld os) #[.agg #[.int .i64 0, .slice none 0 0, .int .i64 0, .slice none 0 0, .int .i64 0, .int .i64 0, .slice none 0 0, .slice none 0 0, .int .i64 0, .int .i64 0]] 8 (laidWorld_os os) (by kernel_rfl) (by kernel_rfl) (by kernel_rfl) (by kernel_rfl) (by kernel_rfl) (laidWorld_met os _)) ?_
  intro W base args ds gs before hval0 hW hcnd hsz0 hL _
  have hsz : (DataW.weightsEach Tryz.prog (Tryz.f3.params.toList ++ Rows.storeNilSpec.plain.varTypes Tryz.prog) (ds ++ gs)).all (· ≤ reachBytes) = true := hsz0
  have hval : ∀ (j : Nat) t v, Tryz.f3.params[j]? = some t → args[j]? = some v → Value.okWide Tryz.prog W .any base t v := hval0
  have hW' := hW
  obtain ⟨p, q, hA0, hV, rfl, hfz, hnd⟩ := hW
  have hA : DataW.TrodAll enc Tryz.prog W 0 (fun _ => true) true Tryz.f3.params.toList args.toList ds p := hA0
  rw [Tryz.params3] at hA hval hsz
  obtain ⟨v0, vs0, d0, ds0, p0, q0, hargs, rfl, rfl, h0, r0⟩ := trodAll_cons hA
  obtain ⟨rfl, rfl, rfl⟩ := trodAll_nil r0
  obtain rfl : args = #[v0] := by cases args; simp_all
  obtain ⟨rfl, rfl⟩ := trodVars_none hV
  obtain ⟨xs0, rfl, hn0, ho0⟩ := Go.Proofs.YtibdikihgdkfnaaGreatDoor.Ev.cmd_cells (hval 0 29 v0 rfl rfl)
  have k0 := h0
  have lt0 : ∀ x ∈ p0, x.block < W.heap.size := by obtain ⟨m, hm⟩ := k0; exact DataW.trod_lt m _ _ _ hm
  clear hA0 hval0 hsz0 hsz
  refine (Go.Proofs.YtibdikihgdkfnaaGreatDoor.Ev.nil_call W xs0 hn0 ho0 (sha_of_laid hL) (handle_of_laid hL)).mono fun e W' ⟨he, bel⟩ => ?_
  subst he
  exact ⟨_, rfl, _, _, _, [], _, [], hW', trodAll_mk1 (shut_bool Tryz.underlying4 _), (trodAll_cons_mk (Below.trod laidOut (by kernel_rfl) (of_decide_eq_true (by kernel_rfl)) k0 bel lt0) trodAll_mk0), rfl, bel.frame _, fun h => by cases h⟩
theorem over : Rows.storeNilRow.holds Tryz.pinned (OpenSpec.ofChange Rows.storeNilSpec) :=
  OpenClaim.holds_of_wide 3 Tryz.f3 rfl rfl rfl rfl rfl rfl rfl ⟨rfl, rfl, rfl, rfl, rfl⟩ rfl rfl rfl rfl rfl Facts.c5 Tryz.func3 Facts.closed
    (of_decide_eq_true (by kernel_rfl)) (by unfold Func.isWrapper; first | (rw [if_pos (by decide +kernel)]; kernel_rfl) | (rw [if_neg (by decide +kernel)]; exact ⟨rfl, rfl⟩))
    (fun os started H enc _ => lifted os started H enc)
theorem proved : Rows.StoreNilSaid := over
theorem card_holds : Rows.StoreNilCardSaid :=
  Claim7.holds_tied_plain_at .later [] [.data, .data, .data, .handle, .data, .data] true (true, "4e876f884aa4a5e276fa81eab852b925d938cf6b43266395717a8040f7f47ca8") true
    over (fun _ h => by cases h) Facts.c1 (fun _ h => by cases h) storeNil_row_tie rfl ⟨rfl, rfl⟩ (by kernel_rfl) rfl
    (fun f fn hf hfn => by
      obtain rfl : f = 3 := Option.some.inj (Facts.c5.symm.trans hf) |>.symm
      obtain rfl : fn = Tryz.f3 := (Option.some.inj (Tryz.func3.symm.trans hfn)).symm
      exact ⟨Facts.c2, fun j t ht => by
        rw [Tryz.params3] at ht
        have hm := Array.mem_of_getElem? ht
        simp only [List.mem_toArray, List.mem_cons, List.not_mem_nil, or_false] at hm
        rcases hm with rfl
        · exact Facts.c3⟩)
    Facts.c4
#print axioms card_holds
end Go.Proofs.YtibdikihgdkfnaaGreatDoor.storeNil
namespace Go.Proofs.YtibdikihgdkfnaaGreatDoor
/-- The row, under a short name, for the claim. -/
theorem storeNil_holds : Rows.StoreNilCardSaid := storeNil.card_holds
end Go.Proofs.YtibdikihgdkfnaaGreatDoor
