/- ManifestChunks: the law's row, its listed variables tied to the program's text: for every input the call returns true and leaves the input as it was, where the listed variables start as the program's text lays them. -/
import Derived.Test.YtjmhiklmlgbifaaGreatDoorRows
import Derived.Test.YtjmhiklmlgbifaaGreatDoorCM4
import Derived.WalkKit
import Derived.Deep.Matrix
import Derived.ProofKit
import Derived.OpenShut
import Derived.ShutString
import Derived.ChangeOld
import Derived.Below
import Derived.SizedLaws
import Derived.ChangeSame
import Derived.ChangeVars
import Derived.JoinedOf
import Derived.RowKitTokens
import Derived.LaidLaws
import Derived.LaidHandle
import Derived.Lay
import Derived.Deep.DeepLaidRun
import Derived.Stop.Joined
import Derived.SevenTiedAt
import Derived.Test.YtjmhiklmlgbifaaGreatDoorTie
import Derived.Test.YtjmhiklmlgbifaaGreatDoorCards
import Derived.Test.YtjmhiklmlgbifaaGreatDoorWSized
namespace Go.Proofs.YtjmhiklmlgbifaaGreatDoor.manifestChunks
open Go.ChangeShapes Go.WideShapes Go.ChangeAt Go.RowKit
open Go.ChangeMaps (open_string shut_string)
set_option linter.unusedVariables false
theorem own : ownKnob Tryz.prog.godebug = none := by kernel_rfl
theorem laidOut : laidOutB Tryz.prog = true := by kernel_rfl
def IsRow (k : IntKind) (w : World) (a : Option Addr) (len cap : Nat) (zs : List Int) : Prop :=
  (a = none ∧ len = 0 ∧ cap = 0 ∧ zs = []) ∨
  ∃ x, a = some x ∧ len ≤ cap ∧ cap ≤ maxLen ∧ zs.length = cap ∧ (∀ i, i < zs.length → w.cell? (x.add i) = some (.int k (zs.getD i 0))) ∧ ∀ n ∈ zs, (Lit.int k n).wf = true
theorem et : Tryz.prog.globalNamed "errors.errorType" = some 0 := by kernel_rfl
theorem rt : (Tryz.prog.cutTypes.find? (·.1 == "internal/reflectlite.rtype")).map (·.2) = some 194 := by kernel_rfl
theorem oneRow : ((List.range 266).filter fun t => Tryz.prog.rowNamed t [101, 114, 114, 111, 114]) = [100] := by kernel_rfl
theorem tsize : Tryz.prog.types.size = 266 := by kernel_rfl
/-- The listed tables. -/
def tabs : List (String × DataW Unit) := [("math/bits.deBruijn32tab", Rows.laid_math_bits_deBruijn32tab), ("math/bits.deBruijn64tab", Rows.laid_math_bits_deBruijn64tab), ("internal/strconv.uint64pow10", Rows.laid_internal_strconv_uint64pow10)]
/-- .. and the one variable that holds a type's handle. -/
def hand : List (String × DataW Unit) := [("errors.errorType", Rows.laid_errors_errorType)]
/-- All that the row lists. -/
def listed : List (String × DataW Unit) := [("math/bits.deBruijn32tab", Rows.laid_math_bits_deBruijn32tab), ("math/bits.deBruijn64tab", Rows.laid_math_bits_deBruijn64tab), ("internal/strconv.uint64pow10", Rows.laid_internal_strconv_uint64pow10), ("errors.errorType", Rows.laid_errors_errorType)]
theorem listed_tabs : (listed.filter fun x => x.2.handleName?.isNone) = tabs := rfl
theorem listed_hand : (listed.filter fun x => x.2.handleName?.isSome) = hand := rfl
theorem parts {W : World} (h : laidMetH Tryz.prog listed W) : laidMet Tryz.prog tabs W ∧ handlesMet Tryz.prog hand W := by
  unfold laidMetH at h
  rw [listed_hand, listed_tabs] at h
  exact h
/-- What the condition gives a walk: the variable's one cell. -/
theorem handle_of_laid {W : World} (h : laidMetH Tryz.prog listed W) : W.cell? ⟨0, 0, none⟩ = some (.iface 194 (.agg #[.pointer (some ⟨4, 100, none⟩)])) := by
  obtain ⟨name, u, ty, e1, e2, e3, e4, e5⟩ := (parts h).2 _ (List.mem_singleton.2 rfl)
  have en : name = [101, 114, 114, 111, 114] := (Option.some.inj e1).symm
  subst en
  obtain rfl := Option.some.inj (rt.symm.trans e2)
  have hm : ty ∈ (List.range 266).filter fun t => Tryz.prog.rowNamed t [101, 114, 114, 111, 114] := List.mem_filter.2 ⟨List.mem_range.2 (by rw [← tsize]; exact e3), e4⟩
  rw [oneRow] at hm
  obtain rfl := List.mem_singleton.1 hm
  have hh : typeHandle Tryz.prog 100 = .pointer (some ⟨4, 100, none⟩) := by kernel_rfl
  rw [hh] at e5
  simpa using World.var?_cell et e5 0
/-- A world that meets the condition: the settled one, the variables' cells laid. -/
noncomputable def laidWorld (os : Os) : World :=
  let w0 := World.laidAll Tryz.prog os tabs
  { w0 with heap := w0.heap.modify 0 fun
      | .cells _ t frozen => .cells #[.iface 194 (.agg #[.pointer (some ⟨4, 100, none⟩)])] t frozen
      | o => o }
theorem laidWorld_os (os : Os) : (laidWorld os).os = os := by
  unfold laidWorld
  generalize hw : World.laidAll Tryz.prog os tabs = w0
  have h : w0.os = os := by rw [← hw]; exact World.laidAll_os _ _ _
  exact h
theorem laidWorld_met (os : Os) (args : Array Value) : laidMetH Tryz.prog listed ((laidWorld os).forCall (fun _ _ => 0) ⟨#[], args, []⟩).memory :=
  laidMetH_of_parts (laidMet_of_run' 65 (by kernel_rfl) (by kernel_rfl)) (by kernel_rfl)
set_option maxRecDepth 100000 in
theorem lifted (os : Os) (started : os.Started) (H : Type) (enc : TypeId × Value → H) :
    ReturnsInHanded {} Tryz.checked os 7 .any (fun w args => (Rows.manifestChunksSpec.pre enc Tryz.prog Tryz.f7 [] false w args ∧ laidMetH Tryz.prog listed w) ∧ sizedMet enc Tryz.prog Tryz.f7 (OpenSpec.ofChange Rows.manifestChunksSpec) false w args) (Rows.manifestChunksSpec.post enc Tryz.prog Tryz.f7 false true false false) := by
  refine returnsInHanded_of_change_and (C := Tryz.checked) (X := fun w _ => laidMetH Tryz.prog listed w) (fun _ _ _ hh h => h.of_heap hh) own started (by kernel_rfl) Tryz.func7
    (ChangeSpec.witness_at (enc := enc) (C := Tryz.checked) (os := os) (X := fun w _ => laidMetH Tryz.prog listed w) false (laidWorld os) #[.slice none 0 0, .slice none 0 0, .int .i64 0] 8 (laidWorld_os os) (by kernel_rfl) (by kernel_rfl) (by kernel_rfl) (by kernel_rfl) (by kernel_rfl) (laidWorld_met os _)) ?_
  intro W base args ds gs before hval0 hW hcnd hsz0 hL _
  have hsz : (DataW.weightsEach Tryz.prog (Tryz.f7.params.toList ++ Rows.manifestChunksSpec.plain.varTypes Tryz.prog) (ds ++ gs)).all (· ≤ reachBytes) = true := hsz0
  have hval : ∀ (j : Nat) t v, Tryz.f7.params[j]? = some t → args[j]? = some v → Value.okWide Tryz.prog W .any base t v := hval0
  have hW' := hW
  obtain ⟨p, q, hA0, hV, rfl, hfz, hnd⟩ := hW
  have hA : DataW.TrodAll enc Tryz.prog W 0 (fun _ => true) true Tryz.f7.params.toList args.toList ds p := hA0
  rw [Tryz.params7] at hA hval hsz
  obtain ⟨v0, vs0, d0, ds0, p0, q0, hargs, rfl, rfl, h0, r0⟩ := trodAll_cons hA
  obtain ⟨v1, vs1, d1, ds1, p1, q1, rfl, rfl, rfl, h1, r1⟩ := trodAll_cons r0
  obtain ⟨v2, vs2, d2, ds2, p2, q2, rfl, rfl, rfl, h2, r2⟩ := trodAll_cons r1
  obtain ⟨rfl, rfl, rfl⟩ := trodAll_nil r2
  obtain rfl : args = #[v0, v1, v2] := by cases args; simp_all
  obtain ⟨rfl, rfl⟩ := trodVars_none hV
  obtain ⟨a0, len0, cap0, rfl⟩ := okWide_slice Tryz.underlying50 (hval 0 50 v0 rfl rfl)
  have k0 := h0
  have lt0 : ∀ x ∈ p0, x.block < W.heap.size := by obtain ⟨m, hm⟩ := k0; exact DataW.trod_lt m _ _ _ hm
  obtain ⟨l0, e0, hr0, hc0, hw0⟩ : ∃ l : List (List Int), len0 = l.length ∧ (Go.Proofs.YtjmhiklmlgbifaaGreatDoorW.PrintWords.Kd.slice 5 (Go.Proofs.YtjmhiklmlgbifaaGreatDoorW.PrintWords.Kd.int .u8)).C W a0 l.length l ∧ l.length ≤ cap0 ∧ ∀ x ∈ l, ∀ n ∈ x, (Lit.int .u8 n).wf = true := by
    obtain ⟨fuel, hf⟩ := h0
    rcases Go.Deep.open_int_rows Tryz.underlying50 Tryz.underlying30 Tryz.underlying5 (by kernel_rfl) (by kernel_rfl) hf with ⟨hcs, _⟩ | ⟨x, l, c, B, L, C, Z, hcs, _, hl, hm, _, hcell⟩
    · simp [Value.cells] at hcs
      obtain ⟨rfl, rfl, rfl⟩ := hcs
      exact ⟨[], rfl, ⟨rfl, by simp, fun h => absurd h (by simp)⟩, Nat.zero_le _, fun x hx => by simp at hx⟩
    · simp [Value.cells] at hcs
      obtain ⟨rfl, rfl, rfl⟩ := hcs
      have each : ∀ r, r < cap0 → ∃ l : List Int, W.cell? (x.add r) = some (.slice (B r) l.length (C r)) ∧ l.length ≤ C r ∧ (Go.Proofs.YtjmhiklmlgbifaaGreatDoorW.PrintWords.Kd.int .u8).C W (B r) l.length l ∧ ∀ n ∈ l, (Lit.int .u8 n).wf = true := by
        intro r hr
        obtain ⟨g1, g2, g3, g4, g5, g6, g7⟩ := hcell r hr
        obtain ⟨l, e, q1, _, q3, q4⟩ := Go.Proofs.YtjmhiklmlgbifaaGreatDoorW.PrintWords.ReadsInt.ofRowC (k := .u8) (w := W) (a := B r) (len := L r) (cap := C r) (zs := Z r) (by
          cases hB : B r with
          | none =>
            have c0 := g6 hB
            exact .inl ⟨rfl, by omega, c0, List.length_eq_zero_iff.1 (by omega)⟩
          | some a' => exact .inr ⟨a', rfl, g2, g3, g4, fun i hi => (g7 a' hB).2 i (by omega), g5⟩)
        exact ⟨l, by rw [g1, e], q4, Go.Proofs.YtjmhiklmlgbifaaGreatDoorW.PrintWords.Kd.C_of_reads (d := (0 : Int)) (h1 := fun _ => rfl) q1, q3⟩
      obtain ⟨f, hf⟩ := Go.Deep.choose_lt each
      refine ⟨(List.range len0).map f, by simp, ⟨rfl, by rw [List.length_map, List.length_range]; unfold maxLen at hm; omega, fun _ => ⟨x, rfl, fun j p hj => ?_⟩⟩, by rw [List.length_map, List.length_range]; exact hl, fun p hp => ?_⟩
      · rw [List.getElem?_map, Option.map_eq_some_iff] at hj
        obtain ⟨r, hr, rfl⟩ := hj
        obtain ⟨hjl, rfl⟩ := List.getElem?_eq_some_iff.1 hr
        rw [List.length_range] at hjl
        rw [List.getElem_range]
        obtain ⟨g1, g2, g3, _⟩ := hf j (by omega)
        refine ⟨[.slice (B j) (f j).length (C j)], rfl, ⟨B j, C j, rfl, g2, g3⟩, fun i u hu => ?_⟩
        obtain ⟨hi, rfl⟩ := List.getElem?_eq_some_iff.1 hu
        obtain rfl : i = 0 := by simpa using hi
        show W.cell? (x.add (j * 1 + 0)) = _
        rw [Nat.mul_one, Nat.add_zero, g1]
        rfl
      · obtain ⟨r, hr, rfl⟩ := List.mem_map.1 hp
        exact (hf r (by have := List.mem_range.1 hr; omega)).2.2.2
  subst e0
  obtain ⟨a1, len1, cap1, rfl⟩ := okWide_slice Tryz.underlying30 (hval 1 30 v1 rfl rfl)
  have k1 := h1
  have lt1 : ∀ x ∈ p1, x.block < W.heap.size := by obtain ⟨m, hm⟩ := k1; exact DataW.trod_lt m _ _ _ hm
  obtain ⟨z1, w1⟩ : ∃ zs, IsRow .u8 W a1 len1 cap1 zs := by
    obtain ⟨fuel, hf⟩ := h1
    rcases open_ints Tryz.underlying30 Tryz.underlying5 (by kernel_rfl) hf with ⟨hcs, _⟩ | ⟨x, l, c, zs, hcs, _, hl, hm, hz, _, hcell, hwz⟩
    · simp [Value.cells] at hcs
      obtain ⟨rfl, rfl, rfl⟩ := hcs
      exact ⟨[], .inl ⟨rfl, rfl, rfl, rfl⟩⟩
    · simp [Value.cells] at hcs
      obtain ⟨rfl, rfl, rfl⟩ := hcs
      exact ⟨zs, .inr ⟨_, rfl, hl, hm, by simpa using hz, hcell, hwz⟩⟩
  obtain ⟨a2, rfl, rfl, rfl, w2⟩ := open_int Tryz.underlying3 (hval 2 3 v2 rfl rfl) h2
  clear hA0 hval0 hsz0 hsz
  obtain ⟨l1, rfl, hr1, hm1, hw1, hc1⟩ := Go.Proofs.YtjmhiklmlgbifaaGreatDoorW.PrintWords.ReadsInt.ofRowC w1
  obtain ⟨k, h⟩ := Pure.ManifestChunks l0 l1 a2 hw0 hw1
  refine (PMan.estreatlaw26_ManifestChunks.calls k a0 cap0 l0 a1 cap1 l1 a2 true W hr0 hc0 (Go.Proofs.YtjmhiklmlgbifaaGreatDoorW.PrintWords.Kd.C_of_reads (d := (0 : Int)) (h1 := fun _ => rfl) hr1) hc1 (handle_of_laid hL) h).mono fun e W' ⟨he, bel⟩ => ?_
  subst he
  exact ⟨_, rfl, _, _, _, [], _, [], hW', trodAll_mk1 (shut_bool Tryz.underlying4 _), (trodAll_cons_mk (Below.trod laidOut (by kernel_rfl) (of_decide_eq_true (by kernel_rfl)) k0 bel lt0) (trodAll_cons_mk (Below.trod laidOut (by kernel_rfl) (of_decide_eq_true (by kernel_rfl)) k1 bel lt1) (trodAll_cons_mk (shut_int Tryz.underlying3 w2) trodAll_mk0))), rfl, bel.frame _, fun h => by cases h⟩
theorem over : Rows.manifestChunksRow.holds Tryz.pinned (OpenSpec.ofChange Rows.manifestChunksSpec) :=
  OpenClaim.holds_of_wide 7 Tryz.f7 rfl rfl rfl rfl rfl rfl rfl ⟨rfl, rfl, rfl, rfl, rfl⟩ rfl rfl rfl rfl rfl (by kernel_rfl) Tryz.func7 (by kernel_rfl)
    (of_decide_eq_true (by kernel_rfl)) (by unfold Func.isWrapper; first | (rw [if_pos (by decide +kernel)]; kernel_rfl) | (rw [if_neg (by decide +kernel)]; exact ⟨rfl, rfl⟩))
    (fun os started H enc _ => lifted os started H enc)
theorem proved : Rows.ManifestChunksSaid := over
theorem card_holds : Rows.ManifestChunksCardSaid :=
  Claim7.holds_tied_plain_at .later [] [.data, .data, .data, .handle] true (true, "29190c84d75523b394cb57f5ecebdcb6b6fb6f6993a1afde6c97356ee2811d83") true
    over (fun _ h => by cases h) (by kernel_rfl) (fun _ h => by cases h) manifestChunks_row_tie rfl ⟨rfl, rfl⟩ (by kernel_rfl) rfl
    (fun f fn hf hfn => by
      obtain rfl : f = 7 := Option.some.inj ((show Tryz.prog.funcNamed "estreat/estreatlaw26.ManifestChunks" = some 7 by kernel_rfl).symm.trans hf) |>.symm
      obtain rfl : fn = Tryz.f7 := (Option.some.inj (Tryz.func7.symm.trans hfn)).symm
      exact ⟨by kernel_rfl, fun j t ht => by
        rw [Tryz.params7] at ht
        have hm := Array.mem_of_getElem? ht
        simp only [List.mem_toArray, List.mem_cons, List.not_mem_nil, or_false] at hm
        rcases hm with rfl | rfl | rfl
        · exact (show Tryz.prog.wantsStandIn 50 = false by kernel_rfl)
        · exact (show Tryz.prog.wantsStandIn 30 = false by kernel_rfl)
        · exact (show Tryz.prog.wantsStandIn 3 = false by kernel_rfl)⟩)
    (by kernel_rfl)
#print axioms card_holds
end Go.Proofs.YtjmhiklmlgbifaaGreatDoor.manifestChunks
namespace Go.Proofs.YtjmhiklmlgbifaaGreatDoor
/-- The row, under a short name, for the claim. -/
theorem manifestChunks_holds : Rows.ManifestChunksCardSaid := manifestChunks.card_holds
end Go.Proofs.YtjmhiklmlgbifaaGreatDoor
