/- Texts of this proof, put into one: EvAG. -/
import Derived.Test.YtibdikihgdkfnaaGreatDoorSG
section
/- A reckoner, thirty-third part: the law's contract. -/
namespace Go.Proofs.YtibdikihgdkfnaaGreatDoor.Ev
open Go.RowKit Go.Proofs.YtibdikihgdkfnaaGreatDoor.PSto
set_option linter.unusedVariables false
set_option linter.unusedSimpArgs false
def shaNs : List Int := [1116352408, 1899447441, 3049323471, 3921009573, 961987163, 1508970993, 2453635748, 2870763221, 3624381080, 310598401, 607225278, 1426881987, 1925078388, 2162078206, 2614888103, 3248222580, 3835390401, 4022224774, 264347078, 604807628, 770255983, 1249150122, 1555081692, 1996064986, 2554220882, 2821834349, 2952996808, 3210313671, 3336571891, 3584528711, 113926993, 338241895, 666307205, 773529912, 1294757372, 1396182291, 1695183700, 1986661051, 2177026350, 2456956037, 2730485921, 2820302411, 3259730800, 3345764771, 3516065817, 3600352804, 4094571909, 275423344, 430227734, 506948616, 659060556, 883997877, 958139571, 1322822218, 1537002063, 1747873779, 1955562222, 2024104815, 2227730452, 2361852424, 2428436474, 2756734187, 3204031479, 3329325298]
theorem shaVs_eq : shaVs = shaNs.map (Value.int .u32) := rfl
theorem cell_one {P : Program} {w : World} {r : Reach} {base : Nat} {t : TypeId} {v : Value} (h : Cell.okWide P w r base t v) : v.oneCell' = true := by
  cases v with
  | agg cs =>
    exfalso
    revert h
    unfold Cell.okWide Cell.ok
    cases P.underlying t with
    | none => simp
    | some d => cases d <;> simp
  | tuple cs =>
    exfalso
    revert h
    unfold Cell.okWide Cell.ok
    cases P.underlying t with
    | none => simp
    | some d => cases d <;> simp
  | _ => rfl
theorem struct_cells {P : Program} {w : World} {r : Reach} {base : Nat} {t : TypeId} {fs : Array Field} {v : Value} (ht : P.underlying t = some (.struct fs)) (h : Value.okWide P w r base t v) : ∃ us : Array Value, v = .agg us ∧ us.size = P.cellsOf t ∧ ∀ u ∈ us.toList, u.oneCell' = true := by
  simp only [Value.okWide, ht] at h
  obtain ⟨cs, h1, h2, ts, _, _, h3⟩ := h
  refine ⟨cs, h1, h2, fun u hu => ?_⟩
  obtain ⟨i, hi⟩ := List.mem_iff_getElem?.1 hu
  rw [Array.getElem?_toList] at hi
  obtain ⟨t, _, h4⟩ := h3 i u hi
  exact cell_one h4
set_option maxRecDepth 100000 in
theorem cmd_cells {w : World} {r : Reach} {base : Nat} {v : Value} (h : Value.okWide Tryz.prog w r base 29 v) : ∃ us : Array Value, v = .agg us ∧ us.size = 10 ∧ ∀ u ∈ us.toList, u.oneCell' = true := by
  have hc : Tryz.prog.cellsOf 29 = 10 := by kernel_rfl
  obtain ⟨us, h1, h2, h3⟩ := struct_cells Tryz.underlying29 h
  exact ⟨us, h1, h2.trans hc, h3⟩
theorem sha_below {w w' : World} (h : ShaT w) (hb : Below w.heap.size w w') : ShaT w' := by
  have h0 := h 0 _ rfl
  have hlt : 2 < w.heap.size := World.block_lt_of_cell? w _ h0
  intro i u hu
  exact (World.cell?_of_block (a := ⟨2, 0 + i, none⟩) (hb.block 2 hlt)).trans (h i u hu)
/-- The law: true, whatever its argument; nothing that was there is turned. -/
theorem nil_call (w : World) (us : Array Value) (hsz : us.size = 10) (hone : ∀ u ∈ us.toList, u.oneCell' = true) (hs : ShaT w) (he : ErrT w) :
    Calls Tryz.prog 3 #[.agg us] w fun e w' => e = .returned (.bool true) ∧ Below w.heap.size w w' := by
  have hr := nil_run
  cases hq : callF allS 3 [.one (.agg cmdC)] (bare 10) with
  | none => rw [hq] at hr; simp [isTrue] at hr
  | some p =>
    obtain ⟨a, m1⟩ := p
    rw [hq] at hr
    unfold isTrue at hr
    split at hr
    · rename_i b m2 hp
      simp only [Option.some.injEq, Prod.mk.injEq] at hp
      obtain ⟨rfl, rfl⟩ := hp
      subst hr
      have r0 := bare_rel us.toList w
      have hlen : us.toList.length = 10 := by simpa using hsz
      rw [hlen] at r0
      have hR : RL (bareE us.toList) cmdC us.toList := by
        refine RL.of_get (by rw [hlen]; rfl) (fun i c u hc hu => ?_)
        have hci : c = .any i := by
          have key : cmdC = (List.range 10).map Ce.any := rfl
          rw [key, List.getElem?_map] at hc
          obtain ⟨j, hj, rfl⟩ := Option.map_eq_some_iff.1 hc
          obtain ⟨_, hj⟩ := List.getElem?_eq_some_iff.1 hj
          simp at hj
          rw [hj]
        subst hci
        exact ⟨hu, hone u (List.mem_of_getElem? hu)⟩
      have := callF_ok gd_sha allS_ok hq (E := bareE us.toList) (B := w.heap.size) (w := w) (us := [.agg us]) (fun w' hb => ⟨sha_below hs hb, ErrT.of_below he hb⟩) r0 ⟨_, _, rfl, ⟨us.toList, hR, by simp⟩, rfl⟩
      refine this.mono ?_
      rintro e w' ⟨F1, v, rfl, t1, r1, hv⟩
      have hv : v = .bool true := hv.2
      subst hv
      exact ⟨rfl, t1.below r0⟩
    · cases hr
end Go.Proofs.YtibdikihgdkfnaaGreatDoor.Ev
end
