/- Texts of this proof, put into one, without what it does not use: ManD, ManF. -/
import Derived.Test.YtjmhiklmlgbifaaGreatDoorPB20
import Derived.Outline
import Derived.Test.YtjmhiklmlgbifaaGreatDoorPB16
import Derived.Test.YtjmhiklmlgbifaaGreatDoorPB19
section
namespace Go.Proofs.YtjmhiklmlgbifaaGreatDoor.PMan
open Go.RowKit Go.Proofs.YtjmhiklmlgbifaaGreatDoorW.PrintWords Go.Proofs.YtjmhiklmlgbifaaGreatDoorW.PrintLast Go.Proofs.YtjmhiklmlgbifaaGreatDoorW.PrintMore
attribute [local go_sem] max2_int min2_int max_two min_two max_three min_three max_four min_four   -- for this text's walks alone
set_option linter.unusedVariables false
set_option linter.unusedSimpArgs false
theorem m_pv (v : Value) (l : List Int) (x : Int) (t : List Int) (w0 w : World) (hB : Below w0.heap.size w0 w) (ho : Kd.R (Kd.int .u8) 5 w w0.heap.size (fun _ => True) v l) (h : num_PutVar.f 2 l x = some t) :
    Calls Tryz.prog 29 #[v, .int .u64 x] w fun e w' => ∃ v' : Value, e = .returned v' ∧ Kd.R (Kd.int .u8) 5 w' w0.heap.size (fun _ => True) v' t ∧ Below w0.heap.size w0 w' := by
  refine (num_PutVar.calls 2 (fun _ => True) v l x t w0 w hB ho h).mono ?_
  rintro e w' ⟨v', rfl, hr, hb, _⟩
  exact ⟨v', rfl, Kd.R_mono hr (fun _ _ => trivial), hb⟩
set_option maxHeartbeats 1600000 in
set_option maxRecDepth 100000 in
theorem m_putrows (v : Value) (l t : List Int) (w0 w : World) (hB : Below w0.heap.size w0 w) (ho : Kd.R (Kd.int .u8) 5 w w0.heap.size (fun _ => True) v l) (h : num_PutVar.f 2 l 0 = some t) :
    Calls Tryz.prog 33 #[v, .slice none 0 0] w fun e w' => ∃ v' : Value, e = .returned v' ∧ Kd.R (Kd.int .u8) 5 w' w0.heap.size (fun _ => True) v' t ∧ Below w0.heap.size w0 w' := by
  have HB := Aside0.mk hB
  have HO := Aside0.mk ho
  have HF := Aside0.mk h
  clear hB ho h
  go_enter Tryz.func33, Tryz.ntmps33
  go_wp2_with fail
  refine (m_pv v l 0 t w0 w HB.out HO.out HF.out).mono ?_
  rintro e w1 ⟨v', rfl, hr, hb⟩
  have HR := Aside0.mk hr
  have HB1 := Aside0.mk hb
  clear hr hb
  go_wp2
  go_rounds 1
  go_ret
  exact ⟨_, rfl, HR.out, HB1.out⟩
/-- The bytes in the least manifest's frame. -/
def leastL : List Int := [0, 0, 1, 1, 1, 0, 0, 0, 0, 1] ++ List.replicate 65 0
/-- The least manifest's file. -/
def leastF : List Int := match frame_Put.f 5 leastL with | some (x, _) => x | none => []
theorem leastF_is : frame_Put.f 5 leastL = some (leastF, 0) := by decide +kernel
theorem m_schemaBytes : value_PutSchema.f 5 [⟨1, false, -1⟩] = some [1, 1, 0, 0] := by decide +kernel
set_option maxHeartbeats 4000000 in
set_option maxRecDepth 100000 in
theorem m_put (s cs e ce : Nat) (w : World) (hM : ManP w s cs e ce) : Calls Tryz.prog 10 #[ManV s cs e ce] w fun ev w' => ∃ v : Value, ev = .returned (.tuple #[v, .int .i64 0]) ∧ Kd.R (Kd.int .u8) 5 w' w.heap.size (fun _ => True) v leastF ∧ Below w.heap.size w w' := by
  have HM := Aside0.mk hM
  clear hM
  unfold ManV
  go_enter Tryz.func10, Tryz.ntmps10
  go_wp2_with fail
  have hx0 : (w.alloc (.cells #[.int .i64 0, .int .i64 0, .slice (some ⟨s, 0, none⟩) 1 cs, .int .i64 1, .slice none 0 0, .slice none 0 0, .slice (some ⟨e, 0, none⟩) 1 ce] 27)).heap[w.heap.size]? = some (.cells #[.int .i64 0, .int .i64 0, .slice (some ⟨s, 0, none⟩) 1 cs, .int .i64 1, .slice none 0 0, .slice none 0 0, .slice (some ⟨e, 0, none⟩) 1 ce] 27 (0, 0)) := heap_alloc_new w _
  have hb0 : Below w.heap.size w (w.alloc (.cells #[.int .i64 0, .int .i64 0, .slice (some ⟨s, 0, none⟩) 1 cs, .int .i64 1, .slice none 0 0, .slice none 0 0, .slice (some ⟨e, 0, none⟩) 1 ce] 27)) := below_alloc (Below.refl _ _) _
  have HX := Aside0.mk hx0
  have HB0 := Aside0.mk hb0
  have HM0 := Aside0.mk (HM.out.below hb0)
  clear hx0 hb0
  generalize w.alloc (.cells #[.int .i64 0, .int .i64 0, .slice (some ⟨s, 0, none⟩) 1 cs, .int .i64 1, .slice none 0 0, .slice none 0 0, .slice (some ⟨e, 0, none⟩) 1 ce] 27) = W0 at *
  refine (m_check s cs e ce W0 HM0.out).mono ?_
  rintro ev w1 ⟨rfl, hb⟩
  have hx2 : w1.drew.heap[w.heap.size]? = some (.cells #[.int .i64 0, .int .i64 0, .slice (some ⟨s, 0, none⟩) 1 cs, .int .i64 1, .slice none 0 0, .slice none 0 0, .slice (some ⟨e, 0, none⟩) 1 ce] 27 (0, 0)) := (hb.block _ (blk_lt HX.out)).trans HX.out
  have HB1 := Aside0.mk (below_drew hb)
  have HM1 := Aside0.mk (HM0.out.below (below_drew hb))
  have hbw : Below w.heap.size w w1.drew := HB0.out.trans ((below_drew hb).mono HB0.out.size)
  have HBW := Aside0.mk hbw
  clear hb hbw
  go_wp2_with fail
  have q0 : w1.drew.cell? ⟨w.heap.size, 0, none⟩ = some (.int .i64 0) := blk_cell hx2 0
  have Q0 := Aside0.mk q0
  have q1 : w1.drew.cell? ⟨w.heap.size, 1, none⟩ = some (.int .i64 0) := blk_cell hx2 1
  have Q1 := Aside0.mk q1
  have q2 : w1.drew.cell? ⟨w.heap.size, 2, none⟩ = some (.slice (some ⟨s, 0, none⟩) 1 cs) := blk_cell hx2 2
  have Q2 := Aside0.mk q2
  have q3 : w1.drew.cell? ⟨w.heap.size, 3, none⟩ = some (.int .i64 1) := blk_cell hx2 3
  have Q3 := Aside0.mk q3
  have q4 : w1.drew.cell? ⟨w.heap.size, 4, none⟩ = some (.slice none 0 0) := blk_cell hx2 4
  have Q4 := Aside0.mk q4
  have q5 : w1.drew.cell? ⟨w.heap.size, 5, none⟩ = some (.slice none 0 0) := blk_cell hx2 5
  have Q5 := Aside0.mk q5
  have q6 : w1.drew.cell? ⟨w.heap.size, 6, none⟩ = some (.slice (some ⟨e, 0, none⟩) 1 ce) := blk_cell hx2 6
  have Q6 := Aside0.mk q6
  clear hx2
  clear HB1 HX
  refine start_ (n := 13) (S := fun w' => w'.cell? ⟨w.heap.size, 0, none⟩ = some (.int .i64 0) ∧ w'.cell? ⟨w.heap.size, 1, none⟩ = some (.int .i64 0) ∧ w'.cell? ⟨w.heap.size, 3, none⟩ = some (.int .i64 1)) (ds := []) #[false, false, false, false, false, false, false, false, false, false, false, false, false] (by kernel_rfl) rfl rfl ⟨q0, q1, q3⟩ (fun hHeld => ?_)
  generalize w1.drew = W2 at *
  refine pure_ (i := 0) (N := some 15) (v := ?_) (a' := ?_) #[true, false, false, false, false, false, false, false, false, false, false, false, false] rfl rfl (by kernel_rfl) (fun _ _ _ h => h) (Or.inl ⟨by rfl, ?_⟩) ?_ ?_
  rotate_left
  · intro w'
    go_simp
    with_reducible rfl
  rotate_left
  · simp only [Act.put, List.setIfInBounds_toArray, List.set_cons_zero, List.set_cons_succ, i64_w, i32_w]
    rfl
  refine pure_ (i := 4) (N := some 19) (v := ?_) (a' := ?_) #[true, false, false, false, true, false, false, false, false, false, false, false, false] rfl rfl (by kernel_rfl) (fun _ _ _ h => h) (Or.inl ⟨by rfl, ?_⟩) ?_ ?_
  rotate_left
  · intro w'
    go_simp
    with_reducible rfl
  rotate_left
  · simp only [Act.put, List.setIfInBounds_toArray, List.set_cons_zero, List.set_cons_succ, i64_w, i32_w]
    rfl
  refine pure_ (i := 8) (N := some 23) (v := ?_) (a' := ?_) #[true, false, false, false, true, false, false, false, true, false, false, false, false] rfl rfl (by kernel_rfl) (fun _ _ _ h => h) (Or.inl ⟨by rfl, ?_⟩) ?_ ?_
  rotate_left
  · intro w'
    go_simp
    with_reducible rfl
  rotate_left
  · simp only [Act.put, List.setIfInBounds_toArray, List.set_cons_zero, List.set_cons_succ, i64_w, i32_w]
    rfl
  refine take_ (i := 1) (N := some 16) (v := ?_) (a' := ?_) #[true, true, false, false, true, false, false, false, true, false, false, false, false] rfl rfl (by kernel_rfl) (fun _ _ _ h => h) (Or.inl ⟨by rfl, ?_⟩) hHeld ?_ ?_
  rotate_left
  · rintro w' ⟨s0, s1, s2⟩
    go_simp
    with_reducible rfl
  rotate_left
  · simp only [Act.put, List.setIfInBounds_toArray, List.set_cons_zero, List.set_cons_succ, i64_w, i32_w]
    rfl
  refine pure_ (i := 2) (N := some 17) (v := ?_) (a' := ?_) #[true, true, true, false, true, false, false, false, true, false, false, false, false] rfl rfl (by kernel_rfl) (fun _ _ _ h => h) (Or.inl ⟨by rfl, ?_⟩) ?_ ?_
  rotate_left
  · intro w'
    go_simp
    with_reducible rfl
  rotate_left
  · simp only [Act.put, List.setIfInBounds_toArray, List.set_cons_zero, List.set_cons_succ, i64_w, i32_w]
    rfl
  refine take_ (i := 5) (N := some 20) (v := ?_) (a' := ?_) #[true, true, true, false, true, true, false, false, true, false, false, false, false] rfl rfl (by kernel_rfl) (fun _ _ _ h => h) (Or.inl ⟨by rfl, ?_⟩) hHeld ?_ ?_
  rotate_left
  · rintro w' ⟨s0, s1, s2⟩
    go_simp
    with_reducible rfl
  rotate_left
  · simp only [Act.put, List.setIfInBounds_toArray, List.set_cons_zero, List.set_cons_succ, i64_w, i32_w]
    rfl
  refine pure_ (i := 6) (N := some 21) (v := ?_) (a' := ?_) #[true, true, true, false, true, true, true, false, true, false, false, false, false] rfl rfl (by kernel_rfl) (fun _ _ _ h => h) (Or.inl ⟨by rfl, ?_⟩) ?_ ?_
  rotate_left
  · intro w'
    go_simp
    with_reducible rfl
  rotate_left
  · simp only [Act.put, List.setIfInBounds_toArray, List.set_cons_zero, List.set_cons_succ, i64_w, i32_w]
    rfl
  refine take_ (i := 9) (N := some 24) (v := ?_) (a' := ?_) #[true, true, true, false, true, true, true, false, true, true, false, false, false] rfl rfl (by kernel_rfl) (fun _ _ _ h => h) (Or.inl ⟨by rfl, ?_⟩) hHeld ?_ ?_
  rotate_left
  · rintro w' ⟨s0, s1, s2⟩
    go_simp
    with_reducible rfl
  rotate_left
  · simp only [Act.put, List.setIfInBounds_toArray, List.set_cons_zero, List.set_cons_succ, i64_w, i32_w]
    rfl
  refine pure_ (i := 10) (N := some 25) (v := ?_) (a' := ?_) #[true, true, true, false, true, true, true, false, true, true, true, false, false] rfl rfl (by kernel_rfl) (fun _ _ _ h => h) (Or.inl ⟨by rfl, ?_⟩) ?_ ?_
  rotate_left
  · intro w'
    go_simp
    with_reducible rfl
  rotate_left
  · simp only [Act.put, List.setIfInBounds_toArray, List.set_cons_zero, List.set_cons_succ, i64_w, i32_w]
    rfl
  refine one_ (i := 3) (N := some 18) #[true, true, true, true, true, true, true, false, true, true, true, false, false] rfl rfl (by kernel_rfl) (by decide) (fun K hK => ?_)
  refine goes_ Tryz.func29 (by kernel_rfl) rfl #[(.slice none 0 0), .int .u64 0] (by rfl) rfl rfl (by simp only [List.map_toArray, List.map_cons, List.map_nil]; rfl) ?_
  with_reducible refine (m_pv (.slice none 0 0) [] 0 [0] W2 W2 (Below.refl _ _) (Kd.R_nil _ _ _ _ _) (by decide +kernel)).mono ?_
  rintro e wa ⟨va, rfl, hoa, hba⟩
  refine ⟨_, rfl, ?_⟩
  have HOa := Aside0.mk hoa
  have HBa := Aside0.mk hba
  clear hoa hba
  have q0 := pw_cell_below HBa.out Q0.out
  have q1 := pw_cell_below HBa.out Q1.out
  have q3 := pw_cell_below HBa.out Q3.out
  have q4 := pw_cell_below HBa.out Q4.out
  have q5 := pw_cell_below HBa.out Q5.out
  have q6 := pw_cell_below HBa.out Q6.out
  refine hK.out _ _ ⟨q0, q1, q3⟩ (fun hHeld => ?_)
  clear hK K
  refine norm_ (a' := ?_) ?_ ?_
  rotate_left
  · show Act.put _ (some 18) _ = _
    simp only [Act.put, List.setIfInBounds_toArray, List.set_cons_zero, List.set_cons_succ, i64_w, i32_w]
    rfl
  refine one_ (i := 7) (N := some 22) #[true, true, true, true, true, true, true, true, true, true, true, false, false] rfl rfl (by kernel_rfl) (by decide) (fun K hK => ?_)
  refine goes_ Tryz.func29 (by kernel_rfl) rfl #[va, .int .u64 0] (by rfl) rfl rfl (by simp only [List.map_toArray, List.map_cons, List.map_nil]; rfl) ?_
  with_reducible refine (m_pv va [0] 0 [0, 0] W2 wa HBa.out HOa.out (by decide +kernel)).mono ?_
  rintro e wb ⟨vb, rfl, hob, hbb⟩
  refine ⟨_, rfl, ?_⟩
  have HOb := Aside0.mk hob
  have HBb := Aside0.mk hbb
  clear hob hbb
  have q0 := pw_cell_below HBb.out Q0.out
  have q1 := pw_cell_below HBb.out Q1.out
  have q3 := pw_cell_below HBb.out Q3.out
  have q4 := pw_cell_below HBb.out Q4.out
  have q5 := pw_cell_below HBb.out Q5.out
  have q6 := pw_cell_below HBb.out Q6.out
  refine hK.out _ _ ⟨q0, q1, q3⟩ (fun hHeld => ?_)
  clear hK K
  refine norm_ (a' := ?_) ?_ ?_
  rotate_left
  · show Act.put _ (some 22) _ = _
    simp only [Act.put, List.setIfInBounds_toArray, List.set_cons_zero, List.set_cons_succ, i64_w, i32_w]
    rfl
  refine one_ (i := 11) (N := some 26) #[true, true, true, true, true, true, true, true, true, true, true, true, false] rfl rfl (by kernel_rfl) (by decide) (fun K hK => ?_)
  refine goes_ Tryz.func29 (by kernel_rfl) rfl #[vb, .int .u64 1] (by rfl) rfl rfl (by simp only [List.map_toArray, List.map_cons, List.map_nil]; rfl) ?_
  with_reducible refine (m_pv vb [0, 0] 1 [0, 0, 1] W2 wb HBb.out HOb.out (by decide +kernel)).mono ?_
  rintro e wc ⟨vc, rfl, hoc, hbc⟩
  refine ⟨_, rfl, ?_⟩
  have HOc := Aside0.mk hoc
  have HBc := Aside0.mk hbc
  clear hoc hbc
  have q0 := pw_cell_below HBc.out Q0.out
  have q1 := pw_cell_below HBc.out Q1.out
  have q3 := pw_cell_below HBc.out Q3.out
  have q4 := pw_cell_below HBc.out Q4.out
  have q5 := pw_cell_below HBc.out Q5.out
  have q6 := pw_cell_below HBc.out Q6.out
  refine hK.out _ _ ⟨q0, q1, q3⟩ (fun hHeld => ?_)
  clear hK K
  refine norm_ (a' := ?_) ?_ ?_
  rotate_left
  · show Act.put _ (some 26) _ = _
    simp only [Act.put, List.setIfInBounds_toArray, List.set_cons_zero, List.set_cons_succ, i64_w, i32_w]
    rfl
  refine pure_ (i := 12) (N := some 5) (v := ?_) (a' := ?_) #[true, true, true, true, true, true, true, true, true, true, true, true, true] rfl rfl (by kernel_rfl) (fun _ _ _ h => h) (Or.inl ⟨by rfl, ?_⟩) ?_ ?_
  rotate_left
  · intro w'
    go_simp
    with_reducible rfl
  rotate_left
  · simp only [Act.put, List.setIfInBounds_toArray, List.set_cons_zero, List.set_cons_succ, i64_w, i32_w]
    rfl
  refine done_ (by kernel_rfl) ?_
  have HMc := Aside0.mk (HM1.out.below HBc.out)
  have q2 := pw_cell_below HBc.out Q2.out
  go_wp2_with fail
  refine (value_PutSchema.calls 5 (some ⟨s, 0, none⟩) cs [⟨1, false, -1⟩] [1, 1, 0, 0] wc HMc.out.2.2.1 HMc.out.1 m_schemaBytes).mono ?_
  rintro e' wd ⟨vd, rfl, hr, hb⟩
  obtain ⟨Ad, cd, rfl⟩ := Kd.R_slice hr
  have HBd := Aside0.mk (HBc.out.trans (hb.mono HBc.out.size))
  have HOd := Aside0.mk (Kd.R_below HOc.out hb)
  have HRd := Aside0.mk (Kd.R_reads' hr).2.2
  clear hr hb
  have q0 := pw_cell_below HBd.out Q0.out
  have q1 := pw_cell_below HBd.out Q1.out
  have q3 := pw_cell_below HBd.out Q3.out
  have q4 := pw_cell_below HBd.out Q4.out
  have q5 := pw_cell_below HBd.out Q5.out
  have q6 := pw_cell_below HBd.out Q6.out
  go_wp2_with ((with_reducible refine gate_builtin (b := .append) (xs := #[.tmp 27, .tmp 30]) rfl ?_); at_builtin; refine Kd.R_append_rows (Kd.int .u8) (w0 := W2) W2.heap.size rfl (.tmp 27) (.tmp 30) 30 5 (.int .u8 0) 1 rfl Tryz.underlying30 info5 rfl (by decide) (by omega) vc [0, 0, 1] [1, 1, 0, 0] _ _ _ (fun _ => True) (fun _ => False) rfl rfl HOd.out HRd.out (fun _ _ h => h) (fun _ h => h.elim) (fun _ _ => trivial) HBd.out HBd.out.size (by decide) ?_; intro ve we ho hb hg hat; have HOe := Aside0.mk ho; have HBe := Aside0.mk hb; clear ho hb hg hat; have q0 := pw_cell_below HBe.out Q0.out; have q1 := pw_cell_below HBe.out Q1.out; have q3 := pw_cell_below HBe.out Q3.out; have q4 := pw_cell_below HBe.out Q4.out; have q5 := pw_cell_below HBe.out Q5.out; have q6 := pw_cell_below HBe.out Q6.out)
  refine (m_pv ve ([0, 0, 1] ++ [1, 1, 0, 0]) 0 ([0, 0, 1, 1, 1, 0, 0] ++ [0]) W2 we HBe.out HOe.out (by decide +kernel)).mono ?_
  rintro e' wf ⟨vf, rfl, hr, hb⟩
  have HBf0 := Aside0.mk hb
  have HBf := Aside0.mk (below_drew hb)
  have HOf := Aside0.mk (Kd.R_below hr (below_drew (Below.refl _ wf)))
  clear hr hb
  have q0 := pw_cell_below HBf0.out Q0.out
  have q1 := pw_cell_below HBf0.out Q1.out
  have q3 := pw_cell_below HBf0.out Q3.out
  have q4 := pw_cell_below HBf0.out Q4.out
  have q5 := pw_cell_below HBf0.out Q5.out
  have q6 := pw_cell_below HBf0.out Q6.out
  go_wp2_with fail
  refine wp_loop_rounds 1 ?_
  rw [rounds_succ]
  go_wp2_with fail
  have q0 := pw_cell_below HBf.out Q0.out
  have q1 := pw_cell_below HBf.out Q1.out
  have q3 := pw_cell_below HBf.out Q3.out
  have q4 := pw_cell_below HBf.out Q4.out
  have q5 := pw_cell_below HBf.out Q5.out
  have q6 := pw_cell_below HBf.out Q6.out
  refine start_ (n := 10) (S := fun w' => w'.cell? ⟨w.heap.size, 5, none⟩ = some (.slice none 0 0) ∧ w'.cell? ⟨w.heap.size, 6, none⟩ = some (.slice (some ⟨e, 0, none⟩) 1 ce)) (ds := []) #[false, false, false, false, false, false, false, false, false, false] (by kernel_rfl) rfl rfl ⟨q5, q6⟩ (fun hHeld => ?_)
  refine pure_ (i := 0) (N := some 59) (v := ?_) (a' := ?_) #[true, false, false, false, false, false, false, false, false, false] rfl rfl (by kernel_rfl) (fun _ _ _ h => h) (Or.inl ⟨by rfl, ?_⟩) ?_ ?_
  rotate_left
  · intro w'
    go_simp
    with_reducible rfl
  rotate_left
  · simp only [Act.put, List.setIfInBounds_toArray, List.set_cons_zero, List.set_cons_succ, i64_w, i32_w]
    rfl
  refine pure_ (i := 1) (N := some 60) (v := ?_) (a' := ?_) #[true, true, false, false, false, false, false, false, false, false] rfl rfl (by kernel_rfl) (fun _ _ _ h => h) (Or.inl ⟨by rfl, ?_⟩) ?_ ?_
  rotate_left
  · intro w'
    go_simp
    with_reducible rfl
  rotate_left
  · simp only [Act.put, List.setIfInBounds_toArray, List.set_cons_zero, List.set_cons_succ, i64_w, i32_w]
    rfl
  refine pure_ (i := 4) (N := some 63) (v := ?_) (a' := ?_) #[true, true, false, false, true, false, false, false, false, false] rfl rfl (by kernel_rfl) (fun _ _ _ h => h) (Or.inl ⟨by rfl, ?_⟩) ?_ ?_
  rotate_left
  · intro w'
    go_simp
    with_reducible rfl
  rotate_left
  · simp only [Act.put, List.setIfInBounds_toArray, List.set_cons_zero, List.set_cons_succ, i64_w, i32_w]
    rfl
  refine take_ (i := 2) (N := some 61) (v := ?_) (a' := ?_) #[true, true, true, false, true, false, false, false, false, false] rfl rfl (by kernel_rfl) (fun _ _ _ h => h) (Or.inl ⟨by rfl, ?_⟩) hHeld ?_ ?_
  rotate_left
  · rintro w' ⟨s0, s1⟩
    go_simp
    with_reducible rfl
  rotate_left
  · simp only [Act.put, List.setIfInBounds_toArray, List.set_cons_zero, List.set_cons_succ, i64_w, i32_w]
    rfl
  refine take_ (i := 5) (N := some 64) (v := ?_) (a' := ?_) #[true, true, true, false, true, true, false, false, false, false] rfl rfl (by kernel_rfl) (fun _ _ _ h => h) (Or.inl ⟨by rfl, ?_⟩) hHeld ?_ ?_
  rotate_left
  · rintro w' ⟨s0, s1⟩
    go_simp
    with_reducible rfl
  rotate_left
  · simp only [Act.put, List.setIfInBounds_toArray, List.set_cons_zero, List.set_cons_succ, i64_w, i32_w]
    rfl
  refine pure_ (i := 6) (N := some 65) (v := ?_) (a' := ?_) #[true, true, true, false, true, true, true, false, false, false] rfl rfl (by kernel_rfl) (fun _ _ _ h => h) (Or.inl ⟨by rfl, ?_⟩) ?_ ?_
  rotate_left
  · intro w'
    go_simp
    with_reducible rfl
  rotate_left
  · simp only [Act.put, List.setIfInBounds_toArray, List.set_cons_zero, List.set_cons_succ, i64_w, i32_w]
    rfl
  refine pure_ (i := 7) (N := some 66) (v := ?_) (a' := ?_) #[true, true, true, false, true, true, true, true, false, false] rfl rfl (by kernel_rfl) (fun _ _ _ h => h) (Or.inl ⟨by rfl, ?_⟩) ?_ ?_
  rotate_left
  · intro w'
    go_simp
    with_reducible rfl
  rotate_left
  · simp only [Act.put, List.setIfInBounds_toArray, List.set_cons_zero, List.set_cons_succ, i64_w, i32_w]
    rfl
  refine one_ (i := 3) (N := some 62) #[true, true, true, true, true, true, true, true, false, false] rfl rfl (by kernel_rfl) (by decide) (fun K hK => ?_)
  refine goes_ Tryz.func33 (by kernel_rfl) rfl #[vf, .slice none 0 0] (by rfl) rfl rfl (by simp only [List.map_toArray, List.map_cons, List.map_nil]; rfl) ?_
  with_reducible refine (m_putrows vf ([0, 0, 1, 1, 1, 0, 0] ++ [0]) ([0, 0, 1, 1, 1, 0, 0] ++ [0, 0]) W2 wf.drew HBf.out HOf.out (by decide +kernel)).mono ?_
  rintro e' wg ⟨vg, rfl, hog, hbg⟩
  refine ⟨_, rfl, ?_⟩
  have HOg := Aside0.mk hog
  have HBg := Aside0.mk hbg
  clear hog hbg
  have q0 := pw_cell_below HBg.out Q0.out
  have q1 := pw_cell_below HBg.out Q1.out
  have q3 := pw_cell_below HBg.out Q3.out
  have q4 := pw_cell_below HBg.out Q4.out
  have q5 := pw_cell_below HBg.out Q5.out
  have q6 := pw_cell_below HBg.out Q6.out
  refine hK.out _ _ ⟨q5, q6⟩ (fun hHeld => ?_)
  clear hK K
  refine norm_ (a' := ?_) ?_ ?_
  rotate_left
  · show Act.put _ (some 62) _ = _
    simp only [Act.put, List.setIfInBounds_toArray, List.set_cons_zero, List.set_cons_succ, i64_w, i32_w]
    rfl
  refine one_ (i := 8) (N := some 67) #[true, true, true, true, true, true, true, true, true, false] rfl rfl (by kernel_rfl) (by decide) (fun K hK => ?_)
  refine goes_ Tryz.func29 (by kernel_rfl) rfl #[vg, .int .u64 1] (by rfl) rfl rfl (by simp only [List.map_toArray, List.map_cons, List.map_nil]; rfl) ?_
  with_reducible refine (m_pv vg ([0, 0, 1, 1, 1, 0, 0] ++ [0, 0]) 1 ([0, 0, 1, 1, 1, 0, 0] ++ [0, 0, 1]) W2 wg HBg.out HOg.out (by decide +kernel)).mono ?_
  rintro e wh ⟨vh, rfl, hoh, hbh⟩
  refine ⟨_, rfl, ?_⟩
  have HOh := Aside0.mk hoh
  have HBh := Aside0.mk hbh
  clear hoh hbh
  have q0 := pw_cell_below HBh.out Q0.out
  have q1 := pw_cell_below HBh.out Q1.out
  have q3 := pw_cell_below HBh.out Q3.out
  have q4 := pw_cell_below HBh.out Q4.out
  have q5 := pw_cell_below HBh.out Q5.out
  have q6 := pw_cell_below HBh.out Q6.out
  refine hK.out _ _ ⟨q5, q6⟩ (fun hHeld => ?_)
  clear hK K
  refine norm_ (a' := ?_) ?_ ?_
  rotate_left
  · show Act.put _ (some 67) _ = _
    simp only [Act.put, List.setIfInBounds_toArray, List.set_cons_zero, List.set_cons_succ, i64_w, i32_w]
    rfl
  refine pure_ (i := 9) (N := some 5) (v := ?_) (a' := ?_) #[true, true, true, true, true, true, true, true, true, true] rfl rfl (by kernel_rfl) (fun _ _ _ h => h) (Or.inl ⟨by rfl, ?_⟩) ?_ ?_
  rotate_left
  · intro w'
    go_simp
    with_reducible rfl
  rotate_left
  · simp only [Act.put, List.setIfInBounds_toArray, List.set_cons_zero, List.set_cons_succ, i64_w, i32_w]
    rfl
  refine done_ (by kernel_rfl) ?_
  have HMh := Aside0.mk (HM1.out.below HBh.out)
  go_wp2_with fail
  refine wp_loop_rounds 2 ?_
  rw [rounds_succ]
  have hone : Tryz.zeroCells81.all (·.oneCell') = true := by kernel_rfl
  go_wp2_with (first | (refine wpList_load_mid rfl 81 (.tmp 73) rfl e 0 rfl Tryz.zeroCells81.toList _ HMh.out.2.2.2 Tryz.underlying81 rfl (by kernel_rfl) ?_) | (refine wpList_store_row rfl 81 (.tmp 9) (.tmp 74) rfl wh.heap.size Tryz.zeroCells81 rfl rfl 81 Tryz.zeroCells81 (heap_alloc_new wh _) (by rw [ents_size]; kernel_rfl) rfl hone ?_; rw [World.setRow_alloc_new]) | (refine wpList_load_row rfl 81 (.tmp 9) rfl wh.heap.size rfl 81 Tryz.zeroCells81 (0, 0) _ (heap_alloc_new wh _) Tryz.underlying81 rfl (by rw [ents_size]; kernel_rfl) ?_))
  have hbi : Below wh.heap.size wh (wh.alloc (.cells Tryz.zeroCells81 81)) := below_alloc (Below.refl _ _) _
  refine (led_putE (wh.alloc (.cells Tryz.zeroCells81 81))).mono ?_
  rintro e' wi ⟨vi, rfl, hr, hb⟩
  obtain ⟨Ai, ci, rfl⟩ := Kd.R_slice hr
  have HBi := Aside0.mk (HBh.out.trans ((hbi.trans (hb.mono hbi.size)).mono HBh.out.size))
  have HOi := Aside0.mk (Kd.R_below (Kd.R_below HOh.out hbi) hb)
  have HRi := Aside0.mk (Kd.R_reads' hr).2.2
  clear hr hb hbi
  go_wp2_with ((with_reducible refine gate_builtin (b := .append) (xs := #[.tmp 75, .tmp 77]) rfl ?_); at_builtin; refine Kd.R_append_rows (Kd.int .u8) (w0 := W2) W2.heap.size rfl (.tmp 75) (.tmp 77) 30 5 (.int .u8 0) 1 rfl Tryz.underlying30 info5 rfl (by decide) (by omega) vh ([0, 0, 1, 1, 1, 0, 0] ++ [0, 0, 1]) (List.replicate 65 0) _ _ _ (fun _ => True) (fun _ => False) rfl rfl HOi.out HRi.out (fun _ _ h => h) (fun _ h => h.elim) (fun _ _ => trivial) HBi.out HBi.out.size (by decide) ?_; intro vj wj ho hb hg hat; have HOj := Aside0.mk ho; have HBj := Aside0.mk hb; clear ho hb hg hat; have q0 := pw_cell_below HBj.out Q0.out; have q1 := pw_cell_below HBj.out Q1.out; have q3 := pw_cell_below HBj.out Q3.out; have q4 := pw_cell_below HBj.out Q4.out; have q5 := pw_cell_below HBj.out Q5.out; have q6 := pw_cell_below HBj.out Q6.out)
  rw [rounds_succ]
  go_wp2_with fail
  obtain ⟨Aj, cj, rfl⟩ := Kd.R_slice HOj.out
  have hcj := Kd.R_reads' HOj.out
  refine (frame_Put.calls 5 Aj cj leastL leastF 0 wj hcj.2.2 hcj.2.1 leastF_is).mono ?_
  rintro e' wk ⟨vk, rfl, hr, hb⟩
  have HOk := Aside0.mk hr
  have HBk := Aside0.mk hb
  clear hr hb hcj
  go_wp2
  go_ret2
  have z := HBW.out.size
  have z2 := HBj.out.size
  exact ⟨_, rfl, Kd.R_lower HOk.out (by omega), HBW.out.trans ((HBj.out.mono z).trans (HBk.out.mono (by omega)))⟩
end Go.Proofs.YtjmhiklmlgbifaaGreatDoor.PMan
end
section
namespace Go.Proofs.YtjmhiklmlgbifaaGreatDoor.PMan
open Go.RowKit Go.Proofs.YtjmhiklmlgbifaaGreatDoorW.PrintWords Go.Proofs.YtjmhiklmlgbifaaGreatDoorW.PrintLast Go.Proofs.YtjmhiklmlgbifaaGreatDoorW.PrintMore
attribute [local go_sem] max2_int min2_int max_two min_two max_three min_three max_four min_four   -- for this text's walks alone
set_option linter.unusedVariables false
set_option linter.unusedSimpArgs false
theorem lf3 : num_Reader_Fix.f leastL 3 0 0 1 = some (1, 4, 0, 0) := by decide +kernel
theorem lf4 : num_Reader_Fix.f leastL 4 0 0 1 = some (1, 5, 0, 0) := by decide +kernel
theorem lf5 : num_Reader_Fix.f leastL 5 0 0 1 = some (0, 6, 0, 0) := by decide +kernel
theorem lf6 : num_Reader_Fix.f leastL 6 0 0 1 = some (0, 7, 0, 0) := by decide +kernel
theorem keep_then {w W W1 : World} {g : Nat} (h : KeepBut w W g none) (h2 : KeepBut W W1 g none) : KeepBut w W1 g none :=
  ⟨Nat.le_trans h.1 h2.1, fun i hi h3 h4 => (h2.2 i (Nat.lt_of_lt_of_le hi h.1) h3 h4).trans (h.2 i hi h3 h4)⟩
set_option maxHeartbeats 4000000 in
set_option maxRecDepth 100000 in
theorem rd_takeSchema (g : Nat) (w0 w : World) (hG : ErrT w0) (hI : RD w0 w g leastL 3 0 0) (hB : Below w0.heap.size w0 w) :
    Calls Tryz.prog 91 #[.pointer (some ⟨g, 0, none⟩)] w fun e w' => ∃ s c, e = .returned (.slice (some ⟨s, 0, none⟩) 1 c) ∧ 1 ≤ c ∧ Kd.C k123 w' (some ⟨s, 0, none⟩) 1 [⟨1, false, -1⟩] ∧ w.heap.size ≤ s ∧ s < w'.heap.size ∧ RD w0 w' g leastL 7 0 0 ∧ Below w0.heap.size w0 w' ∧ KeepBut w w' g none := by
  have HG := Aside0.mk hG
  have HI := Aside0.mk hI
  have HB := Aside0.mk hB
  clear hG hI hB
  go_enter Tryz.func91, Tryz.ntmps91
  go_wp2_with fail
  refine (num_Reader_Fix.calls g leastL 3 0 0 1 1 4 0 0 w0 w HI.out HB.out lf3).mono ?_
  rintro e wa ⟨rfl, h1, h2, h3⟩
  have HIa := Aside0.mk h1
  have HBa := Aside0.mk h2
  have HKa := Aside0.mk h3
  clear h1 h2 h3
  go_wp2_with fail
  refine wp_loop_rounds 2 ?_
  rw [rounds_succ]
  go_wp2_with fail
  refine (num_Reader_Fix.calls g leastL 4 0 0 1 1 5 0 0 w0 wa HIa.out HBa.out lf4).mono ?_
  rintro e wb ⟨rfl, h1, h2, h3⟩
  have HIb := Aside0.mk h1
  have HBb := Aside0.mk h2
  have HKb := Aside0.mk (keep_then HKa.out h3)
  clear h1 h2 h3
  go_wp2_with fail
  refine (num_Reader_Fix.calls g leastL 5 0 0 1 0 6 0 0 w0 wb HIb.out HBb.out lf5).mono ?_
  rintro e wc ⟨rfl, h1, h2, h3⟩
  have HIc := Aside0.mk h1
  have HBc := Aside0.mk h2
  have HKc := Aside0.mk (keep_then HKb.out h3)
  clear h1 h2 h3
  go_wp2_with fail
  refine (num_Reader_Fix.calls g leastL 6 0 0 1 0 7 0 0 w0 wc HIc.out HBc.out lf6).mono ?_
  rintro e wd ⟨rfl, h1, h2, h3⟩
  have HId := Aside0.mk h1
  have HBd := Aside0.mk h2
  have HKd := Aside0.mk (keep_then HKc.out h3)
  clear h1 h2 h3
  go_wp2_with fail
  refine (rd_good g leastL 7 w0 wd (HG.out.of_below HBd.out) HId.out).mono ?_
  rintro e we ⟨rfl, h1⟩
  have HIe := Aside0.mk (HId.out.below h1)
  have HBe := Aside0.mk (below_then HBd.out HBd.out.size h1)
  have HKe := Aside0.mk (KeepBut.below_ HKd.out h1)
  clear h1
  go_wp2_with ((with_reducible refine gate_builtin (b := .append) (xs := #[.tmp 27, .tmp 36]) rfl ?_); at_builtin; refine Kd.R_append k123 (w0 := we) we.heap.size rfl (.tmp 27) (.tmp 36) 22 123 (.agg #[.int .i64 0, .bool false, .int .i64 0]) 24 rfl Tryz.underlying22 (by kernel_rfl) rfl (by decide) (by decide) (.slice none 0 0) [] (⟨1, false, -1⟩ : S123) [.int .i64 1, .bool false, .int .i64 (-1)] (fun _ => True) (fun _ => False) rfl rfl (k123_mkM _ _ _ _) (fun _ h => h.elim) (fun _ _ => trivial) (Kd.R_nil _ _ _ _ _) (Below.refl _ _) (Nat.le_refl _) (by decide) ?_; intro vf wf ho hb _ _; have HO := Aside0.mk ho; have HBf := Aside0.mk hb; clear ho hb)
  obtain ⟨sb, cap, rfl, _⟩ := Kd.R_form HO.out (by simp)
  have hrd := Kd.R_reads' HO.out
  have HCA := Aside0.mk hrd.2.1
  have HCC := Aside0.mk hrd.2.2
  have HSB := Aside0.mk (Kd.R_base HO.out sb rfl)
  have HSL := Aside0.mk (Kd.R_lt HO.out sb rfl)
  have HIf := Aside0.mk (HIe.out.below HBf.out)
  have HBf2 := Aside0.mk (below_then HBe.out HBe.out.size HBf.out)
  have HKf := Aside0.mk (KeepBut.below_ HKe.out HBf.out)
  clear hrd
  rw [rounds_succ]
  go_wp2_with fail
  refine (rd_good g leastL 7 w0 wf (HG.out.of_below HBf2.out) HIf.out).mono ?_
  rintro e wg ⟨rfl, h1⟩
  have HIg := Aside0.mk (HIf.out.below h1)
  have HBg := Aside0.mk (below_then HBf2.out HBf2.out.size h1)
  have HKg := Aside0.mk (KeepBut.below_ HKf.out h1)
  have HCg := Aside0.mk (Kd.C_below HCC.out h1)
  have HSg := Aside0.mk (Nat.lt_of_lt_of_le HSL.out h1.size)
  clear h1
  go_wp2_with fail
  refine (value_Schema.calls 5 (some ⟨sb, 0, none⟩) cap [⟨1, false, -1⟩] 0 wg HCg.out HCA.out (by kernel_rfl)).mono ?_
  rintro e wh ⟨rfl, h1⟩
  have HIh := Aside0.mk (HIg.out.below h1)
  have HBh := Aside0.mk (below_then HBg.out HBg.out.size h1)
  have HKh := Aside0.mk (KeepBut.below_ HKg.out h1)
  have HCh := Aside0.mk (Kd.C_below HCg.out h1)
  have HSh := Aside0.mk (Nat.lt_of_lt_of_le HSg.out h1.size)
  clear h1
  go_wp2_with fail
  refine (rd_fail_no g leastL _ _ _ 0 w0 _ HIh.out (.inr rfl)).mono ?_
  rintro e w' ⟨rfl, rfl⟩
  go_wp2_with fail
  refine (rd_good g leastL 7 w0 wh (HG.out.of_below HBh.out) HIh.out).mono ?_
  rintro e wi ⟨rfl, h1⟩
  have HIi := Aside0.mk (HIh.out.below h1)
  have HBi := Aside0.mk (below_then HBh.out HBh.out.size h1)
  have HKi := Aside0.mk (KeepBut.below_ HKh.out h1)
  have HCi := Aside0.mk (Kd.C_below HCh.out h1)
  have HSi := Aside0.mk (Nat.lt_of_lt_of_le HSh.out h1.size)
  clear h1
  go_wp2
  go_ret
  have z := HSB.out
  have z2 := HKe.out.1
  exact ⟨sb, cap, rfl, HCA.out, HCi.out, by omega, HSi.out, HIi.out, HBi.out, HKi.out⟩
theorem lv8 : num_short.f 3 (leastL.drop (8 : Int).toNat) = some (0, 1, 0) := by decide +kernel
set_option maxHeartbeats 4000000 in
set_option maxRecDepth 100000 in
theorem rd_takeRows (s c : Nat) (g : Nat) (w0 w : World) (hG : ErrT w0) (hI : RD w0 w g leastL 8 0 0) (hB : Below w0.heap.size w0 w) :
    Calls Tryz.prog 94 #[.pointer (some ⟨g, 0, none⟩), .slice (some ⟨s, 0, none⟩) 1 c] w fun e w' => e = .returned (.slice none 0 0) ∧ RD w0 w' g leastL 9 0 0 ∧ Below w0.heap.size w0 w' ∧ KeepBut w w' g none := by
  have HG := Aside0.mk hG
  have HI := Aside0.mk hI
  have HB := Aside0.mk hB
  clear hG hI hB
  go_enter Tryz.func94, Tryz.ntmps94
  go_wp2_with fail
  refine (rd_var 3 g leastL 8 0 1 w0 w HI.out HB.out (by decide) (by decide) (by decide +kernel) lv8).mono ?_
  rintro e wa ⟨rfl, h1, h2, h3⟩
  have HIa := Aside0.mk h1
  have HBa := Aside0.mk h2
  have HKa := Aside0.mk h3
  clear h1 h2 h3
  go_wp2_with fail
  refine (rd_good g leastL 9 w0 wa (HG.out.of_below HBa.out) HIa.out).mono ?_
  rintro e wi ⟨rfl, h1⟩
  have HIi := Aside0.mk (HIa.out.below h1)
  have HBi := Aside0.mk (below_then HBa.out HBa.out.size h1)
  have HKi := Aside0.mk (KeepBut.below_ HKa.out h1)
  clear h1
  go_wp2
  go_rounds 1
  go_ret
  exact ⟨rfl, HIi.out, HBi.out, HKi.out⟩
end Go.Proofs.YtjmhiklmlgbifaaGreatDoor.PMan
end
