/- Texts of this proof, put into one, without what it does not use: ManK, MpM. -/
import Derived.Test.YtjmhiklmlgbifaaGreatDoorPB24
import Derived.Outline
import Derived.Test.YtjmhiklmlgbifaaGreatDoorPB25
import Derived.Test.YtjmhiklmlgbifaaGreatDoorPB14
section
namespace Go.Proofs.YtjmhiklmlgbifaaGreatDoor.PMan
open Go.RowKit Go.Proofs.YtjmhiklmlgbifaaGreatDoorW.PrintWords Go.Proofs.YtjmhiklmlgbifaaGreatDoorW.PrintLast Go.Proofs.YtjmhiklmlgbifaaGreatDoorW.PrintMore
attribute [local go_sem] max2_int min2_int max_two min_two max_three min_three max_four min_four   -- for this text's walks alone
set_option linter.unusedVariables false
set_option linter.unusedSimpArgs false
theorem exec_load_mid {P : Program} {oi : Oper} {f : Operand → Value} {W : World} (ty : TypeId) (x : Operand) (ho : oi.op = .load ty x) (b o : Nat) (hx : f x = .pointer (some ⟨b, o, none⟩)) (cs : List Value) (d : TypeDesc) (hg : W.rangeAt b o cs)
    (hu : P.underlying ty = some d) (hd : d.isRow = true) (hi : (P.info? ty).map (·.size) = some cs.length) : (execOp f oi).run P W = .ok (.value (.agg cs.toArray)) W := by
  unfold execOp
  simp only [ho, hx, Instr.loadAt, Instr.sureAddr, Sem.run_bind, Sem.run_pure, Result.andThen_ok, run_loadVar_mid W b o ty cs d hg hu hd hi]
theorem ents_neq (W : World) : (binOp .neq 81 (.agg Tryz.zeroCells81) (.agg Tryz.zeroCells81)).run Tryz.prog W = .ok (.bool false) W := by kernel_rfl
set_option maxHeartbeats 4000000 in
set_option maxRecDepth 100000 in
theorem m_same (s cs e ce s' cs' e' ce' : Nat) (w : World) (hM : ManP w s cs e ce) (hM' : ManP w s' cs' e' ce') :
    Calls Tryz.prog 20 #[ManV s cs e ce, ManV s' cs' e' ce'] w fun ev w' => ev = .returned (.bool true) ∧ Below w.heap.size w w' := by
  have HM := Aside0.mk hM
  have HM' := Aside0.mk hM'
  have hne := ents_neq
  clear hM hM'
  unfold ManV
  go_enter Tryz.func20, Tryz.ntmps20
  go_wp2_with fail
  have hb1 : Below w.heap.size w (w.alloc (.cells (MCells 0 0 (.slice (some ⟨s, 0, none⟩) 1 cs) 1 (.slice (some ⟨e, 0, none⟩) 1 ce)) 27)) := below_alloc (Below.refl _ _) _
  have hs1 : (w.alloc (.cells (MCells 0 0 (.slice (some ⟨s, 0, none⟩) 1 cs) 1 (.slice (some ⟨e, 0, none⟩) 1 ce)) 27)).heap.size = w.heap.size + 1 := by simp
  have hx1 := heap_alloc_new w (.cells (MCells 0 0 (.slice (some ⟨s, 0, none⟩) 1 cs) 1 (.slice (some ⟨e, 0, none⟩) 1 ce)) 27)
  have hb2 : Below (w.heap.size + 1) (w.alloc (.cells (MCells 0 0 (.slice (some ⟨s, 0, none⟩) 1 cs) 1 (.slice (some ⟨e, 0, none⟩) 1 ce)) 27)) ((w.alloc (.cells (MCells 0 0 (.slice (some ⟨s, 0, none⟩) 1 cs) 1 (.slice (some ⟨e, 0, none⟩) 1 ce)) 27)).alloc (.cells (MCells 0 0 (.slice (some ⟨s', 0, none⟩) 1 cs') 1 (.slice (some ⟨e', 0, none⟩) 1 ce')) 27)) := hs1 ▸ below_alloc (Below.refl _ _) _
  have hx2 := heap_alloc_new (w.alloc (.cells (MCells 0 0 (.slice (some ⟨s, 0, none⟩) 1 cs) 1 (.slice (some ⟨e, 0, none⟩) 1 ce)) 27)) (.cells (MCells 0 0 (.slice (some ⟨s', 0, none⟩) 1 cs') 1 (.slice (some ⟨e', 0, none⟩) 1 ce')) 27)
  rw [hs1] at hx2
  have hbb : Below w.heap.size w ((w.alloc (.cells (MCells 0 0 (.slice (some ⟨s, 0, none⟩) 1 cs) 1 (.slice (some ⟨e, 0, none⟩) 1 ce)) 27)).alloc (.cells (MCells 0 0 (.slice (some ⟨s', 0, none⟩) 1 cs') 1 (.slice (some ⟨e', 0, none⟩) 1 ce')) 27)) := hb1.trans (hb2.mono (by omega))
  have H1 := Aside0.mk ((hb2.block w.heap.size (by omega)).trans hx1)
  have H2 := Aside0.mk hx2
  have HBB := Aside0.mk hbb
  have HA := Aside0.mk (HM.out.below hbb)
  have HA' := Aside0.mk (HM'.out.below hbb)
  clear hb1 hs1 hx1 hb2 hx2 hbb
  generalize (w.alloc (.cells (MCells 0 0 (.slice (some ⟨s, 0, none⟩) 1 cs) 1 (.slice (some ⟨e, 0, none⟩) 1 ce)) 27)).alloc (.cells (MCells 0 0 (.slice (some ⟨s', 0, none⟩) 1 cs') 1 (.slice (some ⟨e', 0, none⟩) 1 ce')) 27) = W0 at *
  have p0 : W0.cell? ⟨w.heap.size, 0, none⟩ = some (.int .i64 0) := blk_cell H1.out 0
  have q0 : W0.cell? ⟨w.heap.size + 1, 0, none⟩ = some (.int .i64 0) := blk_cell H2.out 0
  have p1 : W0.cell? ⟨w.heap.size, 1, none⟩ = some (.int .i64 0) := blk_cell H1.out 1
  have q1 : W0.cell? ⟨w.heap.size + 1, 1, none⟩ = some (.int .i64 0) := blk_cell H2.out 1
  have p2 : W0.cell? ⟨w.heap.size, 2, none⟩ = some (.slice (some ⟨s, 0, none⟩) 1 cs) := blk_cell H1.out 2
  have q2 : W0.cell? ⟨w.heap.size + 1, 2, none⟩ = some (.slice (some ⟨s', 0, none⟩) 1 cs') := blk_cell H2.out 2
  have p3 : W0.cell? ⟨w.heap.size, 3, none⟩ = some (.int .i64 1) := blk_cell H1.out 3
  have q3 : W0.cell? ⟨w.heap.size + 1, 3, none⟩ = some (.int .i64 1) := blk_cell H2.out 3
  have p4 : W0.cell? ⟨w.heap.size, 4, none⟩ = some (.slice none 0 0) := blk_cell H1.out 4
  have q4 : W0.cell? ⟨w.heap.size + 1, 4, none⟩ = some (.slice none 0 0) := blk_cell H2.out 4
  have p5 : W0.cell? ⟨w.heap.size, 5, none⟩ = some (.slice none 0 0) := blk_cell H1.out 5
  have q5 : W0.cell? ⟨w.heap.size + 1, 5, none⟩ = some (.slice none 0 0) := blk_cell H2.out 5
  have p6 : W0.cell? ⟨w.heap.size, 6, none⟩ = some (.slice (some ⟨e, 0, none⟩) 1 ce) := blk_cell H1.out 6
  have q6 : W0.cell? ⟨w.heap.size + 1, 6, none⟩ = some (.slice (some ⟨e', 0, none⟩) 1 ce') := blk_cell H2.out 6
  refine (estreatref15_SameSchema.calls 5 (some ⟨s, 0, none⟩) cs [⟨1, false, -1⟩] (some ⟨s', 0, none⟩) cs' [⟨1, false, -1⟩] true W0 HA.out.2.2.1 HA.out.1 HA'.out.2.2.1 HA'.out.1 (by decide +kernel)).mono ?_
  rintro ev w1 ⟨rfl, ⟨n1, rfl⟩⟩
  go_wp2_with fail
  refine (estreatref15_SameRows.calls 5 none 0 [] none 0 [] true (W0.drewN n1) ⟨rfl, by decide, fun h => absurd h (by decide)⟩ (Nat.le_refl _) ⟨rfl, by decide, fun h => absurd h (by decide)⟩ (Nat.le_refl _) (by decide +kernel)).mono ?_
  rintro ev w1 ⟨rfl, ⟨n2, rfl⟩⟩
  go_wp2_with fail
  refine wp_loop_rounds 1 ?_
  rw [rounds_succ]
  go_wp2_with fail
  refine wp_loop_rounds 2 ?_
  rw [rounds_succ]
  go_wp2_with fail
  have hE1 := HA.out.2.2.2
  have hE2 := HA'.out.2.2.2
  refine start_ (n := 11) (S := fun w' => w'.cell? ⟨w.heap.size, 6, none⟩ = some (.slice (some ⟨e, 0, none⟩) 1 ce) ∧ w'.cell? ⟨w.heap.size + 1, 6, none⟩ = some (.slice (some ⟨e', 0, none⟩) 1 ce') ∧ w'.rangeAt e 0 Tryz.zeroCells81.toList ∧ w'.rangeAt e' 0 Tryz.zeroCells81.toList) (ds := []) #[false, false, false, false, false, false, false, false, false, false, false] (by kernel_rfl) rfl rfl ⟨p6, q6, hE1, hE2⟩ (fun hHeld => ?_)
  refine pure_ (i := 0) (N := some 119) (v := ?_) (a' := ?_) #[true, false, false, false, false, false, false, false, false, false, false] rfl rfl (by kernel_rfl) (fun _ _ _ h => h) (Or.inl ⟨by rfl, ?_⟩) ?_ ?_
  rotate_left
  · intro w'
    go_simp
    with_reducible rfl
  rotate_left
  · simp only [Act.put, List.setIfInBounds_toArray, List.set_cons_zero, List.set_cons_succ, i64_w, i32_w]
    rfl
  refine pure_ (i := 2) (N := some 121) (v := ?_) (a' := ?_) #[true, false, true, false, false, false, false, false, false, false, false] rfl rfl (by kernel_rfl) (fun _ _ _ h => h) (Or.inl ⟨by rfl, ?_⟩) ?_ ?_
  rotate_left
  · intro w'
    go_simp
    with_reducible rfl
  rotate_left
  · simp only [Act.put, List.setIfInBounds_toArray, List.set_cons_zero, List.set_cons_succ, i64_w, i32_w]
    rfl
  refine pure_ (i := 5) (N := some 124) (v := ?_) (a' := ?_) #[true, false, true, false, false, true, false, false, false, false, false] rfl rfl (by kernel_rfl) (fun _ _ _ h => h) (Or.inl ⟨by rfl, ?_⟩) ?_ ?_
  rotate_left
  · intro w'
    go_simp
    with_reducible rfl
  rotate_left
  · simp only [Act.put, List.setIfInBounds_toArray, List.set_cons_zero, List.set_cons_succ, i64_w, i32_w]
    rfl
  refine pure_ (i := 7) (N := some 126) (v := ?_) (a' := ?_) #[true, false, true, false, false, true, false, true, false, false, false] rfl rfl (by kernel_rfl) (fun _ _ _ h => h) (Or.inl ⟨by rfl, ?_⟩) ?_ ?_
  rotate_left
  · intro w'
    go_simp
    with_reducible rfl
  rotate_left
  · simp only [Act.put, List.setIfInBounds_toArray, List.set_cons_zero, List.set_cons_succ, i64_w, i32_w]
    rfl
  refine take_ (i := 1) (N := some 120) (v := ?_) (a' := ?_) #[true, true, true, false, false, true, false, true, false, false, false] rfl rfl (by kernel_rfl) (fun _ _ _ h => h) (Or.inl ⟨by rfl, ?_⟩) hHeld ?_ ?_
  rotate_left
  · rintro w' ⟨s0, s1, s2, s3⟩
    go_simp
    with_reducible rfl
  rotate_left
  · simp only [Act.put, List.setIfInBounds_toArray, List.set_cons_zero, List.set_cons_succ, i64_w, i32_w]
    rfl
  refine pure_ (i := 3) (N := some 122) (v := ?_) (a' := ?_) #[true, true, true, true, false, true, false, true, false, false, false] rfl rfl (by kernel_rfl) (fun _ _ _ h => h) (Or.inl ⟨by rfl, ?_⟩) ?_ ?_
  rotate_left
  · intro w'
    go_simp
    with_reducible rfl
  rotate_left
  · simp only [Act.put, List.setIfInBounds_toArray, List.set_cons_zero, List.set_cons_succ, i64_w, i32_w]
    rfl
  refine take_ (i := 4) (N := some 123) (v := ?_) (a' := ?_) #[true, true, true, true, true, true, false, true, false, false, false] rfl rfl (by kernel_rfl) (fun _ _ _ h => h) (Or.inl ⟨by rfl, ?_⟩) hHeld ?_ ?_
  rotate_left
  · rintro w' ⟨s0, s1, s2, s3⟩
    show _ = Result.ok (Next.value (.agg Tryz.zeroCells81)) w'
    refine exec_load_mid 81 (.tmp 122) ?_ e 0 ?_ Tryz.zeroCells81.toList _ s2 Tryz.underlying81 rfl ?_
    · rfl
    · rfl
    · kernel_rfl
  rotate_left
  · simp only [Act.put, List.setIfInBounds_toArray, List.set_cons_zero, List.set_cons_succ, i64_w, i32_w]
    rfl
  refine take_ (i := 6) (N := some 125) (v := ?_) (a' := ?_) #[true, true, true, true, true, true, true, true, false, false, false] rfl rfl (by kernel_rfl) (fun _ _ _ h => h) (Or.inl ⟨by rfl, ?_⟩) hHeld ?_ ?_
  rotate_left
  · rintro w' ⟨s0, s1, s2, s3⟩
    go_simp
    with_reducible rfl
  rotate_left
  · simp only [Act.put, List.setIfInBounds_toArray, List.set_cons_zero, List.set_cons_succ, i64_w, i32_w]
    rfl
  refine pure_ (i := 8) (N := some 127) (v := ?_) (a' := ?_) #[true, true, true, true, true, true, true, true, true, false, false] rfl rfl (by kernel_rfl) (fun _ _ _ h => h) (Or.inl ⟨by rfl, ?_⟩) ?_ ?_
  rotate_left
  · intro w'
    go_simp
    with_reducible rfl
  rotate_left
  · simp only [Act.put, List.setIfInBounds_toArray, List.set_cons_zero, List.set_cons_succ, i64_w, i32_w]
    rfl
  refine take_ (i := 9) (N := some 128) (v := ?_) (a' := ?_) #[true, true, true, true, true, true, true, true, true, true, false] rfl rfl (by kernel_rfl) (fun _ _ _ h => h) (Or.inl ⟨by rfl, ?_⟩) hHeld ?_ ?_
  rotate_left
  · rintro w' ⟨s0, s1, s2, s3⟩
    show _ = Result.ok (Next.value (.agg Tryz.zeroCells81)) w'
    refine exec_load_mid 81 (.tmp 127) ?_ e' 0 ?_ Tryz.zeroCells81.toList _ s3 Tryz.underlying81 rfl ?_
    · rfl
    · rfl
    · kernel_rfl
  rotate_left
  · simp only [Act.put, List.setIfInBounds_toArray, List.set_cons_zero, List.set_cons_succ, i64_w, i32_w]
    rfl
  refine pure_ (i := 10) (N := some 129) (v := ?_) (a' := ?_) #[true, true, true, true, true, true, true, true, true, true, true] rfl rfl (by kernel_rfl) (fun _ _ _ h => h) (Or.inl ⟨by rfl, ?_⟩) ?_ ?_
  rotate_left
  · intro w'
    go_simp
    with_reducible rfl
  rotate_left
  · simp only [Act.put, List.setIfInBounds_toArray, List.set_cons_zero, List.set_cons_succ, i64_w, i32_w]
    rfl
  refine done_ (by kernel_rfl) ?_
  clear hE1 hE2
  go_wp2_with fail
  rw [rounds_succ]
  go_wp2_with fail
  go_ret
  exact ⟨rfl, by repeat (first | (with_reducible first | exact HBB.out | apply below_alloc | apply pw_below_drewN | apply below_drew1) | exact HBB.out)⟩
end Go.Proofs.YtjmhiklmlgbifaaGreatDoor.PMan
end
section
namespace Go.Proofs.YtjmhiklmlgbifaaGreatDoor.PMan
open Go.RowKit Go.Proofs.YtjmhiklmlgbifaaGreatDoorW.PrintWords Go.Proofs.YtjmhiklmlgbifaaGreatDoorW.PrintLast Go.Proofs.YtjmhiklmlgbifaaGreatDoorW.PrintMore
set_option linter.unusedVariables false
set_option linter.unusedSimpArgs false
def colB (c : S123) : List Int := [c.f0 % 256, if c.f1 = true then 1 else 0, wrap64 (c.f2 + 1) % 256]
def schemaL : List S123 → List Int
  | [] => []
  | c :: l => colB c ++ schemaL l
def schemaF (s : List S123) : List Int := ((s.length : Int) % 256) :: schemaL s
theorem schemaL_len (s : List S123) : (schemaL s).length = 3 * s.length := by
  induction s with
  | nil => rfl
  | cons c l ih => rw [schemaL, List.length_append, ih, List.length_cons]; show 3 + _ = _; omega
theorem putSchema_l0 (s : List S123) (hb : s.length < 1000000000) : ∀ n j (x : List Int), j + n = s.length → x.length ≤ 1 + 3 * j → value_PutSchema.l0 (n + 1) x s (s.length : Int) (j : Int) = some (x ++ schemaL (s.drop j))
  | 0, j, x, e, hx => by
    rw [Nat.zero_add, value_PutSchema.l0, if_neg (by omega), List.drop_eq_nil_of_le (by omega), schemaL, List.append_nil]
  | n + 1, j, x, e, hx => by
    have hw : wrap64 ((j : Int) + 1) = ((j + 1 : Nat) : Int) := by unfold wrap64; omega
    have e1 : rd_T123 s (j : Int) = s.getD j z123 := rfl
    rw [value_PutSchema.l0, if_pos (by omega), if_pos (by omega), if_pos (by omega), drop_cons s j z123 (by omega), schemaL, e1, hw]
    by_cases h : (s.getD j z123).f1 = true
    · rw [if_pos h, Option.bind_some]
      rw [if_pos (by simp only [List.length_cons, List.length_nil]; omega), putSchema_l0 s hb n (j + 1) _ (by omega) (by rw [List.length_append]; simp only [List.length_cons, List.length_nil]; omega), List.append_assoc, colB, if_pos h]
    · rw [if_neg h, Option.bind_some]
      rw [if_pos (by simp only [List.length_cons, List.length_nil]; omega), putSchema_l0 s hb n (j + 1) _ (by omega) (by rw [List.length_append]; simp only [List.length_cons, List.length_nil]; omega), List.append_assoc, colB, if_neg h]
theorem putSchema_p (s : List S123) (hb : s.length < 1000000000) : value_PutSchema.f (s.length + 1) s = some (schemaF s) := by
  unfold value_PutSchema.f
  have := putSchema_l0 s hb s.length 0 [(s.length : Int) % 256] (by omega) (by simp)
  rw [List.drop_zero] at this
  exact this
def groupF (g : Rf) : List Int := varP g.id ++ (headP g.hd ++ blobP g.dead)
def groupsF : List Rf → List Int
  | [] => []
  | g :: l => groupF g ++ groupsF l
def entriesF : List En → List Int
  | [] => []
  | x :: l => entP x ++ entriesF l
def tailF (m : Mn) : List Int := rowsP m.loose ++ (varP m.entries.length ++ entriesF m.entries)
def bodyP (m : Mn) : List Int := varP m.gen ++ (varP m.next ++ (varP m.most ++ (schemaF m.schema ++ (varP m.groups.length ++ (groupsF m.groups ++ tailF m)))))
/-- The values in a manifest are the model's. -/
structure MnOk (m : Mn) : Prop where
  l : ∀ r ∈ m.loose, ∀ v ∈ r, ValOk v
  g : ∀ g ∈ m.groups, ∀ c ∈ g.hd.cols, ValOk c.z.f2 ∧ ValOk c.z.f3
/-- Each element of a row is one of its kind. -/
theorem C_each {α : Type} {d : Kd α} {w : World} {A : Option Addr} {xs : List α} (h : d.C w A xs.length xs) (x : α) (hx : x ∈ xs) (hs : 0 < d.sz) : ∃ cs, d.K w x cs := by
  obtain ⟨i, hi, rfl⟩ := List.getElem_of_mem hx
  obtain ⟨b, o, cs, _, hK, _⟩ := C_mid h xs[i] i hi hs
  rw [List.getD_eq_getElem?_getD, List.getElem?_eq_getElem hi] at hK
  exact ⟨cs, hK⟩
theorem zoneP_nulls {z : S70} {rows kind : Int} (h : zoneP z rows kind = true) : 0 ≤ z.f0 ∧ z.f0 ≤ rows := by
  unfold zoneP at h
  by_cases h1 : z.f0 < 0
  · rw [if_pos h1] at h; cases h
  · by_cases h2 : z.f0 > rows
    · rw [if_neg h1, if_pos h2] at h; cases h
    · omega
theorem colsP_all {rows : Int} : ∀ {l : List CH} {s : List S123}, l.length = s.length → colsP rows l s = true → ∀ c ∈ l, 0 ≤ c.z.f0 ∧ c.z.f0 ≤ rows
  | [], _, _, _, c, hc => by simp at hc
  | c0 :: l, [], e, _, c, hc => by simp at e
  | c0 :: l, s0 :: s, e, h, c, hc => by
    rw [colsP] at h
    by_cases hz : zoneP c0.z rows s0.f0 = true
    · rw [if_pos hz] at h
      have h2 : colsP rows l s = true := by
        by_cases hn : c0.z.f0 > 0
        · rw [if_pos hn] at h
          by_cases hs : s0.f1 = true
          · rw [if_pos hs] at h; exact h
          · rw [if_neg hs] at h; cases h
        · rw [if_neg hn] at h; exact h
      rcases List.mem_cons.1 hc with rfl | hc
      · exact zoneP_nulls hz
      · exact colsP_all (by simpa using e) h2 c hc
    · rw [if_neg hz] at h; cases h
theorem soundP_facts {x : Hd} {s : List S123} (h : soundP x s = true) : 1 ≤ x.rows ∧ x.rows ≤ 65536 ∧ 0 ≤ x.live ∧ x.live ≤ x.rows ∧ x.cols.length = s.length ∧ ∀ c ∈ x.cols, 0 ≤ c.z.f0 ∧ c.z.f0 ≤ x.rows := by
  unfold soundP at h
  by_cases h1 : x.rows < 1
  · rw [if_pos h1] at h; cases h
  rw [if_neg h1] at h
  by_cases h2 : x.rows > 65536
  · rw [if_pos h2] at h; cases h
  rw [if_neg h2] at h
  by_cases h3 : x.live < 0
  · rw [if_pos h3] at h; cases h
  rw [if_neg h3] at h
  by_cases h4 : x.live > x.rows
  · rw [if_pos h4] at h; cases h
  rw [if_neg h4] at h
  by_cases h5 : (x.cols.length : Int) = (s.length : Int)
  · rw [if_pos h5] at h
    exact ⟨by omega, by omega, by omega, by omega, by omega, colsP_all (by omega) h⟩
  · rw [if_neg h5] at h; cases h
theorem groupsL_all {next most : Int} {s : List S123} : ∀ {l : List Rf}, groupsL next most s l = 0 → ∀ g ∈ l, 0 ≤ g.id ∧ g.id ≤ next - 1 ∧ soundP g.hd s = true ∧ (g.dead.length : Int) ≤ 65536
  | [], _, g, hg => by simp at hg
  | g0 :: l, h, g, hg => by
    rw [groupsL] at h
    by_cases h1 : 0 ≤ g0.id ∧ g0.id ≤ next - 1
    · rw [if_pos h1] at h
      by_cases h2 : soundP g0.hd s = true ∧ g0.hd.rows ≤ most ∧ (g0.dead.length : Int) ≤ 65536
      · rw [if_pos h2] at h
        rcases List.mem_cons.1 hg with rfl | hg
        · exact ⟨h1.1, h1.2, h2.1, h2.2.2⟩
        · exact groupsL_all h g hg
      · rw [if_neg h2] at h; cases h
    · rw [if_neg h1] at h; cases h
theorem entriesL_all : ∀ {l : List En}, entriesL l = 0 → ∀ x ∈ l, 0 ≤ x.g ∧ x.g ≤ 1048576
  | [], _, x, hx => by simp at hx
  | x0 :: l, h, x, hx => by
    rw [entriesL] at h
    by_cases h1 : rightB x0.g = true
    · rw [if_pos h1] at h
      rcases List.mem_cons.1 hx with rfl | hx
      · simpa [rightB] using h1
      · exact entriesL_all h x hx
    · rw [if_neg h1] at h; cases h
/-- What a right manifest is like. -/
structure Right (m : Mn) : Prop where
  s : schemaP m.schema = 0
  gen : 0 ≤ m.gen ∧ m.gen ≤ 1099511627776
  next : 0 ≤ m.next ∧ m.next ≤ 1099511627776
  most : 1 ≤ m.most ∧ m.most ≤ 65536
  gn : (m.groups.length : Int) ≤ 1048576
  g : groupsL m.next m.most m.schema m.groups = 0
  l : looseL m.schema m.loose = 0
  ln : (m.loose.length : Int) < m.most
  en : m.entries ≠ []
  e : entriesL m.entries = 0
theorem right_of {m : Mn} (h : checkP m = 0) : Right m := by
  unfold checkP at h
  by_cases h1 : schemaP m.schema = 0
  · rw [if_pos h1] at h
    by_cases h2 : rangesP m = true
    · rw [if_pos h2] at h
      by_cases h3 : groupsP m = 0
      · rw [if_pos h3] at h
        by_cases h4 : looseL m.schema m.loose = 0
        · rw [if_pos h4] at h
          by_cases h5 : (m.loose.length : Int) ≥ m.most
          · rw [if_pos h5] at h; cases h
          · rw [if_neg h5] at h
            by_cases h6 : (m.entries.length : Int) = 0
            · rw [if_pos h6] at h; cases h
            · rw [if_neg h6] at h
              unfold rangesP at h2
              simp only [Bool.and_eq_true, decide_eq_true_eq] at h2
              unfold groupsP at h3
              by_cases h7 : (m.groups.length : Int) > 1048576
              · rw [if_pos h7] at h3; cases h3
              · rw [if_neg h7] at h3
                exact ⟨h1, h2.1, h2.2.1, h2.2.2, by omega, h3, h4, by omega, fun e => h6 (by rw [e]; rfl), h⟩
        · rw [if_neg h4] at h; exact absurd h h4
      · rw [if_neg h3] at h; exact absurd h h3
    · rw [if_neg h2] at h; cases h
  · rw [if_neg h1] at h; exact absurd h h1
theorem Right.hd {m : Mn} (hr : Right m) (hok : MnOk m) {w : World} {Ag : Option Addr} (hg : kRf.C w Ag m.groups.length m.groups) (g : Rf) (hm : g ∈ m.groups) : HdOk g.hd := by
  obtain ⟨cs, hK⟩ := C_each hg g hm (by decide)
  obtain ⟨A, c, B, d, rfl, h32, hc, hC, hd, hD⟩ := kRf_open hK
  obtain ⟨h1, h2, h3, h4⟩ := groupsL_all hr.g g hm
  obtain ⟨a1, a2, a3, a4, a5, a6⟩ := soundP_facts h3
  refine ⟨by omega, by omega, by omega, by omega, h32, fun c hc => ?_⟩
  obtain ⟨cs, hK⟩ := C_each hC c hc (by decide)
  obtain ⟨_, hh⟩ := kCH_open hK
  obtain ⟨v1, v2⟩ := hok.g g hm c hc
  exact ⟨(a6 c hc).1, by have := (a6 c hc).2; omega, v1, v2, hh⟩
theorem range_below {w w1 : World} {b o : Nat} {cs : List Value} (h : w.rangeAt b o cs) (hb : Below w.heap.size w w1) : w1.rangeAt b o cs := fun j v hv => pw_cell_below hb (h j v hv)
/-- Bytes of before stay, while a row of bytes grows. -/
theorem Stay.old_C {w0 w W : World} {u : Value} {l ys : List Int} {A : Option Addr} {n : Nat} {k : IntKind} (ha : App w0 w u l) (hs : Stay w W u) (h : Kd.C (Kd.int k) w0 A n ys) : Kd.C (Kd.int k) W A n ys := by
  refine ⟨h.1, h.2.1, fun hn0 => ?_⟩
  obtain ⟨ad, e, hc⟩ := h.2.2 hn0
  refine ⟨ad, e, fun j p hj => ?_⟩
  obtain ⟨c, h1, h2, h3⟩ := hc j p hj
  refine ⟨c, h1, h2, fun i u hu => ?_⟩
  have h4 := h3 i u hu
  have hlt := World.block_lt_of_cell? w0 _ h4
  have h5 := pw_cell_below ha.bel h4
  rw [← h5]
  unfold World.cell?
  rw [hs.2 _ (Nat.lt_of_lt_of_le hlt ha.bel.size) fun hk => by
    obtain ⟨_, inner, ho, _⟩ := ha.own
    exact Nat.lt_irrefl _ (Nat.lt_of_lt_of_le hlt (own_base ho _ hk))]
end Go.Proofs.YtjmhiklmlgbifaaGreatDoor.PMan
end
