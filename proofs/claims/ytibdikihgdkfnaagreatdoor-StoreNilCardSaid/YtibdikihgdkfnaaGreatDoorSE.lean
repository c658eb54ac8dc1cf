/- Texts of this proof, put into one: EvY, EvYA, EvZ, EvAA, EvAB. -/
import Derived.Test.YtibdikihgdkfnaaGreatDoorSK
import Derived.Test.YtibdikihgdkfnaaGreatDoorPStox24
import Derived.Test.YtibdikihgdkfnaaGreatDoorPStoFg
import Derived.Shelf.SlIter.Nil
section
/- A reckoner, twenty-fifth part: a block that is taken into a digest's state is told. -/
namespace Go.Proofs.YtibdikihgdkfnaaGreatDoor.Ev
open Go.RowKit
set_option linter.unusedVariables false
set_option linter.unusedSimpArgs false
def takeG : Sum := fun args m => match args with
  | [.one (.ce (.ptr b 0)), .one (.ce (.slc b2 o2 len lo up))] => match m.get b, m.get b2, m.load b2 o2 64 with
    | some (.cells x), some (.cells y), some cs => bif x.wr && x.ty == 265 && x.cells.length == 8 && x.cells.all (numC .u32) && y.ty == 5 && cs.all (numC .u8) && b != b2 && len == 64 && Nat.ble 64 lo then
        (m.setB b (.cells ⟨holeL .u32 m.nhole 8, 265, none, 0, true⟩)).map fun m' => (undefV, m'.holes 8) else none
    | _, _, _ => none
  | _ => none
theorem takeM_get {i : Nat} {z : Bl} (h : takeM.get i = some z) : (i = 0 ∧ z = .cells takeX) ∨ (i = 1 ∧ z = .cells takeY) := by
  have h : (Tr.node (some (.cells takeX)) (.node (some (.cells takeY)) .nil .nil) .nil).get i = some z := h
  rw [Tr.get_node] at h
  by_cases h0 : i = 0
  · rw [if_pos h0] at h
    exact .inl ⟨h0, (Option.some.inj h).symm⟩
  · rw [if_neg h0] at h
    by_cases h1 : i % 2 = 1
    · rw [if_pos h1, Tr.get_node] at h
      by_cases h2 : i / 2 = 0
      · rw [if_pos h2] at h
        exact .inr ⟨by omega, (Option.some.inj h).symm⟩
      · rw [if_neg h2] at h
        split at h <;> simp [Tr.get] at h
    · rw [if_neg h1] at h
      simp [Tr.get] at h
theorem setB_holes {m m' : Mem} {b n : Nat} {x : Bl} (h : m.setB b x = some m') : (m.holes n).setB b x = some (m'.holes n) := by
  unfold Mem.setB at h ⊢
  cases hp : Tr.put (some x) 64 m.t b with
  | none => rw [hp] at h; simp at h
  | some t =>
    rw [hp] at h
    simp only [Option.map_some, Option.some.injEq] at h
    subst h
    show (Tr.put (some x) 64 m.t b).map _ = _
    rw [hp]
    rfl
theorem take_ok {Gd : World → Prop} (hG : ∀ w, Gd w → ShaT w) : SumOk Tryz.prog Gd 170 takeG := by
  intro E B m m' w args us a hI hg hr ha
  unfold takeG at hg
  split at hg
  · rename_i b b2 o2 len lo up
    split at hg
    · rename_i x y cs hx hy hl
      simp only [cond_eq_ite] at hg
      split at hg
      · rename_i hc
        simp only [Bool.and_eq_true, beq_iff_eq, bne_iff_ne, ne_eq] at hc
        obtain ⟨⟨⟨⟨⟨⟨⟨⟨hwr, hty⟩, hlen⟩, hnum⟩, hy5⟩, hnum2⟩, hbb⟩, h64⟩, hlo⟩ := hc
        have hlo := Nat.le_of_ble_eq_true hlo
        subst h64
        obtain ⟨u, r, rfl, ⟨cb, co, hb1, e1⟩, u2, r2, rfl, ⟨cb2, co2, kk, hb2, hk, e2⟩, h3⟩ := ha
        have h3 : r2 = [] := h3
        subst h3
        obtain ⟨cb', co', h4, h5, h6⟩ := hr.blk b _ hx
        rw [hb1] at h4
        simp only [Option.some.injEq, Prod.mk.injEq] at h4
        obtain ⟨rfl, rfl⟩ := h4
        obtain ⟨cb', co', h4, h7, h8⟩ := hr.blk b2 _ hy
        rw [hb2] at h4
        simp only [Option.some.injEq, Prod.mk.injEq] at h4
        obtain ⟨rfl, rfl⟩ := h4
        obtain ⟨us8, s1, s3⟩ := BlkR.all h6
        obtain ⟨st, rfl⟩ := numCs_ok hnum s1
        have hst : st.length = 8 := by
          have := s1.length
          simp only [List.length_map] at this
          omega
        obtain ⟨us64, t1, t2, t3⟩ := hr.load hl hb2
        obtain ⟨bs, rfl⟩ := numCs_ok hnum2 t1
        simp only [List.length_map] at t2
        have hfit := load_fits hl hy
        obtain ⟨arr, k1, fr, g1, g2, g3, g4, g5⟩ := h6
        obtain ⟨arr2, k2, fr2, f1, f2, f3, f4, f5⟩ := h8
        have hne : cb ≠ cb2 := fun he => hbb (hr.inj b b2 _ _ cb co co2 hx hy hb1 (he ▸ hb2))
        let Es : Env := ⟨fun i => if i = 0 then some (cb, co) else if i = 1 then some (cb2, co2 + o2) else none, fun i => if i = 0 then some (lo + kk - 64) else none, fun i => (st.map (Value.int .u32) ++ bs.map (Value.int .u8))[i]?⟩
        have hEs0 : Es.blk 0 = some (cb, co) := rfl
        have hEs1 : Es.blk 1 = some (cb2, co2 + o2) := rfl
        have r0 : Rel Es B takeM w := by
          refine ⟨fun i z hz => ?_, fun i i' z z' q q1 q2 hz hz' he he' => ?_, fun i hi => ?_, fun i hi => ?_, fun i hi => ?_, hr.base⟩
          · rcases takeM_get hz with ⟨rfl, rfl⟩ | ⟨rfl, rfl⟩
            · refine ⟨cb, co, hEs0, h5, BlkR.mk' (x := takeX) (arr := arr) (fr := fr) (by rw [g1, hty]; rfl) (fun _ => g2 hwr) rfl ?_ (holeL_R .u32 8 0 st hst (fun i v hv => ?_)) s3⟩
              · show co + 8 ≤ arr.size
                omega
              · show (st.map (Value.int .u32) ++ bs.map (Value.int .u8))[0 + i]? = _
                have hi := (List.getElem?_eq_some_iff.1 hv).1
                rw [Nat.zero_add, List.getElem?_append_left (by simp; omega), List.getElem?_map, hv]
                rfl
            · refine ⟨cb2, co2 + o2, hEs1, h7, BlkR.mk' (x := takeY) (arr := arr2) (fr := fr2) (by rw [f1, hy5]; rfl) (fun h => by cases h) rfl ?_ (holeL_R .u8 64 8 bs t2 (fun i v hv => ?_)) t3⟩
              · show co2 + o2 + 64 ≤ arr2.size
                omega
              · show (st.map (Value.int .u32) ++ bs.map (Value.int .u8))[8 + i]? = _
                rw [List.getElem?_append_right (by simp; omega)]
                simp only [List.length_map, hst, Nat.add_sub_cancel_left]
                rw [List.getElem?_map, hv]
                rfl
          · rcases takeM_get hz with ⟨rfl, rfl⟩ | ⟨rfl, rfl⟩ <;> rcases takeM_get hz' with ⟨rfl, rfl⟩ | ⟨rfl, rfl⟩
            · rfl
            · rw [hEs0] at he
              rw [hEs1] at he'
              simp only [Option.some.injEq, Prod.mk.injEq] at he he'
              exact absurd (he.1.trans he'.1.symm) hne
            · rw [hEs1] at he
              rw [hEs0] at he'
              simp only [Option.some.injEq, Prod.mk.injEq] at he he'
              exact absurd (he'.1.trans he.1.symm) hne
            · rfl
          · have hi : 2 ≤ i := hi
            show (if i = 0 then some (cb, co) else if i = 1 then some (cb2, co2 + o2) else none) = none
            rw [if_neg (by omega), if_neg (by omega)]
          · have hi : 1 ≤ i := hi
            show (if i = 0 then some (lo + kk - 64) else none) = none
            rw [if_neg (by omega)]
          · have hi : 72 ≤ i := hi
            exact List.getElem?_eq_none (by simp; omega)
        have hrun := take_run
        cases hq : callF wordS 170 [ceV (.ptr 0 0), ceV (.slc 1 0 64 64 (some 0))] takeM with
        | none => rw [hq] at hrun; simp [takeOk] at hrun
        | some p =>
          obtain ⟨a1, m1⟩ := p
          rw [hq] at hrun
          unfold takeOk at hrun
          split at hrun
          · rename_i m2 he
            simp only [Option.some.injEq, Prod.mk.injEq] at he
            obtain ⟨rfl, rfl⟩ := he
            split at hrun
            · rename_i x1 hx1
              simp only [Bool.and_eq_true, beq_iff_eq, List.all_eq_true, bne_iff_ne, ne_eq] at hrun
              obtain ⟨⟨⟨⟨q1, q2⟩, q3⟩, q4⟩, q5⟩ := hrun
              have q2 : x1.cells.all (numC .u32) = true := List.all_eq_true.2 q2
              have hcap : lo + kk = 64 + (lo + kk - 64) := by omega
              have e3 : u2 = .slice (some ⟨cb2, co2 + o2 + 0, none⟩) 64 (64 + (lo + kk - 64)) := by
                rw [e2, ← hcap, Nat.add_zero]
              have hcall := callF_ok hG (wordS_ok hG) hq hI r0 (us := [u, u2]) ⟨u, _, rfl, ⟨cb, co, hEs0, e1⟩, u2, _, rfl, ⟨cb2, co2 + o2, lo + kk - 64, hEs1, rfl, e3⟩, rfl⟩
              refine hcall.mono ?_
              rintro e w' ⟨F1, v, rfl, T, R1, hv⟩
              obtain ⟨vs, hv1, hv2⟩ := hv
              have hv1 : vs = [] := hv1
              subst hv1
              cases hB : m.setB b (.cells ⟨holeL .u32 m.nhole 8, 265, none, 0, true⟩) with
              | none => rw [hB] at hg; simp at hg
              | some mB =>
                rw [hB] at hg
                simp only [Option.map_some, Option.some.injEq, Prod.mk.injEq] at hg
                obtain ⟨rfl, rfl⟩ := hg
                obtain ⟨cbx, cox, z1, z2, z3⟩ := R1.blk 0 _ hx1
                have z4 := T.le.blk 0 _ hEs0
                rw [z1] at z4
                simp only [Option.some.injEq, Prod.mk.injEq] at z4
                obtain ⟨rfl, rfl⟩ := z4
                obtain ⟨us', y1, y3⟩ := BlkR.all z3
                obtain ⟨st', rfl⟩ := numCs_ok q2 y1
                have hst' : st'.length = 8 := by
                  have := y1.length
                  simp only [List.length_map] at this
                  omega
                obtain ⟨arr1, k3, fr3, w1, w2, w3, w4, w5⟩ := z3
                obtain ⟨new, n1, n2⟩ := T.keep
                have hkeep : w'.heap[cb2]? = w.heap[cb2]? := by
                  refine (n2 1 (by decide) (fun hm => ?_)).2 (.cells takeY) cb2 (co2 + o2) rfl hEs1
                  exact q5 1 (by rw [n1]; exact List.mem_append.2 (.inl hm)) rfl
                have hheap : ∀ k, k < w.heap.size → k ≠ cbx → w'.heap[k]? = w.heap[k]? := by
                  intro k hk hkb
                  by_cases hk2 : k = cb2
                  · rw [hk2]; exact hkeep
                  · refine T.frame k hk ?_
                    rintro ⟨i, z, co3, hz, hb⟩
                    rcases takeM_get hz with ⟨rfl, rfl⟩ | ⟨rfl, rfl⟩
                    · rw [hEs0] at hb
                      simp only [Option.some.injEq, Prod.mk.injEq] at hb
                      exact hkb hb.1.symm
                    · rw [hEs1] at hb
                      simp only [Option.some.injEq, Prod.mk.injEq] at hb
                      exact hk2 hb.1.symm
                obtain ⟨p1, p2⟩ := holes hr (st'.map (Value.int .u32))
                simp only [List.length_map, hst'] at p1 p2
                have hset := p2.setB (y := .cells ⟨holeL .u32 m.nhole 8, 265, none, 0, true⟩) (W := w') hx (setB_holes hB) hb1 hheap T.size ⟨T.os, T.tape, T.output⟩
                  (BlkR.mk' (x := ⟨holeL .u32 m.nhole 8, 265, none, 0, true⟩) (arr := arr1) (fr := fr3) (by rw [w1, q3]) (fun _ => w2 q4) rfl (by show cox + 8 ≤ arr1.size; omega) (holeL_R .u32 8 m.nhole st' hst' (fun i v hv => withH_get m.nhole i _ _ (by rw [List.getElem?_map, hv]; rfl))) y3)
                exact ⟨_, _, rfl, p1.trans hset.1, hset.2, ⟨[], rfl, hv2⟩⟩
            · cases hrun
          · cases hrun
      · simp at hg
    · simp at hg
  · simp at hg
end Go.Proofs.YtibdikihgdkfnaaGreatDoor.Ev
end
section
/- A reckoner: a digest of bytes is told, by a run on unknown bytes for each length that comes. -/
namespace Go.Proofs.YtibdikihgdkfnaaGreatDoor.Ev
set_option linter.unusedVariables false
def takeS : FuncId → Option Sum := fun f => bif f == 170 then some takeG else none
theorem e170 : entersB 170 = true := by kernel_rfl
theorem takeS_ok {Gd : World → Prop} (hG : ∀ w, Gd w → ShaT w) : ∀ f g, takeS f = some g → SumOk Tryz.prog Gd f g ∧ entersB f = true := by
  intro f g h
  unfold takeS at h
  simp only [cond_eq_ite, beq_iff_eq] at h
  split at h
  · rename_i hf
    subst hf
    simp only [Option.some.injEq] at h
    subst h
    exact ⟨take_ok hG, e170⟩
  · simp at h
set_option maxHeartbeats 0 in
theorem sha_run0 : aggOk0 .u8 32 (callF takeS 123 [litV (.slice none 0 0)] (bare 0)) = true := by kernel_rfl
set_option maxHeartbeats 0 in
theorem sha_run1 : aggOk .u8 32 (callF takeS 123 [ceV (.slc 0 0 1 1 (some 0))] (rowM 1)) = true := by kernel_rfl
set_option maxHeartbeats 0 in
theorem sha_run3 : aggOk .u8 32 (callF takeS 123 [ceV (.slc 0 0 3 3 (some 0))] (rowM 3)) = true := by kernel_rfl
set_option maxHeartbeats 0 in
theorem sha_run4 : aggOk .u8 32 (callF takeS 123 [ceV (.slc 0 0 4 4 (some 0))] (rowM 4)) = true := by kernel_rfl
set_option maxHeartbeats 0 in
theorem sha_run73 : aggOk .u8 32 (callF takeS 123 [ceV (.slc 0 0 73 73 (some 0))] (rowM 73)) = true := by kernel_rfl
def shaLen (n : Nat) : Bool := n == 1 || n == 3 || n == 4 || n == 73
def shaG : Sum := aggG shaLen true .u8 32
theorem e123 : entersB 123 = true := by kernel_rfl
theorem sha_ok {Gd : World → Prop} (hG : ∀ w, Gd w → ShaT w) : SumOk Tryz.prog Gd 123 shaG :=
  agg_ok hG (takeS_ok hG) (fun n hn => by
    unfold shaLen at hn
    simp only [Bool.or_eq_true, beq_iff_eq] at hn
    rcases hn with ((rfl | rfl) | rfl) | rfl
    · exact sha_run1
    · exact sha_run3
    · exact sha_run4
    · exact sha_run73) (fun _ => sha_run0)
end Go.Proofs.YtibdikihgdkfnaaGreatDoor.Ev
end
section
/- A reckoner, twenty-sixth part: sums of bytes, and a frame read of nothing, are told. -/
namespace Go.Proofs.YtibdikihgdkfnaaGreatDoor.Ev
open Go.RowKit Go.Proofs.YtibdikihgdkfnaaGreatDoorW.PrintWords Go.Proofs.YtibdikihgdkfnaaGreatDoor.PSto
set_option linter.unusedVariables false
set_option linter.unusedSimpArgs false
def Gd (w : World) : Prop := ShaT w ∧ ErrT w
theorem reads_of {w : World} {cb off : Nat} {l : List Int} (h : w.rangeAt cb off (l.map (Value.int .u8))) (hl : l.length ≤ 9223372036854775807) : Kd.C (Kd.int .u8) w (some ⟨cb, off, none⟩) l.length l := by
  refine ⟨rfl, hl, fun _ => ⟨_, rfl, fun j p hp => ⟨[.int .u8 p], rfl, rfl, fun i u hu => ?_⟩⟩⟩
  cases i with
  | succ i => simp at hu
  | zero =>
    simp only [List.getElem?_cons_zero, Option.some.injEq] at hu
    subst hu
    have h1 := h j (.int .u8 p) (by rw [List.getElem?_map, hp]; rfl)
    have h2 : (⟨cb, off, none⟩ : Addr).add (j * (Kd.int .u8).sz + 0) = ⟨cb, off + j, none⟩ := by
      rw [Addr.add_mid]
      show (⟨cb, off + (j * 1 + 0), none⟩ : Addr) = _
      rw [Nat.mul_one, Nat.add_zero]
    rw [h2]
    exact h1
/-- Bytes that a slice tells. -/
def bytesA (m : Mem) : Va → Bool
  | .one (.ce (.slc b o len lo up)) => match m.load b o len with
    | some cs => cs.all (numC .u8) && Nat.ble len 1000000 && Nat.ble len lo
    | none => false
  | _ => false
theorem bytesA_ok {E : Env} {B : Nat} {m : Mem} {w : World} {a : Va} {u : Value} (hr : Rel E B m w) (h : bytesA m a = true) (hu : a.R E u) : ∃ A l c, u = .slice A l.length c ∧ Kd.C (Kd.int .u8) w A l.length l ∧ l.length ≤ c := by
  unfold bytesA at h
  split at h
  · rename_i b o len lo up
    split at h
    · rename_i cs hl
      simp only [Bool.and_eq_true] at h
      obtain ⟨⟨h1, h2⟩, h3⟩ := h
      have h2 := Nat.le_of_ble_eq_true h2
      have h3 := Nat.le_of_ble_eq_true h3
      obtain ⟨cb, co, k, hb, hk, rfl⟩ := hu
      obtain ⟨us, t1, t2, t3⟩ := hr.load hl hb
      obtain ⟨l, rfl⟩ := numCs_ok h1 t1
      simp only [List.length_map] at t2
      exact ⟨_, l, lo + k, by rw [t2], reads_of t3 (by omega), by omega⟩
    · cases h
  · cases h
def moreG : Sum := fun args m => match args with
  | [.one (.ce c), a] => bif numC .u32 c && bytesA m a then some (ceV (.hole .u32 m.nhole), m.holes 1) else none
  | _ => none
def sumG : Sum := fun args m => match args with
  | [a] => bif bytesA m a then some (ceV (.hole .u32 m.nhole), m.holes 1) else none
  | _ => none
theorem more_ok : SumOk Tryz.prog Gd 49 moreG := by
  intro E B m m' w args us a hI hg hr ha
  unfold moreG at hg
  split at hg
  · rename_i c a1
    simp only [cond_eq_ite] at hg
    split at hg
    · rename_i hc
      simp only [Bool.and_eq_true] at hc
      simp only [Option.some.injEq, Prod.mk.injEq] at hg
      obtain ⟨rfl, rfl⟩ := hg
      obtain ⟨u, r, rfl, h1, u2, r2, rfl, h2, h3⟩ := ha
      have h3 : r2 = [] := h3
      subst h3
      obtain ⟨q, rfl⟩ := numC_ok hc.1 h1
      obtain ⟨A, l, cc, rfl, h4, h5⟩ := bytesA_ok hr hc.2 h2
      exact tell_hole hr ((crc_More.calls q A cc l _ w h4 h5 rfl).mono (fun e w' ⟨h6, h7⟩ => ⟨_, h6, h7⟩))
    · simp at hg
  · simp at hg
theorem sum_ok : SumOk Tryz.prog Gd 50 sumG := by
  intro E B m m' w args us a hI hg hr ha
  unfold sumG at hg
  split at hg
  · rename_i a1
    simp only [cond_eq_ite] at hg
    split at hg
    · rename_i hc
      simp only [Option.some.injEq, Prod.mk.injEq] at hg
      obtain ⟨rfl, rfl⟩ := hg
      obtain ⟨u, r, rfl, h1, h3⟩ := ha
      have h3 : r = [] := h3
      subst h3
      obtain ⟨A, l, cc, rfl, h4, h5⟩ := bytesA_ok hr hc h1
      have hs : ∃ z, crc_Sum.f l = some z := ⟨_, rfl⟩
      obtain ⟨z, hz⟩ := hs
      exact tell_hole hr ((crc_Sum.calls A cc l z w h4 h5 hz).mono (fun e w' ⟨h6, h7⟩ => ⟨_, h6, h7⟩))
    · simp at hg
  · simp at hg
def getG : Sum := fun args m => match args with
  | [.one (.ce (.lit (.slice none 0 0)))] => some (.tup [.ce (.any m.nhole), .ce (.lit (.int .i64 0)), .ce (.lit (.int .i64 2))], m.holes 1)
  | _ => none
theorem get_nil : frame_Get.f [] = some ([], 0, 2) := by decide
theorem get_ok : SumOk Tryz.prog Gd 116 getG := by
  intro E B m m' w args us a hI hg hr ha
  unfold getG at hg
  split at hg
  · simp only [Option.some.injEq, Prod.mk.injEq] at hg
    obtain ⟨rfl, rfl⟩ := hg
    obtain ⟨u, r, rfl, h1, h3⟩ := ha
    have h3 : r = [] := h3
    subst h3
    have e1 : u = .slice none 0 0 := h1.2
    subst e1
    refine (frame_Get.calls none 0 [] [] 0 2 w ⟨rfl, by decide, fun h => absurd h (by decide)⟩ (Nat.le_refl _) (hI w (Below.refl B w)).2 get_nil).mono ?_
    rintro e w' ⟨v0, rfl, h6, h7⟩
    obtain ⟨A, c, rfl⟩ := Kd.R_slice h6
    obtain ⟨t1, r1⟩ := quiet hr h7
    obtain ⟨t2, r2⟩ := holes r1 [.slice A ([] : List Int).length c]
    exact ⟨_, _, rfl, t1.trans t2, r2, _, ⟨_, _, rfl, ⟨withH_get m.nhole 0 [.slice A ([] : List Int).length c] _ rfl, rfl⟩, _, _, rfl, ⟨rfl, rfl⟩, _, _, rfl, ⟨rfl, rfl⟩, rfl⟩, rfl⟩
  · simp at hg
end Go.Proofs.YtibdikihgdkfnaaGreatDoor.Ev
end
section
/- A reckoner, twenty-seventh part: a map's keys, put into a row, are told. -/
namespace Go.Proofs.YtibdikihgdkfnaaGreatDoor.Ev
open Go.RowKit Go.Maps Go.Sort Go.Shelf
set_option linter.unusedVariables false
set_option linter.unusedSimpArgs false
def keys87_ren : Go.Shelf.Ren := ⟨fun | 7 => 87 | 10 => 134 | n => n, fun | 23 => 59 | 26 => 9 | 3 => 63 | 28 => 149 | 0 => 0 | 27 => 148 | 33 => 142 | 4 => 4 | n => n, fun | n => n⟩
theorem keys87 : Go.Proofs.SlLaysZ.n7 Tryz.prog keys87_ren where
  mixed := by kernel_rfl
  f7 := ⟨ "maps.Keys[map[string]*estreat/disk.file,string,*estreat/disk.file]", by decide, Tryz.func87.trans (congrArg some (by kernel_rfl))⟩
  f10 := ⟨ "maps.Keys[map[string]*estreat/disk.file,string,*estreat/disk.file]$1", by decide, Tryz.func134.trans (congrArg some (by kernel_rfl))⟩
  t0 := Tryz.underlying0
  a0 := Tryz.isAgg0
  z0 := Tryz.sizeOf0
  v0 := Tryz.zeroValue0
  t4 := Tryz.underlying4
  a4 := Tryz.isAgg4
  z4 := Tryz.sizeOf4
  v4 := Tryz.zeroValue4
  t23 := Tryz.underlying59
  a23 := Tryz.isAgg59
  z23 := Tryz.sizeOf59
  v23 := Tryz.zeroValue59
  t26 := Tryz.underlying9
  a26 := Tryz.isAgg9
  z26 := Tryz.sizeOf9
  v26 := Tryz.zeroValue9
  t27 := Tryz.underlying148
  a27 := Tryz.isAgg148
  z27 := Tryz.sizeOf148
  v27 := Tryz.zeroValue148
  t28 := Tryz.underlying149
  a28 := Tryz.isAgg149
  z28 := Tryz.sizeOf149
  v28 := Tryz.zeroValue149
  t33 := Tryz.underlying142
  a33 := Tryz.isAgg142
  z33 := Tryz.sizeOf142
  v33 := Tryz.zeroValue142
def ap176_ren : Go.Shelf.Ren := ⟨fun | 11 => 176 | n => n, fun | 24 => 72 | 26 => 9 | 28 => 149 | 0 => 0 | 33 => 142 | 4 => 4 | n => n, fun | n => n⟩
theorem ap176 : Go.Proofs.SlLaysZ.n11 Tryz.prog ap176_ren where
  mixed := by kernel_rfl
  f11 := ⟨ "slices.AppendSeq[[]string,string]", by decide, Tryz.func176.trans (congrArg some (by kernel_rfl))⟩
  t0 := Tryz.underlying0
  a0 := Tryz.isAgg0
  z0 := Tryz.sizeOf0
  v0 := Tryz.zeroValue0
  t24 := Tryz.underlying72
  a24 := Tryz.isAgg72
  z24 := Tryz.sizeOf72
  v24 := Tryz.zeroValue72
  t26 := Tryz.underlying9
  a26 := Tryz.isAgg9
  z26 := Tryz.sizeOf9
  v26 := Tryz.zeroValue9
  t28 := Tryz.underlying149
  a28 := Tryz.isAgg149
  z28 := Tryz.sizeOf149
  v28 := Tryz.zeroValue149
  i26 := by kernel_rfl

/-- A new block that the world has got. -/
theorem Rel.gain {E : Env} {B : Nat} {m m' : Mem} {w W : World} (hr : Rel E B m w) (hb : Below w.heap.size w W) {x : Bl} {b : Nat} (ha : m.alloc x = some (b, m')) {g co : Nat} (hg : w.heap.size ≤ g) (hx : ∀ F, Env.Le E F → BlR F x g co W) :
    To E m w (E.withB b g co) m' W ∧ Rel (E.withB b g co) B m' W ∧ (E.withB b g co).blk b = some (g, co) := by
  unfold Mem.alloc at ha
  cases hp : Tr.put (some x) 64 m.t m.next with
  | none => rw [hp] at ha; simp at ha
  | some t =>
    rw [hp] at ha
    simp only [Option.map_some, Option.some.injEq, Prod.mk.injEq] at ha
    obtain ⟨rfl, rfl⟩ := ha
    have hget := Tr.put_get 64 m.t m.next t hp
    have hle : Env.Le E (E.withB m.next g co) := Env.withB_le (hr.freshB _ (Nat.le_refl _))
    have hnew : (E.withB m.next g co).blk m.next = some (g, co) := by simp [Env.withB]
    have hgn : ∀ c, ({ m with t := t, next := m.next + 1 } : Mem).get c = if c = m.next then some x else m.get c := fun c => hget c
    have hold : ∀ c, c ≠ m.next → (E.withB m.next g co).blk c = E.blk c := fun c hc => by simp [Env.withB, hc]
    have hlt : ∀ d z q co2, m.get d = some z → E.blk d = some (q, co2) → q < w.heap.size := fun d z q co2 hz hq => by
      obtain ⟨cb2, co3, h3, _, h4⟩ := hr.blk d z hz
      rw [hq] at h3
      simp only [Option.some.injEq, Prod.mk.injEq] at h3
      rw [h3.1]; exact h4.lt
    refine ⟨⟨hle, hb.os, hb.tape, hb.output, hb.size, ?_, fun k hk _ => hb.block k hk, Nat.le_succ _, ⟨[], rfl, ?_⟩⟩, ⟨?_, ?_, ?_, hr.freshC, hr.freshH, Nat.le_trans hr.base hb.size⟩, hnew⟩
    · rintro k hk ⟨c, y, co', h1, h2⟩
      rw [hgn] at h1
      by_cases hc : c = m.next
      · subst hc
        rw [hnew] at h2
        simp only [Option.some.injEq, Prod.mk.injEq] at h2
        omega
      · rw [if_neg hc] at h1
        rw [hold c hc] at h2
        exact ⟨c, y, co', h1, h2⟩
    · intro c hc _
      exact ⟨by rw [hgn, if_neg (by omega)], fun z q cq hz hq => hb.block q (hlt c z q cq hz hq)⟩
    · intro c y hy
      rw [hgn] at hy
      by_cases hc : c = m.next
      · subst hc
        rw [if_pos rfl] at hy
        simp only [Option.some.injEq] at hy
        subst hy
        exact ⟨_, _, hnew, Nat.le_trans hr.base hg, hx _ hle⟩
      · rw [if_neg hc] at hy
        obtain ⟨cb, co', h1, h2, h3⟩ := hr.blk c y hy
        exact ⟨cb, co', (hold c hc).trans h1, h2, h3.le hle (hb.block cb h3.lt)⟩
    · intro c c' y y' cb co1 co2 hy hy' h1 h2
      rw [hgn] at hy hy'
      by_cases hc : c = m.next
      · by_cases hc' : c' = m.next
        · rw [hc, hc']
        · rw [if_neg hc'] at hy'
          rw [hold c' hc'] at h2
          rw [hc, hnew] at h1
          simp only [Option.some.injEq, Prod.mk.injEq] at h1
          have := hlt c' y' cb co2 hy' h2
          omega
      · rw [if_neg hc] at hy
        rw [hold c hc] at h1
        by_cases hc' : c' = m.next
        · rw [hc', hnew] at h2
          simp only [Option.some.injEq, Prod.mk.injEq] at h2
          have := hlt c y cb co1 hy h1
          omega
        · rw [if_neg hc'] at hy'
          rw [hold c' hc'] at h2
          exact hr.inj c c' y y' cb co1 co2 hy hy' h1 h2
    · intro c hc
      rw [hold c (by simp only at hc; omega)]
      exact hr.freshB c (by simp only at hc; omega)
/-! maps.Keys -/
def keysG : Sum := fun args m => match args with
  | [.one (.ce (.mp q))] => (m.alloc (.cells ⟨[.mp q], 59, none, 0, true⟩)).map fun p => (ceV (.clo 134 p.1), p.2)
  | _ => none
theorem keys_ok : SumOk Tryz.prog Gd 87 keysG := by
  intro E B m m' w args us a hI hg hr ha
  unfold keysG at hg
  split at hg
  · rename_i q
    cases hal : m.alloc (.cells ⟨[.mp q], 59, none, 0, true⟩) with
    | none => rw [hal] at hg; simp at hg
    | some p =>
      obtain ⟨b, m1⟩ := p
      rw [hal] at hg
      simp only [Option.map_some, Option.some.injEq, Prod.mk.injEq] at hg
      obtain ⟨rfl, rfl⟩ := hg
      obtain ⟨u, r, rfl, ⟨qb, h1, rfl⟩, h3⟩ := ha
      have h3 : r = [] := h3
      subst h3
      have hk : CallsIn Fence.wide 5 Tryz.prog 87 #[.map (some qb)] w _ := AnyZ.keys_in keys87 Fence.wide 5 trivial rfl (some qb) w
      refine ((callsIn_wide (n := 5)).1 hk).mono ?_
      rintro e w' ⟨rfl, rfl⟩
      obtain ⟨t1, r1, hb, _, _⟩ := hr.alloc hal [.map (some qb)] [] ⟨_, _, rfl, ⟨qb, h1, rfl⟩, rfl⟩ 0 (0, 0) (fun _ => rfl) rfl (by simp)
      exact ⟨_, _, rfl, t1, r1, w.heap.size, hb, rfl⟩
  · simp at hg
/-! slices.AppendSeq of no or one key -/
def seqR (x : Value) : Option (DataW Unit × List MemPlace) := some (.nil, [])
def entK (e : Ent) (clock : Nat) : Option ByteArray := match e.key with
  | .string s => bif Nat.ble s.size 1000 && Nat.blt e.born clock then some s else none
  | _ => none
def seqMap (m : Mem) (b : Nat) : Option (List Ent × Nat) := match m.get b with
  | some (.cells x) => match x.cells with
    | [.mp q] => match m.get q with
      | some (.map es clock) => some (es, clock)
      | _ => none
    | _ => none
  | _ => none
def seqG : Sum := fun args m => match args with
  | [.one (.ce (.lit (.slice none 0 0))), .one (.ce (.clo f b))] => bif f == 134 then match seqMap m b with
    | some ([], _) => some (litV (.slice none 0 0), m)
    | some ([e], clock) => match entK e clock with
      | some s => (m.allocRoom [.lit (.string s)] 9 1).map fun p => (ceV (.slc p.1 0 1 1 (some m.ncap)), p.2)
      | none => none
    | _ => none
    else none
  | _ => none
theorem keyOf9 (s : ByteArray) (h : s.size ≤ 1000) : keyOf Tryz.prog 9 (.string s) = some (.string s.data.toList) := by
  have h2 : s.size ≤ maxLen := Nat.le_trans h (by decide)
  simp [keyOf, Tryz.underlying9, mapKey, h2]
theorem seq_call {E : Env} {B : Nat} {m : Mem} {w : World} {b cb : Nat} {es : List Ent} {clock : Nat} (hr : Rel E B m w) (hm : seqMap m b = some (es, clock)) (hb : E.blk b = some (cb, 0)) (us : Array MapEntry → Prop) (D : DataW Unit)
    (hown : ∀ qb es' , w.heap[qb]? = some (.map es' clock) → RM E es es'.toList → w.ownsMap Tryz.prog 9 seqR qb 1 D) (hsz : Maps.size D ≤ 1) :
    Calls Tryz.prog 176 #[.slice none 0 0, .func (.func 134) #[] #[.pointer (some ⟨cb, 0, none⟩)]] w fun e w' => ∃ (v : Value) (ss : List (List UInt8)), e = .returned v ∧ ss.Perm (strKeys D) ∧ w'.ownsRow w.heap.size 9 1 v ss.length (ss.map encStr) ∧ (v = .slice none 0 0 ↔ ss = []) ∧ Below w.heap.size w w' := by
  unfold seqMap at hm
  split at hm
  · rename_i x hx
    split at hm
    · rename_i q hxc
      split at hm
      · rename_i es2 ck hq
        simp only [Option.some.injEq, Prod.mk.injEq] at hm
        obtain ⟨rfl, rfl⟩ := hm
        obtain ⟨cb', co, h1, _, h2⟩ := hr.blk b _ hx
        rw [hb] at h1
        simp only [Option.some.injEq, Prod.mk.injEq] at h1
        obtain ⟨rfl, rfl⟩ := h1
        have hlt := BlkR.lt h2
        obtain ⟨us, t1, t3⟩ := BlkR.all h2
        rw [hxc] at t1
        obtain ⟨u, r, rfl, ⟨qb, hqb, rfl⟩, _⟩ := t1
        have hcell := t3 0 (.map (some qb)) rfl
        obtain ⟨cq, co, g1, _, g2⟩ := hr.blk q _ hq
        rw [hqb] at g1
        simp only [Option.some.injEq, Prod.mk.injEq] at g1
        obtain ⟨rfl, rfl⟩ := g1
        obtain ⟨_, es', g3, g4⟩ := g2
        have ho := hown qb es' g3 g4
        have hseq : SeqGives Fence.wide 4 Tryz.prog 134 #[.pointer (some ⟨cb, 0, none⟩)] encStr (fun ss => ss.Perm (strKeys D)) (Maps.size D) w :=
          AnyZ.keys_gives (ρ := keys87_ren) { keys87 with } Fence.wide _ trivial rfl (by omega) cb qb 1 D w hlt hcell ho
        have := AnyZ.appendSeq_in ap176 Fence.wide 5 trivial rfl (by omega) 134 #[.pointer (some ⟨cb, 0, none⟩)] trivial (Go.Proofs.enters_of Tryz.func134 (by kernel_rfl) rfl) _ (Maps.size D) (Nat.le_trans hsz (by decide)) (by omega) w hseq
        exact (callsIn_wide (n := 5)).1 this
      · simp at hm
    · simp at hm
  · simp at hm
end Go.Proofs.YtibdikihgdkfnaaGreatDoor.Ev
end
section
/- A reckoner, twenty-eighth part: a row of no or one key is told. -/
namespace Go.Proofs.YtibdikihgdkfnaaGreatDoor.Ev
open Go.RowKit Go.Maps Go.Sort Go.Shelf Go.WideElems Go.MapKept
set_option linter.unusedVariables false
set_option linter.unusedSimpArgs false
theorem own_none {w : World} {qb clock : Nat} (es' : Array MapEntry) (h : w.heap[qb]? = some (.map es' clock)) (he : es'.toList = []) : w.ownsMap Tryz.prog 9 seqR qb 1 (.map []) := by
  have : es' = #[] := by simpa using he
  subst this
  exact ⟨#[], clock, h, ⟨by simp, ⟨by simp, by simp, by simp⟩, by simp⟩, by simp, rfl⟩
theorem own_one {w : World} {qb clock : Nat} (es' : Array MapEntry) (u : MapEntry) (s : ByteArray) (h : w.heap[qb]? = some (.map es' clock)) (he : es'.toList = [u]) (hk : u.key = .string s) (hs : s.size ≤ 1000) (hc : u.born < clock) :
    w.ownsMap Tryz.prog 9 seqR qb 1 (.map [(.string s.data.toList, .nil)]) := by
  have hrd : rd Tryz.prog 9 seqR u = some (.string s.data.toList, .nil) := by
    unfold rd
    rw [hk, keyOf9 s hs]
    rfl
  have hl : es'.size = 1 := by rw [← Array.length_toList, he]; rfl
  refine ⟨es', clock, h, ⟨by rw [hl]; decide, ⟨fun x hx => ?_, ?_, ?_⟩, fun x hx => ?_⟩, by omega, ?_⟩
  · rw [he] at hx
    rw [List.mem_singleton.1 hx]; exact hc
  · rw [he]; simp
  · rw [he]; simp
  · rw [he] at hx
    rw [List.mem_singleton.1 hx]; exact ⟨_, hrd⟩
  · rw [he]
    show _ = DataW.map (DataW.insert (rg Tryz.prog 9 seqR u) [])
    unfold rg
    rw [hrd]
    rfl
theorem seq_ok : SumOk Tryz.prog Gd 176 seqG := by
  intro E B m m' w args us a hI hg hr ha
  unfold seqG at hg
  split at hg
  · rename_i f b
    simp only [cond_eq_ite, beq_iff_eq] at hg
    split at hg
    · rename_i hf
      subst hf
      obtain ⟨u1, r1, rfl, h1, u2, r2, rfl, ⟨cb, hb, rfl⟩, h3⟩ := ha
      have h3 : r2 = [] := h3
      subst h3
      have e1 : u1 = .slice none 0 0 := h1.2
      subst e1
      split at hg
      · rename_i clock hm
        simp only [Option.some.injEq, Prod.mk.injEq] at hg
        obtain ⟨rfl, rfl⟩ := hg
        refine (seq_call hr hm hb (fun _ => True) (.map []) (fun qb es' h4 h5 => own_none es' h4 h5) (by decide)).mono ?_
        rintro e w' ⟨v, ss, rfl, hp, _, hnil, hbl⟩
        have hss : ss = [] := List.perm_nil.1 hp
        have hv := hnil.2 hss
        subst hv
        obtain ⟨t1, r1⟩ := quiet hr hbl
        exact ⟨E, _, rfl, t1, r1, rfl, rfl⟩
      · rename_i e clock hm
        split at hg
        · rename_i s hs
          cases hal : m.allocRoom [.lit (.string s)] 9 1 with
          | none => rw [hal] at hg; simp at hg
          | some p =>
            obtain ⟨b1, m1⟩ := p
            rw [hal] at hg
            simp only [Option.map_some, Option.some.injEq, Prod.mk.injEq] at hg
            obtain ⟨rfl, rfl⟩ := hg
            have hk : e.key = .string s ∧ s.size ≤ 1000 ∧ e.born < clock := by
              unfold entK at hs
              split at hs
              · rename_i s' hk
                simp only [cond_eq_ite] at hs
                split at hs
                · rename_i hc
                  simp only [Bool.and_eq_true, Nat.blt_eq] at hc
                  simp only [Option.some.injEq] at hs
                  subst hs
                  exact ⟨hk, Nat.le_of_ble_eq_true hc.1, hc.2⟩
                · simp at hs
              · simp at hs
            refine (seq_call hr hm hb (fun _ => True) (.map [(.string s.data.toList, .nil)]) (fun qb es' h4 h5 => ?_) (Nat.le_refl 1)).mono ?_
            · obtain ⟨u, r, h6, h7, h8, _, h9⟩ := h5
              have h9 : r = [] := h9
              subst h9
              exact own_one es' u s h4 h6 (h7.trans hk.1) hk.2.1 (h8 ▸ hk.2.2)
            · rintro e' w' ⟨v, ss, rfl, hp, hrow, _, hbl⟩
              have hss : ss = [s.data.toList] := List.perm_singleton.1 hp
              subst hss
              obtain ⟨_, hrow⟩ := hrow
              rcases hrow with ⟨_, h0⟩ | ⟨g, cap, cur, rfl, hgb, hheap, hcap, hmax, hcs, htake⟩
              · simp at h0
              · have hcap : 1 ≤ cap := by simpa using hcap
                have hcs : cur.size = cap := by simpa using hcs
                have htake : cur.toList.take 1 = [.string s] := by simpa using htake
                obtain ⟨t1, rr1⟩ := hr.room (cap - 1)
                have hcapF : ∀ F, Env.Le (E.withC m.ncap (cap - 1)) F → F.capOf (some m.ncap) = some (cap - 1) := fun F hF => hF.capOf (Env.withC_at _ _ _)
                obtain ⟨t2, r2, hb2⟩ := rr1.gain hbl (x := .cells ⟨[.lit (.string s)], 9, some m.ncap, 1, true⟩) hal (g := g) (co := 0) hgb (fun F hF => ⟨cur, cap - 1, (0, 0), hheap, fun _ => rfl, hcapF F hF, by
                  show 0 + 1 + (cap - 1) * 1 ≤ cur.size
                  omega, fun i c hc => by
                    cases i with
                    | succ i => simp at hc
                    | zero =>
                      simp only [List.getElem?_cons_zero, Option.some.injEq] at hc
                      subst hc
                      refine ⟨.string s, ?_, rfl, rfl⟩
                      have h5 : (cur.toList.take 1)[0]? = some (.string s) := by rw [htake]; rfl
                      rw [List.getElem?_take, if_pos (by decide), Array.getElem?_toList] at h5
                      exact h5⟩)
                exact ⟨_, _, rfl, t1.trans t2, r2, g, 0, cap - 1, hb2, hcapF _ t2.le, by
                  show Value.slice (some ⟨g, 0, none⟩) 1 cap = .slice (some ⟨g, 0 + 0, none⟩) 1 (1 + (cap - 1))
                  congr 1
                  omega⟩
        · simp at hg
      · simp at hg
    · simp at hg
  · simp at hg
end Go.Proofs.YtibdikihgdkfnaaGreatDoor.Ev
end
