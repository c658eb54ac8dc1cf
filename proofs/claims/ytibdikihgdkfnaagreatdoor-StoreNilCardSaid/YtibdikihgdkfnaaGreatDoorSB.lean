/- Texts of this proof, put into one: EvL, EvM, EvN, EvO, EvP, EvQ, EvS, EvR, EvT, EvU, EvV. -/
import Derived.Test.YtibdikihgdkfnaaGreatDoorSA
import Derived.Lib.AppendZerosOnto
import Derived.Laws.IdiomStrings
import Derived.Tactics
section
/- A reckoner, twelfth part: append. -/
namespace Go.Proofs.YtibdikihgdkfnaaGreatDoor.Ev
open Go.RowKit
set_option linter.unusedVariables false
set_option linter.unusedSimpArgs false
section
variable {P : Program} {E : Env} {B : Nat} {m : Mem} {w : World} {A : Act} {o : Oper} {ts : Fr}
theorem RL_lits : ∀ (l : List Value), (∀ v ∈ l, v.oneCell' = true) → RL E (l.map Ce.lit) l
  | [], _ => rfl
  | v :: l, h => ⟨v, l, rfl, ⟨h v (by simp), rfl⟩, RL_lits l (fun u hu => h u (by simp [hu]))⟩
theorem byteCells_one (s : ByteArray) : ∀ v ∈ byteCells s, v.oneCell' = true := fun v hv => by
  obtain ⟨_, _, rfl⟩ := List.mem_map.1 hv
  rfl
theorem srcC_ok {size : Nat} {tx : TypeId} {x : Va} {u : Value} {n : Nat} {news : List Ce} (hr : Rel E B m w) (h : srcC P size tx x m = some (n, news)) (hx : x.R E u) : ∃ vs, RL E news vs ∧ Src P size tx u n vs w := by
  unfold srcC at h
  split at h
  · rename_i b off len lo up e hu
    obtain ⟨cb, co, k, hb, hk, hxe⟩ := hx
    cases hl : m.load b off (len * size) with
    | none => rw [hl] at h; simp at h
    | some cs =>
      rw [hl] at h
      simp only [Option.map_some, Option.some.injEq, Prod.mk.injEq] at h
      obtain ⟨rfl, rfl⟩ := h
      obtain ⟨us, h1, h2, h3⟩ := hr.load hl hb
      refine ⟨us, h1, ?_⟩
      rw [hxe]
      exact Src.ofSlice w hu _ _ _ us h2 (fun j v hj => by rw [Addr.add_mid]; exact h3 j v hj) h1.one
  · rename_i c e hu
    simp only [Option.some.injEq, Prod.mk.injEq] at h
    obtain ⟨rfl, rfl⟩ := h
    have e1 : u = .slice none 0 c := hx.2
    subst e1
    exact ⟨[], rfl, Src.ofNil w hu c⟩
  · rename_i s hu
    split at h
    · rename_i hs
      simp only [Option.some.injEq, Prod.mk.injEq] at h
      obtain ⟨rfl, rfl⟩ := h
      have e1 : u = .string s := hx.2
      subst e1; subst hs
      exact ⟨_, RL_lits _ (byteCells_one s), Src.ofString w hu s⟩
    · simp at h
  · simp at h
theorem append_nothing {t tx ty e : TypeId} {i : TypeInfo} {x : Value} {news : List Value} (ht : P.underlying t = some (.slice e)) (hi : P.info? e = some i) (hs : Src P i.size tx x 0 news w) :
    (Builtin.append_ #[t, tx] ty #[.slice none 0 0, x]).run P w = .ok (.slice none 0 0) w := by
  rcases hs.kind with ⟨e', hk⟩ | hk <;> simp [Builtin.append_, run_underlying ht, run_underlying hk, sizeOf, typeInfo, hi, hs.len, hs.cells]
theorem append_room {t tx ty e : TypeId} {i : TypeInfo} {x : Value} {news : List Value} {n sLen sCap cb off : Nat} {w' : World} (ht : P.underlying t = some (.slice e)) (hi : P.info? e = some i) (hs : Src P i.size tx x n news w) (hroom : sLen + n ≤ sCap)
    (hst : (storeCells ⟨cb, off + sLen * i.size, none⟩ news).run P w = .ok () w') :
    (Builtin.append_ #[t, tx] ty #[.slice (some ⟨cb, off, none⟩) sLen sCap, x]).run P w = .ok (.slice (some ⟨cb, off, none⟩) (sLen + n) sCap) w' := by
  rcases hs.kind with ⟨e', hk⟩ | hk <;> simp [Builtin.append_, run_underlying ht, run_underlying hk, sizeOf, typeInfo, hi, hs.len, hroom, hs.cells, Addr.add_mid, hst]
theorem nextcap_le {need c : Nat} (h : c < need) : Builtin.nextslicecap need c ≤ 2 * need + 768 := by
  unfold Builtin.nextslicecap
  split
  · omega
  · split
    · omega
    · have key : ∀ (rounds d : Nat), d ≤ 2 * need + 768 → Builtin.growBy need rounds d ≤ 2 * need + 768 := by
        intro rounds
        induction rounds with
        | zero => intro d hd; exact hd
        | succ r ih =>
          intro d hd
          unfold Builtin.growBy
          split
          · exact hd
          · exact ih _ (by omega)
      exact key 4 c (by omega)
/-- A new row behind an append that has no room. -/
theorem OpOk.grown {olds news : List Ce} {us vs : List Value} {e t tx : TypeId} {ie : TypeInfo} {z : Value} {sLen sCap n : Nat} {base : Option Addr} {x : Value} {r : Res} (hr : Rel E B m w)
    (hu : P.underlying t = some (.slice e)) (hi : P.info? e = some ie) (hz : ie.zero = some z) (hzs : z.cells.size = ie.size) (ho1 : RL E olds us) (ho2 : RL E news vs) (hs : Src P ie.size tx x n vs w)
    (hold : (Builtin.firstCells ie.size sLen (.slice base sLen sCap)).run P w.drew = .ok us.toArray w.drew) (hg : sCap < sLen + n) (h63 : sLen + n ≤ 9223372036854775807) (hfit : Builtin.nextslicecap (sLen + n) sCap * ie.bytes ≤ 281474976710656)
    (hcall : ∀ v w', (Builtin.append_ #[t, tx] o.type #[.slice base sLen sCap, x]).run P w = .ok v w' → (execOp A.eval o).run P w = .ok (.value v) w')
    (h : ((m.allocRoom (olds ++ news) e ie.size).map fun p => Res.val (ceV (.slc p.1 0 (sLen + n) (sLen + n) (some m.ncap))) p.2) = some r) : OpOk P E B m w A o r := by
  have hrun := run_append_grow_src (P := P) w t tx o.type e ie z hu hi hz base sLen sCap us hold x n vs hs hg (by omega) hfit
  have hge := grownCap_ge w (sLen + n) sCap e
  generalize hgc : grownCap w (sLen + n) sCap e = gc at hrun hge
  cases ha : m.allocRoom (olds ++ news) e ie.size with
  | none => rw [ha] at h; simp at h
  | some p =>
    obtain ⟨b, m'⟩ := p
    rw [ha] at h
    simp only [Option.map_some, Option.some.injEq] at h
    subst h
    have t1 : To E m w E m w.drew := To.sameHeap rfl ⟨rfl, rfl, rfl⟩
    have r1 : Rel E B m w.drew := hr.sameHeap rfl
    obtain ⟨t2, r2⟩ := r1.room (gc - (sLen + n))
    have hl : RL (E.withC m.ncap (gc - (sLen + n))) (olds ++ news) (us ++ vs) := (ho1.append ho2).le t2.le
    obtain ⟨t3, r3, h3, _, _⟩ := r2.alloc (x := ⟨olds ++ news, e, some m.ncap, ie.size, true⟩) ha (us ++ vs) (Builtin.zeroCells z.cells (gc - (sLen + n))).toList hl (gc - (sLen + n)) (0, 0) (fun _ => rfl) (Env.withC_at _ _ _) (by
      rw [Array.length_toList, size_zeroCells, hzs]; exact Nat.le_refl _)
    have hcells : ((us ++ vs) ++ (Builtin.zeroCells z.cells (gc - (sLen + n))).toList).toArray = (us ++ vs).toArray ++ Builtin.zeroCells z.cells (gc - (sLen + n)) := by
      apply Array.ext'
      simp
    rw [hcells] at t3 r3
    refine ⟨_, _, _, hcall _ _ hrun, (t1.trans t2).trans t3, r3, ⟨_, _, gc - (sLen + n), h3, t3.le.capOf (Env.withC_at _ _ _), ?_⟩⟩
    congr 1
    omega
theorem OpOk.append {t tx : TypeId} {s x : Va} {su xu : Value} {r : Res} (hr : Rel E B m w) (hs : s.R E su) (hx : x.R E xu)
    (hcall : ∀ v w', (Builtin.append_ #[t, tx] o.type #[su, xu]).run P w = .ok v w' → (execOp A.eval o).run P w = .ok (.value v) w') (h : evAppend P t tx s x m = some r) : OpOk P E B m w A o r := by
  unfold evAppend at h
  split at h
  · rename_i e hu
    split at h
    · rename_i ie hi
      split at h
      · rename_i z n news hz hsrc
        split at h
        · simp at h
        · rename_i hzs
          have hzs : z.cells.size = ie.size := by simpa using hzs
          obtain ⟨vs, ho2, hS⟩ := srcC_ok hr hsrc hx
          split at h
          · have e1 : su = .slice none 0 0 := hs.2
            subst e1
            split at h
            · rename_i hn
              simp only [Option.some.injEq] at h
              subst h; subst hn
              exact OpOk.same hr (hcall _ _ (append_nothing hu hi hS)) ⟨rfl, rfl⟩
            · rename_i hn
              split at h
              · rename_i hq
                have h' : ((m.allocRoom ([] ++ news) e ie.size).map fun p => Res.val (ceV (.slc p.1 0 (0 + n) (0 + n) (some m.ncap))) p.2) = some r := by simpa using h
                have hnc : Builtin.nextslicecap (0 + n) 0 = n := by unfold Builtin.nextslicecap; rw [if_pos (by omega)]; omega
                exact OpOk.grown hr hu hi hz hzs (olds := []) (us := []) (show RL E [] [] from rfl) ho2 hS (by simp [Builtin.firstCells]) (by omega) (by omega) (by rw [hnc]; exact hq.1) hcall h'
              · simp at h
          · rename_i b off len lo up
            obtain ⟨cb, co, k, hb, hk, hse⟩ := hs
            subst hse
            split at h
            · rename_i hroom
              cases hm : m.store b (off + len * ie.size) news with
              | none => rw [hm] at h; simp at h
              | some m' =>
                rw [hm] at h
                simp only [Option.map_some, Option.some.injEq] at h
                subst h
                obtain ⟨w', h1, h2, h3⟩ := hr.store (P := P) hm hb ho2
                rw [← Nat.add_assoc] at h1
                exact ⟨E, w', _, hcall _ _ (append_room hu hi hS (by omega) h1), h2, h3, ⟨cb, co, k, hb, hk, rfl⟩⟩
            · rename_i hroom
              split at h
              · simp at h
              · rename_i olds hl
                obtain ⟨us, ho1, hlen, hat⟩ := hr.load hl hb
                split at h
                · rename_i hq
                  have hfirst : ∀ W : World, W.heap = w.heap → (Builtin.firstCells ie.size len (.slice (some ⟨cb, co + off, none⟩) len (lo + k))).run P W = .ok us.toArray W := fun W hW =>
                    run_firstCells_some W ie.size len ⟨cb, co + off, none⟩ len (lo + k) us hlen (fun j v hj => by
                      rw [Addr.add_mid]
                      have := hat j v hj
                      unfold World.cell? at this ⊢
                      rw [hW]; exact this)
                  have hfit : ∀ c, c < len + n → Builtin.nextslicecap (len + n) c * ie.bytes ≤ 281474976710656 := fun c hc => Nat.le_trans (Nat.mul_le_mul_right _ (nextcap_le hc)) hq.1
                  split at h
                  · have hk0 : k = 0 := by simpa [Env.capOf] using hk.symm
                    subst hk0
                    exact OpOk.grown hr hu hi hz hzs ho1 ho2 hS (hfirst w.drew rfl) (by omega) hq.2 (hfit _ (by omega)) hcall h
                  · rename_i u
                    split at h
                    · rename_i xb hg
                      split at h
                      · rename_i hc
                        obtain ⟨c1, c2, c3, c4, c5, c6⟩ := hc
                        cases hd : m.drop b with
                        | none => rw [hd] at h; simp at h
                        | some m1 =>
                          rw [hd] at h
                          simp only [Option.bind_some] at h
                          obtain ⟨d1, d2, d3, d4, d5⟩ := hr.drop hd
                          by_cases hfits : len + n ≤ lo + k
                          · cases ha : m1.allocRoom (olds ++ news) e ie.size with
                            | none => rw [ha] at h; simp at h
                            | some p =>
                              obtain ⟨rb, m'⟩ := p
                              rw [ha] at h
                              simp only [Option.map_some, Option.some.injEq] at h
                              subst h
                              obtain ⟨cb', co', g1, g2, g3⟩ := hr.blk b _ hg
                              rw [hb] at g1
                              simp only [Option.some.injEq, Prod.mk.injEq] at g1
                              obtain ⟨rfl, rfl⟩ := g1
                              obtain ⟨cur, k', fr, q1, q2, q3, q4, q5⟩ := g3
                              obtain rfl := q2 c5
                              rw [c3] at q3
                              have hkk : k' = k := by rw [hk] at q3; exact (Option.some.inj q3).symm
                              subst hkk
                              have hnl : vs.length = n * ie.size := hS.newsLen
                              have hn2 : n * ie.size ≤ k' * ie.size := Nat.mul_le_mul_right _ (by omega)
                              rw [c4] at q4
                              have hfit2 : co + off + len * ie.size + 0 + vs.length ≤ cur.size := by omega
                              have hst := run_storeCells_at P cb (co + off + len * ie.size) xb.ty vs 0 cur w q1 hfit2 ho2.one
                              rw [Nat.add_zero] at hst
                              generalize hW : w.setRow cb (cur.toList.take (co + off + len * ie.size) ++ vs ++ cur.toList.drop (co + off + len * ie.size + vs.length)).toArray = W at hst
                              have hheap : ∀ j, W.heap[j]? = if j = cb then some (.cells (cur.toList.take (co + off + len * ie.size) ++ vs ++ cur.toList.drop (co + off + len * ie.size + vs.length)).toArray xb.ty (0, 0)) else w.heap[j]? := fun j => by rw [← hW]; exact setRow_at w cb cur _ xb.ty (0, 0) q1 j
                              have hsize : W.heap.size = w.heap.size := by rw [← hW]; exact setRow_size w cb _
                              have hos : W.os = w.os ∧ W.tape = w.tape ∧ W.output = w.output := by rw [← hW]; exact ⟨rfl, rfl, rfl⟩
                              unfold Mem.allocRoom at ha
                              rw [d4] at ha
                              obtain ⟨F, t1, r1, f1, f2⟩ := hr.adopt (k := k' - n) (co' := co + off) (W := W) hg hb hd rfl (by rw [d4]; exact ha) (fun j hj => by rw [hheap, if_neg hj]) hsize hos (fun F hF => by
                                refine ⟨_, k' - n, (0, 0), by rw [hheap, if_pos rfl, c6], fun _ => rfl, hF.capOf (Env.withC_at _ _ _), ?_, ?_⟩
                                · have e1 : (k' - n) * ie.size = k' * ie.size - n * ie.size := Nat.sub_mul _ _ _
                                  have e2 := ho1.length
                                  have e3 := ho2.length
                                  simp only [List.length_append, List.size_toArray, List.length_take, List.length_drop, Array.length_toList, e1]
                                  omega
                                · intro i c hi
                                  have hRL : RL F (olds ++ news) (us ++ vs) := (ho1.append ho2).le ((Env.withC_le (hr.freshC _ (Nat.le_refl _))).trans hF)
                                  obtain ⟨v, v1, v2⟩ := hRL.get hi
                                  refine ⟨v, ?_, v2⟩
                                  simp only [List.getElem?_toArray]
                                  rw [splice_get _ _ _ _ (by simp; omega)]
                                  by_cases hiu : i < us.length
                                  · rw [List.getElem?_append_left hiu] at v1
                                    rw [if_neg (by omega)]
                                    have := hat i v v1
                                    simp only [World.cell?, q1, Option.isSome_none, Bool.false_eq_true, if_false] at this
                                    rw [Array.getElem?_toList]
                                    exact this
                                  · rw [List.getElem?_append_right (by omega)] at v1
                                    have hlt := (List.getElem?_eq_some_iff.1 v1).1
                                    rw [if_pos (by omega), ← v1]
                                    congr 1
                                    omega)
                              refine ⟨F, W, _, hcall _ _ (append_room hu hi hS hfits hst), t1, r1, ⟨cb, co + off, k' - n, f1, f2, ?_⟩⟩
                              congr 1
                              omega
                          · have hS1 : Src P ie.size tx xu n vs w := hS
                            have := OpOk.grown (m := m1) (o := o) (A := A) (r := r) d2 hu hi hz hzs ho1 ho2 hS1 (hfirst w.drew rfl) (by omega) hq.2 (hfit _ (by omega)) hcall (by rw [d4]; exact h)
                            cases r with
                            | val a m' =>
                              obtain ⟨F, w', v, e1, e2, e3, e4⟩ := this
                              exact ⟨F, w', v, e1, d1.trans e2, e3, e4⟩
                            | skip m' =>
                              obtain ⟨F, w', e1, e2, e3⟩ := this
                              exact ⟨F, w', e1, d1.trans e2, e3⟩
                            | call f args m' => 
                              cases ha : m1.allocRoom (olds ++ news) e ie.size with
                              | none => rw [ha] at h; simp at h
                              | some p => rw [ha] at h; simp at h
                      · simp at h
                    · simp at h
                · simp at h
          · simp at h
      · simp at h
    · simp at h
  · simp at h
end
end Go.Proofs.YtibdikihgdkfnaaGreatDoor.Ev
end
section
/- A reckoner, thirteenth part: copy, lengths, made zeros, conversions. -/
namespace Go.Proofs.YtibdikihgdkfnaaGreatDoor.Ev
open Go.RowKit
set_option linter.unusedVariables false
set_option linter.unusedSimpArgs false
section
variable {P : Program} {E : Env} {B : Nat} {m : Mem} {w : World} {A : Act} {o : Oper} {ts : Fr}
theorem OpOk.appendZ {t tn : TypeId} {s x : Va} {su xu : Value} {r : Res} (hr : Rel E B m w) (hs : s.R E su) (hx : x.R E xu)
    (hcall : ∀ v w', (Builtin.append_ #[t, tn] o.type #[su, xu]).run P w = .ok v w' → (execOp A.eval o).run P w = .ok (.value v) w') (h : evAppendZ P t tn s x m = some r) : OpOk P E B m w A o r := by
  unfold evAppendZ at h
  split at h
  · rename_i e kn kq k hu htn
    split at h
    · rename_i ie hi
      split at h
      · rename_i z hz
        split at h
        · rename_i hq
          obtain ⟨q1, q2, q3, q4, q5⟩ := hq
          have e1 : su = .slice none 0 0 := hs.2
          have e2 : xu = .int kq k := hx.2
          subst e1; subst e2
          obtain ⟨K, rfl⟩ : ∃ K : Nat, k = K := ⟨k.toNat, by omega⟩
          simp only [Int.toNat_natCast] at h q4
          cases hcs : ofCells (Builtin.zeroCells z.cells K).toList with
          | none => rw [hcs] at h; simp at h
          | some cs =>
            rw [hcs] at h
            simp only [Option.bind_some] at h
            have hnc : Builtin.nextslicecap (0 + K) 0 = K := by unfold Builtin.nextslicecap; rw [if_pos (by omega)]; omega
            have hrun := Lib.run_append_grow_zeros (P := P) w t tn o.type e ie z kq kn hu htn hi hz none 0 0 [] (by simp [Builtin.firstCells]) K (by omega) q2 (by omega) (by omega) q4 (by rw [hnc]; exact q4)
            have hge := grownCap_ge w (0 + K) 0 e
            generalize hgc : grownCap w (0 + K) 0 e = gc at hrun hge
            cases ha : m.allocRoom cs e ie.size with
            | none => rw [ha] at h; simp at h
            | some p =>
              obtain ⟨b, m'⟩ := p
              rw [ha] at h
              simp only [Option.map_some, Option.some.injEq] at h
              subst h
              have t1 : To E m w E m w.drew := To.sameHeap rfl ⟨rfl, rfl, rfl⟩
              have r1 : Rel E B m w.drew := hr.sameHeap rfl
              obtain ⟨t2, r2⟩ := r1.room (gc - (0 + K))
              have hl : RL (E.withC m.ncap (gc - (0 + K))) cs (Builtin.zeroCells z.cells K).toList := ofCells_R _ _ hcs
              obtain ⟨t3, r3, h3, _, _⟩ := r2.alloc (x := ⟨cs, e, some m.ncap, ie.size, true⟩) ha _ (Builtin.zeroCells z.cells (gc - (0 + K))).toList hl (gc - (0 + K)) (0, 0) (fun _ => rfl) (Env.withC_at _ _ _) (by
                rw [Array.length_toList, size_zeroCells, q5]; exact Nat.le_refl _)
              have hcells : ((Builtin.zeroCells z.cells K).toList ++ (Builtin.zeroCells z.cells (gc - (0 + K))).toList).toArray = ([] : List Value).toArray ++ Builtin.zeroCells z.cells K ++ Builtin.zeroCells z.cells (gc - (0 + K)) := by
                apply Array.ext'
                simp
              rw [hcells] at t3 r3
              refine ⟨_, _, _, hcall _ _ hrun, (t1.trans t2).trans t3, r3, ⟨_, _, gc - (0 + K), h3, t3.le.capOf (Env.withC_at _ _ _), ?_⟩⟩
              congr 1 <;> omega
        · simp at h
      · simp at h
    · simp at h
  · rename_i e kn b off len lo kq k hu htn
    obtain ⟨cb, co, kk, hb, hk, hse⟩ := hs
    have hk0 : kk = 0 := by simpa [Env.capOf] using hk.symm
    subst hk0
    subst hse
    split at h
    · rename_i ie hi
      split at h
      · rename_i z hz
        split at h
        · simp at h
        · rename_i olds hl
          obtain ⟨us, ho1, hlen, hat⟩ := hr.load hl hb
          split at h
          · rename_i hq
            obtain ⟨q1, q2, q3, q4, q5, q6⟩ := hq
            have e2 : xu = .int kq k := hx.2
            subst e2
            obtain ⟨K, rfl⟩ : ∃ K : Nat, k = K := ⟨k.toNat, by omega⟩
            simp only [Int.toNat_natCast] at h q3 q4 q5
            cases hcs : ofCells (Builtin.zeroCells z.cells K).toList with
            | none => rw [hcs] at h; simp at h
            | some cs =>
              rw [hcs] at h
              simp only [Option.bind_some] at h
              have hfirst : (Builtin.firstCells ie.size len (.slice (some ⟨cb, co + off, none⟩) len (lo + 0))).run P w.drew = .ok us.toArray w.drew :=
                run_firstCells_some w.drew ie.size len ⟨cb, co + off, none⟩ len (lo + 0) us hlen (fun j v hj => by
                  rw [Addr.add_mid]
                  exact hat j v hj)
              have hrun := Lib.run_append_grow_zeros (P := P) w t tn o.type e ie z kq kn hu htn hi hz (some ⟨cb, co + off, none⟩) len (lo + 0) us hfirst K (by omega) q2 (by omega) (by omega)
                (Nat.le_trans (Nat.mul_le_mul_right _ (by omega)) q5) (Nat.le_trans (Nat.mul_le_mul_right _ (nextcap_le (by omega))) q5)
              have hge := grownCap_ge w (len + K) (lo + 0) e
              generalize hgc : grownCap w (len + K) (lo + 0) e = gc at hrun hge
              cases ha : m.allocRoom (olds ++ cs) e ie.size with
              | none => rw [ha] at h; simp at h
              | some p =>
                obtain ⟨b1, m'⟩ := p
                rw [ha] at h
                simp only [Option.map_some, Option.some.injEq] at h
                subst h
                have t1 : To E m w E m w.drew := To.sameHeap rfl ⟨rfl, rfl, rfl⟩
                have r1 : Rel E B m w.drew := hr.sameHeap rfl
                obtain ⟨t2, r2⟩ := r1.room (gc - (len + K))
                have hl2 : RL (E.withC m.ncap (gc - (len + K))) (olds ++ cs) (us ++ (Builtin.zeroCells z.cells K).toList) := (ho1.le t2.le).append (ofCells_R _ _ hcs)
                obtain ⟨t3, r3, h3, _, _⟩ := r2.alloc (x := ⟨olds ++ cs, e, some m.ncap, ie.size, true⟩) ha _ (Builtin.zeroCells z.cells (gc - (len + K))).toList hl2 (gc - (len + K)) (0, 0) (fun _ => rfl) (Env.withC_at _ _ _) (by
                  rw [Array.length_toList, size_zeroCells, q6]; exact Nat.le_refl _)
                have hcells : ((us ++ (Builtin.zeroCells z.cells K).toList) ++ (Builtin.zeroCells z.cells (gc - (len + K))).toList).toArray = us.toArray ++ Builtin.zeroCells z.cells K ++ Builtin.zeroCells z.cells (gc - (len + K)) := by
                  apply Array.ext'
                  simp
                rw [hcells] at t3 r3
                refine ⟨_, _, _, hcall _ _ hrun, (t1.trans t2).trans t3, r3, ⟨_, _, gc - (len + K), h3, t3.le.capOf (Env.withC_at _ _ _), ?_⟩⟩
                congr 1
                omega
          · simp at h
      · simp at h
    · simp at h
  · simp at h
theorem OpOk.copy {t tx : TypeId} {s x : Va} {su xu : Value} {r : Res} (hr : Rel E B m w) (hs : s.R E su) (hx : x.R E xu)
    (hcall : ∀ v w', (Builtin.copy_ #[t, tx] o.type #[su, xu]).run P w = .ok v w' → (execOp A.eval o).run P w = .ok (.value v) w') (h : evCopy P t tx s x m = some r) : OpOk P E B m w A o r := by
  unfold evCopy at h
  split at h
  · rename_i e hu
    split at h
    · rename_i ie hi
      split at h
      · rename_i b off dl lo up b' off' sl lo' up'
        split at h
        · rename_i cs hl
          cases hm : m.store b off cs with
          | none => rw [hm] at h; simp at h
          | some m' =>
            rw [hm] at h
            simp only [Option.map_some, Option.some.injEq] at h
            subst h
            obtain ⟨cb, co, k, hb, hk, hse⟩ := hs
            obtain ⟨cb', co', k', hb', hk', hxe⟩ := hx
            subst hse; subst hxe
            obtain ⟨us, h1, h2, h3⟩ := hr.load hl hb'
            obtain ⟨w', g1, g2, g3⟩ := hr.store (P := P) hm hb h1
            refine ⟨E, w', .int .i64 (Nat.min sl dl), hcall _ _ ?_, g2, g3, ⟨rfl, rfl⟩⟩
            have hf := run_firstCells_some (P := P) w ie.size (Nat.min sl dl) ⟨cb', co' + off', none⟩ sl (lo' + k') us h2 (fun j v hj => by rw [Addr.add_mid]; exact h3 j v hj)
            simp [Builtin.copy_, run_underlying hu, Builtin.lenOf, sizeOf, typeInfo, hi, hf, g1, goInt]
        · simp at h
      · rename_i b off dl lo up c
        simp only [Option.some.injEq] at h
        subst h
        obtain ⟨cb, co, k, hb, hk, hse⟩ := hs
        have e2 : xu = .slice none 0 c := hx.2
        subst hse; subst e2
        refine OpOk.same hr (hcall (.int .i64 0) w ?_) ⟨rfl, rfl⟩
        simp [Builtin.copy_, run_underlying hu, Builtin.lenOf, sizeOf, typeInfo, hi, Builtin.firstCells, storeCells, goInt]
      · rename_i c b off sl lo up
        simp only [Option.some.injEq] at h
        subst h
        obtain ⟨cb, co, k, hb, hk, hxe⟩ := hx
        have e2 : su = .slice none 0 c := hs.2
        subst hxe; subst e2
        refine OpOk.same hr (hcall (.int .i64 0) w ?_) ⟨rfl, rfl⟩
        have hf := run_firstCells_some (P := P) w ie.size 0 ⟨cb, co + off, none⟩ sl (lo + k) [] (by simp) (fun j v hj => by simp at hj)
        simp [Builtin.copy_, run_underlying hu, Builtin.lenOf, sizeOf, typeInfo, hi, hf, goInt]
      · simp at h
    · simp at h
  · simp at h
theorem builtin_run {c : Call} {b : Builtin} {f : Array TypeId → TypeId → Array Value → Sem Value} (ho : o.op = .call c) (hc : c.callee = .builtin b)
    (hb : ∀ ts ty cs as, builtin b ts ty cs as = (do pure (.value (← f ts ty as)))) {v : Value} {w' : World} (h : (f c.argTypes o.type (c.args.map A.eval)).run P w = .ok v w') : (execOp A.eval o).run P w = .ok (.value v) w' := by
  simp [execOp, ho, resolve, hc, invoke, hb, h]
theorem RLa.two {a b : Va} {us : List Value} (h : RLa E [a, b] us) : ∃ u v, us = [u, v] ∧ a.R E u ∧ b.R E v := by
  obtain ⟨u, r, rfl, h1, v, q, rfl, h2, h3⟩ := h
  simp only [RLa] at h3
  subst h3
  exact ⟨u, v, rfl, h1, h2⟩
theorem RLa.one1 {a : Va} {us : List Value} (h : RLa E [a] us) : ∃ u, us = [u] ∧ a.R E u := by
  obtain ⟨u, r, rfl, h1, h3⟩ := h
  simp only [RLa] at h3
  subst h3
  exact ⟨u, rfl, h1⟩
theorem RM.length : ∀ {es : List Ent} {us : List MapEntry}, RM E es us → us.length = es.length
  | [], _, h => by simp only [RM] at h; subst h; rfl
  | _ :: _, _, ⟨u, r, e, _, _, _, h⟩ => by subst e; simp [h.length]
theorem arr_of {c : Call} {l : List Value} (h : c.args.toList.map A.eval = l) : c.args.map A.eval = l.toArray := by
  apply Array.ext'
  simpa using h
theorem OpOk.builtin {c : Call} {b : Builtin} {args : List Va} {r : Res} (hr : Rel E B m w) (ht : RT E ts A) (ho : o.op = .call c) (hc : c.callee = .builtin b) (ha : evxs ts c.args.toList = some args)
    (h : evBuiltin P b c.argTypes o.type (c.args.map fun | .const _ => true | _ => false) args m = some r) : OpOk P E B m w A o r := by
  have hR := evxs_R ht ha
  unfold evBuiltin at h
  split at h
  · rename_i s x t tx hty
    obtain ⟨u, v, e1, h1, h2⟩ := hR.two
    have e2 := arr_of e1
    have hcall : ∀ v' w', (Builtin.append_ #[t, tx] o.type #[u, v]).run P w = .ok v' w' → (execOp A.eval o).run P w = .ok (.value v') w' := fun v' w' hh =>
      builtin_run (f := Builtin.append_) ho hc (fun _ _ _ _ => rfl) (by rw [hty, e2]; exact hh)
    split at h
    · exact OpOk.appendZ hr h1 h2 hcall h
    · exact OpOk.append hr h1 h2 hcall h
  · rename_i s x t tx hty
    obtain ⟨u, v, e1, h1, h2⟩ := hR.two
    have e2 := arr_of e1
    exact OpOk.copy hr h1 h2 (fun v' w' hh => builtin_run (f := Builtin.copy_) ho hc (fun _ _ _ _ => rfl) (by rw [hty, e2]; exact hh)) h
  · rename_i b t hty
    obtain ⟨u, e1, h1⟩ := hR.one1
    have e2 := arr_of e1
    obtain ⟨cb, hb, hu⟩ := h1
    subst hu
    split at h
    · rename_i kt et es ck hut hg
      simp only [Option.some.injEq] at h
      subst h
      obtain ⟨cb', co', g1, g2, g3, us, g4, g5⟩ := hr.blk _ _ hg
      rw [hb] at g1
      simp only [Option.some.injEq, Prod.mk.injEq] at g1
      obtain ⟨rfl, _⟩ := g1
      refine OpOk.same hr (builtin_run (f := Builtin.len_) ho hc (fun _ _ _ _ => rfl) (v := .int .i64 es.length) ?_) ⟨rfl, rfl⟩
      rw [hty, e2]
      have hl : us.size = es.length := by simpa using g5.length
      simp [Builtin.len_, run_underlying hut, getObj, Sem.run, g4, goInt]
      omega
    · simp at h
  · rename_i b off n lo up t hty
    obtain ⟨u, e1, h1⟩ := hR.one1
    have e2 := arr_of e1
    obtain ⟨cb, co, k, hb, hk, hu⟩ := h1
    subst hu
    split at h
    · rename_i hst
      simp only [Option.some.injEq] at h
      subst h
      unfold isSlcT at hst
      split at hst
      · rename_i q hut
        refine OpOk.same hr (builtin_run (f := Builtin.len_) ho hc (fun _ _ _ _ => rfl) (v := .int .i64 n) ?_) ⟨rfl, rfl⟩
        rw [hty, e2]
        simp [Builtin.len_, run_underlying hut, goInt]
      · cases hst
    · simp at h
  · rename_i b off n lo t hty
    obtain ⟨u, e1, h1⟩ := hR.one1
    have e2 := arr_of e1
    obtain ⟨cb, co, k, hb, hk, hu⟩ := h1
    subst hu
    have hk0 : k = 0 := by simpa [Env.capOf] using hk.symm
    subst hk0
    split at h
    · rename_i hst
      simp only [Option.some.injEq] at h
      subst h
      unfold isSlcT at hst
      split at hst
      · rename_i q hut
        refine OpOk.same hr (builtin_run (f := Builtin.cap_) ho hc (fun _ _ _ _ => rfl) (v := .int .i64 lo) ?_) ⟨rfl, rfl⟩
        rw [hty, e2]
        simp [Builtin.cap_, run_underlying hut, goInt]
      · cases hst
    · simp at h
  · split at h
    · rename_i l hl
      split at h
      · rename_i v hp
        unfold lit1 at h
        simp only [Option.bind_some] at h
        cases hv : ofVa v with
        | none => rw [hv] at h; simp at h
        | some a =>
          rw [hv] at h
          simp only [Option.map_some, Option.some.injEq] at h
          subst h
          refine OpOk.same hr ?_ (ofVa_R v a hv)
          have e2 := arr_of (litVas_eq hl hR)
          have := pureRun_sound _ _ hp w
          simp only [execOp, ho, resolve, hc, invoke, Sem.run_bind, Sem.run_pure, Result.andThen_ok, e2]
          exact this
      · simp at h
    · simp at h
end
end Go.Proofs.YtibdikihgdkfnaaGreatDoor.Ev
end
section
/- A reckoner, fourteenth part: conversions, maps, calls; each operation. -/
namespace Go.Proofs.YtibdikihgdkfnaaGreatDoor.Ev
open Go.RowKit
set_option linter.unusedVariables false
set_option linter.unusedSimpArgs false
section
variable {P : Program} {E : Env} {B : Nat} {m : Mem} {w : World} {A : Act} {o : Oper} {ts : Fr}
theorem byteLits_R : ∀ {cs : List Ce} {ns : List Int} {us : List Value}, byteLits cs = some ns → RL E cs us → us = ns.map (Value.int .u8)
  | [], ns, us, h, hl => by
    simp only [byteLits, Option.some.injEq] at h
    subst h
    exact hl
  | .lit (.int .u8 n) :: r, ns, us, h, ⟨u, q, e, h1, h2⟩ => by
    unfold byteLits at h
    cases hr : byteLits r with
    | none => rw [hr] at h; simp at h
    | some ms =>
      rw [hr] at h
      simp only [Option.map_some, Option.some.injEq] at h
      subst h; subst e
      rw [byteLits_R hr h2, h1.2]
      rfl
theorem OpOk.convert {s d : TypeId} {x : Operand} {a : Va} {r : Res} (hr : Rel E B m w) (ht : RT E ts A) (ho : o.op = .convert s d x) (hx : evx ts x = some a) (h : evConvert P s d a m = some r) : OpOk P E B m w A o r := by
  have hxR := evx_R ht hx
  unfold evConvert at h
  split at h
  · rename_i bs hl
    have e1 : A.eval x = .string bs := litVa_eq hl hxR
    split at h
    · rename_i e hs hd
      split at h
      · rename_i he
        cases ha : Mem.alloc { m with ncap := m.ncap + 1 } (.cells ⟨(byteCells bs).map Ce.lit, e, some m.ncap, 1, false⟩) with
        | none => rw [ha] at h; simp at h
        | some p =>
          obtain ⟨b, m'⟩ := p
          rw [ha] at h
          simp only [Option.map_some, Option.some.injEq] at h
          subst h
          have hrun := run_bytes_of_string (P := P) w s d e bs hs hd he
          have hge := grownCap_ge w bs.size 0 e
          generalize hgc : grownCap w bs.size 0 e = gc at hrun hge
          have t1 : To E m w E m w.drew := To.sameHeap rfl ⟨rfl, rfl, rfl⟩
          have r1 : Rel E B m w.drew := hr.sameHeap rfl
          obtain ⟨t2, r2⟩ := r1.room (gc - bs.size)
          have hl : RL (E.withC m.ncap (gc - bs.size)) ((byteCells bs).map Ce.lit) (byteCells bs) := RL_lits _ (byteCells_one bs)
          obtain ⟨t3, r3, h3, _, _⟩ := r2.alloc (x := ⟨(byteCells bs).map Ce.lit, e, some m.ncap, 1, false⟩) ha _ (List.replicate (gc - bs.size) (Value.int .u8 0)) hl (gc - bs.size) ((bytesRow bs gc).size, (bytesRow bs gc).size + 1) (fun hq => by cases hq) (Env.withC_at _ _ _) (by simp)
          have hcells : (byteCells bs ++ List.replicate (gc - bs.size) (Value.int .u8 0)).toArray = bytesRow bs gc := by
            apply Array.ext'
            simp [byteCells, bytesRow, Array.toList_replicate]
          rw [hcells] at t3 r3
          refine ⟨_, _, .slice (some ⟨w.heap.size, 0, none⟩) bs.size gc, by simp [execOp, ho, e1, hrun], (t1.trans t2).trans t3, r3, ⟨_, _, gc - bs.size, h3, t3.le.capOf (Env.withC_at _ _ _), ?_⟩⟩
          congr 1
          omega
      · simp at h
    · exact OpOk.lit hr h (by rw [← e1]; simp [execOp, ho])
  · rename_i v hv hl
    have e1 : A.eval x = v := litVa_eq hl hxR
    exact OpOk.lit hr h (by rw [← e1]; simp [execOp, ho])
  · split at h
    · rename_i k i u k' hu1 hu2 hn0
      simp only [Option.some.injEq] at h
      subst h
      obtain ⟨n, _, e1⟩ := hxR
      refine OpOk.hole (v := .int k' (k'.wrap n)) hr rfl ?_
      simp [execOp, ho, e1, Go.convert, run_underlying hu1, run_underlying hu2, Conv.intToInt]
    · rename_i b off len lo up e hu1 hu2 hn0
      split at h
      · rename_i he
        cases hm : m.load b off len with
        | none => rw [hm] at h; simp at h
        | some cs =>
          rw [hm] at h
          simp only [Option.bind_some] at h
          split at h
          · rename_i ns hb
            simp only [Option.some.injEq] at h
            subst h
            obtain ⟨cb, co, k, hbl, hk, hxe⟩ := hxR
            obtain ⟨us, h1, h2, h3⟩ := hr.load hm hbl
            have e2 := byteLits_R hb h1
            have hlc := run_loadCells_list (P := P) w ⟨cb, co + off, none⟩ us (fun j v hj => by rw [Addr.add_mid]; exact h3 j v hj)
            rw [h2, e2] at hlc
            have hbs := run_bytesToString (P := P) w ⟨cb, co + off, none⟩ len (lo + k) ns hlc
            refine OpOk.same hr (v := .string _) ?_ ⟨rfl, rfl⟩
            have hcv := run_convert_bytes_string (P := P) w s d e (some ⟨cb, co + off, none⟩) len (lo + k) hu1 he hu2
            rw [hbs] at hcv
            simp [execOp, ho, hxe, hcv]
          · simp at h
      · simp at h
    · simp at h
theorem OpOk.unLit {op : UnOp} {t : TypeId} {x : Operand} {a : Va} {v : Value} {r : Res} (hr : Rel E B m w) (ht : RT E ts A) (ho : o.op = .unOp op t x) (hx : evx ts x = some a) (hv : litVa a = some v) (h : lit1 (pureRun P (Op.unary op v)) m = some r) : OpOk P E B m w A o r :=
  OpOk.lit hr h (by rw [← litVa_eq hv (evx_R ht hx)]; simp [execOp, ho])
theorem OpOk.ifaceLit {t : TypeId} {x : Operand} {v : Value} {r : Res} (hr : Rel E B m w) (ht : RT E ts A) (ho : o.op = .makeInterface t x) (hv : (evx ts x).bind litVa = some v) (h : lit1 (pureRun P (Instr.makeInterface t v)) m = some r) : OpOk P E B m w A o r :=
  OpOk.lit hr h (by rw [← lit_of ht hv]; simp [execOp, ho])
theorem OpOk.makeMap {t : TypeId} {r : Res} (hr : Rel E B m w) (ho : o.op = .makeMap t none) (h : ((m.alloc (.map [] 0)).map fun p => Res.val (ceV (.mp p.1)) p.2) = some r) : OpOk P E B m w A o r := by
  cases ha : m.alloc (.map [] 0) with
  | none => rw [ha] at h; simp at h
  | some p =>
    obtain ⟨b, m'⟩ := p
    rw [ha] at h
    simp only [Option.map_some, Option.some.injEq] at h
    subst h
    obtain ⟨h1, h2, h3, _, _⟩ := hr.allocO ha (.map #[] 0) (fun F w' hle hw => ⟨rfl, #[], hw, rfl⟩)
    exact ⟨_, _, .map (some w.heap.size), by simp [execOp, ho, Instr.makeMap, newObj, Sem.run], h1, h2, ⟨_, h3, rfl⟩⟩
theorem OpOk.call {c : Call} {r : Res} (hr : Rel E B m w) (ht : RT E ts A) (ho : o.op = .call c) (h : evCall P ts c o.type m = some r) : OpOk P E B m w A o r := by
  unfold evCall at h
  split at h
  · rename_i f hc
    split at h
    · rename_i g args hf ha
      simp only [Option.some.injEq] at h
      subst h
      have e1 : A.eval f = .func (.func g) #[] #[] := (evx_R ht hf).2
      have hR := evxs_R ht ha
      refine ⟨rfl, c.args.toList.map A.eval, fun fn cd hfn hname hbody => ?_, hR⟩
      have hen : ∀ as, (callFunc g as).run P w = .ok (.enter g as) w := fun as => by
        have h1 : fn.name ≠ "runtime.NumGoroutine" := by simpa using hname
        simp [callFunc, hfn, h1, hbody, mark, Sem.run]
      have e2 : (c.args.toList.map A.eval).toArray = c.args.map A.eval := by
        apply Array.ext'
        simp
      rw [e2]
      simp [execOp, ho, resolve, hc, e1, Deferred.ofValue, invoke, hen]
    · simp at h
  · rename_i b hc
    split at h
    · rename_i args ha
      exact OpOk.builtin hr ht ho hc ha h
    · simp at h
  · simp at h
end
end Go.Proofs.YtibdikihgdkfnaaGreatDoor.Ev
end
section
/- A reckoner, fifteenth part: maps. -/
namespace Go.Proofs.YtibdikihgdkfnaaGreatDoor.Ev
open Go.RowKit
set_option linter.unusedVariables false
set_option linter.unusedSimpArgs false
section
variable {P : Program} {E : Env} {B : Nat} {m : Mem} {w : World} {A : Act} {o : Oper} {ts : Fr}
theorem checkKey_ok {kt : TypeId} {kind : TypeDesc} (hk : P.underlying kt = some kind) (hp : plainKeyB kind = true) (e : Bool) (v : Value) : (Instr.checkKey e 10000 kt v).run P w = .ok () w := by
  have : ∀ d, (Instr.checkKey e (d + 1) kt v).run P w = .ok () w := fun d => by
    unfold Instr.checkKey
    rw [Sem.run_bind, run_underlying hk]
    cases kind <;> first | rfl | (simp [plainKeyB] at hp; done)
  exact this 9999
theorem findE_R {kind : TypeDesc} {k : Value} : ∀ {es : List Ent} {us : List MapEntry} (i : Nat), RM E es us →
    (∀ c, findE kind k es = some (some c) → ∃ j v, Instr.findNow kind k us i = some (some (j, v)) ∧ c.R E v) ∧ (findE kind k es = some none → Instr.findNow kind k us i = some none)
  | [], us, i, h => by
    simp only [RM] at h
    subst h
    exact ⟨fun c hc => by simp [findE] at hc, fun _ => rfl⟩
  | e :: es, us, i, ⟨u, r, eq, h1, h2, h3, h4⟩ => by
    subst eq
    obtain ⟨g1, g2⟩ := findE_R (i + 1) h4
    unfold findE Instr.findNow
    rw [h1]
    cases Instr.sameNow kind k e.key with
    | none => exact ⟨fun c hc => by simp at hc, fun hc => by simp at hc⟩
    | some b =>
      cases b with
      | true =>
        refine ⟨fun c hc => ?_, fun hc => by simp at hc⟩
        simp only [Option.some.injEq] at hc
        subst hc
        exact ⟨i, u.val, rfl, h3⟩
      | false => exact ⟨fun c hc => g1 c hc, fun hc => g2 hc⟩
theorem OpOk.lookup {t : TypeId} {x y : Operand} {ok : Bool} {a b : Va} {r : Res} (hr : Rel E B m w) (ht : RT E ts A) (ho : o.op = .lookup t x y ok) (hx : evx ts x = some a) (hy : evx ts y = some b) (h : evLookup P t a b ok m = some r) : OpOk P E B m w A o r := by
  have hxR := evx_R ht hx
  have hyR := evx_R ht hy
  unfold evLookup at h
  split at h
  · rename_i mb k kt et hl hu
    have e2 : A.eval y = k := litVa_eq hl hyR
    obtain ⟨cb, hb, e1⟩ := hxR
    split at h
    · rename_i es ck kind z hg hkd hz
      split at h
      · rename_i hp
        obtain ⟨cb', co', g1, g2, g3, us, g4, g5⟩ := hr.blk _ _ hg
        rw [hb] at g1
        simp only [Option.some.injEq, Prod.mk.injEq] at g1
        obtain ⟨rfl, _⟩ := g1
        have hobj : (getObj cb).run P w = .ok (.map us ck) w := by simp [getObj, Sem.run, g4]
        have hck := checkKey_ok (P := P) (w := w) hkd hp us.isEmpty k
        split at h
        · rename_i c hf
          simp only [Option.some.injEq] at h
          subst h
          obtain ⟨j, v, f1, f2⟩ := (findE_R (kind := kind) (k := k) 0 g5).1 c hf
          have hfk : (Instr.findKey kt k us.toList).run P w = .ok (some (j, v)) w := by simp [Instr.findKey, run_underlying hkd, f1]
          cases ok with
          | false => exact OpOk.same hr (v := v) (by simp [execOp, ho, e1, e2, Instr.lookup, run_underlying hu, hobj, hck, hfk]) f2
          | true => exact OpOk.same hr (v := .tuple #[v, .bool true]) (by simp [execOp, ho, e1, e2, Instr.lookup, run_underlying hu, hobj, hck, hfk]) ⟨[v, .bool true], ⟨_, _, rfl, f2, _, _, rfl, ⟨rfl, rfl⟩, rfl⟩, rfl⟩
        · rename_i hf
          split at h
          · rename_i hz1
            simp only [Option.some.injEq] at h
            subst h
            have f1 := (findE_R (kind := kind) (k := k) 0 g5).2 hf
            have hfk : (Instr.findKey kt k us.toList).run P w = .ok none w := by simp [Instr.findKey, run_underlying hkd, f1]
            have hzv : (zeroValue et).run P w = .ok z w := by
              cases hi : P.info? et with
              | none => rw [hi] at hz; simp at hz
              | some ie =>
                rw [hi] at hz
                simp only [Option.bind_some] at hz
                simp [zeroValue, typeInfo, hi, hz]
            cases ok with
            | false => exact OpOk.same hr (v := z) (by simp [execOp, ho, e1, e2, Instr.lookup, run_underlying hu, hobj, hck, hfk, hzv]) ⟨hz1, rfl⟩
            | true => exact OpOk.same hr (v := .tuple #[z, .bool false]) (by simp [execOp, ho, e1, e2, Instr.lookup, run_underlying hu, hobj, hck, hfk, hzv]) ⟨[z, .bool false], ⟨_, _, rfl, ⟨hz1, rfl⟩, _, _, rfl, ⟨rfl, rfl⟩, rfl⟩, rfl⟩
          · simp at h
        · simp at h
      · simp at h
    · simp at h
  · simp at h
theorem setE_R {kind : TypeDesc} {k : Value} {c : Ce} {v : Value} {born : Nat} (hv : c.R E v) : ∀ {es es' : List Ent} {us : List MapEntry} {new : Bool} (i : Nat), RM E es us → setE kind k c born es = some (es', new) →
    (new = true → Instr.findNow kind k us i = some none ∧ RM E es' (us ++ [{ key := k, val := v, born := born }])) ∧
    (new = false → ∃ j u, Instr.findNow kind k us i = some (some (i + j, u)) ∧ (∃ e, us[j]? = some e ∧ Instr.sameBits 10000 e.key k = true) ∧ RM E es' (us.modify j fun e => { e with key := k, val := v }))
  | [], es', us, new, i, h, hs => by
    simp only [RM] at h
    subst h
    simp only [setE, Option.some.injEq, Prod.mk.injEq] at hs
    obtain ⟨rfl, rfl⟩ := hs
    exact ⟨fun _ => ⟨rfl, _, _, rfl, rfl, rfl, hv, rfl⟩, fun hc => (by cases hc)⟩
  | e :: es, es', us, new, i, ⟨u, r, eq, h1, h2, h3, h4⟩, hs => by
    subst eq
    unfold setE at hs
    unfold Instr.findNow
    rw [h1]
    cases hsn : Instr.sameNow kind k e.key with
    | none => rw [hsn] at hs; simp at hs
    | some b =>
      rw [hsn] at hs
      cases b with
      | true =>
        simp only at hs
        split at hs
        · rename_i hsb
          simp only [Option.some.injEq, Prod.mk.injEq] at hs
          obtain ⟨rfl, rfl⟩ := hs
          refine ⟨fun hc => (by cases hc), fun _ => ⟨0, u.val, rfl, ⟨u, rfl, by rw [h1]; exact hsb⟩, ?_⟩⟩
          exact ⟨_, _, rfl, rfl, h2, hv, h4⟩
        · simp at hs
      | false =>
        simp only at hs
        cases hp : setE kind k c born es with
        | none => rw [hp] at hs; simp at hs
        | some p =>
          obtain ⟨es2, new2⟩ := p
          rw [hp] at hs
          simp only [Option.map_some, Option.some.injEq, Prod.mk.injEq] at hs
          obtain ⟨rfl, rfl⟩ := hs
          obtain ⟨g1, g2⟩ := setE_R hv (i + 1) h4 hp
          refine ⟨fun hn => ?_, fun hn => ?_⟩
          · obtain ⟨q1, q2⟩ := g1 hn
            exact ⟨q1, _, _, rfl, h1, h2, h3, q2⟩
          · obtain ⟨j, v2, q1, ⟨e2, q2, q3⟩, q4⟩ := g2 hn
            refine ⟨j + 1, v2, by rw [q1, show i + 1 + j = i + (j + 1) from by omega], ⟨e2, by simpa using q2, q3⟩, ?_⟩
            rw [List.modify_succ_cons]
            exact ⟨_, _, rfl, h1, h2, h3, q4⟩
theorem OpOk.update {t : TypeId} {x y z : Operand} {a b c : Va} {r : Res} (hr : Rel E B m w) (ht : RT E ts A) (ho : o.op = .mapUpdate t x y z) (hx : evx ts x = some a) (hy : evx ts y = some b) (hz : evx ts z = some c) (h : evUpdate P t a b c m = some r) : OpOk P E B m w A o r := by
  have hxR := evx_R ht hx
  have hyR := evx_R ht hy
  have hzR := evx_R ht hz
  unfold evUpdate at h
  split at h
  · rename_i mb k ce kt et hl hu
    have e2 : A.eval y = k := litVa_eq hl hyR
    obtain ⟨cb, hb, e1⟩ := hxR
    split at h
    · rename_i es ck kind hg hkd
      split at h
      · rename_i hp
        obtain ⟨cb', co', g1, g2, g3, us, g4, g5⟩ := hr.blk _ _ hg
        have g1' := g1
        rw [hb] at g1
        simp only [Option.some.injEq, Prod.mk.injEq] at g1
        obtain ⟨rfl, rfl⟩ := g1
        have hobj : (getObj cb).run P w = .ok (.map us ck) w := by simp [getObj, Sem.run, g4]
        have hck := checkKey_ok (P := P) (w := w) hkd hp false k
        have hset : ∀ ob, (setObj cb ob).run P w = .ok () { w with heap := w.heap.setIfInBounds cb ob } := fun ob => by simp [setObj, Sem.run, g4]
        have hlt : cb < w.heap.size := (Array.getElem?_eq_some_iff.1 g4).1
        have turn : ∀ (m' : Mem) (y : Bl) (ob : Obj), m.setB mb y = some m' → (∀ W : World, W.heap[cb]? = some ob → BlR E y cb 0 W) → To E m w E m' { w with heap := w.heap.setIfInBounds cb ob } ∧ Rel E B m' { w with heap := w.heap.setIfInBounds cb ob } := fun m' y ob hs hy => by
          refine hr.setB hg hs hb (fun q _ hq => ?_) (by simp) ⟨rfl, rfl, rfl⟩ (hy _ ?_)
          · show (w.heap.setIfInBounds cb ob)[q]? = _
            rw [Array.getElem?_setIfInBounds_ne (fun he => hq he.symm)]
          · show (w.heap.setIfInBounds cb ob)[cb]? = _
            simp [hlt]
        split at h
        · rename_i es' new hse
          obtain ⟨q1, q2⟩ := setE_R (v := A.eval z) (show ce.R E (A.eval z) from hzR) 0 g5 hse
          cases new with
          | true =>
            obtain ⟨f1, f2⟩ := q1 rfl
            have hfk : (Instr.findKey kt k us.toList).run P w = .ok none w := by simp [Instr.findKey, run_underlying hkd, f1]
            simp only [if_true] at h
            cases hm : m.setB mb (.map es' (ck + 1)) with
            | none => rw [hm] at h; simp at h
            | some m' =>
              rw [hm] at h
              simp only [Option.map_some, Option.some.injEq] at h
              subst h
              obtain ⟨k1, k2⟩ := turn m' _ (.map (us.push { key := k, val := A.eval z, born := ck }) (ck + 1)) hm (fun W hW => ⟨rfl, _, hW, by rw [Array.toList_push]; exact f2⟩)
              exact ⟨E, _, by simp [execOp, ho, e1, e2, Instr.mapUpdate, run_underlying hu, hobj, hck, hfk, hset], k1, k2⟩
          | false =>
            obtain ⟨j, v, f1, ⟨e, f2, f3⟩, f4⟩ := q2 rfl
            rw [Nat.zero_add] at f1
            have hfk : (Instr.findKey kt k us.toList).run P w = .ok (some (j, v)) w := by simp [Instr.findKey, run_underlying hkd, f1]
            simp only [Bool.false_eq_true, if_false] at h
            cases hm : m.setB mb (.map es' ck) with
            | none => rw [hm] at h; simp at h
            | some m' =>
              rw [hm] at h
              simp only [Option.map_some, Option.some.injEq] at h
              subst h
              obtain ⟨k1, k2⟩ := turn m' _ (.map (us.modify j fun e => { e with key := k, val := A.eval z }) ck) hm (fun W hW => ⟨rfl, _, hW, by rw [Array.toList_modify]; exact f4⟩)
              have f2' : us[j]? = some e := by rw [← Array.getElem?_toList]; exact f2
              have hks : (Instr.keyThatStays e.key k).run P w = .ok k w := by simp [Instr.keyThatStays, f3]
              exact ⟨E, _, by simp [execOp, ho, e1, e2, Instr.mapUpdate, run_underlying hu, hobj, hck, hfk, hset, f2', hks], k1, k2⟩
        · simp at h
      · simp at h
    · simp at h
  · simp at h
theorem OpOk.range {t : TypeId} {x : Operand} {a : Va} {r : Res} (hr : Rel E B m w) (ht : RT E ts A) (ho : o.op = .range t x) (hx : evx ts x = some a) (h : evRange P t a m = some r) : OpOk P E B m w A o r := by
  have hxR := evx_R ht hx
  unfold evRange at h
  split at h
  · rename_i mb kt et hu
    obtain ⟨cb, hb, e1⟩ := hxR
    split at h
    · rename_i es ck hg
      obtain ⟨cb', co', g1, g2, g3, us, g4, g5⟩ := hr.blk _ _ hg
      rw [hb] at g1
      simp only [Option.some.injEq, Prod.mk.injEq] at g1
      obtain ⟨rfl, _⟩ := g1
      have hobj : (getObj cb).run P w = .ok (.map us ck) w := by simp [getObj, Sem.run, g4]
      cases ha : m.alloc (.iter mb) with
      | none => rw [ha] at h; simp at h
      | some p =>
        obtain ⟨b, m'⟩ := p
        rw [ha] at h
        simp only [Option.map_some, Option.some.injEq] at h
        subst h
        obtain ⟨h1, h2, h3, _, _⟩ := hr.allocO ha (.mapIter (some cb) ck #[] ck) (fun F w' hle hw => ⟨rfl, cb, ck, ck, hle.blk _ _ hb, hw⟩)
        exact ⟨_, _, .pointer (some ⟨w.heap.size, 0, none⟩), by simp [execOp, ho, e1, Instr.range, run_underlying hu, hobj, newObj, Sem.run], h1, h2, ⟨_, _, h3, rfl⟩⟩
    · simp at h
  · simp at h
theorem OpOk.next {x : Operand} {a : Va} {r : Res} (hr : Rel E B m w) (ht : RT E ts A) (ho : o.op = .next x false) (hx : evx ts x = some a) (h : evNext a m = some r) : OpOk P E B m w A o r := by
  have hxR := evx_R ht hx
  unfold evNext at h
  split at h
  · rename_i rb
    obtain ⟨cb, co, hb, e1⟩ := hxR
    split at h
    · rename_i mb hg
      obtain ⟨cb', co', g1, g2, g3, qb, n, n', g4, g5⟩ := hr.blk _ _ hg
      rw [hb] at g1
      simp only [Option.some.injEq, Prod.mk.injEq] at g1
      obtain ⟨rfl, rfl⟩ := g1
      subst g3
      split at h
      · rename_i ck hg2
        simp only [Option.some.injEq] at h
        subst h
        obtain ⟨cb2, co2, k1, k2, k3, us, k4, k5⟩ := hr.blk _ _ hg2
        rw [g4] at k1
        simp only [Option.some.injEq, Prod.mk.injEq] at k1
        obtain ⟨rfl, _⟩ := k1
        have hus : us = #[] := by
          have : us.toList = [] := k5
          exact Array.toList_eq_nil_iff.1 this
        subst hus
        have ho1 : (getObj cb).run P w = .ok (.mapIter (some qb) n #[] n') w := by simp [getObj, Sem.run, g5]
        have ho2 : (getObj qb).run P w = .ok (.map #[] ck) w := by simp [getObj, Sem.run, k4]
        refine OpOk.same hr (v := .tuple #[.bool false]) ?_ ⟨[.bool false], ⟨_, _, rfl, ⟨rfl, rfl⟩, rfl⟩, rfl⟩
        simp [execOp, ho, e1, Instr.next, ho1, ho2, Question.forced]
      · simp at h
    · simp at h
  · simp at h
end
end Go.Proofs.YtibdikihgdkfnaaGreatDoor.Ev
end
section
/- A reckoner, sixteenth part: what is reckoned of any operation is so. -/
namespace Go.Proofs.YtibdikihgdkfnaaGreatDoor.Ev
open Go.RowKit
set_option linter.unusedVariables false
set_option linter.unusedSimpArgs false
theorem evOp_ok {P : Program} {E : Env} {B : Nat} {m : Mem} {w : World} {A : Act} {o : Oper} {ts : Fr} {r : Res} (hr : Rel E B m w) (ht : RT E ts A) (h : evOp P ts m o = some r) : OpOk P E B m w A o r := by
  unfold evOp at h
  split at h
  · rename_i x ho
    cases hx : evx ts x with
    | none => rw [hx] at h; simp at h
    | some a =>
      rw [hx] at h
      simp only [Option.map_some, Option.some.injEq] at h
      subst h
      exact OpOk.move hr ht (.inl ho) hx
  · rename_i x ho
    cases hx : evx ts x with
    | none => rw [hx] at h; simp at h
    | some a =>
      rw [hx] at h
      simp only [Option.map_some, Option.some.injEq] at h
      subst h
      exact OpOk.move hr ht (.inr ho) hx
  · rename_i c x y ho
    split at h
    · rename_i t u v hc hx hy
      simp only [Option.some.injEq] at h
      subst h
      exact OpOk.pick hr ht ho hc hx hy
    · simp at h
  · rename_i e ho
    cases hz : zeroCs P e with
    | none => rw [hz] at h; simp at h
    | some cs =>
      rw [hz] at h
      exact OpOk.alloc hr ho hz h
  · rename_i e x ho
    cases hx : evx ts x with
    | none => rw [hx] at h; simp at h
    | some a =>
      rw [hx] at h
      simp only [Option.bind_some] at h
      cases hc : cellsVa a with
      | none => rw [hc] at h; simp at h
      | some cs =>
        rw [hc] at h
        exact OpOk.box hr ht ho hx hc h
  · rename_i t parts ho
    cases hp : partsC ts parts.toList with
    | none => rw [hp] at h; simp at h
    | some ps =>
      rw [hp] at h
      simp only [Option.bind_some] at h
      cases hb : evBuild P t ps with
      | none => rw [hb] at h; simp at h
      | some cs =>
        rw [hb] at h
        simp only [Option.map_some, Option.some.injEq] at h
        subst h
        exact OpOk.build hr ht ho hp hb
  · rename_i t len parts ho
    cases hp : partsC ts parts.toList with
    | none => rw [hp] at h; simp at h
    | some ps =>
      rw [hp] at h
      exact OpOk.buildSlice hr ht ho hp h
  · rename_i t x ho
    cases hx : evx ts x with
    | none => rw [hx] at h; simp at h
    | some a =>
      rw [hx] at h
      exact OpOk.load hr ht ho hx h
  · rename_i t x y ho
    split at h
    · rename_i a v hx hy
      exact OpOk.store hr ht ho hx hy h
    · simp at h
  · rename_i x ho
    split at h
    · rename_i b off hx
      simp only [Option.some.injEq] at h
      subst h
      exact OpOk.nilPtr hr ht ho hx
    · rename_i g f c hx
      simp only [Option.some.injEq] at h
      subst h
      exact OpOk.nilFn hr ht ho hx
    · simp at h
  · rename_i op t x y ty ho
    split at h
    · rename_i a b hx hy
      exact OpOk.bin hr ht ho hx hy h
    · simp at h
  · rename_i op t x ho
    split at h
    · rename_i k i hx
      split at h
      · simp only [Option.some.injEq] at h
        subst h
        exact OpOk.unX hr ht ho hx
      · simp at h
    · rename_i a hna hx
      split at h
      · rename_i v hv
        exact OpOk.unLit hr ht ho hx hv h
      · simp at h
    · simp at h
  · rename_i t ho
    exact OpOk.makeMap hr ho h
  · rename_i t x y ok ho
    split at h
    · rename_i a b hx hy
      exact OpOk.lookup hr ht ho hx hy h
    · simp at h
  · rename_i t x y z ho
    split at h
    · rename_i a b c hx hy hz
      exact OpOk.update hr ht ho hx hy hz h
    · simp at h
  · rename_i t x ho
    cases hx : evx ts x with
    | none => rw [hx] at h; simp at h
    | some a =>
      rw [hx] at h
      exact OpOk.range hr ht ho hx h
  · rename_i x ho
    cases hx : evx ts x with
    | none => rw [hx] at h; simp at h
    | some a =>
      rw [hx] at h
      exact OpOk.next hr ht ho hx h
  · rename_i s d x ho
    cases hx : evx ts x with
    | none => rw [hx] at h; simp at h
    | some a =>
      rw [hx] at h
      exact OpOk.convert hr ht ho hx h
  · rename_i t x ho
    split at h
    · rename_i v hv
      exact OpOk.ifaceLit hr ht ho hv h
    · simp at h
  · rename_i t x y ho
    split at h
    · rename_i a b hx hy
      exact OpOk.makeSlice hr ht ho hx hy h
    · simp at h
  · rename_i t x lo hi mx ho
    split at h
    · rename_i a hx
      split at h
      · rename_i v hv
        split at h
        · rename_i l q c hl hh hc
          exact OpOk.sliceLit hr ht ho hx hl hh hc hv h
        · simp at h
      · split at h
        · rename_i l q c hl hh hc
          exact OpOk.slice hr ht ho hx hl hh hc h
        · simp at h
    · simp at h
  · rename_i t x f ho
    cases hx : evx ts x with
    | none => rw [hx] at h; simp at h
    | some a =>
      rw [hx] at h
      exact OpOk.fieldAddr hr ht ho hx h
  · rename_i t x f ho
    cases hx : evx ts x with
    | none => rw [hx] at h; simp at h
    | some a =>
      rw [hx] at h
      exact OpOk.field hr ht ho hx h
  · rename_i t x y ho
    split at h
    · rename_i a b hx hy
      exact OpOk.indexAddr hr ht ho hx hy h
    · simp at h
  · rename_i t x y ho
    split at h
    · rename_i a b hx hy
      exact OpOk.index hr ht ho hx hy h
    · simp at h
  · rename_i x i ho
    split at h
    · rename_i vs hx
      cases hv : vs[i]? with
      | none => rw [hv] at h; simp at h
      | some v =>
        rw [hv] at h
        simp only [Option.map_some, Option.some.injEq] at h
        subst h
        exact OpOk.extract hr ht ho hx hv
    · simp at h
  · rename_i c ho
    exact OpOk.call hr ht ho h
  · simp at h
end Go.Proofs.YtibdikihgdkfnaaGreatDoor.Ev
end
section
/- A reckoner, seventeenth part: code that is run is so. -/
namespace Go.Proofs.YtibdikihgdkfnaaGreatDoor.Ev
open Go.RowKit
set_option linter.unusedVariables false
set_option linter.unusedSimpArgs false
/-- A loop's rounds from here on. -/
def LoopWp (P : Program) (c : Code) (Q : Exit → Act → World → Prop) (a : Act) (w : World) : Prop :=
  ∀ (b : Frame) (k : List Item) (cs : List Frame), ∃ e a' w', Q e a' w' ∧ Arrives P (lone (b.at a (.code c :: .inLoop c :: k)) cs w) b k cs e a' w'
theorem LoopWp.wp {P : Program} {c : Code} {Q : Exit → Act → World → Prop} {a : Act} {w : World} (h : LoopWp P c Q a w) : (Code.loop c).wp P Q a w :=
  fun b k cs => let ⟨e, a', w', q, r⟩ := h b k cs; ⟨e, a', w', q, .of_steps (.one step_loop) r⟩
theorem LoopWp.round {P : Program} {c : Code} {Q : Exit → Act → World → Prop} {a : Act} {w : World} (h : c.wp P (Exit.then (LoopWp P c Q) Q) a w) : LoopWp P c Q a w := by
  intro b k cs
  obtain ⟨e, a₁, w₁, hq, harr⟩ := h b (.inLoop c :: k) cs
  cases e with
  | normal =>
    obtain ⟨e₂, a₂, w₂, hq₂, harr₂⟩ := hq b k cs
    exact ⟨e₂, a₂, w₂, hq₂, .of_steps (Steps.trans harr (.one step_inLoop)) harr₂⟩
  | exit id => exact ⟨_, a₁, w₁, hq, .pass (x := .inLoop c) rfl (fun _ _ => .inl (by simp)) harr⟩
  | goto l => exact ⟨_, a₁, w₁, hq, .pass (x := .inLoop c) rfl (fun _ _ => .inl (by simp)) harr⟩
  | ret => exact ⟨_, a₁, w₁, hq, .pass (x := .inLoop c) rfl (fun _ _ => .inl (by simp)) harr⟩
  | panic ch => exact ⟨_, a₁, w₁, hq, .pass (x := .inLoop c) rfl (fun _ _ => .inl (by simp)) harr⟩
  | outgrown => exact ⟨_, a₁, w₁, hq, .pass (x := .inLoop c) rfl (fun _ _ => .inl (by simp)) harr⟩
/-- Code's condition; of a loop: its rounds'. -/
def CodeWp (P : Program) : Code → (Exit → Act → World → Prop) → Act → World → Prop
  | .loop c => LoopWp P c
  | c => c.wp P
theorem CodeWp.wp {P : Program} : ∀ {c : Code} {Q : Exit → Act → World → Prop} {a : Act} {w : World}, CodeWp P c Q a w → c.wp P Q a w
  | .loop _, _, _, _, h => LoopWp.wp h
  | .skip, _, _, _, h | .region .., _, _, _, h | .seq .., _, _, _, h | .cond .., _, _, _, h | .block .., _, _, _, h | .rangeFunc .., _, _, _, h | .exit _, _, _, _, h | .scope _, _, _, _, h | .label _, _, _, _, h | .goto _, _, _, _, h | .ret, _, _, _, h | .refuse _, _, _, _, h => h
def Ex.to : Ex → Exit
  | .normal => .normal
  | .exit i => .exit i
  | .ret => .ret
/-- Where the run of a piece ends. -/
def Post (E : Env) (B : Nat) (m : Mem) (w : World) (x : Ex) (ts' : Fr) (m' : Mem) : Exit → Act → World → Prop :=
  fun e A' w' => e = x.to ∧ A'.defers = [] ∧ ∃ F, To E m w F m' w' ∧ Rel F B m' w' ∧ RT F ts' A'
theorem Post.back {E F : Env} {B : Nat} {m m1 m' : Mem} {w w1 : World} {x : Ex} {ts' : Fr} (h : To E m w F m1 w1) {e : Exit} {A' : Act} {w' : World} (p : Post F B m1 w1 x ts' m' e A' w') : Post E B m w x ts' m' e A' w' := by
  obtain ⟨h1, h2, G, h3, h4, h5⟩ := p
  exact ⟨h1, h2, G, h.trans h3, h4, h5⟩
theorem wantedA_ok {E : Env} {all : Array Oper} {ts : Fr} {A : Act} {o : Oper} {b : Bool} (ht : RT E ts A) (h : wantedA all ts o = some b) : Region.wanted o (yielded all A.tmps) = b := by
  unfold wantedA at h
  unfold Region.wanted
  split at h
  · rename_i hg
    rw [hg]
    simpa using h
  · rename_i j want hg
    rw [hg]
    simp only
    unfold yielded
    split at h
    · rename_i d hd
      rw [hd]
      simp only [Option.bind_some]
      split at h
      · rename_i q hq
        obtain ⟨u, h1, h2⟩ := ht.of_get hq
        have e1 : u = .bool q := h2.2
        subst e1
        rw [h1]
        simp only [Option.some.injEq] at h
        subst h
        rfl
      · rename_i hq
        obtain ⟨u, h1, us, h2, h3⟩ := ht.of_get hq
        have e1 : us = [] := h2
        subst e1; subst h3
        rw [h1]
        simp only [Option.some.injEq] at h
        subst h
        rfl
      · simp at h
    · rename_i hd
      rw [hd]
      simp only [Option.some.injEq] at h
      subst h
      rfl
theorem argsL_get {E : Env} : ∀ (k : Nat) (args : List Va) (us : List Value), RLa E args us → ∀ t, k ≤ t → (t < k + args.length → ∃ u, us[t - k]? = some u ∧ (findT .nil t (argsL k args)).R E u) ∧ (k + args.length ≤ t → findT .nil t (argsL k args) = undefV)
  | k, [], us, h, t, hk => ⟨fun hl => by simp at hl; omega, fun _ => rfl⟩
  | k, a :: r, us, ⟨u, q, e, h1, h2⟩, t, hk => by
    subst e
    unfold argsL findT
    simp only [cond_eq_ite, beq_iff_eq, List.length_cons]
    by_cases hq : k = t
    · subst hq
      rw [if_pos rfl]
      exact ⟨fun _ => ⟨u, by simp, h1⟩, fun hl => by omega⟩
    · rw [if_neg hq]
      obtain ⟨g1, g2⟩ := argsL_get (k + 1) r q h2 t (by omega)
      refine ⟨fun hl => ?_, fun hl => g2 (by omega)⟩
      obtain ⟨v, g3, g4⟩ := g1 (by omega)
      refine ⟨v, ?_, g4⟩
      have : t - k = (t - (k + 1)) + 1 := by omega
      rw [this, List.getElem?_cons_succ]
      exact g3
theorem frame_RT {E : Env} {n : Nat} {args : List Va} {us : List Value} (h : RLa E args us) (hn : args.length ≤ n) : RT E (frame n args) { tmps := us.toArray ++ Array.replicate (n - us.toArray.size) undef, defers := [] } := by
  have hl := h.length
  refine ⟨by simp [frame]; omega, fun t ht => ?_⟩
  have ht : t < n := ht
  obtain ⟨g1, g2⟩ := argsL_get 0 args us h t (Nat.zero_le _)
  simp only [Nat.zero_add, Nat.sub_zero] at g1 g2
  by_cases hq : t < args.length
  · obtain ⟨u, g3, g4⟩ := g1 hq
    refine ⟨u, ?_, g4⟩
    rw [Array.getElem?_append_left (by simp; omega)]
    simpa using g3
  · refine ⟨undef, ?_, ?_⟩
    · rw [Array.getElem?_append_right (by simp; omega), Array.getElem?_replicate, if_pos (by simp; omega)]
    · show (findT .nil t (argsL 0 args)).R E undef
      rw [g2 (by omega)]
      exact ⟨[], rfl, rfl⟩
def resOne (tmps : Array Value) : ResultVar → Sem Value
  | .tmp t => pure (tmps.getD t undef)
  | .cell a t => do loadVar t (← asAddr (tmps.getD a undef))
def resOf (rs : List ResultVar) (tmps : Array Value) : Sem (List Value) := rs.mapM (resOne tmps)
theorem evLoad_run {P : Program} {E : Env} {B : Nat} {m m2 : Mem} {w : World} {t : TypeId} {a : Va} {x : Va} {u : Value} (hr : Rel E B m w) (hu : a.R E u) (h : evLoad P t a m = some (.val x m2)) : ∃ c v, u = .pointer (some c) ∧ (loadVar t c).run P w = .ok v w ∧ x.R E v := by
  unfold evLoad at h
  split at h
  · rename_i b off
    obtain ⟨cb, co, hb, hxe⟩ := hu
    split at h
    · rename_i d i hu hi
      split at h
      · rename_i hd
        cases hl : m.load b off i.size with
        | none => rw [hl] at h; simp at h
        | some cs =>
          rw [hl] at h
          simp only [Option.map_some, Option.some.injEq, Res.val.injEq] at h
          obtain ⟨rfl, rfl⟩ := h
          obtain ⟨us, h1, h2, h3⟩ := hr.load hl hb
          exact ⟨_, _, hxe, run_loadVar_mid (P := P) w cb (co + off) t us d h3 hu hd (by rw [hi, h2]; rfl), ⟨us, h1, rfl⟩⟩
      · rename_i hd
        split at h
        · rename_i c hl
          simp only [Option.some.injEq, Res.val.injEq] at h
          obtain ⟨rfl, rfl⟩ := h
          obtain ⟨us, h1, h2, h3⟩ := hr.load hl hb
          obtain ⟨u, q, rfl, h4, h5⟩ := h1
          have hc := h3 0 u rfl
          simp only [Nat.add_zero] at hc
          exact ⟨_, u, hxe, by simp [loadVar, isAgg_false hu hd, load, Sem.run, hc], h4⟩
        · simp at h
    · simp at h
  · simp at h
theorem resultsA_ok {P : Program} {E : Env} {B : Nat} {m : Mem} {w : World} {A : Act} {ts : Fr} (hr : Rel E B m w) (ht : RT E ts A) : ∀ {rs : List ResultVar} {l : List V1}, resultsA P rs ts m = some l → ∃ vs, (resOf rs A.tmps).run P w = .ok vs w ∧ RL1 E l vs
  | [], l, h => by
    simp only [resultsA, Option.some.injEq] at h
    subst h
    exact ⟨[], rfl, rfl⟩
  | .tmp t :: rs, l, h => by
    unfold resultsA at h
    split at h
    · rename_i v q hv hq
      simp only [Option.some.injEq] at h
      subst h
      obtain ⟨u, h1, h2⟩ := ht.of_get hv
      obtain ⟨vs, h3, h4⟩ := resultsA_ok hr ht hq
      refine ⟨u :: vs, ?_, ⟨u, vs, rfl, h2, h4⟩⟩
      unfold resOf at h3 ⊢
      have h0 : (resOne A.tmps (.tmp t)).run P w = .ok u w := by simp [resOne, Array.getD_eq_getD_getElem?, h1]
      rw [List.mapM_cons]
      simp only [Sem.run_bind, h0, h3, Result.andThen_ok, Sem.run_pure]
    · simp at h
  | .cell a t :: rs, l, h => by
    unfold resultsA at h
    split at h
    · rename_i v m2 q hv hq
      simp only [Option.some.injEq] at h
      subst h
      cases ha : ts.get a with
      | none => rw [ha] at hv; simp at hv
      | some av =>
        rw [ha] at hv
        simp only [Option.bind_some] at hv
        obtain ⟨u, h1, h2⟩ := ht.of_get ha
        obtain ⟨vs, h3, h4⟩ := resultsA_ok hr ht hq
        obtain ⟨c, x, rfl, e1, e2⟩ := evLoad_run hr h2 hv
        refine ⟨x :: vs, ?_, ⟨x, vs, rfl, e2, h4⟩⟩
        unfold resOf at h3 ⊢
        have h0 : (resOne A.tmps (.cell a t)).run P w = .ok x w := by simp [resOne, Array.getD_eq_getD_getElem?, h1, asAddr, e1]
        rw [List.mapM_cons]
        simp only [Sem.run_bind, h0, h3, Result.andThen_ok, Sem.run_pure]
    · simp at h
theorem oneOf_ok {E : Env} {l : List V1} {vs : List Value} (h : RL1 E l vs) : (oneOf l).R E (if h : vs.toArray.size = 1 then vs.toArray[0] else .tuple vs.toArray) := by
  cases l with
  | nil =>
    simp only [RL1] at h
    subst h
    exact ⟨[], rfl, rfl⟩
  | cons a r =>
    obtain ⟨u, q, rfl, h1, h2⟩ := h
    cases r with
    | nil =>
      simp only [RL1] at h2
      subst h2
      exact h1
    | cons b r2 =>
      have hlen : ¬ (u :: q).toArray.size = 1 := by
        have := h2.length
        simp at this ⊢
        intro hq
        rw [hq] at this
        simp at this
      rw [dif_neg hlen]
      exact ⟨u :: q, ⟨u, q, rfl, h1, h2⟩, rfl⟩
theorem results_run {P : Program} {fn : Func} {A : Act} {w : World} {vs : List Value} (h : (resOf fn.results.toList A.tmps).run P w = .ok vs w) : (results fn A.tmps).run P w = .ok (if h : vs.toArray.size = 1 then vs.toArray[0] else .tuple vs.toArray) w := by
  have e1 : results fn A.tmps = (do let vs ← fn.results.mapM (resOne A.tmps); pure (if h : vs.size = 1 then vs[0] else .tuple vs)) := by
    have hf : (fun x : ResultVar => match x with
      | .tmp t => (pure (A.tmps.getD t undef) : Sem Value)
      | .cell a t => do loadVar t (← asAddr (A.tmps.getD a undef))) = resOne A.tmps := by
      funext r
      cases r <;> rfl
    unfold results
    rw [← hf]
    rfl
  unfold resOf at h
  rw [e1, Array.mapM_eq_mapM_toList]
  simp only [Sem.run_bind, Sem.run_map, h, Result.andThen_ok, Sem.run_pure]
end Go.Proofs.YtibdikihgdkfnaaGreatDoor.Ev
end
section
/- A reckoner, eighteenth part: operations that yield in every world. -/
namespace Go.Proofs.YtibdikihgdkfnaaGreatDoor.Ev
open Go.RowKit
set_option linter.unusedVariables false
set_option linter.unusedSimpArgs false
theorem Ce.R.fun1 {E : Env} : ∀ {c : Ce} {u v : Value}, c.R E u → c.R E v → u = v
  | .lit _, _, _, ⟨_, e⟩, ⟨_, f⟩ => e.trans f.symm
  | .ptr b o, u, v, ⟨cb, co, h1, e⟩, ⟨cb', co', h2, f⟩ => by
    rw [h1] at h2
    simp only [Option.some.injEq, Prod.mk.injEq] at h2
    obtain ⟨rfl, rfl⟩ := h2
    rw [e, f]
  | .slc b o len lo up, u, v, ⟨cb, co, k, h1, k1, e⟩, ⟨cb', co', k', h2, k2, f⟩ => by
    rw [h1] at h2
    rw [k1] at k2
    simp only [Option.some.injEq, Prod.mk.injEq] at h2 k2
    obtain ⟨rfl, rfl⟩ := h2
    subst k2
    rw [e, f]
  | .hole k i, u, v, ⟨n, h1, e⟩, ⟨n', h2, f⟩ => by
    rw [h1] at h2
    simp only [Option.some.injEq, Value.int.injEq, true_and] at h2
    subst h2
    rw [e, f]
  | .any i, u, v, ⟨h1, _⟩, ⟨h2, _⟩ => by
    rw [h1] at h2
    exact Option.some.inj h2
  | .mp b, u, v, ⟨cb, h1, e⟩, ⟨cb', h2, f⟩ => by
    rw [h1] at h2
    simp only [Option.some.injEq, Prod.mk.injEq] at h2
    obtain ⟨rfl, _⟩ := h2
    rw [e, f]
  | .clo f b, u, v, ⟨cb, h1, e⟩, ⟨cb', h2, f'⟩ => by
    rw [h1] at h2
    simp only [Option.some.injEq, Prod.mk.injEq] at h2
    obtain ⟨rfl, _⟩ := h2
    rw [e, f']
theorem RL.fun1 {E : Env} : ∀ {cs : List Ce} {us vs : List Value}, RL E cs us → RL E cs vs → us = vs
  | [], _, _, h, k => by simp only [RL] at h k; rw [h, k]
  | _ :: _, _, _, ⟨u, r, e, h1, h2⟩, ⟨v, s, f, k1, k2⟩ => by
    subst e; subst f
    rw [h1.fun1 k1, h2.fun1 k2]
section
variable {P : Program} {E : Env} {A : Act} {o : Oper} {ts : Fr}
/-- It yields the same in every world. -/
def OpPure (P : Program) (E : Env) (A : Act) (o : Oper) (a : Va) : Prop := ∃ v, (∀ w, (execOp A.eval o).run P w = .ok (.value v) w) ∧ a.R E v
theorem OpPure.lit {s : Sem Value} {a : Va} (h : (pureRun P s).bind ofVa = some a) (he : execOp A.eval o = (do pure (.value (← s)))) : OpPure P E A o a := by
  cases hp : pureRun P s with
  | none => rw [hp] at h; simp at h
  | some v =>
    rw [hp] at h
    simp only [Option.bind_some] at h
    exact ⟨v, fun w => by rw [he]; simp [pureRun_sound s v hp w], ofVa_R v a h⟩
theorem OpPure.slice {t : TypeId} {x : Operand} {low high mx : Option Operand} {l h c : Option Int} {a a' : Va} {m m' : Mem} (ht : RT E ts A) (ho : o.op = .slice t x low high mx) (hx : evx ts x = some a)
    (hl : bound ts low = some l) (hh : bound ts high = some h) (hc : bound ts mx = some c) (hs : evSlice P t a l h c m = some (.val a' m')) : OpPure P E A o a' := by
  have hxR := evx_R ht hx
  have hl := bound_R ht hl
  have hh := bound_R ht hh
  have hc := bound_R ht hc
  unfold evSlice at hs
  split at hs
  · rename_i b off n e hu
    split at hs
    · rename_i ie L H C hi hcut
      simp only [Option.some.injEq, Res.val.injEq] at hs
      obtain ⟨rfl, rfl⟩ := hs
      obtain ⟨cb, co, hb, hxe⟩ := hxR
      have k1 := fun w => (cutB_ok (P := P) (isS := false) (cap := n) hl hh hc (Nat.le_refl _) hcut w).1
      refine ⟨.slice (some (if C.getD n = L then ⟨cb, co + off, none⟩ else (⟨cb, co + off, none⟩ : Addr).add (L * ie.size))) (H - L) (C.getD n - L), fun w => ?_, ?_⟩
      · simp [execOp, ho, hxe, Instr.sliceAt, Instr.sureAddr, run_underlying hu, k1 w, sizeOf, typeInfo, hi]
      · refine ⟨cb, co, 0, hb, rfl, ?_⟩
        by_cases hq : C.getD n = L
        · simp [hq]
        · simp [hq, Addr.add_mid, Nat.add_assoc]
    · simp at hs
  · rename_i b off len lo up e hu
    obtain ⟨cb, co, k, hb, hk, hxe⟩ := hxR
    have hrun : ∀ L H C ie, P.info? e = some ie → cutB len lo l h c = some (L, H, C) → ∀ w, (execOp A.eval o).run P w = .ok (.value (.slice (if C.getD (lo + k) = L then some ⟨cb, co + off, none⟩ else some ((⟨cb, co + off, none⟩ : Addr).add (L * ie.size))) (H - L) (C.getD (lo + k) - L))) w := fun L H C ie hi hcut w => by
      obtain ⟨k1, k2⟩ := cutB_ok (P := P) (isS := true) (cap := lo + k) hl hh hc (Nat.le_add_right _ _) hcut w
      simp [execOp, ho, hxe, Instr.sliceAt, Instr.slice, run_underlying hu, k1, sizeOf, typeInfo, hi]
    split at hs
    · rename_i ie L H C hi hcut
      simp only [Option.some.injEq, Res.val.injEq] at hs
      obtain ⟨rfl, rfl⟩ := hs
      have k1 := hrun L H (some C) ie hi hcut
      refine ⟨_, k1, cb, co, 0, hb, rfl, ?_⟩
      simp only [Option.getD_some]
      by_cases hq : C = L
      · simp [hq]
      · simp [hq, Addr.add_mid, Nat.add_assoc]
    · rename_i ie L H hi hcut
      have k1 := hrun L H none ie hi hcut
      simp only [Option.getD_none] at k1
      split at hs
      · simp only [Option.some.injEq, Res.val.injEq] at hs
        obtain ⟨rfl, rfl⟩ := hs
        have hk0 : k = 0 := by simpa [Env.capOf] using hk.symm
        subst hk0
        refine ⟨_, k1, cb, co, 0, hb, rfl, ?_⟩
        simp only [Nat.add_zero]
        by_cases hq : lo = L
        · simp [hq]
        · simp [hq, Addr.add_mid, Nat.add_assoc]
      · rename_i u
        split at hs
        · rename_i h0
          simp only [Option.some.injEq, Res.val.injEq] at hs
          obtain ⟨rfl, rfl⟩ := hs
          subst h0
          refine ⟨_, k1, cb, co, k, hb, hk, ?_⟩
          by_cases hq : lo + k = 0
          · simp [hq]
          · simp [hq, Addr.add_mid]
        · rename_i h0
          split at hs
          · rename_i hlt
            simp only [Option.some.injEq, Res.val.injEq] at hs
            obtain ⟨rfl, rfl⟩ := hs
            refine ⟨_, k1, cb, co, k, hb, hk, ?_⟩
            have hq : ¬ lo + k = L := by omega
            simp only [hq, if_false, Addr.add_mid]
            congr 1
            · simp [Nat.add_assoc]
            · omega
          · simp at hs
    · simp at hs
  · simp at hs
theorem evPure_ok {a : Va} (ht : RT E ts A) (h : evPure P ts o = some a) : OpPure P E A o a := by
  unfold evPure at h
  split at h
  · rename_i x ho
    exact ⟨A.eval x, fun w => by simp [execOp, ho], evx_R ht h⟩
  · rename_i x ho
    exact ⟨A.eval x, fun w => by simp [execOp, ho], evx_R ht h⟩
  · rename_i x ho
    split at h
    · rename_i b off hx
      simp only [Option.some.injEq] at h
      subst h
      obtain ⟨cb, co, hb, hxe⟩ := evx_R ht hx
      exact ⟨A.eval x, fun w => by simp [execOp, ho, hxe], ⟨cb, co, hb, hxe⟩⟩
    · simp at h
  · rename_i t x f ho
    split at h
    · rename_i b off fields hx hu
      split at h
      · rename_i fd hf
        split at h
        · rename_i i hi
          split at h
          · simp at h
          · rename_i hs
            simp only [Option.some.injEq] at h
            subst h
            obtain ⟨cb, co, hb, hxe⟩ := evx_R ht hx
            refine ⟨.pointer (some ⟨cb, co + (off + fd.offset), none⟩), fun w => ?_, ⟨cb, co, hb, rfl⟩⟩
            simp [execOp, ho, hxe, Instr.fieldAt, Instr.sureAddr, run_underlying hu, hf, fieldPlace, sizeOf, typeInfo, hi, hs, Addr.add_mid, Nat.add_assoc]
        · simp at h
      · simp at h
    · simp at h
  · rename_i x i ho
    split at h
    · rename_i vs hx
      cases hv : vs[i]? with
      | none => rw [hv] at h; simp at h
      | some v =>
        rw [hv] at h
        simp only [Option.map_some, Option.some.injEq] at h
        subst h
        obtain ⟨us, h1, h2⟩ := evx_R ht hx
        obtain ⟨u, h3, h4⟩ := h1.get hv
        exact ⟨u, fun w => by simp [execOp, ho, h2, Instr.extract, h3], h4⟩
    · simp at h
  · rename_i t parts ho
    cases hp : partsC ts parts.toList with
    | none => rw [hp] at h; simp at h
    | some ps =>
      rw [hp] at h
      simp only [Option.bind_some] at h
      cases hb : evBuild P t ps with
      | none => rw [hb] at h; simp at h
      | some cs =>
        rw [hb] at h
        simp only [Option.map_some, Option.some.injEq] at h
        subst h
        obtain ⟨vs, h1, h2⟩ := evBuild_ok ht hp hb
        exact ⟨.agg vs, fun w => by simp [execOp, ho, run_build (P := P) w t _ vs h1], ⟨vs.toList, h2, by simp⟩⟩
  · rename_i op t x y ty ho
    split at h
    · rename_i u v hu hv
      exact OpPure.lit h (by rw [← lit_of ht hu, ← lit_of ht hv]; simp [execOp, ho])
    · simp at h
  · rename_i op t x ho
    split at h
    · rename_i v hv
      exact OpPure.lit h (by rw [← lit_of ht hv]; simp [execOp, ho])
    · simp at h
  · rename_i s d x ho
    split at h
    · rename_i v hv
      exact OpPure.lit h (by rw [← lit_of ht hv]; simp [execOp, ho])
    · simp at h
  · rename_i t x ix ho
    split at h
    · rename_i b off len lo up k i elem hx hy hu
      split at h
      · rename_i ie hi
        split at h
        · rename_i hb
          simp only [Option.some.injEq] at h
          subst h
          obtain ⟨cb, co, kk, hbl, hk, hxe⟩ := evx_R ht hx
          have e2 : A.eval ix = .int k i := (evx_R ht hy).2
          refine ⟨.pointer (some ⟨cb, co + (off + i.toNat * ie.size), none⟩), fun w => ?_, ⟨cb, co, hbl, rfl⟩⟩
          simp [execOp, ho, hxe, e2, Instr.indexAt, Instr.sureAddr, asIntOf, run_underlying hu, hb, sizeOf, typeInfo, hi, Addr.add_mid, Nat.add_assoc]
        · simp at h
      · simp at h
    · rename_i b off k i len elem hx hy hu
      split at h
      · rename_i ie hi
        split at h
        · rename_i hb
          simp only [Option.some.injEq] at h
          subst h
          obtain ⟨cb, co, hbl, hxe⟩ := evx_R ht hx
          have e2 : A.eval ix = .int k i := (evx_R ht hy).2
          refine ⟨.pointer (some ⟨cb, co + (off + i.toNat * ie.size), none⟩), fun w => ?_, ⟨cb, co, hbl, rfl⟩⟩
          simp [execOp, ho, hxe, e2, Instr.indexAt, Instr.sureAddr, asIntOf, run_underlying hu, hb, sizeOf, typeInfo, hi, Addr.add_mid, Nat.add_assoc]
        · simp at h
      · simp at h
    · simp at h
  · rename_i t x lo hi mx ho
    split at h
    · rename_i a1 hx
      split at h
      · rename_i v hv
        split at h
        · rename_i l q c hl hh hc
          refine OpPure.lit h ?_
          rw [← litVa_eq hv (evx_R ht hx), ← boundV_R ht hl, ← boundV_R ht hh, ← boundV_R ht hc]
          simp [execOp, ho]
        · simp at h
      · split at h
        · rename_i l q c hl hh hc
          split at h
          · rename_i a2 m2 hs
            simp only [Option.some.injEq] at h
            subst h
            exact OpPure.slice ht ho hx hl hh hc hs
          · simp at h
        · simp at h
    · simp at h
  · rename_i x t ho
    have fin : ∀ (b : Option Addr) (n c : Nat), A.eval x = .slice b n c → isSlcT P t = true → ∀ w, (execOp A.eval o).run P w = .ok (.value (.int .i64 n)) w := fun b n c e1 hs w => by
      unfold isSlcT at hs
      split at hs
      · rename_i q hq
        refine builtin_run (f := Builtin.len_) ho rfl (fun _ _ _ _ => rfl) ?_
        simp [Builtin.len_, run_underlying hq, e1, goInt]
      · cases hs
    split at h
    · rename_i b off n lo up hx
      split at h
      · rename_i hs
        simp only [Option.some.injEq] at h
        subst h
        obtain ⟨cb, co, k, hb, hk, hxe⟩ := evx_R ht hx
        exact ⟨_, fin _ _ _ hxe hs, ⟨rfl, rfl⟩⟩
      · simp at h
    · rename_i n c hx
      split at h
      · rename_i hs
        simp only [Option.some.injEq] at h
        subst h
        have hxe : A.eval x = .slice none n c := (evx_R ht hx).2
        exact ⟨_, fin _ _ _ hxe hs, ⟨rfl, rfl⟩⟩
      · simp at h
    · simp at h
  · simp at h
/-- It yields a number, the same in every world. -/
def HoleOk (P : Program) (A : Act) (o : Oper) (k : IntKind) : Prop := ∃ n : Int, ∀ w, (execOp A.eval o).run P w = .ok (.value (.int k n)) w
theorem HoleOk.bin {op : BinOp} {t ty : TypeId} {x y : Operand} {a b : Va} {kk : IntKind} (ht : RT E ts A) (ho : o.op = .binOp op t x y ty) (hx : evx ts x = some a) (hy : evx ts y = some b) (h : evHoleK op a b = some kk) : HoleOk P A o kk := by
  have hxR := evx_R ht hx
  have hyR := evx_R ht hy
  unfold evHoleK at h
  split at h
  · rename_i k k' h1 h2
    split at h
    · rename_i hk
      subst hk
      simp only [Option.some.injEq] at h
      subst h
      obtain ⟨n, e1⟩ := kindOf_R h1 hxR
      obtain ⟨n', e2⟩ := kindOf_R h2 hyR
      exact ⟨(k.wrap (n + n')), fun w => by simp [execOp, ho, e1, e2, eqGuard, binOp, Op.intArith]⟩
    · simp at h
  · rename_i k k' h1 h2
    split at h
    · rename_i hk
      subst hk
      simp only [Option.some.injEq] at h
      subst h
      obtain ⟨n, e1⟩ := kindOf_R h1 hxR
      obtain ⟨n', e2⟩ := kindOf_R h2 hyR
      exact ⟨(k.wrap (n - n')), fun w => by simp [execOp, ho, e1, e2, eqGuard, binOp, Op.intArith]⟩
    · simp at h
  · rename_i k k' h1 h2
    split at h
    · rename_i hk
      subst hk
      simp only [Option.some.injEq] at h
      subst h
      obtain ⟨n, e1⟩ := kindOf_R h1 hxR
      obtain ⟨n', e2⟩ := kindOf_R h2 hyR
      exact ⟨(k.wrap (BitVec.ofInt k.bits n &&& BitVec.ofInt k.bits n').toNat), fun w => by simp [execOp, ho, e1, e2, eqGuard, binOp, Op.intBits]⟩
    · simp at h
  · rename_i k k' h1 h2
    split at h
    · rename_i hk
      subst hk
      simp only [Option.some.injEq] at h
      subst h
      obtain ⟨n, e1⟩ := kindOf_R h1 hxR
      obtain ⟨n', e2⟩ := kindOf_R h2 hyR
      exact ⟨(k.wrap (BitVec.ofInt k.bits n ||| BitVec.ofInt k.bits n').toNat), fun w => by simp [execOp, ho, e1, e2, eqGuard, binOp, Op.intBits]⟩
    · simp at h
  · rename_i k k' h1 h2
    split at h
    · rename_i hk
      subst hk
      simp only [Option.some.injEq] at h
      subst h
      obtain ⟨n, e1⟩ := kindOf_R h1 hxR
      obtain ⟨n', e2⟩ := kindOf_R h2 hyR
      exact ⟨(k.wrap (BitVec.ofInt k.bits n ^^^ BitVec.ofInt k.bits n').toNat), fun w => by simp [execOp, ho, e1, e2, eqGuard, binOp, Op.intBits]⟩
    · simp at h
  · rename_i k h1
    split at h
    · rename_i k' n'
      split at h
      · rename_i hn
        simp only [Option.some.injEq] at h
        subst h
        obtain ⟨n, e1⟩ := kindOf_R h1 hxR
        have e2 : A.eval y = .int k' n' := hyR.2
        have hn' : ¬ n' < 0 := by omega
        exact ⟨(k.wrap (n * 2 ^ (min n'.toNat k.bits))), fun w => by simp [execOp, ho, e1, e2, eqGuard, binOp, Op.shift, hn']⟩
      · simp at h
    · simp at h
  · rename_i k h1
    split at h
    · rename_i k' n'
      split at h
      · rename_i hn
        simp only [Option.some.injEq] at h
        subst h
        obtain ⟨n, e1⟩ := kindOf_R h1 hxR
        have e2 : A.eval y = .int k' n' := hyR.2
        have hn' : ¬ n' < 0 := by omega
        exact ⟨(n.fdiv (2 ^ (min n'.toNat k.bits))), fun w => by simp [execOp, ho, e1, e2, eqGuard, binOp, Op.shift, hn']⟩
      · simp at h
    · simp at h
  · simp at h
theorem evPureH_ok {k : IntKind} (ht : RT E ts A) (h : evPureH P ts o = some k) : HoleOk P A o k := by
  unfold evPureH at h
  split at h
  · rename_i op t x y ty ho
    split at h
    · rename_i a b hx hy
      exact HoleOk.bin ht ho hx hy h
    · simp at h
  · rename_i t x ho
    split at h
    · rename_i k' i hx
      simp only [Option.some.injEq] at h
      subst h
      obtain ⟨n, _, h2⟩ := evx_R ht hx
      exact ⟨k'.wrap (BitVec.ofInt k'.bits (if k'.signed then -1 else k'.max) ^^^ BitVec.ofInt k'.bits n).toNat, fun w => by simp [execOp, ho, h2, Op.unary, Op.intBits]⟩
    · simp at h
  · rename_i s d x ho
    split at h
    · rename_i k' i u kk hx hu1 hu2
      simp only [Option.some.injEq] at h
      subst h
      obtain ⟨n, _, e1⟩ := evx_R ht hx
      exact ⟨kk.wrap n, fun w => by simp [execOp, ho, e1, Go.convert, run_underlying hu1, run_underlying hu2, Conv.intToInt]⟩
    · simp at h
  · simp at h
variable {B : Nat} {m : Mem} {w w' : World}
/-- Unknown values get letters. -/
def Env.withH (E : Env) (n : Nat) (vs : List Value) : Env := { E with hole := fun i => if n ≤ i ∧ i < n + vs.length then vs[i - n]? else E.hole i }
theorem withH_le (hr : Rel E B m w) (vs : List Value) : Env.Le E (E.withH m.nhole vs) :=
  ⟨fun _ _ h => h, fun _ _ h => h, fun i x h => by
    have : i < m.nhole := Nat.lt_of_not_le (fun hl => by rw [hr.freshH i hl] at h; cases h)
    show (if m.nhole ≤ i ∧ i < m.nhole + vs.length then vs[i - m.nhole]? else E.hole i) = some x
    rw [if_neg (by omega)]
    exact h⟩
theorem withH_get (n i : Nat) (vs : List Value) (v : Value) (h : vs[i]? = some v) : (E.withH n vs).hole (n + i) = some v := by
  have hi := (List.getElem?_eq_some_iff.1 h).1
  show (if n ≤ n + i ∧ n + i < n + vs.length then vs[n + i - n]? else E.hole (n + i)) = some v
  rw [if_pos (by omega), Nat.add_sub_cancel_left]
  exact h
theorem holes (hr : Rel E B m w) (vs : List Value) : To E m w (E.withH m.nhole vs) (m.holes vs.length) w ∧ Rel (E.withH m.nhole vs) B (m.holes vs.length) w := by
  have hle := withH_le hr vs
  refine ⟨⟨hle, rfl, rfl, rfl, Nat.le_refl _, fun _ _ h => h, fun _ _ _ => rfl, Nat.le_refl _, ⟨[], rfl, fun _ _ _ => ⟨rfl, fun _ _ _ _ _ => rfl⟩⟩⟩, ⟨fun b x hx => ?_, hr.inj, hr.freshB, hr.freshC, fun i hi => ?_, hr.base⟩⟩
  · obtain ⟨cb, co, h1, h2, h3⟩ := hr.blk b x hx
    exact ⟨cb, co, h1, h2, h3.le hle rfl⟩
  · have hi : m.nhole + vs.length ≤ i := hi
    show (if m.nhole ≤ i ∧ i < m.nhole + vs.length then vs[i - m.nhole]? else E.hole i) = none
    rw [if_neg (by omega)]
    exact hr.freshH i (by omega)
end
end Go.Proofs.YtibdikihgdkfnaaGreatDoor.Ev
end
section
/- A reckoner, nineteenth part: a call that is run, or told, is so. -/
namespace Go.Proofs.YtibdikihgdkfnaaGreatDoor.Ev
open Go.RowKit
set_option linter.unusedVariables false
set_option linter.unusedSimpArgs false
def EntersP (P : Program) (f : FuncId) : Prop := ∃ fn c, P.funcs[f]? = some fn ∧ (fn.name == "runtime.NumGoroutine") = false ∧ fn.body = some c
/-- What is known of the world, and stays so whatever is done above B. -/
def Inv (Gd : World → Prop) (B : Nat) (w : World) : Prop := ∀ w', Below B w w' → Gd w'
theorem Inv.to {Gd : World → Prop} {B : Nat} {E F : Env} {m m' : Mem} {w w' : World} (h : Inv Gd B w) (t : To E m w F m' w') (hr : Rel E B m w) : Inv Gd B w' := fun w2 hb => h w2 ((t.below hr).trans hb)
def SumOk (P : Program) (Gd : World → Prop) (f : FuncId) (g : Sum) : Prop := ∀ (E : Env) (B : Nat) (m m' : Mem) (w : World) (args : List Va) (us : List Value) (a : Va), Inv Gd B w → g args m = some (a, m') → Rel E B m w → RLa E args us →
  Calls P f us.toArray w fun e w' => ∃ F v, e = .returned v ∧ To E m w F m' w' ∧ Rel F B m' w' ∧ a.R F v
structure Tabs (P : Program) (Gd : World → Prop) (F : FuncId → Option Func) (G : Tab) : Prop where
  fn : ∀ f fn, F f = some fn → P.funcs[f]? = some fn ∧ (fn.name == "runtime.NumGoroutine") = false
  glob : ∀ g t a, G.gl g t = some a → ∀ w, Gd w → ∃ v, (Instr.loadAt t (.pointer (some ⟨g, 0, none⟩))).run P w = .ok v w ∧ ∀ E, a.R E v
  mixed : P.follows .mixedOrders = true
  sum : ∀ f g, G.fn f = some g → SumOk P Gd f g ∧ EntersP P f
def TaskWp (P : Program) : Task → (Exit → Act → World → Prop) → Act → World → Prop
  | .code c => CodeWp P c
  | .ops all l => fun R A w => ∀ Q : Exit → Act → World → Prop, (∀ e A' w', R e A' w' → Q e A' w') → wpList P all Q l A w
theorem evG_ok {P : Program} {Gd : World → Prop} {F : FuncId → Option Func} {G : Tab} (hT : Tabs P Gd F G) {E : Env} {B : Nat} {m : Mem} {w : World} {A : Act} {o : Oper} {ts : Fr} {r : Res} (hI : Inv Gd B w) (hr : Rel E B m w) (ht : RT E ts A) (h : evG P G.gl ts m o = some r) : OpOk P E B m w A o r := by
  unfold evG at h
  split at h
  · rename_i t g ho
    cases hg : G.gl g t with
    | none => rw [hg] at h; simp at h
    | some a =>
      rw [hg] at h
      simp only [Option.map_some, Option.some.injEq] at h
      subst h
      obtain ⟨v, h1, h2⟩ := hT.glob g t a hg w (hI w (Below.refl B w))
      exact OpOk.same hr (v := v) (by simp [execOp, ho, Act.eval, h1]) (h2 E)
  · exact evOp_ok hr ht h
theorem put_defers (A : Act) (d : Option Tmp) (v : Value) : (A.put d v).defers = A.defers := by cases d <;> rfl
theorem seqA_inv {k : Fr → Mem → Out} {out : Out} {x : Ex} {ts : Fr} {m : Mem} (h : seqA k out = some (x, ts, m)) : (∃ ts1 m1, out = some (.normal, ts1, m1) ∧ k ts1 m1 = some (x, ts, m)) ∨ (out = some (x, ts, m) ∧ x ≠ .normal) := by
  unfold seqA at h
  split at h
  · rename_i ts1 m1
    exact .inl ⟨ts1, m1, rfl, h⟩
  · rename_i hn
    refine .inr ⟨h, ?_⟩
    rintro rfl
    exact hn _ _ h
theorem flushA_inv {x y : Ex} {n : Nat} {m m' : Mem} {o : Option (Tr Va)} {ts' : Fr} (h : flushA x n m o = some (y, ts', m')) : ∃ t, o = some t ∧ x = y ∧ ⟨n, [], t⟩ = ts' ∧ m = m' := by
  cases o with
  | none => simp [flushA] at h
  | some t =>
    simp only [flushA, Option.some.injEq, Prod.mk.injEq] at h
    exact ⟨t, rfl, h⟩
theorem callA_ok {P : Program} {Gd : World → Prop} {F : FuncId → Option Func} {G : Tab} (hT : Tabs P Gd F G) {run : Task → Fr → Mem → Out}
    (ih : ∀ task ts m x ts' m', run task ts m = some (x, ts', m') → ∀ E B w A, Inv Gd B w → RT E ts A → A.defers = [] → Rel E B m w → TaskWp P task (Post E B m w x ts' m') A w)
    {f : FuncId} {args : List Va} {m : Mem} {k : Va → Mem → Out} {r : Ex × Fr × Mem} (h : callA P F G run f args m k = some r) {E : Env} {B : Nat} {w : World} {us : List Value} (hI : Inv Gd B w) (hr : Rel E B m w) (ha : RLa E args us) :
    EntersP P f ∧ ∃ a m1, k a m1 = some r ∧ Calls P f us.toArray w fun e w' => ∃ F v, e = .returned v ∧ To E m w F m1 w' ∧ Rel F B m1 w' ∧ a.R F v := by
  unfold callA at h
  split at h
  · rename_i g hg
    unfold sumA at h
    split at h
    · rename_i a m1 hs
      obtain ⟨h1, h2⟩ := hT.sum f g hg
      exact ⟨h2, a, m1, h, h1 E B m m1 w args us a hI hs hr ha⟩
    · simp at h
  · split at h
    · simp at h
    · rename_i fn hF
      obtain ⟨hf, hname⟩ := hT.fn f fn hF
      split at h
      · simp at h
      · rename_i c hb
        simp only [cond_eq_ite] at h
        split at h
        · rename_i hle
          have hle : args.length ≤ fn.ntmps := Nat.le_of_ble_eq_true hle
          refine ⟨⟨fn, c, hf, hname, hb⟩, ?_⟩
          have key : ∀ (x : Ex) (ts' : Fr) (m' : Mem) (l : List V1), (x = .normal ∨ x = .ret) → run (.code c) (frame fn.ntmps args) m = some (x, ts', m') → resultsA P fn.results.toList ts' m' = some l →
              Calls P f us.toArray w fun e w' => ∃ F v, e = .returned v ∧ To E m w F m' w' ∧ Rel F B m' w' ∧ (oneOf l).R F v := fun x ts' m' l hx hrun hres => by
            refine calls_of_wp hf hb (wp_mono (CodeWp.wp (ih _ _ _ _ _ _ hrun E B w _ hI (frame_RT ha hle) rfl hr)) ?_)
            rintro e A' w' ⟨he, hd, F, h1, h2, h3⟩
            obtain ⟨vs, h4, h5⟩ := resultsA_ok h2 h3 hres
            have h6 := results_run h4
            have h7 := oneOf_ok h5
            rcases hx with rfl | rfl
            · subst he
              exact ⟨hd, _, h6, F, _, rfl, h1, h2, h7⟩
            · subst he
              exact ⟨hd, _, h6, F, _, rfl, h1, h2, h7⟩
          cases hrun : run (.code c) (frame fn.ntmps args) m with
          | none => rw [hrun] at h; simp [backA] at h
          | some q =>
            obtain ⟨x, ts', m'⟩ := q
            rw [hrun] at h
            cases x with
            | exit i => simp [backA] at h
            | normal =>
              simp only [backA] at h
              split at h
              · rename_i l hres
                exact ⟨oneOf l, m', h, key _ ts' m' l (.inl rfl) hrun hres⟩
              · simp at h
            | ret =>
              simp only [backA] at h
              split at h
              · rename_i l hres
                exact ⟨oneOf l, m', h, key _ ts' m' l (.inr rfl) hrun hres⟩
              · simp at h
        · simp at h
end Go.Proofs.YtibdikihgdkfnaaGreatDoor.Ev
end
section
/- A reckoner, twentieth part: a region that draws its order. -/
namespace Go.Proofs.YtibdikihgdkfnaaGreatDoor.Ev
open Go.RowKit Go.Proofs.YtibdikihgdkfnaaGreatDoorW.PrintLast
set_option linter.unusedVariables false
set_option linter.unusedSimpArgs false
theorem V1.R.fun1 {E : Env} : ∀ {c : V1} {u v : Value}, c.R E u → c.R E v → u = v
  | .ce _, _, _, h, k => Ce.R.fun1 h k
  | .agg _, _, _, ⟨us, h1, h2⟩, ⟨vs, k1, k2⟩ => by rw [h2, k2, h1.fun1 k1]
theorem RL1.fun1 {E : Env} : ∀ {cs : List V1} {us vs : List Value}, RL1 E cs us → RL1 E cs vs → us = vs
  | [], _, _, h, k => by simp only [RL1] at h k; rw [h, k]
  | _ :: _, _, _, ⟨u, r, e, h1, h2⟩, ⟨v, s, f, k1, k2⟩ => by
    subst e; subst f
    rw [h1.fun1 k1, h2.fun1 k2]
theorem Va.R.fun1 {E : Env} : ∀ {c : Va} {u v : Value}, c.R E u → c.R E v → u = v
  | .one _, _, _, h, k => V1.R.fun1 h k
  | .tup _, _, _, ⟨us, h1, h2⟩, ⟨vs, k1, k2⟩ => by rw [h2, k2, h1.fun1 k1]
/-- What a load of a block yields. -/
theorem load_blk {P : Program} {t : TypeId} {b off : Nat} {m m2 : Mem} {a : Va} (h : evLoad P t (.one (.ce (.ptr b off))) m = some (.val a m2)) :
    ∃ x, m.get b = some (.cells x) ∧ ∀ (F : Env) (cb co : Nat) (w : World), BlkR F x cb co w → ∃ v, (Instr.loadAt t (.pointer (some ⟨cb, co + off, none⟩))).run P w = .ok v w ∧ a.R F v := by
  unfold evLoad at h
  simp only at h
  have key : ∀ n cs, m.load b off n = some cs → ∃ x, m.get b = some (.cells x) ∧ off + n ≤ x.cells.length ∧ cs = (x.cells.drop off).take n := by
    intro n cs hl
    unfold Mem.load at hl
    split at hl
    · rename_i x hg
      split at hl
      · rename_i hn
        simp only [Option.some.injEq] at hl
        exact ⟨x, hg, hn, hl.symm⟩
      · simp at hl
    · simp at hl
  split at h
  · rename_i d i hu hi
    split at h
    · rename_i hd
      cases hl : m.load b off i.size with
      | none => rw [hl] at h; simp at h
      | some cs =>
        rw [hl] at h
        simp only [Option.map_some, Option.some.injEq, Res.val.injEq] at h
        obtain ⟨rfl, rfl⟩ := h
        obtain ⟨x, hg, hn, rfl⟩ := key _ _ hl
        refine ⟨x, hg, fun F cb co w hb => ?_⟩
        obtain ⟨us, h1, h2, h3⟩ := hb.load off i.size hn
        exact ⟨.agg us.toArray, run_loadAt_mid (P := P) w cb (co + off) t us d h3 hu hd (by rw [hi, h2]; rfl), ⟨us, h1, rfl⟩⟩
    · rename_i hd
      split at h
      · rename_i c hl
        simp only [Option.some.injEq, Res.val.injEq] at h
        obtain ⟨rfl, rfl⟩ := h
        obtain ⟨x, hg, hn, hc⟩ := key _ _ hl
        refine ⟨x, hg, fun F cb co w hb => ?_⟩
        obtain ⟨us, h1, h2, h3⟩ := hb.load off 1 hn
        rw [← hc] at h1
        obtain ⟨u, q, rfl, h4, h5⟩ := h1
        have hc := h3 0 u rfl
        simp only [Nat.add_zero] at hc
        exact ⟨u, by simp [Instr.loadAt, Instr.sureAddr, loadVar, isAgg_false hu hd, load, Sem.run, hc], h4⟩
      · simp at h
  · simp at h
/-- Each block of the region's start that is not written reads as it did. -/
def SS (E0 : Env) (m0 : Mem) (X : List Nat) (w' : World) : Prop :=
  ∀ b x, m0.get b = some x → X.contains b = false → ∃ F cb co, Env.Le E0 F ∧ F.blk b = some (cb, co) ∧ E0.blk b = some (cb, co) ∧ BlR F x cb co w'
section
variable {P : Program} {E0 E1 : Env} {B : Nat} {m0 m1 : Mem} {w0 w1 : World} {X : List Nat}
theorem okW_get (h : To E0 m0 w0 E1 m1 w1) (hwl : m0.wl = []) (hk : okW X m0.next m1 = true) {b : Nat} (hb : b < m0.next) (hX : X.contains b = false) : m1.get b = m0.get b := by
  obtain ⟨new, h1, h2⟩ := h.keep
  rw [hwl, List.append_nil] at h1
  refine (h2 b hb (fun hm => ?_)).1
  have h3 := List.all_eq_true.1 hk b (h1 ▸ hm)
  rw [hX, Bool.or_false] at h3
  have := Nat.le_of_ble_eq_true h3
  omega
theorem SS.of (hr0 : Rel E0 B m0 w0) (h : To E0 m0 w0 E1 m1 w1) (hr : Rel E1 B m1 w1) (hwl : m0.wl = []) (hk : okW X m0.next m1 = true) : SS E0 m0 X w1 := by
  intro b x hb hX
  have hg := (okW_get h hwl hk (hr0.next_lt hb) hX).trans hb
  obtain ⟨cb, co, e1, _, e2⟩ := hr.blk b x hg
  obtain ⟨cb0, co0, e3, _, _⟩ := hr0.blk b x hb
  have e4 := h.le.blk b _ e3
  rw [e1] at e4
  exact ⟨E1, cb, co, h.le, e1, by rw [e3, ← e4], e2⟩
variable {A : Act} {o : Oper} {ts : Fr}
theorem loadQ_ok (hr0 : Rel E0 B m0 w0) (h : To E0 m0 w0 E1 m1 w1) (hr : Rel E1 B m1 w1) (hwl : m0.wl = []) (ht : RT E1 ts A) {a : Va} (hq : loadQ P X m0.next ts m1 o = some a) :
    SS E0 m0 X w1 ∧ ∃ v, (∀ w', SS E0 m0 X w' → (execOp A.eval o).run P w' = .ok (.value v) w') ∧ a.R E1 v := by
  unfold loadQ at hq
  split at hq
  · rename_i t x ho
    split at hq
    · rename_i b off hx
      simp only [cond_eq_ite] at hq
      split at hq
      · rename_i hc
        simp only [Bool.and_eq_true, Nat.blt_eq, Bool.not_eq_true'] at hc
        obtain ⟨⟨hb, hX⟩, hk⟩ := hc
        split at hq
        · rename_i a' m2 hl
          simp only [Option.some.injEq] at hq
          subst hq
          obtain ⟨y, hg, hrun⟩ := load_blk hl
          have hg0 : m0.get b = some (.cells y) := (okW_get h hwl hk hb hX).symm.trans hg
          obtain ⟨cb, co, e1, _, e2⟩ := hr0.blk b _ hg0
          obtain ⟨v, _, v2⟩ := hrun E0 cb co w0 e2
          obtain ⟨cb', co', e3, hxe⟩ := evx_R ht hx
          have e4 := h.le.blk b _ e1
          rw [e3] at e4
          simp only [Option.some.injEq, Prod.mk.injEq] at e4
          obtain ⟨rfl, rfl⟩ := e4
          refine ⟨SS.of hr0 h hr hwl hk, v, fun w' hS => ?_, v2.le h.le⟩
          obtain ⟨F, cb2, co2, k1, k2, k3, k4⟩ := hS b _ hg0 hX
          rw [e1] at k3
          simp only [Option.some.injEq, Prod.mk.injEq] at k3
          obtain ⟨rfl, rfl⟩ := k3
          obtain ⟨v', g1, g2⟩ := hrun F _ _ w' k4
          have : v' = v := g2.fun1 (v2.le k1)
          subst this
          simp [execOp, ho, hxe, g1]
        · simp at hq
      · simp at hq
    · simp at hq
  · simp at hq
theorem quietQ_ok (hr0 : Rel E0 B m0 w0) (h1 : To E0 m0 w0 E1 m1 w1) (hr : Rel E1 B m1 w1) (hwl : m0.wl = []) (ht : RT E1 ts A) {all : Array Oper} {ds : List Nat} {l : Array Bool} {i k : Nat} {a : Va} {m2 : Mem} (ho : all[i]? = some o)
    (hq : quietQ P all ds X m0.next l ts m1 i o = some (a, m2)) {Q : Exit → Act → World → Prop} (hQp : ∀ c a w, ¬ Q (.panic c) a w)
    (hK : ∀ E2 v, To E1 m1 w1 E2 m2 w1 → Rel E2 B m2 w1 → a.R E2 v → wpAnyLast P .any all Q (SS E0 m0 X) ds k (l.setIfInBounds i true) (A.put o.dst v) w1) : wpAnyLast P .any all Q (SS E0 m0 X) ds (k + 1) l A w1 := by
  have hwhen : ∀ {c : Bool} {b : Va} {m3 : Mem}, whenQ c b m3 = some (a, m2) → c = true ∧ b = a ∧ m3 = m2 := by
    intro c b m3 hc
    cases c with
    | true => simpa [whenQ] using hc
    | false => simp [whenQ] at hc
  have t0 := To.refl E1 m1 w1
  unfold quietQ at hq
  split at hq
  · simp at hq
  · rename_i hw
    obtain ⟨hc, rfl, rfl⟩ := hwhen hq
    exact pure_ (l.setIfInBounds i true) ho rfl hc (fun c a w q => absurd q (hQp c _ w)) (.inr ⟨wantedA_ok ht hw, rfl⟩) rfl (hK E1 undef t0 hr ⟨[], rfl, rfl⟩)
  · rename_i hw
    split at hq
    · rename_i b hp
      obtain ⟨hc, rfl, rfl⟩ := hwhen hq
      obtain ⟨v, v1, v2⟩ := evPure_ok (P := P) ht hp
      exact pure_ (l.setIfInBounds i true) ho rfl hc (fun c a w q => absurd q (hQp c _ w)) (.inl ⟨wantedA_ok ht hw, v1⟩) rfl (hK E1 v t0 hr v2)
    · split at hq
      · rename_i b hl
        obtain ⟨hc, rfl, rfl⟩ := hwhen hq
        obtain ⟨hS, v, v1, v2⟩ := loadQ_ok (P := P) hr0 h1 hr hwl ht hl
        exact take_ (l.setIfInBounds i true) ho rfl hc (fun c a w q => absurd q (hQp c _ w)) (.inl ⟨wantedA_ok ht hw, v1⟩) hS rfl (hK E1 v t0 hr v2)
      · split at hq
        · rename_i kk hh
          obtain ⟨hc, rfl, rfl⟩ := hwhen hq
          obtain ⟨n, hn⟩ := evPureH_ok (P := P) ht hh
          obtain ⟨t2, r2⟩ := holes hr [.int kk n]
          exact pure_ (l.setIfInBounds i true) ho rfl hc (fun c a w q => absurd q (hQp c _ w)) (.inl ⟨wantedA_ok ht hw, hn⟩) rfl (hK _ (.int kk n) t2 r2 ⟨n, withH_get m1.nhole 0 [.int kk n] _ rfl, rfl⟩)
        · simp at hq
variable {Gd : World → Prop} {F : FuncId → Option Func} {G : Tab}
theorem stepA_ok (hT : Tabs P Gd F G) {run : Task → Fr → Mem → Out}
    (ih : ∀ task ts m x ts' m', run task ts m = some (x, ts', m') → ∀ E B w A, Inv Gd B w → RT E ts A → A.defers = [] → Rel E B m w → TaskWp P task (Post E B m w x ts' m') A w)
    {all : Array Oper} {c : Mem → Bool} {k : Fr → Mem → Out} {r : Ex × Fr × Mem} (hI : Inv Gd B w1) (hr : Rel E1 B m1 w1) (ht : RT E1 ts A) (h : stepA P F G run all c ts m1 o k = some r) {K : Act → World → Prop} {Q : Exit → Act → World → Prop}
    (hK : ∀ a m2 E2 w2 v, To E1 m1 w1 E2 m2 w2 → Rel E2 B m2 w2 → a.R E2 v → c m2 = true → k (ts.put o.dst a) m2 = some r → K (A.put o.dst v) w2) :
    if Region.wanted o (yielded all A.tmps) = true then Oper.wp P o A w1 K Q else K (A.put o.dst undef) w1 := by
  have hwhen : ∀ {b : Bool} {q : Out}, (bif b then q else none) = some r → b = true ∧ q = some r := by
    intro b q hq
    cases b with
    | true => exact ⟨rfl, hq⟩
    | false => simp at hq
  unfold stepA at h
  split at h
  · rename_i hw
    rw [if_pos (wantedA_ok ht hw)]
    unfold resA at h
    split at h
    · rename_i a m2 ho
      obtain ⟨E2, w2, v, h1, h2, h3, h4⟩ := evG_ok hT hI hr ht ho
      obtain ⟨c1, c2⟩ := hwhen h
      unfold Oper.wp
      rw [h1]
      exact hK _ _ _ _ _ h2 h3 h4 c1 c2
    · rename_i m2 ho
      obtain ⟨E2, w2, h1, h2, h3⟩ := evG_ok hT hI hr ht ho
      obtain ⟨c1, c2⟩ := hwhen h
      unfold Oper.wp
      rw [h1]
      exact hK undefV _ _ _ undef h2 h3 ⟨[], rfl, rfl⟩ c1 c2
    · rename_i f args m2 ho
      obtain ⟨rfl, us, h1, h2⟩ := evG_ok hT hI hr ht ho
      obtain ⟨⟨fn, cc, g1, g2, g3⟩, a, m3, h3, h4⟩ := callA_ok hT ih h hI hr h2
      obtain ⟨c1, c2⟩ := hwhen h3
      unfold Oper.wp
      rw [h1 fn cc g1 g2 g3]
      refine Calls.mono h4 ?_
      rintro e w2 ⟨E2, v, rfl, k1, k2, k3⟩
      exact hK _ _ _ _ _ k1 k2 k3 c1 c2
    · simp at h
  · rename_i hw
    obtain ⟨c1, c2⟩ := hwhen h
    rw [if_neg (by rw [wantedA_ok ht hw]; simp)]
    exact hK undefV _ _ _ undef (To.refl E1 m1 w1) hr ⟨[], rfl, rfl⟩ c1 c2
  · simp at h
theorem drA_ok (hT : Tabs P Gd F G) {run : Task → Fr → Mem → Out}
    (ih : ∀ task ts m x ts' m', run task ts m = some (x, ts', m') → ∀ E B w A, Inv Gd B w → RT E ts A → A.defers = [] → Rel E B m w → TaskWp P task (Post E B m w x ts' m') A w)
    {all : Array Oper} {ds : List Nat} (hI0 : Inv Gd B w0) (hr0 : Rel E0 B m0 w0) (hwl : m0.wl = []) {Q : Exit → Act → World → Prop} (hQp : ∀ c a w, ¬ Q (.panic c) a w) {x : Ex} {ts' : Fr} {m' : Mem}
    (hQ : ∀ A' w' E', x = .normal → To E0 m0 w0 E' m' w' → Rel E' B m' w' → RT E' ts' A' → A'.defers = [] → Q .normal A' w') :
    ∀ (n k : Nat) (pend late : List Nat) (t : Bool) (l : Array Bool) (ts : Fr) (m1 : Mem), drA P F G run all ds X m0.next n k pend late t l ts m1 = some (x, ts', m') →
    ∀ (E1 : Env) (w1 : World) (A : Act), To E0 m0 w0 E1 m1 w1 → Rel E1 B m1 w1 → RT E1 ts A → A.defers = [] → wpAnyLast P .any all Q (SS E0 m0 X) ds k l A w1
  | 0, k, pend, late, t, l, ts, m1, h, E1, w1, A, h1, h2, h3, h4 => by simp [drA] at h
  | n + 1, k, i :: r, late, t, l, ts, m1, h, E1, w1, A, h1, h2, h3, h4 => by
    have ihk := drA_ok hT ih (all := all) (ds := ds) hI0 hr0 hwl hQp hQ n
    unfold drA at h
    split at h
    · simp at h
    · rename_i o ho
      split at h
      · rename_i a m2 hq
        unfold nextA at h
        split at h
        · simp at h
        · rename_i k'
          exact quietQ_ok hr0 h1 h2 hwl h3 ho hq hQp (fun E2 v t2 r2 hv => ihk _ _ _ _ _ _ _ h E2 w1 _ (h1.trans t2) r2 ((h3.le t2.le).put hv) (by rw [put_defers]; exact h4))
      · exact ihk _ _ _ _ _ _ _ h E1 w1 A h1 h2 h3 h4
  | n + 1, k, [], late, t, l, ts, m1, h, E1, w1, A, h1, h2, h3, h4 => by
    have ihk := drA_ok hT ih (all := all) (ds := ds) hI0 hr0 hwl hQp hQ n
    unfold drA at h
    split at h
    · rename_i hready
      simp only [Option.some.injEq, Prod.mk.injEq] at h
      obtain ⟨rfl, rfl, rfl⟩ := h
      exact done_ (by rw [hready]; rfl) (hQ A w1 E1 rfl h1 h2 h3 h4)
    · rename_i i hready
      split at h
      · rename_i o ho
        unfold nextA at h
        split at h
        · simp at h
        · rename_i k'
          have hc : readyB .any all l (l.setIfInBounds i true) i = true := by simp [readyB, hready]
          by_cases hd : i ∈ ds
          · refine last_ (l.setIfInBounds i true) ho rfl hc hd (fun K hK => ?_)
            refine stepA_ok hT ih (hI0.to h1 hr0) h2 h3 h (fun a m2 E2 w2 v t1 t2 t3 t4 t5 => ?_)
            exact hK.out _ _ (ihk _ _ _ _ _ _ _ t5 E2 w2 _ (h1.trans t1) t2 ((h3.le t1.le).put t3) (by rw [put_defers]; exact h4))
          · refine one_ (l.setIfInBounds i true) ho rfl hc hd (fun K hK => ?_)
            refine stepA_ok hT ih (hI0.to h1 hr0) h2 h3 h (fun a m2 E2 w2 v t1 t2 t3 t4 t5 => ?_)
            have hk : okW X m0.next m2 = true := by
              have : ds.contains i = false := by simpa using hd
              rw [this, Bool.false_or] at t4
              exact t4
            exact hK.out _ _ (SS.of hr0 (h1.trans t1) t2 hwl hk) (fun _ => ihk _ _ _ _ _ _ _ t5 E2 w2 _ (h1.trans t1) t2 ((h3.le t1.le).put t3) (by rw [put_defers]; exact h4))
      · simp at h
    · simp only [cond_eq_ite] at h
      split at h
      · exact ihk _ _ _ _ _ _ _ h E1 w1 A h1 h2 h3 h4
      · simp at h
end
theorem regionA_ok {P : Program} {Gd : World → Prop} {F : FuncId → Option Func} {G : Tab} (hT : Tabs P Gd F G) {run : Task → Fr → Mem → Out}
    (ih : ∀ task ts m x ts' m', run task ts m = some (x, ts', m') → ∀ E B w A, Inv Gd B w → RT E ts A → A.defers = [] → Rel E B m w → TaskWp P task (Post E B m w x ts' m') A w)
    {id : Nat} {ops : Array Oper} {ts ts' : Fr} {m m' : Mem} {x : Ex} (h : regionA P F G run ops ts m = some (x, ts', m')) {E : Env} {B : Nat} {w : World} {A : Act} (hI : Inv Gd B w) (ht : RT E ts A) (hd : A.defers = []) (hr : Rel E B m w) :
    (Code.region id ops true).wp P (Post E B m w x ts' m') A w := by
  unfold regionA at h
  cases hdr : drA P F G run ops (dsOf ops) (xOf ops (dsOf ops) ts) m.next (2 * (ops.size + 1) * (ops.size + 1)) ops.size (List.range ops.size) [] false (Array.replicate ops.size false) ts { m with wl := [] } with
  | none => rw [hdr] at h; simp [backL] at h
  | some q =>
    obtain ⟨y, ts1, m1⟩ := q
    rw [hdr] at h
    obtain ⟨t', hf, rfl, rfl, rfl⟩ := flushA_inv h
    have r1 : Rel E B m w.drew := hr.sameHeap rfl
    have r0 : Rel E B { m with wl := [] } w.drew := ⟨r1.blk, r1.inj, r1.freshB, r1.freshC, r1.freshH, r1.base⟩
    have t0 := To.refl E { m with wl := [] } w.drew
    refine wp_region_last_drew (S := SS E { m with wl := [] } (xOf ops (dsOf ops) ts)) (ds := dsOf ops) hT.mixed (SS.of r0 t0 r0 rfl rfl) (fun _ => ?_)
    refine drA_ok hT ih (m0 := { m with wl := [] }) (w0 := w.drew) (hI.to (To.sameHeap (E := E) (m := m) (w := w) (W := w.drew) rfl ⟨rfl, rfl, rfl⟩) hr) r0 rfl (fun c a w q => ?_) (fun A' w' E' hx t1 t2 t3 t4 => ?_) _ _ _ _ _ _ _ _ hdr E w.drew A t0 r0 ht hd
    · have := q.1
      cases y <;> simp [Ex.to] at this
    · subst hx
      refine ⟨rfl, t4, E', ⟨t1.le, t1.os, t1.tape, t1.output, t1.size, t1.img, t1.frame, t1.next, ?_⟩, ⟨t2.blk, t2.inj, t2.freshB, t2.freshC, t2.freshH, t2.base⟩, t3.flush hf⟩
      obtain ⟨new, k1, k2⟩ := t1.keep
      exact ⟨m1.wl, rfl, fun b hb hn => k2 b hb (fun hm => hn (by rw [k1]; exact List.mem_append.2 (.inl hm)))⟩
end Go.Proofs.YtibdikihgdkfnaaGreatDoor.Ev
end
section
/- A reckoner, twenty-first part: what is reckoned of code is so. -/
namespace Go.Proofs.YtibdikihgdkfnaaGreatDoor.Ev
open Go.RowKit
set_option linter.unusedVariables false
set_option linter.unusedSimpArgs false
theorem ev_sound {P : Program} {Gd : World → Prop} {F : FuncId → Option Func} {G : Tab} (hT : Tabs P Gd F G) : ∀ (n : Nat) (task : Task) (ts : Fr) (m : Mem) (x : Ex) (ts' : Fr) (m' : Mem), ev P F G n task ts m = some (x, ts', m') →
    ∀ (E : Env) (B : Nat) (w : World) (A : Act), Inv Gd B w → RT E ts A → A.defers = [] → Rel E B m w → TaskWp P task (Post E B m w x ts' m') A w
  | 0, task, ts, m, x, ts', m', h => by simp [ev] at h
  | n + 1, .code c, ts, m, x, ts', m', h => by
    intro E B w A hI ht hd hr
    have ih := ev_sound hT n
    have same : ∀ y, (y, ts, m) = (x, ts', m') → Post E B m w x ts' m' y.to A w := fun y hy => by
      simp only [Prod.mk.injEq] at hy
      obtain ⟨rfl, rfl, rfl⟩ := hy
      exact ⟨rfl, hd, E, To.refl E m w, hr, ht⟩
    simp only [ev, TaskWp] at h ⊢
    unfold codeA at h
    split at h
    · exact wp_skip (same .normal (by simpa using h))
    · exact wp_label (same .normal (by simpa using h))
    · rename_i id ops
      exact wp_region_list (ih _ _ _ _ _ _ h E B w A hI ht hd hr _ (fun _ _ _ p => p))
    · rename_i id ops
      exact regionA_ok hT ih h hI ht hd hr
    · rename_i a b
      rcases seqA_inv h with ⟨ts1, m1, h1, h2⟩ | ⟨h1, h2⟩
      · refine wp_seq (wp_mono (CodeWp.wp (ih _ _ _ _ _ _ h1 E B w A hI ht hd hr)) ?_)
        rintro e A1 w1 ⟨rfl, hd1, E1, t1, r1, q1⟩
        exact wp_mono (CodeWp.wp (ih _ _ _ _ _ _ h2 E1 B w1 A1 (hI.to t1 hr) q1 hd1 r1)) (fun e A' w' p => Post.back t1 p)
      · refine wp_seq (wp_mono (CodeWp.wp (ih _ _ _ _ _ _ h1 E B w A hI ht hd hr)) ?_)
        rintro e A1 w1 p
        have he := p.1
        subst he
        cases x with
        | normal => exact absurd rfl h2
        | exit i => exact p
        | ret => exact p
    · rename_i c a b
      unfold condA at h
      split at h
      · rename_i t hc
        have e1 : A.eval c = .bool t := (evx_R ht hc).2
        cases t with
        | true => exact wp_cond e1 (CodeWp.wp (ih _ _ _ _ _ _ h E B w A hI ht hd hr))
        | false => exact wp_cond e1 (CodeWp.wp (ih _ _ _ _ _ _ h E B w A hI ht hd hr))
      · simp at h
    · rename_i id b
      unfold blockA at h
      split at h
      · rename_i j ts1 m1 h1
        refine wp_block (wp_mono (CodeWp.wp (ih _ _ _ _ _ _ h1 E B w A hI ht hd hr)) ?_)
        rintro e A1 w1 ⟨rfl, p⟩
        simp only [cond_eq_ite, beq_iff_eq] at h
        show if j = id then Post E B m w x ts' m' .normal A1 w1 else Post E B m w x ts' m' (.exit j) A1 w1
        by_cases hj : j = id
        · rw [if_pos hj] at h ⊢
          simp only [Option.some.injEq, Prod.mk.injEq] at h
          obtain ⟨rfl, rfl, rfl⟩ := h
          exact ⟨rfl, p⟩
        · rw [if_neg hj] at h ⊢
          simp only [Option.some.injEq, Prod.mk.injEq] at h
          obtain ⟨rfl, rfl, rfl⟩ := h
          exact ⟨rfl, p⟩
      · rename_i hn
        refine wp_block (wp_mono (CodeWp.wp (ih _ _ _ _ _ _ h E B w A hI ht hd hr)) ?_)
        rintro e A1 w1 p
        have he := p.1
        subst he
        cases x with
        | normal => exact p
        | exit i => exact absurd h (hn i ts' m')
        | ret => exact p
    · rename_i b
      refine LoopWp.round ?_
      rcases seqA_inv h with ⟨ts1, m1, h1, h2⟩ | ⟨h1, h2⟩
      · refine wp_mono (CodeWp.wp (ih _ _ _ _ _ _ h1 E B w A hI ht hd hr)) ?_
        rintro e A1 w1 ⟨rfl, hd1, E1, t1, r1, q1⟩
        have hl : LoopWp P b (Post E1 B m1 w1 x ts' m') A1 w1 := ih _ _ _ _ _ _ h2 E1 B w1 A1 (hI.to t1 hr) q1 hd1 r1
        intro fb k cs
        obtain ⟨e, a', w', q, r⟩ := hl fb k cs
        exact ⟨e, a', w', Post.back t1 q, r⟩
      · refine wp_mono (CodeWp.wp (ih _ _ _ _ _ _ h1 E B w A hI ht hd hr)) ?_
        rintro e A1 w1 p
        have he := p.1
        subst he
        cases x with
        | normal => exact absurd rfl h2
        | exit i => exact p
        | ret => exact p
    · rename_i id
      exact wp_exit (same (.exit id) (by simpa using h))
    · exact wp_ret (same .ret (by simpa using h))
    · simp at h
  | n + 1, .ops all l, ts, m, x, ts', m', h => by
    intro E B w A hI ht hd hr
    have ih := ev_sound hT n
    simp only [ev, TaskWp] at h ⊢
    unfold opsA at h
    split at h
    · obtain ⟨t', hf, rfl, rfl, rfl⟩ := flushA_inv h
      exact fun Q hQ => hQ _ _ _ ⟨rfl, hd, E, To.refl E m w, hr, ht.flush hf⟩
    · rename_i o rest
      intro Q hQ
      refine wpList_step (fun K hK => ?_)
      split at h
      · rename_i hw
        rw [if_pos (wantedA_ok ht hw)]
        unfold resA at h
        split at h
        · rename_i a m1 ho
          obtain ⟨E1, w1, v, h1, h2, h3, h4⟩ := evG_ok hT hI hr ht ho
          unfold Oper.wp
          rw [h1]
          exact hK _ _ (ih _ _ _ _ _ _ h E1 B w1 _ (hI.to h2 hr) ((ht.le h2.le).put h4) (by rw [put_defers]; exact hd) h3 Q (fun e A' w' p => hQ _ _ _ (Post.back h2 p)))
        · rename_i m1 ho
          obtain ⟨E1, w1, h1, h2, h3⟩ := evG_ok hT hI hr ht ho
          unfold Oper.wp
          rw [h1]
          exact hK _ _ (ih _ _ _ _ _ _ h E1 B w1 _ (hI.to h2 hr) ((ht.le h2.le).put (a := undefV) ⟨[], rfl, rfl⟩) (by rw [put_defers]; exact hd) h3 Q (fun e A' w' p => hQ _ _ _ (Post.back h2 p)))
        · rename_i f args m1 ho
          obtain ⟨rfl, us, h1, h2⟩ := evG_ok hT hI hr ht ho
          obtain ⟨⟨fn, c, g1, g2, g3⟩, a, m2, h3, h4⟩ := callA_ok hT ih h hI hr h2
          unfold Oper.wp
          rw [h1 fn c g1 g2 g3]
          refine Calls.mono h4 ?_
          rintro e w1 ⟨E1, v, rfl, k1, k2, k3⟩
          exact hK _ _ (ih _ _ _ _ _ _ h3 E1 B w1 _ (hI.to k1 hr) ((ht.le k1.le).put k3) (by rw [put_defers]; exact hd) k2 Q (fun e A' w' p => hQ _ _ _ (Post.back k1 p)))
        · simp at h
      · rename_i hw
        rw [if_neg (by rw [wantedA_ok ht hw]; simp)]
        exact hK _ _ (ih _ _ _ _ _ _ h E B w _ hI (ht.put (a := undefV) ⟨[], rfl, rfl⟩) (by rw [put_defers]; exact hd) hr Q hQ)
      · simp at h
end Go.Proofs.YtibdikihgdkfnaaGreatDoor.Ev
end
section
/- A reckoner, twenty-second part: what is told of functions that touch nothing. -/
namespace Go.Proofs.YtibdikihgdkfnaaGreatDoor.Ev
open Go.RowKit
set_option linter.unusedVariables false
set_option linter.unusedSimpArgs false
section
variable {E : Env} {B : Nat} {m : Mem} {w w' : World}
/-- A call that leaves what was there. -/
theorem quiet (hr : Rel E B m w) (hb : Below w.heap.size w w') : To E m w E m w' ∧ Rel E B m w' :=
  ⟨⟨Env.Le.refl E, hb.os, hb.tape, hb.output, hb.size, fun _ _ h => h, fun k hk _ => hb.block k hk, Nat.le_refl _, ⟨[], rfl, fun b _ _ => ⟨rfl, fun x k co hx hk => by
      obtain ⟨cb, co', e1, _, e3⟩ := hr.blk b x hx
      rw [hk] at e1
      simp only [Option.some.injEq, Prod.mk.injEq] at e1
      exact hb.block k (e1.1 ▸ e3.lt)⟩⟩⟩,
   ⟨fun b x hx => by
      obtain ⟨cb, co, h1, h2, h3⟩ := hr.blk b x hx
      exact ⟨cb, co, h1, h2, h3.le (Env.Le.refl E) (hb.block cb h3.lt)⟩, hr.inj, hr.freshB, hr.freshC, hr.freshH, Nat.le_trans hr.base hb.size⟩⟩
/-- Letters for numbers of a kind. -/
def holeL (k : IntKind) (n : Nat) : Nat → List Ce
  | 0 => []
  | c + 1 => .hole k n :: holeL k (n + 1) c
theorem holeL_R (k : IntKind) {F : Env} : ∀ (c n : Nat) (l : List Int), l.length = c → (∀ i v, l[i]? = some v → F.hole (n + i) = some (.int k v)) → RL F (holeL k n c) (l.map (Value.int k))
  | 0, n, l, hl, _ => by
    rw [List.length_eq_zero_iff.1 hl]
    rfl
  | c + 1, n, [], hl, _ => by simp at hl
  | c + 1, n, v :: r, hl, h => by
    refine ⟨.int k v, r.map (Value.int k), rfl, ⟨v, h 0 v rfl, rfl⟩, holeL_R k c (n + 1) r (by simpa using hl) (fun i u hu => ?_)⟩
    have := h (i + 1) u (by simpa using hu)
    rw [show n + 1 + i = n + (i + 1) by omega]
    exact this
/-! bytes -/
def numC (k : IntKind) : Ce → Bool
  | .lit (.int k' _) => decide (k' = k)
  | .hole k' _ => decide (k' = k)
  | _ => false
theorem numC_ok {k : IntKind} : ∀ {c : Ce} {u : Value}, numC k c = true → c.R E u → ∃ n : Int, u = .int k n := by
  intro c u h hc
  unfold numC at h
  split at h
  · rename_i k' n
    rw [decide_eq_true_eq] at h
    exact ⟨n, h ▸ hc.2⟩
  · rename_i k' i
    rw [decide_eq_true_eq] at h
    obtain ⟨n, _, h2⟩ := hc
    exact ⟨n, h ▸ h2⟩
  · cases h
theorem numCs_ok {k : IntKind} : ∀ {cs : List Ce} {us : List Value}, cs.all (numC k) = true → RL E cs us → ∃ l : List Int, us = l.map (Value.int k)
  | [], us, _, h => ⟨[], by simp only [RL] at h; subst h; rfl⟩
  | c :: cs, us, hc, ⟨u, r, e, h1, h2⟩ => by
    rw [List.all_cons, Bool.and_eq_true] at hc
    obtain ⟨n, hn⟩ := numC_ok hc.1 h1
    obtain ⟨l, hl⟩ := numCs_ok hc.2 h2
    exact ⟨n :: l, by rw [e, hn, hl]; rfl⟩
end
end Go.Proofs.YtibdikihgdkfnaaGreatDoor.Ev
end
