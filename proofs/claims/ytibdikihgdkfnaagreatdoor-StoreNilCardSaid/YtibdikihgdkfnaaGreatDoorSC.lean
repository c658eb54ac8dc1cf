/- Texts of this proof, put into one: EvW, EvWA. -/
import Derived.Test.YtibdikihgdkfnaaGreatDoorSB
import Derived.Test.YtibdikihgdkfnaaGreatDoorProg
section
/- A reckoner, twenty-third part: the program's tables; a word that is turned. -/
namespace Go.Proofs.YtibdikihgdkfnaaGreatDoor.Ev
open Go.RowKit
set_option linter.unusedVariables false
set_option linter.unusedSimpArgs false
noncomputable def F : FuncId → Option Func := fun f => Tryz.prog.funcs[f]?
theorem names_ok : (Tryz.prog.funcs.all fun fn => !(fn.name == "runtime.NumGoroutine")) = true := by kernel_rfl
theorem F_ok (f : FuncId) (fn : Func) (h : F f = some fn) : Tryz.prog.funcs[f]? = some fn ∧ (fn.name == "runtime.NumGoroutine") = false := by
  have h : Tryz.prog.funcs[f]? = some fn := h
  refine ⟨h, ?_⟩
  have h1 := Array.all_eq_true_iff_forall_mem.1 names_ok fn (Array.mem_of_getElem? h)
  simpa using h1
noncomputable def entersB (f : FuncId) : Bool := match Tryz.prog.funcs[f]? with
  | some fn => fn.body.isSome
  | none => false
theorem enters_of {f : FuncId} (h : entersB f = true) : EntersP Tryz.prog f := by
  unfold entersB at h
  split at h
  · rename_i fn hf
    obtain ⟨c, hc⟩ := Option.isSome_iff_exists.1 h
    exact ⟨fn, c, hf, (F_ok f fn hf).2, hc⟩
  · cases h
def shaC : List Ce := [1116352408, 1899447441, 3049323471, 3921009573, 961987163, 1508970993, 2453635748, 2870763221, 3624381080, 310598401, 607225278, 1426881987, 1925078388, 2162078206, 2614888103, 3248222580, 3835390401, 4022224774, 264347078, 604807628, 770255983, 1249150122, 1555081692, 1996064986, 2554220882, 2821834349, 2952996808, 3210313671, 3336571891, 3584528711, 113926993, 338241895, 666307205, 773529912, 1294757372, 1396182291, 1695183700, 1986661051, 2177026350, 2456956037, 2730485921, 2820302411, 3259730800, 3345764771, 3516065817, 3600352804, 4094571909, 275423344, 430227734, 506948616, 659060556, 883997877, 958139571, 1322822218, 1537002063, 1747873779, 1955562222, 2024104815, 2227730452, 2361852424, 2428436474, 2756734187, 3204031479, 3329325298].map fun n => .lit (.int .u32 n)
def shaVs : List Value := [1116352408, 1899447441, 3049323471, 3921009573, 961987163, 1508970993, 2453635748, 2870763221, 3624381080, 310598401, 607225278, 1426881987, 1925078388, 2162078206, 2614888103, 3248222580, 3835390401, 4022224774, 264347078, 604807628, 770255983, 1249150122, 1555081692, 1996064986, 2554220882, 2821834349, 2952996808, 3210313671, 3336571891, 3584528711, 113926993, 338241895, 666307205, 773529912, 1294757372, 1396182291, 1695183700, 1986661051, 2177026350, 2456956037, 2730485921, 2820302411, 3259730800, 3345764771, 3516065817, 3600352804, 4094571909, 275423344, 430227734, 506948616, 659060556, 883997877, 958139571, 1322822218, 1537002063, 1747873779, 1955562222, 2024104815, 2227730452, 2361852424, 2428436474, 2756734187, 3204031479, 3329325298].map fun n => .int .u32 n
def glT : Nat → TypeId → Option Va := fun g t => bif g == 2 then bif t == 317 then some (.one (.agg shaC)) else none else none
theorem shaC_R (E : Env) : RL E shaC shaVs := by
  have h : ∀ l : List Int, RL E (l.map fun n => .lit (.int .u32 n)) (l.map fun n => .int .u32 n) := fun l => by
    induction l with
    | nil => rfl
    | cons n r ih => exact ⟨_, _, rfl, ⟨rfl, rfl⟩, ih⟩
  exact h _
theorem shaVs_len : shaVs.length = 64 := by rfl
/-- What the package's variables read as. -/
def ShaT (w : World) : Prop := w.rangeAt 2 0 shaVs
theorem u317 : (Tryz.prog.underlying 317).map (·.isRow) = some true := by kernel_rfl
theorem i317 : (Tryz.prog.info? 317).map (·.size) = some 64 := by kernel_rfl
theorem glT_ok {Gd : World → Prop} (hG : ∀ w, Gd w → ShaT w) (g : Nat) (t : TypeId) (a : Va) (h : glT g t = some a) (w : World) (hw : Gd w) :
    ∃ v, (Instr.loadAt t (.pointer (some ⟨g, 0, none⟩))).run Tryz.prog w = .ok v w ∧ ∀ E, a.R E v := by
  unfold glT at h
  simp only [cond_eq_ite, beq_iff_eq] at h
  split at h
  · rename_i hg
    split at h
    · rename_i ht
      subst hg
      subst ht
      simp only [Option.some.injEq] at h
      subst h
      obtain ⟨d, hu, hd⟩ := Option.map_eq_some_iff.1 u317
      obtain ⟨i, hi, hs⟩ := Option.map_eq_some_iff.1 i317
      refine ⟨.agg shaVs.toArray, ?_, fun E => ⟨shaVs, shaC_R E, rfl⟩⟩
      exact run_loadAt_mid (P := Tryz.prog) w 2 0 317 shaVs d (hG w hw) hu hd (by rw [hi, shaVs_len, ← hs]; rfl)
    · simp at h
  · simp at h
theorem mixed : Tryz.prog.follows .mixedOrders = true := by kernel_rfl
theorem tabs {Gd : World → Prop} (hG : ∀ w, Gd w → ShaT w) {S : FuncId → Option Sum} (hS : ∀ f g, S f = some g → SumOk Tryz.prog Gd f g ∧ entersB f = true) : Tabs Tryz.prog Gd F ⟨S, glT⟩ :=
  ⟨F_ok, fun g t a h w hw => glT_ok hG g t a h w hw, mixed, fun f g h => ⟨(hS f g h).1, enters_of (hS f g h).2⟩⟩
def lastF (a : Va) (m : Mem) : Out := some (.ret, ⟨1, [(0, a)], .nil⟩, m)
def lastA : Out → Option (Va × Mem)
  | some (_, ⟨_, [(_, a)], _⟩, m) => some (a, m)
  | _ => none
noncomputable def callF (S : FuncId → Option Sum) (f : Nat) (args : List Va) (m : Mem) : Option (Va × Mem) := lastA (callA Tryz.prog F ⟨S, glT⟩ (ev Tryz.prog F ⟨S, glT⟩ 3000) f args m lastF)
/-- What is reckoned of a call is so. -/
theorem callF_ok {Gd : World → Prop} (hG : ∀ w, Gd w → ShaT w) {S : FuncId → Option Sum} (hS : ∀ f g, S f = some g → SumOk Tryz.prog Gd f g ∧ entersB f = true) {f : Nat} {args : List Va} {m m' : Mem} {a : Va} (h : callF S f args m = some (a, m'))
    {E : Env} {B : Nat} {w : World} {us : List Value} (hI : Inv Gd B w) (hr : Rel E B m w) (ha : RLa E args us) :
    Calls Tryz.prog f us.toArray w fun e w' => ∃ F v, e = .returned v ∧ To E m w F m' w' ∧ Rel F B m' w' ∧ a.R F v := by
  have hT := tabs hG hS
  unfold callF at h
  cases hc : callA Tryz.prog F ⟨S, glT⟩ (ev Tryz.prog F ⟨S, glT⟩ 3000) f args m lastF with
  | none => rw [hc] at h; simp [lastA] at h
  | some r =>
    rw [hc] at h
    obtain ⟨_, a1, m1, h1, h2⟩ := callA_ok hT (fun task ts m x ts' m' h => ev_sound hT 3000 task ts m x ts' m' h) hc hI hr ha
    unfold lastF at h1
    simp only [Option.some.injEq] at h1
    subst h1
    simp only [lastA, Option.some.injEq, Prod.mk.injEq] at h
    obtain ⟨rfl, rfl⟩ := h
    exact h2
/-! a call without memory -/
def bare (n : Nat) : Mem := ⟨.nil, 0, 0, n, []⟩
def bareE (hs : List Value) : Env := ⟨fun _ => none, fun _ => none, fun i => hs[i]?⟩
theorem bare_rel (hs : List Value) (w : World) : Rel (bareE hs) w.heap.size (bare hs.length) w :=
  ⟨fun b x h => (by simp [bare, Mem.get, Tr.get] at h), fun b b' x x' cb co co' h => (by simp [bare, Mem.get, Tr.get] at h), fun _ _ => rfl, fun _ _ => rfl, fun i hi => List.getElem?_eq_none hi, Nat.le_refl _⟩
theorem tell_hole {E : Env} {B : Nat} {m : Mem} {w : World} {f : FuncId} {us : Array Value} {k : IntKind} (hr : Rel E B m w)
    (h : Calls Tryz.prog f us w fun e w' => ∃ q : Int, e = .returned (.int k q) ∧ Below w.heap.size w w') :
    Calls Tryz.prog f us w fun e w' => ∃ F v, e = .returned v ∧ To E m w F (m.holes 1) w' ∧ Rel F B (m.holes 1) w' ∧ (ceV (.hole k m.nhole)).R F v := by
  refine h.mono ?_
  rintro e w' ⟨q, rfl, hb⟩
  obtain ⟨t1, r1⟩ := quiet hr hb
  obtain ⟨t2, r2⟩ := holes r1 [.int k q]
  exact ⟨_, _, rfl, t1.trans t2, r2, q, withH_get m.nhole 0 [.int k q] _ rfl, rfl⟩
/-! a word turned -/
def turnNs : List Int := [2, 6, 7, 11, 13, 17, 18, 19, 22, 25]
def isHole (k : IntKind) : Option (Va × Mem) → Bool
  | some (.one (.ce c), _) => numC k c
  | _ => false
theorem turn_run : (turnNs.all fun n => isHole .u32 (callF (fun _ => none) 218 [ceV (.hole .u32 0), litV (.int .i64 n)] (bare 1))) = true := by kernel_rfl
def turnG : Sum := fun args m => match args with
  | [.one (.ce c), .one (.ce (.lit (.int .i64 n)))] => bif numC .u32 c && turnNs.contains n then some (ceV (.hole .u32 m.nhole), m.holes 1) else none
  | _ => none
theorem turn_ok {Gd : World → Prop} (hG : ∀ w, Gd w → ShaT w) : SumOk Tryz.prog Gd 218 turnG := by
  intro E B m m' w args us a hI hg hr ha
  unfold turnG at hg
  split at hg
  · rename_i c n
    simp only [cond_eq_ite] at hg
    split at hg
    · rename_i hc
      simp only [Bool.and_eq_true] at hc
      simp only [Option.some.injEq, Prod.mk.injEq] at hg
      obtain ⟨rfl, rfl⟩ := hg
      obtain ⟨u, r, rfl, h1, u2, r2, rfl, h2, h3⟩ := ha
      obtain ⟨q, rfl⟩ := numC_ok hc.1 h1
      have h3 : r2 = [] := h3
      subst h3
      have e2 : u2 = .int .i64 n := h2.2
      subst e2
      refine tell_hole hr ?_
      have hn := List.all_eq_true.1 turn_run n (by simpa using hc.2)
      cases hq : callF (fun _ => none) 218 [ceV (.hole .u32 0), litV (.int .i64 n)] (bare 1) with
      | none => rw [hq] at hn; simp [isHole] at hn
      | some p =>
        obtain ⟨b, m1⟩ := p
        rw [hq] at hn
        unfold isHole at hn
        split at hn
        · rename_i c1 m2 he
          simp only [Option.some.injEq, Prod.mk.injEq] at he
          obtain ⟨rfl, rfl⟩ := he
          have r0 := bare_rel [.int .u32 q] w
          have := callF_ok (Gd := Gd) hG (S := fun _ => none) (fun f g h => by simp at h) hq (E := bareE [.int .u32 q]) (B := w.heap.size) (w := w) (us := [.int .u32 q, .int .i64 n]) (fun w' hb => hI w' (hb.mono hr.base)) r0 ⟨_, _, rfl, ⟨q, rfl, rfl⟩, _, _, rfl, ⟨rfl, rfl⟩, rfl⟩
          refine this.mono ?_
          rintro e w' ⟨F1, v, rfl, t1, r1, h5⟩
          obtain ⟨z, rfl⟩ := numC_ok hn h5
          exact ⟨z, rfl, t1.below r0⟩
        · cases hn
    · simp at hg
  · simp at hg
end Go.Proofs.YtibdikihgdkfnaaGreatDoor.Ev
end
section
/- A reckoner: functions that read a row of bytes and yield numbers, told by a run on unknown bytes. -/
namespace Go.Proofs.YtibdikihgdkfnaaGreatDoor.Ev
open Go.RowKit
set_option linter.unusedVariables false
set_option linter.unusedSimpArgs false
def rowX (n : Nat) : Blk := ⟨holeL .u8 0 n, 5, none, 0, false⟩
def rowM (n : Nat) : Mem := ⟨.node (some (.cells (rowX n))) .nil .nil, 1, 1, n, []⟩
def aggOk (k : IntKind) (c : Nat) : Option (Va × Mem) → Bool
  | some (.one (.agg cs), m) => cs.length == c && cs.all (numC k) && m.wl.all (· != 0)
  | _ => false
/-- .. of no bytes. -/
def aggOk0 (k : IntKind) (c : Nat) : Option (Va × Mem) → Bool
  | some (.one (.agg cs), m) => cs.length == c && cs.all (numC k)
  | _ => false
def aggG (ok : Nat → Bool) (nil : Bool) (k : IntKind) (c : Nat) : Sum := fun args m => match args with
  | [.one (.ce (.slc b o len lo up))] => match m.get b, m.load b o len with
    | some (.cells y), some cs => bif ok len && y.ty == 5 && cs.all (numC .u8) && Nat.ble len lo then some (.one (.agg (holeL k m.nhole c)), m.holes c) else none
    | _, _ => none
  | [.one (.ce (.lit (.slice none 0 0)))] => bif nil then some (.one (.agg (holeL k m.nhole c)), m.holes c) else none
  | _ => none
theorem rowM_get {n i : Nat} {z : Bl} (h : (rowM n).get i = some z) : i = 0 ∧ z = .cells (rowX n) := by
  have h : (Tr.node (some (.cells (rowX n))) .nil .nil).get i = some z := h
  rw [Tr.get_node] at h
  by_cases h0 : i = 0
  · rw [if_pos h0] at h
    exact ⟨h0, (Option.some.inj h).symm⟩
  · rw [if_neg h0] at h
    split at h <;> simp [Tr.get] at h
theorem BlkR.mk' {F : Env} {x : Blk} {cb co : Nat} {w : World} {arr : Array Value} {fr : Nat × Nat} (h1 : w.heap[cb]? = some (.cells arr x.ty fr)) (h2 : x.wr = true → fr = (0, 0)) (h3 : x.room = none) (h4 : co + x.cells.length ≤ arr.size)
    {us : List Value} (h5 : RL F x.cells us) (h6 : w.rangeAt cb co us) : BlkR F x cb co w :=
  ⟨arr, 0, fr, h1, h2, by rw [h3]; rfl, by omega, fun i c hc => by
    obtain ⟨u, k1, k2⟩ := h5.get hc
    have := h6 i u k1
    simp only [World.cell?, h1, Option.isSome_none, Bool.false_eq_true, if_false] at this
    exact ⟨u, this, k2⟩⟩
theorem BlkR.all {E : Env} {x : Blk} {cb co : Nat} {w : World} (h : BlkR E x cb co w) : ∃ us, RL E x.cells us ∧ w.rangeAt cb co us := by
  obtain ⟨us, h1, h2, h3⟩ := h.load 0 x.cells.length (by omega)
  refine ⟨us, ?_, h3⟩
  have : (x.cells.drop 0).take x.cells.length = x.cells := by simp
  rw [this] at h1
  exact h1
theorem load_fits {m : Mem} {b o n : Nat} {cs : List Ce} {y : Blk} (h : m.load b o n = some cs) (hy : m.get b = some (.cells y)) : o + n ≤ y.cells.length := by
  unfold Mem.load at h
  rw [hy] at h
  simp only at h
  split at h
  · assumption
  · simp at h
theorem tell_agg {E : Env} {B : Nat} {m : Mem} {w : World} {f : FuncId} {us : Array Value} {k : IntKind} {c : Nat} (hr : Rel E B m w)
    (h : Calls Tryz.prog f us w fun e w' => ∃ q : List Int, q.length = c ∧ e = .returned (.agg (q.map (Value.int k)).toArray) ∧ Below w.heap.size w w') :
    Calls Tryz.prog f us w fun e w' => ∃ F v, e = .returned v ∧ To E m w F (m.holes c) w' ∧ Rel F B (m.holes c) w' ∧ (.one (.agg (holeL k m.nhole c)) : Va).R F v := by
  refine h.mono ?_
  rintro e w' ⟨q, hq, rfl, hb⟩
  obtain ⟨t1, r1⟩ := quiet hr hb
  obtain ⟨t2, r2⟩ := holes r1 (q.map (Value.int k))
  simp only [List.length_map, hq] at t2 r2
  exact ⟨_, _, rfl, t1.trans t2, r2, q.map (Value.int k), holeL_R k c m.nhole q hq (fun i v hv => withH_get m.nhole i _ _ (by rw [List.getElem?_map, hv]; rfl)), rfl⟩
theorem agg_ok {Gd : World → Prop} (hG : ∀ w, Gd w → ShaT w) {S : FuncId → Option Sum} (hS : ∀ f g, S f = some g → SumOk Tryz.prog Gd f g ∧ entersB f = true) {f : Nat} {ok : Nat → Bool} {nil : Bool} {k : IntKind} {c : Nat}
    (h1 : ∀ n, ok n = true → aggOk k c (callF S f [ceV (.slc 0 0 n n (some 0))] (rowM n)) = true) (h2 : nil = true → aggOk0 k c (callF S f [litV (.slice none 0 0)] (bare 0)) = true) : SumOk Tryz.prog Gd f (aggG ok nil k c) := by
  intro E B m m' w args us a hI hg hr ha
  unfold aggG at hg
  split at hg
  · rename_i b o len lo up
    split at hg
    · rename_i y cs hy hl
      simp only [cond_eq_ite] at hg
      split at hg
      · rename_i hc
        simp only [Bool.and_eq_true, beq_iff_eq] at hc
        obtain ⟨⟨⟨hok, hy5⟩, hnum⟩, hlo⟩ := hc
        have hlo := Nat.le_of_ble_eq_true hlo
        simp only [Option.some.injEq, Prod.mk.injEq] at hg
        obtain ⟨rfl, rfl⟩ := hg
        obtain ⟨u, r, rfl, ⟨cb, co, kk, hb, hk, e2⟩, h3⟩ := ha
        have h3 : r = [] := h3
        subst h3
        refine tell_agg hr ?_
        obtain ⟨cb', co', h4, h7, h8⟩ := hr.blk b _ hy
        rw [hb] at h4
        simp only [Option.some.injEq, Prod.mk.injEq] at h4
        obtain ⟨rfl, rfl⟩ := h4
        obtain ⟨us', t1, t2, t3⟩ := hr.load hl hb
        obtain ⟨bs, rfl⟩ := numCs_ok hnum t1
        simp only [List.length_map] at t2
        have hfit := load_fits hl hy
        obtain ⟨arr, k2, fr2, f1, f2, f3, f4, f5⟩ := h8
        let Es : Env := ⟨fun i => if i = 0 then some (cb, co + o) else none, fun i => if i = 0 then some (lo + kk - len) else none, fun i => (bs.map (Value.int .u8))[i]?⟩
        have hE0 : Es.blk 0 = some (cb, co + o) := rfl
        have r0 : Rel Es B (rowM len) w := by
          refine ⟨fun i z hz => ?_, fun i i' z z' q q1 q2 hz hz' he he' => ?_, fun i hi => ?_, fun i hi => ?_, fun i hi => ?_, hr.base⟩
          · obtain ⟨rfl, rfl⟩ := rowM_get hz
            refine ⟨cb, co + o, hE0, h7, BlkR.mk' (x := rowX len) (arr := arr) (fr := fr2) (by rw [f1, hy5]; rfl) (fun h => by cases h) rfl ?_ (holeL_R .u8 len 0 bs t2 (fun i v hv => ?_)) t3⟩
            · have hll : (holeL .u8 0 len).length = len := by
                have := (holeL_R (F := Es) .u8 len 0 bs t2 (fun i v hv => by
                  show (bs.map (Value.int .u8))[0 + i]? = _
                  rw [Nat.zero_add, List.getElem?_map, hv]; rfl)).length
                simp only [List.length_map] at this
                omega
              show co + o + (holeL .u8 0 len).length ≤ arr.size
              rw [hll]
              omega
            · show (bs.map (Value.int .u8))[0 + i]? = _
              rw [Nat.zero_add, List.getElem?_map, hv]; rfl
          · rw [(rowM_get hz).1, (rowM_get hz').1]
          · have hi : 1 ≤ i := hi
            show (if i = 0 then some (cb, co + o) else none) = none
            rw [if_neg (by omega)]
          · have hi : 1 ≤ i := hi
            show (if i = 0 then some (lo + kk - len) else none) = none
            rw [if_neg (by omega)]
          · have hi : len ≤ i := hi
            exact List.getElem?_eq_none (by simp; omega)
        have hrun := h1 len hok
        cases hq : callF S f [ceV (.slc 0 0 len len (some 0))] (rowM len) with
        | none => rw [hq] at hrun; simp [aggOk] at hrun
        | some p =>
          obtain ⟨a1, m1⟩ := p
          rw [hq] at hrun
          unfold aggOk at hrun
          split at hrun
          · rename_i cs1 m2 he
            simp only [Option.some.injEq, Prod.mk.injEq] at he
            obtain ⟨rfl, rfl⟩ := he
            simp only [Bool.and_eq_true, beq_iff_eq, List.all_eq_true, bne_iff_ne, ne_eq] at hrun
            obtain ⟨⟨q1, q2⟩, q3⟩ := hrun
            have q2 : cs1.all (numC k) = true := List.all_eq_true.2 q2
            have hcap : lo + kk = len + (lo + kk - len) := by omega
            have e3 : u = .slice (some ⟨cb, co + o + 0, none⟩) len (len + (lo + kk - len)) := by
              rw [e2, ← hcap, Nat.add_zero]
            refine (callF_ok hG hS hq hI r0 (us := [u]) ⟨u, _, rfl, ⟨cb, co + o, lo + kk - len, hE0, rfl, e3⟩, rfl⟩).mono ?_
            rintro e w' ⟨F1, v, rfl, T, R1, vs, hv1, rfl⟩
            obtain ⟨q, rfl⟩ := numCs_ok q2 hv1
            have hlen := hv1.length
            simp only [List.length_map] at hlen
            obtain ⟨new, n1, n2⟩ := T.keep
            have hkeep : w'.heap[cb]? = w.heap[cb]? := by
              refine (n2 0 (Nat.zero_lt_one) (fun hm => ?_)).2 (.cells (rowX len)) cb (co + o) rfl hE0
              exact q3 0 (by rw [n1]; exact List.mem_append.2 (.inl hm)) rfl
            refine ⟨q, hlen.trans q1, rfl, T.os, T.tape, T.output, T.size, fun i hi => ?_⟩
            by_cases hic : i = cb
            · rw [hic]; exact hkeep
            · refine T.frame i hi ?_
              rintro ⟨j, z, co3, hz, hb3⟩
              obtain ⟨rfl, rfl⟩ := rowM_get hz
              rw [hE0] at hb3
              simp only [Option.some.injEq, Prod.mk.injEq] at hb3
              exact hic hb3.1.symm
          · cases hrun
      · simp at hg
    · simp at hg
  · simp only [cond_eq_ite] at hg
    split at hg
    · rename_i hn
      simp only [Option.some.injEq, Prod.mk.injEq] at hg
      obtain ⟨rfl, rfl⟩ := hg
      obtain ⟨u, r, rfl, h3, h4⟩ := ha
      have h4 : r = [] := h4
      subst h4
      refine tell_agg hr ?_
      have hrun := h2 hn
      cases hq : callF S f [litV (.slice none 0 0)] (bare 0) with
      | none => rw [hq] at hrun; simp [aggOk0] at hrun
      | some p =>
        obtain ⟨a1, m1⟩ := p
        rw [hq] at hrun
        unfold aggOk0 at hrun
        split at hrun
        · rename_i cs1 m2 he
          simp only [Option.some.injEq, Prod.mk.injEq] at he
          obtain ⟨rfl, rfl⟩ := he
          simp only [Bool.and_eq_true, beq_iff_eq] at hrun
          obtain ⟨q1, q2⟩ := hrun
          have r0 := bare_rel [] w
          refine (callF_ok hG hS hq (E := bareE []) (B := w.heap.size) (w := w) (us := [u]) (fun w' hb => hI w' (hb.mono hr.base)) r0 ⟨u, _, rfl, h3, rfl⟩).mono ?_
          rintro e w' ⟨F1, v, rfl, T, R1, vs, hv1, rfl⟩
          obtain ⟨q, rfl⟩ := numCs_ok q2 hv1
          have hlen := hv1.length
          simp only [List.length_map] at hlen
          exact ⟨q, hlen.trans q1, rfl, T.below r0⟩
        · cases hrun
    · simp at hg
  · simp at hg
end Go.Proofs.YtibdikihgdkfnaaGreatDoor.Ev
end
