/- Texts of this proof, put into one: EvW. -/
import Derived.Test.YtibdikihgdkfnaaGreatDoorSB
import Derived.Test.YtibdikihgdkfnaaGreatDoorProg
section
/- A reckoner, twenty-third part: the program's tables; a word that is turned. -/
namespace Go.Proofs.YtibdikihgdkfnaaGreatDoor.Ev
open Go.RowKit
set_option linter.unusedVariables false
set_option linter.unusedSimpArgs false
noncomputable def F : FuncId → Option Func := fun f => Tryz.prog.funcs[f]?
theorem names_ok : (Tryz.prog.funcs.all fun fn => !(fn.name == "runtime.NumGoroutine")) = true := by kernel_rfl
theorem F_ok (f : FuncId) (fn : Func) (h : F f = some fn) : Tryz.prog.funcs[f]? = some fn ∧ (fn.name == "runtime.NumGoroutine") = false := by
  have h : Tryz.prog.funcs[f]? = some fn := h
  refine ⟨h, ?_⟩
  have h1 := Array.all_eq_true_iff_forall_mem.1 names_ok fn (Array.mem_of_getElem? h)
  simpa using h1
noncomputable def entersB (f : FuncId) : Bool := match Tryz.prog.funcs[f]? with
  | some fn => fn.body.isSome
  | none => false
theorem enters_of {f : FuncId} (h : entersB f = true) : EntersP Tryz.prog f := by
  unfold entersB at h
  split at h
  · rename_i fn hf
    obtain ⟨c, hc⟩ := Option.isSome_iff_exists.1 h
    exact ⟨fn, c, hf, (F_ok f fn hf).2, hc⟩
  · cases h
def shaC : List Ce := [1116352408, 1899447441, 3049323471, 3921009573, 961987163, 1508970993, 2453635748, 2870763221, 3624381080, 310598401, 607225278, 1426881987, 1925078388, 2162078206, 2614888103, 3248222580, 3835390401, 4022224774, 264347078, 604807628, 770255983, 1249150122, 1555081692, 1996064986, 2554220882, 2821834349, 2952996808, 3210313671, 3336571891, 3584528711, 113926993, 338241895, 666307205, 773529912, 1294757372, 1396182291, 1695183700, 1986661051, 2177026350, 2456956037, 2730485921, 2820302411, 3259730800, 3345764771, 3516065817, 3600352804, 4094571909, 275423344, 430227734, 506948616, 659060556, 883997877, 958139571, 1322822218, 1537002063, 1747873779, 1955562222, 2024104815, 2227730452, 2361852424, 2428436474, 2756734187, 3204031479, 3329325298].map fun n => .lit (.int .u32 n)
def shaVs : List Value := [1116352408, 1899447441, 3049323471, 3921009573, 961987163, 1508970993, 2453635748, 2870763221, 3624381080, 310598401, 607225278, 1426881987, 1925078388, 2162078206, 2614888103, 3248222580, 3835390401, 4022224774, 264347078, 604807628, 770255983, 1249150122, 1555081692, 1996064986, 2554220882, 2821834349, 2952996808, 3210313671, 3336571891, 3584528711, 113926993, 338241895, 666307205, 773529912, 1294757372, 1396182291, 1695183700, 1986661051, 2177026350, 2456956037, 2730485921, 2820302411, 3259730800, 3345764771, 3516065817, 3600352804, 4094571909, 275423344, 430227734, 506948616, 659060556, 883997877, 958139571, 1322822218, 1537002063, 1747873779, 1955562222, 2024104815, 2227730452, 2361852424, 2428436474, 2756734187, 3204031479, 3329325298].map fun n => .int .u32 n
def glT : Nat → TypeId → Option Va := fun g t => bif g == 2 then bif t == 317 then some (.one (.agg shaC)) else none else none
theorem shaC_R (E : Env) : RL E shaC shaVs := by
  have h : ∀ l : List Int, RL E (l.map fun n => .lit (.int .u32 n)) (l.map fun n => .int .u32 n) := fun l => by
    induction l with
    | nil => rfl
    | cons n r ih => exact ⟨_, _, rfl, ⟨rfl, rfl⟩, ih⟩
  exact h _
theorem shaVs_len : shaVs.length = 64 := by rfl
/-- What the package's variables read as. -/
def ShaT (w : World) : Prop := w.rangeAt 2 0 shaVs
theorem u317 : (Tryz.prog.underlying 317).map (·.isRow) = some true := by kernel_rfl
theorem i317 : (Tryz.prog.info? 317).map (·.size) = some 64 := by kernel_rfl
theorem glT_ok {Gd : World → Prop} (hG : ∀ w, Gd w → ShaT w) (g : Nat) (t : TypeId) (a : Va) (h : glT g t = some a) (w : World) (hw : Gd w) :
    ∃ v, (Instr.loadAt t (.pointer (some ⟨g, 0, none⟩))).run Tryz.prog w = .ok v w ∧ ∀ E, a.R E v := by
  unfold glT at h
  simp only [cond_eq_ite, beq_iff_eq] at h
  split at h
  · rename_i hg
    split at h
    · rename_i ht
      subst hg
      subst ht
      simp only [Option.some.injEq] at h
      subst h
      obtain ⟨d, hu, hd⟩ := Option.map_eq_some_iff.1 u317
      obtain ⟨i, hi, hs⟩ := Option.map_eq_some_iff.1 i317
      refine ⟨.agg shaVs.toArray, ?_, fun E => ⟨shaVs, shaC_R E, rfl⟩⟩
      exact run_loadAt_mid (P := Tryz.prog) w 2 0 317 shaVs d (hG w hw) hu hd (by rw [hi, shaVs_len, ← hs]; rfl)
    · simp at h
  · simp at h
theorem mixed : Tryz.prog.follows .mixedOrders = true := by kernel_rfl
theorem tabs {Gd : World → Prop} (hG : ∀ w, Gd w → ShaT w) {S : FuncId → Option Sum} (hS : ∀ f g, S f = some g → SumOk Tryz.prog Gd f g ∧ entersB f = true) : Tabs Tryz.prog Gd F ⟨S, glT⟩ :=
  ⟨F_ok, fun g t a h w hw => glT_ok hG g t a h w hw, mixed, fun f g h => ⟨(hS f g h).1, enters_of (hS f g h).2⟩⟩
def lastF (a : Va) (m : Mem) : Out := some (.ret, ⟨1, [(0, a)], .nil⟩, m)
def lastA : Out → Option (Va × Mem)
  | some (_, ⟨_, [(_, a)], _⟩, m) => some (a, m)
  | _ => none
noncomputable def callF (S : FuncId → Option Sum) (f : Nat) (args : List Va) (m : Mem) : Option (Va × Mem) := lastA (callA Tryz.prog F ⟨S, glT⟩ (ev Tryz.prog F ⟨S, glT⟩ 3000) f args m lastF)
/-- What is reckoned of a call is so. -/
theorem callF_ok {Gd : World → Prop} (hG : ∀ w, Gd w → ShaT w) {S : FuncId → Option Sum} (hS : ∀ f g, S f = some g → SumOk Tryz.prog Gd f g ∧ entersB f = true) {f : Nat} {args : List Va} {m m' : Mem} {a : Va} (h : callF S f args m = some (a, m'))
    {E : Env} {B : Nat} {w : World} {us : List Value} (hI : Inv Gd B w) (hr : Rel E B m w) (ha : RLa E args us) :
    Calls Tryz.prog f us.toArray w fun e w' => ∃ F v, e = .returned v ∧ To E m w F m' w' ∧ Rel F B m' w' ∧ a.R F v := by
  have hT := tabs hG hS
  unfold callF at h
  cases hc : callA Tryz.prog F ⟨S, glT⟩ (ev Tryz.prog F ⟨S, glT⟩ 3000) f args m lastF with
  | none => rw [hc] at h; simp [lastA] at h
  | some r =>
    rw [hc] at h
    obtain ⟨_, a1, m1, h1, h2⟩ := callA_ok hT (fun task ts m x ts' m' h => ev_sound hT 3000 task ts m x ts' m' h) hc hI hr ha
    unfold lastF at h1
    simp only [Option.some.injEq] at h1
    subst h1
    simp only [lastA, Option.some.injEq, Prod.mk.injEq] at h
    obtain ⟨rfl, rfl⟩ := h
    exact h2
/-! a call without memory -/
def bare (n : Nat) : Mem := ⟨.nil, 0, 0, n, []⟩
def bareE (hs : List Value) : Env := ⟨fun _ => none, fun _ => none, fun i => hs[i]?⟩
theorem bare_rel (hs : List Value) (w : World) : Rel (bareE hs) w.heap.size (bare hs.length) w :=
  ⟨fun b x h => (by simp [bare, Mem.get, Tr.get] at h), fun b b' x x' cb co co' h => (by simp [bare, Mem.get, Tr.get] at h), fun _ _ => rfl, fun _ _ => rfl, fun i hi => List.getElem?_eq_none hi, Nat.le_refl _⟩
theorem tell_hole {E : Env} {B : Nat} {m : Mem} {w : World} {f : FuncId} {us : Array Value} {k : IntKind} (hr : Rel E B m w)
    (h : Calls Tryz.prog f us w fun e w' => ∃ q : Int, e = .returned (.int k q) ∧ Below w.heap.size w w') :
    Calls Tryz.prog f us w fun e w' => ∃ F v, e = .returned v ∧ To E m w F (m.holes 1) w' ∧ Rel F B (m.holes 1) w' ∧ (ceV (.hole k m.nhole)).R F v := by
  refine h.mono ?_
  rintro e w' ⟨q, rfl, hb⟩
  obtain ⟨t1, r1⟩ := quiet hr hb
  obtain ⟨t2, r2⟩ := holes r1 [.int k q]
  exact ⟨_, _, rfl, t1.trans t2, r2, q, withH_get m.nhole 0 [.int k q] _ rfl, rfl⟩
/-! a word turned -/
def turnNs : List Int := [2, 6, 7, 11, 13, 17, 18, 19, 22, 25]
def isHole (k : IntKind) : Option (Va × Mem) → Bool
  | some (.one (.ce c), _) => numC k c
  | _ => false
theorem turn_run : (turnNs.all fun n => isHole .u32 (callF (fun _ => none) 218 [ceV (.hole .u32 0), litV (.int .i64 n)] (bare 1))) = true := by kernel_rfl
def turnG : Sum := fun args m => match args with
  | [.one (.ce c), .one (.ce (.lit (.int .i64 n)))] => bif numC .u32 c && turnNs.contains n then some (ceV (.hole .u32 m.nhole), m.holes 1) else none
  | _ => none
theorem turn_ok {Gd : World → Prop} (hG : ∀ w, Gd w → ShaT w) : SumOk Tryz.prog Gd 218 turnG := by
  intro E B m m' w args us a hI hg hr ha
  unfold turnG at hg
  split at hg
  · rename_i c n
    simp only [cond_eq_ite] at hg
    split at hg
    · rename_i hc
      simp only [Bool.and_eq_true] at hc
      simp only [Option.some.injEq, Prod.mk.injEq] at hg
      obtain ⟨rfl, rfl⟩ := hg
      obtain ⟨u, r, rfl, h1, u2, r2, rfl, h2, h3⟩ := ha
      obtain ⟨q, rfl⟩ := numC_ok hc.1 h1
      have h3 : r2 = [] := h3
      subst h3
      have e2 : u2 = .int .i64 n := h2.2
      subst e2
      refine tell_hole hr ?_
      have hn := List.all_eq_true.1 turn_run n (by simpa using hc.2)
      cases hq : callF (fun _ => none) 218 [ceV (.hole .u32 0), litV (.int .i64 n)] (bare 1) with
      | none => rw [hq] at hn; simp [isHole] at hn
      | some p =>
        obtain ⟨b, m1⟩ := p
        rw [hq] at hn
        unfold isHole at hn
        split at hn
        · rename_i c1 m2 he
          simp only [Option.some.injEq, Prod.mk.injEq] at he
          obtain ⟨rfl, rfl⟩ := he
          have r0 := bare_rel [.int .u32 q] w
          have := callF_ok (Gd := Gd) hG (S := fun _ => none) (fun f g h => by simp at h) hq (E := bareE [.int .u32 q]) (B := w.heap.size) (w := w) (us := [.int .u32 q, .int .i64 n]) (fun w' hb => hI w' (hb.mono hr.base)) r0 ⟨_, _, rfl, ⟨q, rfl, rfl⟩, _, _, rfl, ⟨rfl, rfl⟩, rfl⟩
          refine this.mono ?_
          rintro e w' ⟨F1, v, rfl, t1, r1, h5⟩
          obtain ⟨z, rfl⟩ := numC_ok hn h5
          exact ⟨z, rfl, t1.below r0⟩
        · cases hn
    · simp at hg
  · simp at hg
end Go.Proofs.YtibdikihgdkfnaaGreatDoor.Ev
end
