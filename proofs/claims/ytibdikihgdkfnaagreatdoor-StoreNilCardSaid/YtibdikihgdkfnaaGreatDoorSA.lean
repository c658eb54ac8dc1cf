/- Texts of this proof, put into one: EvA, EvB, EvC, EvD, EvE, EvF, EvG, EvH, EvI, EvJ, EvK. -/
import Derived.Deep.MidRow
import Derived.Laws.CopyRow
import Derived.Below
import Derived.KernelRfl
import Derived.Deep.AppendSrc
import Derived.Laws.MakeOwn
import Derived.Great.BuildSlice
import Derived.Test.YtibdikihgdkfnaaGreatDoorWLast
import Derived.Laws.Cover3
import Derived.Laws.Pointers
import Derived.Lib.ConvBytes
import Derived.Laws.BytesString
section
/- A reckoner: the program's code is run on values whose addresses, spare room and unknown bytes are letters; what it reckons holds for every world. First part: values, memory, what they stand for. -/
namespace Go.Proofs.YtibdikihgdkfnaaGreatDoor.Ev
set_option linter.unusedVariables false
set_option linter.unusedSimpArgs false

/-- A program of the machine that touches nothing, run. -/
def pureRun {α : Type} (P : Program) : Sem α → Option α
  | .pure a => some a
  | .program k => pureRun P (k P)
  | .mark _ k => pureRun P k
  | _ => none
theorem pureRun_sound {α : Type} {P : Program} : ∀ (s : Sem α) (a : α), pureRun P s = some a → ∀ w, s.run P w = .ok a w
  | .pure b, a, h, w => by
    simp only [pureRun, Option.some.injEq] at h
    subst h; rfl
  | .program k, a, h, w => pureRun_sound (k P) a h w
  | .mark _ k, a, h, w => pureRun_sound k a h w

/-- A value of one cell. -/
inductive Ce where
  | lit (v : Value)
  | ptr (b o : Nat)
  | slc (b o len lo : Nat) (up : Option Nat)
  | hole (k : IntKind) (i : Nat)
  | any (i : Nat)
  | mp (b : Nat)
  | clo (f b : Nat)
inductive V1 where
  | ce (c : Ce)
  | agg (cs : List Ce)
inductive Va where
  | one (v : V1)
  | tup (vs : List V1)
/-- What the letters stand for. -/
structure Env where
  blk : Nat → Option (Nat × Nat)
  cap : Nat → Option Nat
  hole : Nat → Option Value
def Env.capOf (E : Env) : Option Nat → Option Nat
  | none => some 0
  | some i => E.cap i
def Ce.R (E : Env) : Ce → Value → Prop
  | .lit v, u => v.oneCell' = true ∧ u = v
  | .ptr b o, u => ∃ cb co, E.blk b = some (cb, co) ∧ u = .pointer (some ⟨cb, co + o, none⟩)
  | .slc b o len lo up, u => ∃ cb co k, E.blk b = some (cb, co) ∧ E.capOf up = some k ∧ u = .slice (some ⟨cb, co + o, none⟩) len (lo + k)
  | .hole k i, u => ∃ n : Int, E.hole i = some (.int k n) ∧ u = .int k n
  | .any i, u => E.hole i = some u ∧ u.oneCell' = true
  | .mp b, u => ∃ cb, E.blk b = some (cb, 0) ∧ u = .map (some cb)
  | .clo f b, u => ∃ cb, E.blk b = some (cb, 0) ∧ u = .func (.func f) #[] #[.pointer (some ⟨cb, 0, none⟩)]
def RL (E : Env) : List Ce → List Value → Prop
  | [], us => us = []
  | c :: cs, us => ∃ u r, us = u :: r ∧ c.R E u ∧ RL E cs r
def V1.R (E : Env) : V1 → Value → Prop
  | .ce c, u => c.R E u
  | .agg cs, u => ∃ us, RL E cs us ∧ u = .agg us.toArray
def RL1 (E : Env) : List V1 → List Value → Prop
  | [], us => us = []
  | c :: cs, us => ∃ u r, us = u :: r ∧ c.R E u ∧ RL1 E cs r
def Va.R (E : Env) : Va → Value → Prop
  | .one v, u => v.R E u
  | .tup vs, u => ∃ us, RL1 E vs us ∧ u = .tuple us.toArray

/-- More letters are told. -/
structure Env.Le (E F : Env) : Prop where
  blk : ∀ b x, E.blk b = some x → F.blk b = some x
  cap : ∀ b x, E.cap b = some x → F.cap b = some x
  hole : ∀ b x, E.hole b = some x → F.hole b = some x
theorem Env.Le.refl (E : Env) : Env.Le E E := ⟨fun _ _ h => h, fun _ _ h => h, fun _ _ h => h⟩
theorem Env.Le.trans {E F G : Env} (h : Env.Le E F) (k : Env.Le F G) : Env.Le E G := ⟨fun b x q => k.blk b x (h.blk b x q), fun b x q => k.cap b x (h.cap b x q), fun b x q => k.hole b x (h.hole b x q)⟩
theorem Env.Le.capOf {E F : Env} (h : Env.Le E F) : ∀ {up k}, E.capOf up = some k → F.capOf up = some k
  | none, _, q => q
  | some i, _, q => h.cap i _ q
theorem Ce.R.le {E F : Env} (h : Env.Le E F) : ∀ {c : Ce} {u : Value}, c.R E u → c.R F u
  | .lit _, _, q => q
  | .ptr b o, u, ⟨cb, co, h1, h2⟩ => ⟨cb, co, h.blk _ _ h1, h2⟩
  | .slc b o len lo up, u, ⟨cb, co, k, h1, h2, h3⟩ => ⟨cb, co, k, h.blk _ _ h1, h.capOf h2, h3⟩
  | .hole k i, u, ⟨n, h1, h2⟩ => ⟨n, h.hole _ _ h1, h2⟩
  | .any i, u, ⟨h1, h2⟩ => ⟨h.hole _ _ h1, h2⟩
  | .mp b, u, ⟨cb, h1, h2⟩ => ⟨cb, h.blk _ _ h1, h2⟩
  | .clo f b, u, ⟨cb, h1, h2⟩ => ⟨cb, h.blk _ _ h1, h2⟩
theorem RL.le {E F : Env} (h : Env.Le E F) : ∀ {cs : List Ce} {us : List Value}, RL E cs us → RL F cs us
  | [], _, q => q
  | _ :: _, _, ⟨u, r, e, h1, h2⟩ => ⟨u, r, e, h1.le h, h2.le h⟩
theorem V1.R.le {E F : Env} (h : Env.Le E F) : ∀ {c : V1} {u : Value}, c.R E u → c.R F u
  | .ce _, _, q => Ce.R.le h q
  | .agg _, _, ⟨us, h1, h2⟩ => ⟨us, h1.le h, h2⟩
theorem RL1.le {E F : Env} (h : Env.Le E F) : ∀ {cs : List V1} {us : List Value}, RL1 E cs us → RL1 F cs us
  | [], _, q => q
  | _ :: _, _, ⟨u, r, e, h1, h2⟩ => ⟨u, r, e, h1.le h, h2.le h⟩
theorem Va.R.le {E F : Env} (h : Env.Le E F) : ∀ {c : Va} {u : Value}, c.R E u → c.R F u
  | .one _, _, q => V1.R.le h q
  | .tup _, _, ⟨us, h1, h2⟩ => ⟨us, h1.le h, h2⟩
theorem Ce.R.one {E : Env} : ∀ {c : Ce} {u : Value}, c.R E u → u.oneCell' = true
  | .lit _, _, ⟨h, e⟩ => e ▸ h
  | .ptr _ _, _, ⟨_, _, _, e⟩ => e ▸ rfl
  | .slc _ _ _ _ _, _, ⟨_, _, _, _, _, e⟩ => e ▸ rfl
  | .hole _ _, _, ⟨_, _, e⟩ => e ▸ rfl
  | .any _, _, ⟨_, h⟩ => h
  | .mp _, _, ⟨_, _, e⟩ => e ▸ rfl
  | .clo _ _, _, ⟨_, _, e⟩ => e ▸ rfl

/-! lists -/
theorem RL.length {E : Env} : ∀ {cs : List Ce} {us : List Value}, RL E cs us → us.length = cs.length
  | [], _, h => by simp only [RL] at h; subst h; rfl
  | _ :: cs, _, ⟨u, r, e, _, h⟩ => by subst e; simp [h.length]
theorem RL.get {E : Env} : ∀ {cs : List Ce} {us : List Value}, RL E cs us → ∀ {i : Nat} {c : Ce}, cs[i]? = some c → ∃ u, us[i]? = some u ∧ c.R E u
  | _ :: cs, _, ⟨u, r, e, h1, h⟩, 0, c, hc => by
    simp only [List.getElem?_cons_zero, Option.some.injEq] at hc
    subst e; subst hc; exact ⟨u, rfl, h1⟩
  | _ :: cs, _, ⟨u, r, e, h1, h⟩, i + 1, c, hc => by
    subst e
    simp only [List.getElem?_cons_succ] at hc ⊢
    exact h.get hc
theorem RL.of_get {E : Env} : ∀ {cs : List Ce} {us : List Value}, us.length = cs.length → (∀ (i : Nat) (c : Ce) (u : Value), cs[i]? = some c → us[i]? = some u → c.R E u) → RL E cs us
  | [], us, hl, _ => List.length_eq_zero_iff.1 hl
  | c :: cs, u :: us, hl, h => ⟨u, us, rfl, h 0 c u rfl rfl, RL.of_get (by simpa using hl) (fun i c u h1 h2 => h (i + 1) c u (by simpa using h1) (by simpa using h2))⟩
theorem RL.append {E : Env} : ∀ {cs ds : List Ce} {us vs : List Value}, RL E cs us → RL E ds vs → RL E (cs ++ ds) (us ++ vs)
  | [], _, _, _, h, k => by simp only [RL] at h; subst h; exact k
  | _ :: _, _, _, _, ⟨u, r, e, h1, h⟩, k => by subst e; exact ⟨u, _, rfl, h1, h.append k⟩
theorem RL.take {E : Env} : ∀ (n : Nat) {cs : List Ce} {us : List Value}, RL E cs us → RL E (cs.take n) (us.take n)
  | 0, _, _, _ => by simp [RL]
  | n + 1, [], _, h => by simp only [RL] at h; subst h; simp [RL]
  | n + 1, _ :: _, _, ⟨u, r, e, h1, h⟩ => by subst e; exact ⟨u, _, rfl, h1, h.take n⟩
theorem RL.drop {E : Env} : ∀ (n : Nat) {cs : List Ce} {us : List Value}, RL E cs us → RL E (cs.drop n) (us.drop n)
  | 0, _, _, h => by simpa using h
  | n + 1, [], _, h => by simp only [RL] at h; subst h; simp [RL]
  | n + 1, _ :: _, _, ⟨u, r, e, h1, h⟩ => by subst e; simpa using h.drop n
theorem RL.one {E : Env} : ∀ {cs : List Ce} {us : List Value}, RL E cs us → ∀ u ∈ us, u.oneCell' = true
  | [], _, h, u, hu => by simp only [RL] at h; subst h; cases hu
  | _ :: _, _, ⟨v, r, e, h1, h⟩, u, hu => by
    subst e
    rcases List.mem_cons.1 hu with rfl | hu
    · exact h1.one
    · exact h.one u hu
theorem RL1.get {E : Env} : ∀ {cs : List V1} {us : List Value}, RL1 E cs us → ∀ {i : Nat} {c : V1}, cs[i]? = some c → ∃ u, us[i]? = some u ∧ c.R E u
  | _ :: cs, _, ⟨u, r, e, h1, h⟩, 0, c, hc => by
    simp only [List.getElem?_cons_zero, Option.some.injEq] at hc
    subst e; subst hc; exact ⟨u, rfl, h1⟩
  | _ :: cs, _, ⟨u, r, e, h1, h⟩, i + 1, c, hc => by
    subst e
    simp only [List.getElem?_cons_succ] at hc ⊢
    exact h.get hc
theorem RL1.length {E : Env} : ∀ {cs : List V1} {us : List Value}, RL1 E cs us → us.length = cs.length
  | [], _, h => by simp only [RL1] at h; subst h; rfl
  | _ :: cs, _, ⟨u, r, e, _, h⟩ => by subst e; simp [h.length]

/-! literals -/
def ofCells : List Value → Option (List Ce)
  | [] => some []
  | v :: r => if v.oneCell' then (ofCells r).map (Ce.lit v :: ·) else none
theorem ofCells_R {E : Env} : ∀ (l : List Value) (cs : List Ce), ofCells l = some cs → RL E cs l
  | [], cs, h => by simp only [ofCells, Option.some.injEq] at h; subst h; rfl
  | v :: r, cs, h => by
    unfold ofCells at h
    split at h
    · rename_i hv
      cases hr : ofCells r with
      | none => rw [hr] at h; simp at h
      | some ds =>
        rw [hr] at h
        simp only [Option.map_some, Option.some.injEq] at h
        subst h
        exact ⟨v, r, rfl, ⟨hv, rfl⟩, ofCells_R r ds hr⟩
    · simp at h
def ofV1 : Value → Option V1
  | .agg cs => (ofCells cs.toList).map .agg
  | v => if v.oneCell' then some (.ce (.lit v)) else none
theorem ofV1_R {E : Env} (v : Value) (a : V1) (h : ofV1 v = some a) : a.R E v := by
  unfold ofV1 at h
  split at h
  · rename_i cs
    cases hr : ofCells cs.toList with
    | none => rw [hr] at h; simp at h
    | some ds =>
      rw [hr] at h
      simp only [Option.map_some, Option.some.injEq] at h
      subst h
      exact ⟨cs.toList, ofCells_R _ _ hr, by simp⟩
  · split at h
    · rename_i hv
      simp only [Option.some.injEq] at h
      subst h
      exact ⟨hv, rfl⟩
    · simp at h
def ofV1s : List Value → Option (List V1)
  | [] => some []
  | v :: r => match ofV1 v, ofV1s r with
    | some a, some b => some (a :: b)
    | _, _ => none
theorem ofV1s_R {E : Env} : ∀ (l : List Value) (cs : List V1), ofV1s l = some cs → RL1 E cs l
  | [], cs, h => by simp only [ofV1s, Option.some.injEq] at h; subst h; rfl
  | v :: r, cs, h => by
    unfold ofV1s at h
    split at h
    · rename_i a b h1 h2
      simp only [Option.some.injEq] at h
      subst h
      exact ⟨v, r, rfl, ofV1_R v a h1, ofV1s_R r b h2⟩
    · simp at h
def ofVa : Value → Option Va
  | .tuple vs => (ofV1s vs.toList).map .tup
  | v => (ofV1 v).map .one
theorem ofVa_R {E : Env} (v : Value) (a : Va) (h : ofVa v = some a) : a.R E v := by
  unfold ofVa at h
  split at h
  · rename_i vs
    cases hr : ofV1s vs.toList with
    | none => rw [hr] at h; simp at h
    | some ds =>
      rw [hr] at h
      simp only [Option.map_some, Option.some.injEq] at h
      subst h
      exact ⟨vs.toList, ofV1s_R _ _ hr, by simp⟩
  · cases hr : ofV1 v with
    | none => rw [hr] at h; simp at h
    | some d =>
      rw [hr] at h
      simp only [Option.map_some, Option.some.injEq] at h
      subst h
      exact ofV1_R v d hr
def litCs : List Ce → Option (List Value)
  | [] => some []
  | .lit v :: r => (litCs r).map (v :: ·)
  | _ :: _ => none
theorem litCs_eq {E : Env} : ∀ (cs : List Ce) (l us : List Value), litCs cs = some l → RL E cs us → us = l
  | [], l, us, h, k => by simp only [litCs, Option.some.injEq] at h; subst h; exact k
  | .lit v :: r, l, us, h, ⟨u, t, e, h1, h2⟩ => by
    unfold litCs at h
    cases hr : litCs r with
    | none => rw [hr] at h; simp at h
    | some ds =>
      rw [hr] at h
      simp only [Option.map_some, Option.some.injEq] at h
      subst h; subst e
      rw [litCs_eq r ds t hr h2, h1.2]
def litV1 : V1 → Option Value
  | .ce (.lit v) => some v
  | .agg cs => (litCs cs).map fun l => .agg l.toArray
  | _ => none
theorem litV1_eq {E : Env} {a : V1} {v u : Value} (h : litV1 a = some v) (k : a.R E u) : u = v := by
  unfold litV1 at h
  split at h
  · simp only [Option.some.injEq] at h
    subst h; exact k.2
  · rename_i cs
    cases hr : litCs cs with
    | none => rw [hr] at h; simp at h
    | some l =>
      rw [hr] at h
      simp only [Option.map_some, Option.some.injEq] at h
      subst h
      obtain ⟨us, h1, h2⟩ := k
      rw [h2, litCs_eq cs l us hr h1]
  · simp at h
def litVa : Va → Option Value
  | .one v => litV1 v
  | .tup _ => none
theorem litVa_eq {E : Env} {a : Va} {v u : Value} (h : litVa a = some v) (k : a.R E u) : u = v := by
  cases a with
  | one x => exact litV1_eq h k
  | tup _ => simp [litVa] at h

/-! memory -/
structure Blk where
  cells : List Ce
  ty : TypeId
  room : Option Nat
  sz : Nat
  wr : Bool
/-- An entry of a map. -/
structure Ent where
  key : Value
  val : Ce
  born : Nat
inductive Bl where
  | cells (x : Blk)
  | map (es : List Ent) (clock : Nat)
  | iter (b : Nat)
inductive Tr (α : Type) where
  | nil
  | node (v : Option α) (l r : Tr α)
def Tr.get {α : Type} : Tr α → Nat → Option α
  | .nil, _ => none
  | .node v l r, n => bif n == 0 then v else bif n % 2 == 1 then l.get (n / 2) else r.get (n / 2 - 1)
theorem Tr.get_node {α : Type} (v : Option α) (l r : Tr α) (n : Nat) : (Tr.node v l r).get n = if n = 0 then v else if n % 2 = 1 then l.get (n / 2) else r.get (n / 2 - 1) := by
  simp only [Tr.get, cond_eq_ite, beq_iff_eq]
/-- A tree's parts; of the empty one: none. -/
def Tr.val {α : Type} : Tr α → Option α
  | .nil => none
  | .node v _ _ => v
def Tr.left {α : Type} : Tr α → Tr α
  | .nil => .nil
  | .node _ l _ => l
def Tr.right {α : Type} : Tr α → Tr α
  | .nil => .nil
  | .node _ _ r => r
theorem Tr.get_parts {α : Type} (t : Tr α) (n : Nat) : t.get n = if n = 0 then t.val else if n % 2 = 1 then t.left.get (n / 2) else t.right.get (n / 2 - 1) := by
  cases t with
  | nil =>
    show none = _
    split
    · rfl
    · split <;> rfl
  | node v l r => exact Tr.get_node v l r n
def Tr.putL {α : Type} (v : Option α) (r : Tr α) : Option (Tr α) → Option (Tr α)
  | none => none
  | some l => some (.node v l r)
def Tr.putR {α : Type} (v : Option α) (l : Tr α) : Option (Tr α) → Option (Tr α)
  | none => none
  | some r => some (.node v l r)
def Tr.put {α : Type} (x : Option α) : Nat → Tr α → Nat → Option (Tr α)
  | 0, _, _ => none
  | k + 1, t, n => bif n == 0 then some (.node x t.left t.right) else bif n % 2 == 1 then Tr.putL t.val t.right (Tr.put x k t.left (n / 2)) else Tr.putR t.val t.left (Tr.put x k t.right (n / 2 - 1))
theorem Tr.put_get {α : Type} {x : Option α} : ∀ (k : Nat) (t : Tr α) (n : Nat) (t' : Tr α), Tr.put x k t n = some t' → ∀ m, t'.get m = if m = n then x else t.get m
  | 0, t, n, t', h, m => by simp [Tr.put] at h
  | k + 1, t, n, t', h, m => by
    unfold Tr.put at h
    simp only [cond_eq_ite, beq_iff_eq] at h
    by_cases h0 : n = 0
    · rw [if_pos h0] at h
      simp only [Option.some.injEq] at h
      subst h; subst h0
      rw [Tr.get_node, Tr.get_parts t m]
      by_cases hm : m = 0
      · simp [hm]
      · simp [hm]
    · rw [if_neg h0] at h
      by_cases h1 : n % 2 = 1
      · rw [if_pos h1] at h
        cases hp : Tr.put x k t.left (n / 2) with
        | none => rw [hp] at h; simp [Tr.putL] at h
        | some s =>
          rw [hp] at h
          simp only [Tr.putL, Option.some.injEq] at h
          subst h
          have ih := Tr.put_get k t.left (n / 2) s hp
          rw [Tr.get_node, Tr.get_parts t m]
          by_cases hm : m = 0
          · rw [if_pos hm, if_neg (by omega), if_pos hm]
          · rw [if_neg hm, if_neg hm]
            by_cases hm1 : m % 2 = 1
            · rw [if_pos hm1, if_pos hm1, ih]
              by_cases he : m = n
              · rw [if_pos he, if_pos (by omega)]
              · rw [if_neg he, if_neg (by omega)]
            · rw [if_neg hm1, if_neg hm1, if_neg (by intro he; exact hm1 (he ▸ h1))]
      · rw [if_neg h1] at h
        cases hp : Tr.put x k t.right (n / 2 - 1) with
        | none => rw [hp] at h; simp [Tr.putR] at h
        | some s =>
          rw [hp] at h
          simp only [Tr.putR, Option.some.injEq] at h
          subst h
          have ih := Tr.put_get k t.right (n / 2 - 1) s hp
          rw [Tr.get_node, Tr.get_parts t m]
          by_cases hm : m = 0
          · rw [if_pos hm, if_neg (by omega), if_pos hm]
          · rw [if_neg hm, if_neg hm]
            by_cases hm1 : m % 2 = 1
            · rw [if_pos hm1, if_pos hm1, if_neg (by intro he; exact h1 (he ▸ hm1))]
            · rw [if_neg hm1, if_neg hm1, ih]
              by_cases he : m = n
              · rw [if_pos he, if_pos (by omega)]
              · rw [if_neg he, if_neg (by omega)]
end Go.Proofs.YtibdikihgdkfnaaGreatDoor.Ev
end
section
/- A reckoner, second part: memory and the world. -/
namespace Go.Proofs.YtibdikihgdkfnaaGreatDoor.Ev
open Go.RowKit
set_option linter.unusedVariables false
set_option linter.unusedSimpArgs false

structure Mem where
  t : Tr Bl
  next : Nat
  ncap : Nat
  nhole : Nat
  wl : List Nat
def Mem.get (m : Mem) (b : Nat) : Option Bl := m.t.get b
/-- A block's cells are what is known of it. -/
def BlkR (E : Env) (x : Blk) (cb co : Nat) (w : World) : Prop :=
  ∃ cs k fr, w.heap[cb]? = some (.cells cs x.ty fr) ∧ (x.wr = true → fr = (0, 0)) ∧ E.capOf x.room = some k ∧ co + x.cells.length + k * x.sz ≤ cs.size ∧ ∀ (i : Nat) (c : Ce), x.cells[i]? = some c → ∃ u, cs[co + i]? = some u ∧ c.R E u
def RM (E : Env) : List Ent → List MapEntry → Prop
  | [], us => us = []
  | c :: cs, us => ∃ u r, us = u :: r ∧ u.key = c.key ∧ u.born = c.born ∧ c.val.R E u.val ∧ RM E cs r
theorem RM.le {E F : Env} (h : Env.Le E F) : ∀ {cs : List Ent} {us : List MapEntry}, RM E cs us → RM F cs us
  | [], _, q => q
  | _ :: _, _, ⟨u, r, e, h1, h2, h3, h4⟩ => ⟨u, r, e, h1, h2, h3.le h, h4.le h⟩
def BlR (E : Env) : Bl → Nat → Nat → World → Prop
  | .cells x, cb, co, w => BlkR E x cb co w
  | .map es clock, cb, co, w => co = 0 ∧ ∃ us, w.heap[cb]? = some (.map us clock) ∧ RM E es us.toList
  | .iter b, cb, co, w => co = 0 ∧ ∃ mb n n', E.blk b = some (mb, 0) ∧ w.heap[cb]? = some (.mapIter (some mb) n #[] n')
structure Rel (E : Env) (B : Nat) (m : Mem) (w : World) : Prop where
  blk : ∀ b x, m.get b = some x → ∃ cb co, E.blk b = some (cb, co) ∧ B ≤ cb ∧ BlR E x cb co w
  inj : ∀ b b' x x' cb co co', m.get b = some x → m.get b' = some x' → E.blk b = some (cb, co) → E.blk b' = some (cb, co') → b = b'
  freshB : ∀ b, m.next ≤ b → E.blk b = none
  freshC : ∀ i, m.ncap ≤ i → E.cap i = none
  freshH : ∀ i, m.nhole ≤ i → E.hole i = none
  base : B ≤ w.heap.size
/-- The block k of the world is one of the memory's. -/
def Img (E : Env) (m : Mem) (k : Nat) : Prop := ∃ b x co, m.get b = some x ∧ E.blk b = some (k, co)
/-- The blocks that are not told of are as they were. -/
def Kept (E : Env) (m : Mem) (w : World) (m' : Mem) (w' : World) (new : List Nat) : Prop :=
  ∀ b, b < m.next → b ∉ new → m'.get b = m.get b ∧ ∀ x k co, m.get b = some x → E.blk b = some (k, co) → w'.heap[k]? = w.heap[k]?
/-- What a piece of the run does. -/
structure To (E : Env) (m : Mem) (w : World) (F : Env) (m' : Mem) (w' : World) : Prop where
  le : Env.Le E F
  os : w'.os = w.os
  tape : w'.tape = w.tape
  output : w'.output = w.output
  size : w.heap.size ≤ w'.heap.size
  img : ∀ k, k < w.heap.size → Img F m' k → Img E m k
  frame : ∀ k, k < w.heap.size → ¬ Img E m k → w'.heap[k]? = w.heap[k]?
  next : m.next ≤ m'.next
  keep : ∃ new, m'.wl = new ++ m.wl ∧ Kept E m w m' w' new
theorem To.refl (E : Env) (m : Mem) (w : World) : To E m w E m w :=
  ⟨Env.Le.refl E, rfl, rfl, rfl, Nat.le_refl _, fun _ _ h => h, fun _ _ _ => rfl, Nat.le_refl _, ⟨[], rfl, fun _ _ _ => ⟨rfl, fun _ _ _ _ _ => rfl⟩⟩⟩
theorem To.trans {E F G : Env} {m m' m'' : Mem} {w w' w'' : World} (h : To E m w F m' w') (k : To F m' w' G m'' w'') : To E m w G m'' w'' :=
  ⟨h.le.trans k.le, k.os.trans h.os, k.tape.trans h.tape, k.output.trans h.output, Nat.le_trans h.size k.size,
   fun b hb hi => h.img b hb (k.img b (Nat.lt_of_lt_of_le hb h.size) hi),
   fun b hb hn => (k.frame b (Nat.lt_of_lt_of_le hb h.size) (fun hi => hn (h.img b hb hi))).trans (h.frame b hb hn),
   Nat.le_trans h.next k.next, by
    obtain ⟨n1, a1, b1⟩ := h.keep
    obtain ⟨n2, a2, b2⟩ := k.keep
    exact ⟨n2 ++ n1, by rw [a2, a1, List.append_assoc], fun b hb hn => by
      obtain ⟨c1, d1⟩ := b1 b hb (fun hm => hn (List.mem_append.2 (.inr hm)))
      obtain ⟨c2, d2⟩ := b2 b (Nat.lt_of_lt_of_le hb h.next) (fun hm => hn (List.mem_append.2 (.inl hm)))
      exact ⟨c2.trans c1, fun x q co hx hq => (d2 x q co (c1.trans hx) (h.le.blk _ _ hq)).trans (d1 x q co hx hq)⟩⟩⟩
theorem To.below {E F : Env} {m m' : Mem} {w w' : World} {B : Nat} (h : To E m w F m' w') (hr : Rel E B m w) : Below B w w' :=
  ⟨h.os, h.tape, h.output, h.size, fun k hk => h.frame k (Nat.lt_of_lt_of_le hk hr.base) (fun ⟨b, x, co, h1, h2⟩ => by
    obtain ⟨cb, co', h3, h4, _⟩ := hr.blk b x h1
    rw [h2] at h3
    simp only [Option.some.injEq, Prod.mk.injEq] at h3
    omega)⟩
theorem BlkR.le {E F : Env} (h : Env.Le E F) {x : Blk} {cb co : Nat} {w w' : World} (hb : BlkR E x cb co w) (hw : w'.heap[cb]? = w.heap[cb]?) : BlkR F x cb co w' := by
  obtain ⟨cs, k, fr, h1, hf, h2, h3, h4⟩ := hb
  refine ⟨cs, k, fr, hw.trans h1, hf, h.capOf h2, h3, fun i c hc => ?_⟩
  obtain ⟨u, h5, h6⟩ := h4 i c hc
  exact ⟨u, h5, h6.le h⟩
theorem BlkR.lt {E : Env} {x : Blk} {cb co : Nat} {w : World} (hb : BlkR E x cb co w) : cb < w.heap.size := by
  obtain ⟨cs, k, fr, h1, _⟩ := hb
  exact (Array.getElem?_eq_some_iff.1 h1).1
theorem BlR.le {E F : Env} (h : Env.Le E F) : ∀ {x : Bl} {cb co : Nat} {w w' : World}, BlR E x cb co w → w'.heap[cb]? = w.heap[cb]? → BlR F x cb co w'
  | .cells x, _, _, _, _, hb, hw => BlkR.le h hb hw
  | .map es clock, _, _, _, _, ⟨h0, us, h1, h2⟩, hw => ⟨h0, us, hw.trans h1, h2.le h⟩
  | .iter b, _, _, _, _, ⟨h0, mb, n, n', h1, h2⟩, hw => ⟨h0, mb, n, n', h.blk _ _ h1, hw.trans h2⟩
theorem BlR.lt {E : Env} : ∀ {x : Bl} {cb co : Nat} {w : World}, BlR E x cb co w → cb < w.heap.size
  | .cells x, _, _, _, hb => BlkR.lt hb
  | .map es clock, _, _, _, ⟨h0, us, h1, h2⟩ => (Array.getElem?_eq_some_iff.1 h1).1
  | .iter b, _, _, _, ⟨h0, mb, n, n', h1, h2⟩ => (Array.getElem?_eq_some_iff.1 h2).1
theorem Rel.next_lt {E : Env} {B : Nat} {m : Mem} {w : World} (h : Rel E B m w) {b : Nat} {x : Bl} (hb : m.get b = some x) : b < m.next := by
  obtain ⟨cb, co, h1, _⟩ := h.blk b x hb
  rcases Nat.lt_or_ge b m.next with h2 | h2
  · exact h2
  · rw [h.freshB b h2] at h1; cases h1

/-! a new block -/
def Mem.alloc (m : Mem) (x : Bl) : Option (Nat × Mem) := (Tr.put (some x) 64 m.t m.next).map fun t => (m.next, { m with t := t, next := m.next + 1 })
def Env.withB (E : Env) (n cb co : Nat) : Env := { E with blk := fun b => if b = n then some (cb, co) else E.blk b }
theorem Env.withB_le {E : Env} {n cb co : Nat} (h : E.blk n = none) : Env.Le E (E.withB n cb co) :=
  ⟨fun b x q => by
    by_cases hb : b = n
    · subst hb; rw [h] at q; cases q
    · simp only [Env.withB, if_neg hb]; exact q, fun _ _ q => q, fun _ _ q => q⟩
theorem alloc_heap (w : World) (o : Obj) (k : Nat) (hk : k < w.heap.size) : (w.alloc o).heap[k]? = w.heap[k]? := by
  show (w.heap.push o)[k]? = _
  rw [Array.getElem?_push_lt hk]
  simp [hk]
theorem alloc_new (w : World) (o : Obj) : (w.alloc o).heap[w.heap.size]? = some o := by
  show (w.heap.push o)[w.heap.size]? = some o
  simp
theorem Rel.allocO {E : Env} {B : Nat} {m m' : Mem} {w : World} {b : Nat} {x : Bl} (hr : Rel E B m w) (ha : m.alloc x = some (b, m')) (ob : Obj)
    (hx : ∀ F w', Env.Le E F → w'.heap[w.heap.size]? = some ob → BlR F x w.heap.size 0 w') :
    To E m w (E.withB b w.heap.size 0) m' (w.alloc ob) ∧ Rel (E.withB b w.heap.size 0) B m' (w.alloc ob) ∧ (E.withB b w.heap.size 0).blk b = some (w.heap.size, 0) ∧ m'.get b = some x ∧ m'.ncap = m.ncap := by
  unfold Mem.alloc at ha
  cases hp : Tr.put (some x) 64 m.t m.next with
  | none => rw [hp] at ha; simp at ha
  | some t =>
    rw [hp] at ha
    simp only [Option.map_some, Option.some.injEq, Prod.mk.injEq] at ha
    obtain ⟨rfl, rfl⟩ := ha
    have hget := Tr.put_get 64 m.t m.next t hp
    have hle : Env.Le E (E.withB m.next w.heap.size 0) := Env.withB_le (hr.freshB _ (Nat.le_refl _))
    have hnew : (E.withB m.next w.heap.size 0).blk m.next = some (w.heap.size, 0) := by simp [Env.withB]
    have hgn : ∀ c, ({ m with t := t, next := m.next + 1 } : Mem).get c = if c = m.next then some x else m.get c := fun c => hget c
    have hold : ∀ c, c ≠ m.next → (E.withB m.next w.heap.size 0).blk c = E.blk c := fun c hc => by simp [Env.withB, hc]
    have hkeep : ∀ c y, m.get c = some y → c ≠ m.next := fun c y hy he => by
      have := hr.next_lt hy; omega
    refine ⟨⟨hle, rfl, rfl, rfl, by simp, ?_, fun k hk _ => alloc_heap w _ k hk, Nat.le_succ _, ⟨[], rfl, ?_⟩⟩, ⟨?_, ?_, ?_, hr.freshC, hr.freshH, Nat.le_trans hr.base (by simp)⟩, hnew, by rw [hgn]; simp, rfl⟩
    · rintro k hk ⟨c, y, co, h1, h2⟩
      rw [hgn] at h1
      by_cases hc : c = m.next
      · subst hc
        rw [hnew] at h2
        simp only [Option.some.injEq, Prod.mk.injEq] at h2
        omega
      · rw [if_neg hc] at h1
        rw [hold c hc] at h2
        exact ⟨c, y, co, h1, h2⟩
    · intro c hc _
      refine ⟨by rw [hgn, if_neg (by omega)], fun x q co hx hq => ?_⟩
      obtain ⟨cb, co', e1, _, e3⟩ := hr.blk c x hx
      rw [hq] at e1
      simp only [Option.some.injEq, Prod.mk.injEq] at e1
      exact alloc_heap w _ q (e1.1 ▸ e3.lt)
    · intro c y hy
      rw [hgn] at hy
      by_cases hc : c = m.next
      · subst hc
        rw [if_pos rfl] at hy
        simp only [Option.some.injEq] at hy
        subst hy
        exact ⟨_, _, hnew, hr.base, hx _ _ hle (alloc_new w _)⟩
      · rw [if_neg hc] at hy
        obtain ⟨cb, co, h1, h2, h3⟩ := hr.blk c y hy
        exact ⟨cb, co, (hold c hc).trans h1, h2, h3.le hle (alloc_heap w _ cb h3.lt)⟩
    · intro c c' y y' cb co co' hy hy' h1 h2
      rw [hgn] at hy hy'
      have hlt : ∀ d z q co2, d ≠ m.next → m.get d = some z → E.blk d = some (q, co2) → q < w.heap.size := fun d z q co2 hd hz hq => by
        obtain ⟨cb2, co3, h3, _, h4⟩ := hr.blk d z hz
        rw [hq] at h3
        simp only [Option.some.injEq, Prod.mk.injEq] at h3
        rw [h3.1]; exact h4.lt
      by_cases hc : c = m.next
      · by_cases hc' : c' = m.next
        · rw [hc, hc']
        · rw [if_neg hc'] at hy'
          rw [hold c' hc'] at h2
          rw [hc, hnew] at h1
          simp only [Option.some.injEq, Prod.mk.injEq] at h1
          have := hlt c' y' cb co' hc' hy' h2
          omega
      · rw [if_neg hc] at hy
        rw [hold c hc] at h1
        by_cases hc' : c' = m.next
        · rw [hc', hnew] at h2
          simp only [Option.some.injEq, Prod.mk.injEq] at h2
          have := hlt c y cb co hc hy h1
          omega
        · rw [if_neg hc'] at hy'
          rw [hold c' hc'] at h2
          exact hr.inj c c' y y' cb co co' hy hy' h1 h2
    · intro c hc
      rw [hold c (by simp only at hc; omega)]
      exact hr.freshB c (by simp only at hc; omega)
theorem Rel.alloc {E : Env} {B : Nat} {m m' : Mem} {w : World} {b : Nat} {x : Blk} (hr : Rel E B m w) (ha : m.alloc (.cells x) = some (b, m')) (us rest : List Value) (hl : RL E x.cells us) (k : Nat) (fr : Nat × Nat) (hfr : x.wr = true → fr = (0, 0))
    (hk : E.capOf x.room = some k) (hs : k * x.sz ≤ rest.length) :
    To E m w (E.withB b w.heap.size 0) m' (w.alloc (.cells (us ++ rest).toArray x.ty fr)) ∧ Rel (E.withB b w.heap.size 0) B m' (w.alloc (.cells (us ++ rest).toArray x.ty fr)) ∧ (E.withB b w.heap.size 0).blk b = some (w.heap.size, 0) ∧ m'.get b = some (.cells x) ∧ m'.ncap = m.ncap :=
  hr.allocO ha _ (fun F w' hle hw => by
    refine ⟨(us ++ rest).toArray, k, fr, hw, hfr, hle.capOf hk, ?_, fun i c hc => ?_⟩
    · have := hl.length
      simp; omega
    · obtain ⟨u, h1, h2⟩ := hl.get hc
      refine ⟨u, ?_, h2.le hle⟩
      have hlt := (List.getElem?_eq_some_iff.1 h1).1
      rw [Nat.zero_add]
      simp only [List.getElem?_toArray]
      rw [List.getElem?_append_left hlt]
      exact h1)

/-! what is read -/
def Mem.load (m : Mem) (b o n : Nat) : Option (List Ce) :=
  match m.get b with
  | some (.cells x) => if o + n ≤ x.cells.length then some ((x.cells.drop o).take n) else none
  | _ => none
theorem BlkR.load {E : Env} {x : Blk} {cb co : Nat} {w : World} (h : BlkR E x cb co w) (o n : Nat) (hn : o + n ≤ x.cells.length) :
    ∃ us, RL E ((x.cells.drop o).take n) us ∧ us.length = n ∧ w.rangeAt cb (co + o) us := by
  obtain ⟨cs, k, fr, h1, hf, h2, h3, h4⟩ := h
  have hsz : co + o + n ≤ cs.size := by omega
  refine ⟨(cs.toList.drop (co + o)).take n, RL.of_get ?_ ?_, by simp; omega, ?_⟩
  · simp only [List.length_take, List.length_drop, Array.length_toList]; omega
  · intro i c u hc hu
    rw [List.getElem?_take] at hc hu
    by_cases hi : i < n
    · rw [if_pos hi, List.getElem?_drop] at hc hu
      obtain ⟨v, h5, h6⟩ := h4 (o + i) c hc
      rw [Array.getElem?_toList, Nat.add_assoc] at hu
      rw [h5] at hu
      simp only [Option.some.injEq] at hu
      exact hu ▸ h6
    · rw [if_neg hi] at hc; cases hc
  · intro i u hu
    rw [List.getElem?_take] at hu
    by_cases hi : i < n
    · rw [if_pos hi, List.getElem?_drop, Array.getElem?_toList] at hu
      simp only [World.cell?, h1, Option.isSome_none, Bool.false_eq_true, if_false]
      exact hu
    · rw [if_neg hi] at hu; cases hu
theorem Rel.load {E : Env} {B : Nat} {m : Mem} {w : World} (h : Rel E B m w) {b o n cb co : Nat} {cs : List Ce} (hl : m.load b o n = some cs) (hb : E.blk b = some (cb, co)) :
    ∃ us, RL E cs us ∧ us.length = n ∧ w.rangeAt cb (co + o) us := by
  unfold Mem.load at hl
  split at hl
  · rename_i x hg
    split at hl
    · rename_i hn
      simp only [Option.some.injEq] at hl
      subst hl
      obtain ⟨cb', co', h1, _, h2⟩ := h.blk b _ hg
      rw [hb] at h1
      simp only [Option.some.injEq, Prod.mk.injEq] at h1
      obtain ⟨rfl, rfl⟩ := h1
      exact BlkR.load h2 o n hn
    · simp at hl
  · simp at hl

/-! what is written -/
def Mem.setB (m : Mem) (b : Nat) (x : Bl) : Option Mem := (Tr.put (some x) 64 m.t b).map fun t => { m with t := t, wl := b :: m.wl }
def Mem.store (m : Mem) (b o : Nat) (cs : List Ce) : Option Mem :=
  match m.get b with
  | some (.cells x) => if x.wr && decide (o + cs.length ≤ x.cells.length) then m.setB b (.cells { x with cells := x.cells.take o ++ cs ++ x.cells.drop (o + cs.length) }) else none
  | _ => none
theorem setRow_at (w : World) (g : Nat) (old cs : Array Value) (t : TypeId) (fr : Nat × Nat) (hg : w.heap[g]? = some (.cells old t fr)) (k : Nat) : (w.setRow g cs).heap[k]? = if k = g then some (.cells cs t fr) else w.heap[k]? := by
  by_cases hk : k = g
  · subst hk; rw [if_pos rfl]; exact setRow_heap w k old cs t fr hg
  · rw [if_neg hk]
    simp only [World.setRow, Array.getElem?_modify]
    rw [if_neg (fun h => hk h.symm)]
theorem setRow_size (w : World) (g : Nat) (cs : Array Value) : (w.setRow g cs).heap.size = w.heap.size := by simp [World.setRow]
theorem splice_get {α : Type} (l v : List α) (o i : Nat) (h : o + v.length ≤ l.length) : (l.take o ++ v ++ l.drop (o + v.length))[i]? = if o ≤ i ∧ i < o + v.length then v[i - o]? else l[i]? := by
  by_cases h1 : i < o
  · rw [if_neg (by omega), List.append_assoc, List.getElem?_append_left (by simp; omega), List.getElem?_take, if_pos h1]
  · by_cases h2 : i < o + v.length
    · rw [if_pos ⟨by omega, h2⟩, List.append_assoc, List.getElem?_append_right (by simp; omega), List.getElem?_append_left (by simp; omega)]
      congr 1; simp; omega
    · rw [if_neg (by omega), List.getElem?_append_right (by simp; omega), List.getElem?_drop]
      congr 1; simp; omega
/-- A block is turned: the world's block with it. -/
theorem Rel.setB {E : Env} {B : Nat} {m m' : Mem} {w W : World} (hr : Rel E B m w) {b cb co : Nat} {x y : Bl} (hg : m.get b = some x) (hs : m.setB b y = some m') (hb : E.blk b = some (cb, co))
    (hheap : ∀ k, k < w.heap.size → k ≠ cb → W.heap[k]? = w.heap[k]?) (hsize : w.heap.size ≤ W.heap.size) (hos : W.os = w.os ∧ W.tape = w.tape ∧ W.output = w.output) (hy : BlR E y cb co W) :
    To E m w E m' W ∧ Rel E B m' W := by
  unfold Mem.setB at hs
  cases hp : Tr.put (some y) 64 m.t b with
  | none => rw [hp] at hs; simp at hs
  | some t =>
    rw [hp] at hs
    simp only [Option.map_some, Option.some.injEq] at hs
    subst hs
    have hget := Tr.put_get 64 m.t b t hp
    obtain ⟨cb', co', h1, h2, h3⟩ := hr.blk b x hg
    rw [hb] at h1
    simp only [Option.some.injEq, Prod.mk.injEq] at h1
    obtain ⟨rfl, rfl⟩ := h1
    refine ⟨⟨Env.Le.refl E, hos.1, hos.2.1, hos.2.2, hsize, ?_, ?_, Nat.le_refl _, ⟨[b], rfl, ?_⟩⟩, ⟨?_, ?_, hr.freshB, hr.freshC, hr.freshH, Nat.le_trans hr.base hsize⟩⟩
    · rintro q _ ⟨c, z, cq, e1, e2⟩
      have e1 : t.get c = some z := e1
      rw [hget] at e1
      by_cases hc : c = b
      · exact ⟨b, x, cq, hg, hc ▸ e2⟩
      · rw [if_neg hc] at e1; exact ⟨c, z, cq, e1, e2⟩
    · intro q hlt hq
      refine hheap q hlt ?_
      rintro rfl
      exact hq ⟨b, x, co, hg, hb⟩
    · intro c _ hc
      refine ⟨?_, fun z q cq e1 e2 => hheap q (by
        obtain ⟨cz, cy, f1, _, f3⟩ := hr.blk c z e1
        rw [e2] at f1
        simp only [Option.some.injEq, Prod.mk.injEq] at f1
        exact f1.1 ▸ f3.lt) (fun he => hc ?_)⟩
      · show t.get c = _
        rw [hget, if_neg (by simpa using hc)]; rfl
      · rw [hr.inj c b z x q cq co e1 hg e2 (he ▸ hb)]
        exact List.mem_singleton.2 rfl
    · intro c z hz
      have hz : t.get c = some z := hz
      rw [hget] at hz
      by_cases hc : c = b
      · subst hc
        rw [if_pos rfl] at hz
        simp only [Option.some.injEq] at hz
        subst hz
        exact ⟨cb, co, hb, h2, hy⟩
      · rw [if_neg hc] at hz
        obtain ⟨cb2, co2, e1, e2, e3⟩ := hr.blk c z hz
        have hne : cb2 ≠ cb := fun he => hc (hr.inj c b z x cb2 co2 co hz hg e1 (he ▸ hb))
        exact ⟨cb2, co2, e1, e2, e3.le (Env.Le.refl E) (hheap _ e3.lt hne)⟩
    · intro c c' z z' cq q1 q2 e1 e2 e3 e4
      have e1 : t.get c = some z := e1
      have e2 : t.get c' = some z' := e2
      rw [hget] at e1 e2
      have g1 : ∃ z, m.get c = some z := by
        by_cases hc : c = b
        · exact ⟨x, hc ▸ hg⟩
        · rw [if_neg hc] at e1; exact ⟨z, e1⟩
      have g2 : ∃ z, m.get c' = some z := by
        by_cases hc : c' = b
        · exact ⟨x, hc ▸ hg⟩
        · rw [if_neg hc] at e2; exact ⟨z', e2⟩
      obtain ⟨z1, g1⟩ := g1
      obtain ⟨z2, g2⟩ := g2
      exact hr.inj c c' z1 z2 cq q1 q2 g1 g2 e3 e4
theorem Rel.store {P : Program} {E : Env} {B : Nat} {m m' : Mem} {w : World} (hr : Rel E B m w) {b o cb co : Nat} {cs : List Ce} {us : List Value} (hs : m.store b o cs = some m') (hb : E.blk b = some (cb, co)) (hl : RL E cs us) :
    ∃ w', (storeCells ⟨cb, co + o, none⟩ us).run P w = .ok () w' ∧ To E m w E m' w' ∧ Rel E B m' w' := by
  unfold Mem.store at hs
  split at hs
  · rename_i x hg
    split at hs
    · rename_i hn
      rw [Bool.and_eq_true, decide_eq_true_eq] at hn
      obtain ⟨hwr, hn⟩ := hn
      obtain ⟨cb', co', h1, h2, h3⟩ := hr.blk b _ hg
      rw [hb] at h1
      simp only [Option.some.injEq, Prod.mk.injEq] at h1
      obtain ⟨rfl, rfl⟩ := h1
      obtain ⟨cur, k, fr, c1, cf, c2, c3, c4⟩ := h3
      obtain rfl := cf hwr
      have hlen := hl.length
      have hfit : co + o + 0 + us.length ≤ cur.size := by omega
      have hrun := run_storeCells_at P cb (co + o) x.ty us 0 cur w c1 hfit hl.one
      rw [Nat.add_zero] at hrun
      generalize hW : w.setRow cb (cur.toList.take (co + o) ++ us ++ cur.toList.drop (co + o + us.length)).toArray = W at hrun
      have hheap : ∀ k, W.heap[k]? = if k = cb then some (.cells (cur.toList.take (co + o) ++ us ++ cur.toList.drop (co + o + us.length)).toArray x.ty (0, 0)) else w.heap[k]? := fun k => by rw [← hW]; exact setRow_at w cb cur _ x.ty (0, 0) c1 k
      have hsize : W.heap.size = w.heap.size := by rw [← hW]; exact setRow_size w cb _
      have hos : W.os = w.os ∧ W.tape = w.tape ∧ W.output = w.output := by rw [← hW]; exact ⟨rfl, rfl, rfl⟩
      refine ⟨W, hrun, hr.setB hg hs hb (fun k _ hk => by rw [hheap, if_neg hk]) (Nat.le_of_eq hsize.symm) hos ⟨_, k, (0, 0), by rw [hheap, if_pos rfl], fun _ => rfl, c2, ?_, ?_⟩⟩
      · simp only [List.length_append, List.length_take, List.length_drop, List.size_toArray, Array.length_toList]; omega
      · intro i c hi
        dsimp only at hi
        rw [splice_get _ _ _ _ hn] at hi
        simp only [List.getElem?_toArray]
        rw [splice_get _ _ _ _ (by simp; omega)]
        by_cases h5 : o ≤ i ∧ i < o + cs.length
        · rw [if_pos h5] at hi
          rw [if_pos (by omega)]
          obtain ⟨u, h6, h7⟩ := hl.get hi
          exact ⟨u, by rw [← h6]; congr 1; omega, h7⟩
        · rw [if_neg h5] at hi
          rw [if_neg (by omega)]
          obtain ⟨u, h6, h7⟩ := c4 i c hi
          exact ⟨u, by rw [Array.getElem?_toList]; exact h6, h7⟩
    · simp at hs
  · simp at hs
end Go.Proofs.YtibdikihgdkfnaaGreatDoor.Ev
end
section
/- A reckoner, third part: what an operation does, reckoned. -/
namespace Go.Proofs.YtibdikihgdkfnaaGreatDoor.Ev
set_option linter.unusedVariables false
set_option linter.unusedSimpArgs false

abbrev undefV : Va := .tup []
/-- A frame: how many temporaries, and what was put into them, the last first. -/
structure Fr where
  n : Nat
  l : List (Nat × Va)
  t : Tr Va
def someV : Option Va → Va
  | some a => a
  | none => undefV
def findT (f : Tr Va) (t : Nat) : List (Nat × Va) → Va
  | [] => someV (f.get t)
  | p :: r => bif p.1 == t then p.2 else findT f t r
def Fr.get (f : Fr) (t : Nat) : Option Va := bif Nat.blt t f.n then some (findT f.t t f.l) else none
def Fr.put (f : Fr) : Option Tmp → Va → Fr
  | some d, a => ⟨f.n, (d, a) :: f.l, f.t⟩
  | none, _ => f
/-- What was put goes into the tree. -/
def putO (p : Nat × Va) : Option (Tr Va) → Option (Tr Va)
  | some t => Tr.put (some p.2) 64 t p.1
  | none => none
def flushL (t : Tr Va) : List (Nat × Va) → Option (Tr Va)
  | [] => some t
  | p :: r => putO p (flushL t r)
theorem flushL_find {t : Tr Va} : ∀ (l : List (Nat × Va)) (t' : Tr Va), flushL t l = some t' → ∀ i, findT t' i [] = findT t i l
  | [], t', h, i => by
    simp only [flushL, Option.some.injEq] at h
    subst h; rfl
  | p :: r, t', h, i => by
    unfold flushL at h
    cases hr : flushL t r with
    | none => rw [hr] at h; simp [putO] at h
    | some t1 =>
      rw [hr] at h
      have h1 := Tr.put_get 64 t1 p.1 t' h i
      have h2 := flushL_find r t1 hr i
      simp only [findT, cond_eq_ite, beq_iff_eq] at h2 ⊢
      rw [h1]
      by_cases hi : i = p.1
      · rw [if_pos hi, if_pos hi.symm]; rfl
      · rw [if_neg hi, if_neg (fun he => hi he.symm)]; exact h2
def evx (ts : Fr) : Operand → Option Va
  | .tmp t => ts.get t
  | .const v => ofVa v
  | .global g => some (.one (.ce (.lit (.pointer (some ⟨g, 0, none⟩)))))
  | .func f => some (.one (.ce (.lit (.func (.func f) #[] #[]))))
def evxs (ts : Fr) : List Operand → Option (List Va)
  | [] => some []
  | x :: r => match evx ts x, evxs ts r with
    | some a, some l => some (a :: l)
    | _, _ => none
inductive Res where
  | val (a : Va) (m : Mem)
  | skip (m : Mem)
  | call (f : FuncId) (args : List Va) (m : Mem)
def ceV (c : Ce) : Va := .one (.ce c)
def litV (v : Value) : Va := .one (.ce (.lit v))
def lit1 (v : Option Value) (m : Mem) : Option Res := v.bind fun v => (ofVa v).map (.val · m)
/-- A value's cells. -/
def cellsVa : Va → Option (List Ce)
  | .one (.ce c) => some [c]
  | .one (.agg cs) => some cs
  | .tup _ => none
def zeroCs (P : Program) (t : TypeId) : Option (List Ce) := (P.info? t).bind fun i => i.zero.bind fun z => ofCells z.cells.toList
def allocV (m : Mem) (cs : List Ce) (t : TypeId) : Option Res := (m.alloc (.cells ⟨cs, t, none, 0, true⟩)).map fun p => .val (ceV (.ptr p.1 0)) p.2
/-- Parts laid into cells. -/
def fillC (place : Nat → Option (Nat × Nat)) (cells : List Ce) : List (Nat × List Ce) → Option (List Ce)
  | [] => some cells
  | (i, v) :: rest => match place i with
    | none => none
    | some (off, size) => if v.length ≠ size || off + v.length > cells.length then none else fillC place (cells.take off ++ v ++ cells.drop (off + v.length)) rest
def partsC (ts : Fr) : List (Nat × Operand) → Option (List (Nat × List Ce))
  | [] => some []
  | (i, x) :: r => match (evx ts x).bind cellsVa, partsC ts r with
    | some c, some l => some ((i, c) :: l)
    | _, _ => none
def placesC (P : Program) : List Field → Option (List (Nat × Nat))
  | [] => some []
  | f :: r => match P.info? f.type, placesC P r with
    | some i, some l => some ((f.offset, i.size) :: l)
    | _, _ => none
def evBuild (P : Program) (t : TypeId) (parts : List (Nat × List Ce)) : Option (List Ce) :=
  match P.info? t, P.underlying t with
  | some it, some (.array _ e) => match it.zero, P.info? e with
    | some z, some ie => (ofCells z.cells.toList).bind fun cs => fillC (fun i => some (i * ie.size, ie.size)) cs parts
    | _, _ => none
  | some it, some (.struct fields) => match it.zero, placesC P fields.toList with
    | some z, some places => (ofCells z.cells.toList).bind fun cs => fillC (places[·]?) cs parts
    | _, _ => none
  | _, _ => none
def evBuildSlice (P : Program) (t : TypeId) (len : Nat) (parts : List (Nat × List Ce)) (m : Mem) : Option Res :=
  match P.underlying t with
  | some (.slice e) => match P.info? e with
    | some ie => match ie.zero with
      | some z => if len * ie.size = 0 then match parts with
          | [] => (m.alloc (.cells ⟨[], e, none, 0, true⟩)).map fun p => .val (ceV (.slc p.1 0 len len none)) p.2
          | _ :: _ => none
        else if len * ie.size > 2 ^ 24 then none else
        (ofCells (madeCells z.cells (len * ie.size)).toList).bind fun cs => (fillC (fun i => some (i * ie.size, ie.size)) cs parts).bind fun cs =>
        (m.alloc (.cells ⟨cs, e, none, 0, true⟩)).map fun p => .val (ceV (.slc p.1 0 len len none)) p.2
      | none => none
    | none => none
  | _ => none
def evLoad (P : Program) (t : TypeId) (a : Va) (m : Mem) : Option Res :=
  match a with
  | .one (.ce (.ptr b o)) => match P.underlying t, P.info? t with
    | some d, some i => if d.isRow then (m.load b o i.size).map fun cs => .val (.one (.agg cs)) m else match m.load b o 1 with
      | some [c] => some (.val (ceV c) m)
      | _ => none
    | _, _ => none
  | _ => none
def evStore (P : Program) (t : TypeId) (a v : Va) (m : Mem) : Option Res :=
  match a, cellsVa v, P.info? t with
  | .one (.ce (.ptr b o)), some cs, some i => if cs.length = i.size then (m.store b o cs).map .skip else none
  | _, _, _ => none
def isNil : Va → Bool
  | .one (.ce (.lit (.pointer none))) => true
  | .one (.ce (.lit (.slice none 0 0))) => true
  | _ => false
def isPtrT (P : Program) (t : TypeId) : Bool := match P.underlying t with
  | some (.pointer _) => true
  | _ => false
def isSlcT (P : Program) (t : TypeId) : Bool := match P.underlying t with
  | some (.slice _) => true
  | _ => false
def evNil (P : Program) (op : BinOp) (t : TypeId) (a b : Va) (m : Mem) : Option Res :=
  match op, a, b with
  | .eql, .one (.ce (.ptr _ _)), .one (.ce (.lit (.pointer none))) => if isPtrT P t = true then some (.val (litV (.bool false)) m) else none
  | .neq, .one (.ce (.ptr _ _)), .one (.ce (.lit (.pointer none))) => if isPtrT P t = true then some (.val (litV (.bool true)) m) else none
  | .eql, .one (.ce (.slc _ _ _ _ _)), .one (.ce (.lit (.slice none 0 0))) => if isSlcT P t = true then some (.val (litV (.bool false)) m) else none
  | .neq, .one (.ce (.slc _ _ _ _ _)), .one (.ce (.lit (.slice none 0 0))) => if isSlcT P t = true then some (.val (litV (.bool true)) m) else none
  | _, _, _ => none
/-- A number that is not known. -/
def newHole (m : Mem) (k : IntKind) : Res := .val (ceV (.hole k m.nhole)) { m with nhole := m.nhole + 1 }
def kindOf : Va → Option IntKind
  | .one (.ce (.lit (.int k _))) => some k
  | .one (.ce (.hole k _)) => some k
  | _ => none
def evHole (op : BinOp) (a b : Va) (m : Mem) : Option Res :=
  match op, kindOf a, kindOf b with
  | .add, some k, some k' => if k = k' then some (newHole m k) else none
  | .sub, some k, some k' => if k = k' then some (newHole m k) else none
  | .and, some k, some k' => if k = k' then some (newHole m k) else none
  | .or, some k, some k' => if k = k' then some (newHole m k) else none
  | .xor, some k, some k' => if k = k' then some (newHole m k) else none
  | .shl, some k, _ => match b with
    | .one (.ce (.lit (.int _ n))) => if 0 ≤ n then some (newHole m k) else none
    | _ => none
  | .shr, some k, _ => match b with
    | .one (.ce (.lit (.int _ n))) => if 0 ≤ n then some (newHole m k) else none
    | _ => none
  | _, _, _ => none
def evBin (P : Program) (op : BinOp) (t : TypeId) (x y : Operand) (a b : Va) (m : Mem) : Option Res :=
  match litVa a, litVa b with
  | some u, some v => lit1 (pureRun P (do eqGuard op t x y u v; binOp op t u v)) m
  | _, _ => match evNil P op t a b m with
    | some r => some r
    | none => evHole op a b m
def partV (P : Program) (t : TypeId) (cs : List Ce) (off : Nat) : Option Va :=
  match P.underlying t, P.info? t with
  | some d, some i => if d.isRow then if off + i.size ≤ cs.length then some (.one (.agg ((cs.drop off).take i.size))) else none else (cs[off]?).map ceV
  | _, _ => none
def evField (P : Program) (t : TypeId) (a : Va) (f : Nat) (m : Mem) : Option Res :=
  match a, P.underlying t with
  | .one (.agg cs), some (.struct fields) => match fields[f]? with
    | some fd => (partV P fd.type cs fd.offset).map (.val · m)
    | none => none
  | _, _ => none
def evIndex (P : Program) (t : TypeId) (a ix : Va) (m : Mem) : Option Res :=
  match a, ix with
  | .one (.agg cs), .one (.ce (.lit (.int k i))) => match P.underlying t with
    | some (.array len elem) => match P.info? elem with
      | some ie => if 0 ≤ i ∧ i < len then (partV P elem cs (i.toNat * ie.size)).map (.val · m) else none
      | none => none
    | _ => none
  | a, ix => match litVa a, litVa ix with
    | some u, some v => lit1 (pureRun P (Instr.index t u v)) m
    | _, _ => none
def evFieldAddr (P : Program) (s : TypeId) (a : Va) (f : Nat) (m : Mem) : Option Res :=
  match a, P.underlying s with
  | .one (.ce (.ptr b o)), some (.struct fields) => match fields[f]? with
    | some fd => match P.info? fd.type with
      | some i => if i.size = 0 then none else some (.val (ceV (.ptr b (o + fd.offset))) m)
      | none => none
    | none => none
  | _, _ => none
def evIndexAddr (P : Program) (t : TypeId) (a ix : Va) (m : Mem) : Option Res :=
  match a, ix, P.underlying t with
  | .one (.ce (.ptr b o)), .one (.ce (.lit (.int k i))), some (.array len elem) => match P.info? elem with
    | some ie => if 0 ≤ i ∧ i < len then some (.val (ceV (.ptr b (o + i.toNat * ie.size))) m) else none
    | none => none
  | .one (.ce (.slc b o len lo up)), .one (.ce (.lit (.int k i))), some (.slice elem) => match P.info? elem with
    | some ie => if 0 ≤ i ∧ i < len then some (.val (ceV (.ptr b (o + i.toNat * ie.size))) m) else none
    | none => none
  | _, _, _ => none
/-- An index that is given, or none is. -/
def bound (ts : Fr) : Option Operand → Option (Option Int)
  | none => some none
  | some x => match evx ts x with
    | some (.one (.ce (.lit (.int _ i)))) => some (some i)
    | _ => none
/-- The bounds of a cut: low, high, and the new room (none: as far as there was). -/
def boundV (ts : Fr) : Option Operand → Option (Option Value)
  | none => some none
  | some x => ((evx ts x).bind litVa).map some
def highB (len lo : Nat) : Option Int → Option Nat
  | some h => if 0 ≤ h ∧ h ≤ lo then some h.toNat else none
  | none => some len
def lowB (h : Nat) : Option Int → Option Nat
  | some l => if 0 ≤ l ∧ l ≤ h then some l.toNat else none
  | none => some 0
def cutB (len lo : Nat) (low high mx : Option Int) : Option (Nat × Nat × Option Nat) :=
  match mx, high with
  | some c, some h => if 0 ≤ c ∧ c ≤ lo ∧ 0 ≤ h ∧ h ≤ c then (lowB h.toNat low).map fun l => (l, h.toNat, some c.toNat) else none
  | some _, none => none
  | none, high => match highB len lo high with
    | some h => (lowB h low).map fun l => (l, h, none)
    | none => none
def evSlice (P : Program) (t : TypeId) (a : Va) (low high mx : Option Int) (m : Mem) : Option Res :=
  match a, P.underlying t with
  | .one (.ce (.ptr b o)), some (.array n e) => match P.info? e, cutB n n low high mx with
    | some ie, some (l, h, c) => let M := c.getD n; some (.val (ceV (.slc b (if M = l then o else o + l * ie.size) (h - l) (M - l) none)) m)
    | _, _ => none
  | .one (.ce (.slc b o len lo up)), some (.slice e) => match P.info? e, cutB len lo low high mx with
    | some ie, some (l, h, some c) => some (.val (ceV (.slc b (if c = l then o else o + l * ie.size) (h - l) (c - l) none)) m)
    | some ie, some (l, h, none) => match up with
      | none => some (.val (ceV (.slc b (if lo = l then o else o + l * ie.size) (h - l) (lo - l) none)) m)
      | some u => if l = 0 then some (.val (ceV (.slc b o h lo (some u))) m) else if l < lo then some (.val (ceV (.slc b (o + l * ie.size) (h - l) (lo - l) (some u))) m) else none
    | _, _ => none
  | _, _ => none
def evMakeSlice (P : Program) (t : TypeId) (a b : Va) (m : Mem) : Option Res :=
  match a, b, P.underlying t with
  | .one (.ce (.lit (.int _ l))), .one (.ce (.lit (.int _ c))), some (.slice e) => match P.info? e with
    | some ie => match ie.zero with
      | some z => if 0 ≤ l ∧ l ≤ c ∧ (ie.bytes : Int) * c ≤ 281474976710656 ∧ c ≤ 9223372036854775807 then
          (ofCells (madeCells z.cells (c.toNat * ie.size)).toList).bind fun cs => (m.alloc (.cells ⟨cs, e, none, 0, true⟩)).map fun p => .val (ceV (.slc p.1 0 l.toNat c.toNat none)) p.2
        else none
      | none => none
    | none => none
  | _, _, _ => none
/-- What is appended: how many, and their cells. -/
def srcC (P : Program) (size : Nat) (tx : TypeId) (x : Va) (m : Mem) : Option (Nat × List Ce) :=
  match x, P.underlying tx with
  | .one (.ce (.slc b o len _ _)), some (.slice _) => (m.load b o (len * size)).map fun cs => (len, cs)
  | .one (.ce (.lit (.slice none 0 _))), some (.slice _) => some (0, [])
  | .one (.ce (.lit (.string s))), some .string => if size = 1 then some (s.size, (byteCells s).map Ce.lit) else none
  | _, _ => none
def Mem.allocRoom (m : Mem) (cs : List Ce) (e : TypeId) (sz : Nat) : Option (Nat × Mem) := Mem.alloc { m with ncap := m.ncap + 1 } (.cells ⟨cs, e, some m.ncap, sz, true⟩)
def Mem.drop (m : Mem) (b : Nat) : Option Mem := (Tr.put none 64 m.t b).map fun t => { m with t := t, wl := b :: m.wl }
def evAppend (P : Program) (t tx : TypeId) (s x : Va) (m : Mem) : Option Res :=
  match P.underlying t with
  | some (.slice e) => match P.info? e with
    | some ie => match ie.zero, srcC P ie.size tx x m with
      | some z, some (n, news) => if z.cells.size ≠ ie.size then none else match s with
        | .one (.ce (.lit (.slice none 0 0))) => if n = 0 then some (.val (litV (.slice none 0 0)) m) else if n * ie.bytes ≤ 281474976710656 ∧ n ≤ 9223372036854775807 then
            (m.allocRoom news e ie.size).map fun p => .val (ceV (.slc p.1 0 n n (some m.ncap))) p.2 else none
        | .one (.ce (.slc b o len lo up)) =>
          if len + n ≤ lo then (m.store b (o + len * ie.size) news).map fun m' => .val (ceV (.slc b o (len + n) lo up)) m'
          else match m.load b o (len * ie.size) with
            | none => none
            | some olds => if (2 * (len + n) + 768) * ie.bytes ≤ 281474976710656 ∧ len + n ≤ 9223372036854775807 then match up with
              | none => (m.allocRoom (olds ++ news) e ie.size).map fun p => .val (ceV (.slc p.1 0 (len + n) (len + n) (some m.ncap))) p.2
              | some u => match m.get b with
                | some (.cells xb) => if lo = len ∧ o + len * ie.size = xb.cells.length ∧ xb.room = some u ∧ xb.sz = ie.size ∧ xb.wr = true ∧ xb.ty = e then
                    (m.drop b).bind fun m1 => (m1.allocRoom (olds ++ news) e ie.size).map fun p => .val (ceV (.slc p.1 0 (len + n) (len + n) (some m.ncap))) p.2
                  else none
                | _ => none
              else none
        | _ => none
      | _, _ => none
    | none => none
  | _ => none
/-- 'append(nil, make(.., k)...)'. -/
def evAppendZ (P : Program) (t tn : TypeId) (s x : Va) (m : Mem) : Option Res :=
  match P.underlying t, P.underlying tn, s, x with
  | some (.slice e), some (.int _), .one (.ce (.lit (.slice none 0 0))), .one (.ce (.lit (.int _ k))) => match P.info? e with
    | some ie => match ie.zero with
      | some z => if 0 < k ∧ 0 < ie.size ∧ k ≤ 9223372036854775807 ∧ k.toNat * ie.bytes ≤ 281474976710656 ∧ z.cells.size = ie.size then
          (ofCells (Builtin.zeroCells z.cells k.toNat).toList).bind fun cs => (m.allocRoom cs e ie.size).map fun p => .val (ceV (.slc p.1 0 k.toNat k.toNat (some m.ncap))) p.2
        else none
      | none => none
    | none => none
  | some (.slice e), some (.int _), .one (.ce (.slc b o len lo none)), .one (.ce (.lit (.int _ k))) => match P.info? e with
    | some ie => match ie.zero with
      | some z => match m.load b o (len * ie.size) with
        | none => none
        | some olds => if 0 < k ∧ 0 < ie.size ∧ lo < len + k.toNat ∧ len + k.toNat ≤ 9223372036854775807 ∧ (2 * (len + k.toNat) + 768) * ie.bytes ≤ 281474976710656 ∧ z.cells.size = ie.size then
          (ofCells (Builtin.zeroCells z.cells k.toNat).toList).bind fun cs => (m.allocRoom (olds ++ cs) e ie.size).map fun p => .val (ceV (.slc p.1 0 (len + k.toNat) (len + k.toNat) (some m.ncap))) p.2
        else none
      | none => none
    | none => none
  | _, _, _, _ => none
def evCopy (P : Program) (t tx : TypeId) (d x : Va) (m : Mem) : Option Res :=
  match P.underlying t with
  | some (.slice e) => match P.info? e with
    | some ie => match d, x with
      | .one (.ce (.slc b o dl _ _)), .one (.ce (.slc b' o' sl _ _)) => match m.load b' o' (Nat.min sl dl * ie.size) with
        | some cs => (m.store b o cs).map fun m' => .val (litV (.int .i64 (Nat.min sl dl))) m'
        | none => none
      | .one (.ce (.slc b o dl _ _)), .one (.ce (.lit (.slice none 0 _))) => some (.val (litV (.int .i64 0)) m)
      | .one (.ce (.lit (.slice none 0 _))), .one (.ce (.slc _ _ _ _ _)) => some (.val (litV (.int .i64 0)) m)
      | _, _ => none
    | none => none
  | _ => none
def litVas : List Va → Option (List Value)
  | [] => some []
  | a :: r => match litVa a, litVas r with
    | some v, some l => some (v :: l)
    | _, _ => none
def evBuiltin (P : Program) (b : Builtin) (tys : Array TypeId) (ty : TypeId) (consts : Array Bool) (args : List Va) (m : Mem) : Option Res :=
  match b, args, tys with
  | .append, [s, x], ⟨[t, tx]⟩ => match P.underlying tx with
    | some (.int _) => evAppendZ P t tx s x m
    | _ => evAppend P t tx s x m
  | .copy, [s, x], ⟨[t, tx]⟩ => evCopy P t tx s x m
  | .len, [.one (.ce (.mp b))], ⟨[t]⟩ => match P.underlying t, m.get b with
    | some (.map _ _), some (.map es _) => some (.val (litV (.int .i64 es.length)) m)
    | _, _ => none
  | .len, [.one (.ce (.slc _ _ n _ _))], ⟨[t]⟩ => if isSlcT P t = true then some (.val (litV (.int .i64 n)) m) else none
  | .cap, [.one (.ce (.slc _ _ _ lo none))], ⟨[t]⟩ => if isSlcT P t = true then some (.val (litV (.int .i64 lo)) m) else none
  | b, args, tys => match litVas args with
    | some l => match pureRun P (builtin b tys ty consts l.toArray) with
      | some (.value v) => lit1 (some v) m
      | _ => none
    | none => none
/-- The literal '[]byte(s)', and 'string(b)' of known bytes. -/
def byteLits : List Ce → Option (List Int)
  | [] => some []
  | .lit (.int .u8 n) :: r => (byteLits r).map (n :: ·)
  | _ :: _ => none
def evConvert (P : Program) (src dst : TypeId) (a : Va) (m : Mem) : Option Res :=
  match litVa a with
  | some (.string s) => match P.underlying src, P.underlying dst with
    | some .string, some (.slice e) => match P.underlying e with
      | some (.int .u8) => (Mem.alloc { m with ncap := m.ncap + 1 } (.cells ⟨(byteCells s).map Ce.lit, e, some m.ncap, 1, false⟩)).map fun p => .val (ceV (.slc p.1 0 s.size s.size (some m.ncap))) p.2
      | _ => none
    | _, _ => lit1 (pureRun P (convert src dst (.string s))) m
  | some v => lit1 (pureRun P (convert src dst v)) m
  | none => match a, P.underlying src, P.underlying dst with
    | .one (.ce (.hole _ _)), some _, some (.int k) => some (newHole m k)
    | .one (.ce (.slc b o len _ _)), some (.slice e), some .string => match P.underlying e with
      | some (.int .u8) => match (m.load b o len).bind byteLits with
        | some ns => some (.val (litV (.string (ns.foldl (fun r n => r.push (UInt8.ofNat n.toNat)) ByteArray.empty))) m)
        | none => none
      | _ => none
    | _, _, _ => none
/-! maps -/
def findE (kind : TypeDesc) (k : Value) : List Ent → Option (Option Ce)
  | [] => some none
  | e :: es => match Instr.sameNow kind k e.key with
    | some true => some (some e.val)
    | some false => findE kind k es
    | none => none
def plainKeyB : TypeDesc → Bool
  | .string => true
  | .int _ => true
  | _ => false
def evLookup (P : Program) (t : TypeId) (a ix : Va) (ok : Bool) (m : Mem) : Option Res :=
  match a, litVa ix, P.underlying t with
  | .one (.ce (.mp b)), some k, some (.map kt et) => match m.get b, P.underlying kt, (P.info? et).bind (·.zero) with
    | some (.map es _), some kind, some z => if plainKeyB kind then match findE kind k es with
        | some (some c) => some (.val (if ok then .tup [.ce c, .ce (.lit (.bool true))] else ceV c) m)
        | some none => if z.oneCell' then some (.val (if ok then .tup [.ce (.lit z), .ce (.lit (.bool false))] else litV z) m) else none
        | none => none
      else none
    | _, _, _ => none
  | _, _, _ => none
def setE (kind : TypeDesc) (k : Value) (c : Ce) (born : Nat) : List Ent → Option (List Ent × Bool)
  | [] => some ([⟨k, c, born⟩], true)
  | e :: es => match Instr.sameNow kind k e.key with
    | some true => if Instr.sameBits 10000 e.key k then some (⟨k, c, e.born⟩ :: es, false) else none
    | some false => (setE kind k c born es).map fun p => (e :: p.1, p.2)
    | none => none
def evUpdate (P : Program) (t : TypeId) (a ix v : Va) (m : Mem) : Option Res :=
  match a, litVa ix, v, P.underlying t with
  | .one (.ce (.mp b)), some k, .one (.ce c), some (.map kt _) => match m.get b, P.underlying kt with
    | some (.map es clock), some kind => if plainKeyB kind then match setE kind k c clock es with
        | some (es', new) => (m.setB b (.map es' (if new then clock + 1 else clock))).map .skip
        | none => none
      else none
    | _, _ => none
  | _, _, _, _ => none
def evRange (P : Program) (t : TypeId) (a : Va) (m : Mem) : Option Res :=
  match a, P.underlying t with
  | .one (.ce (.mp b)), some (.map _ _) => match m.get b with
    | some (.map _ _) => (m.alloc (.iter b)).map fun p => .val (ceV (.ptr p.1 0)) p.2
    | _ => none
  | _, _ => none
/-- Over a map without entries alone. -/
def evNext (a : Va) (m : Mem) : Option Res :=
  match a with
  | .one (.ce (.ptr r 0)) => match m.get r with
    | some (.iter b) => match m.get b with
      | some (.map [] _) => some (.val (.tup [.ce (.lit (.bool false))]) m)
      | _ => none
    | _ => none
  | _ => none
def evCall (P : Program) (ts : Fr) (c : Call) (ty : TypeId) (m : Mem) : Option Res :=
  match c.callee with
  | .value f => match evx ts f, evxs ts c.args.toList with
    | some (.one (.ce (.lit (.func (.func g) ⟨[]⟩ ⟨[]⟩)))), some args => some (.call g args m)
    | _, _ => none
  | .builtin b => match evxs ts c.args.toList with
    | some args => evBuiltin P b c.argTypes ty (c.args.map fun | .const _ => true | _ => false) args m
    | none => none
  | .invoke _ _ => none
def evOp (P : Program) (ts : Fr) (m : Mem) (o : Oper) : Option Res :=
  match o.op with
  | .move x => (evx ts x).map (.val · m)
  | .assign x => (evx ts x).map (.val · m)
  | .pick c a b => match evx ts c, evx ts a, evx ts b with
    | some (.one (.ce (.lit (.bool t)))), some u, some v => some (.val (if t then u else v) m)
    | _, _, _ => none
  | .alloc e => (zeroCs P e).bind fun cs => allocV m cs e
  | .box e x => ((evx ts x).bind cellsVa).bind fun cs => allocV m cs e
  | .build t parts => (partsC ts parts.toList).bind fun ps => (evBuild P t ps).map fun cs => .val (.one (.agg cs)) m
  | .buildSlice t len parts => (partsC ts parts.toList).bind fun ps => evBuildSlice P t len ps m
  | .load t x => (evx ts x).bind fun a => evLoad P t a m
  | .store t x y => match evx ts x, evx ts y with
    | some a, some v => evStore P t a v m
    | _, _ => none
  | .nilCheck x => match evx ts x with
    | some (.one (.ce (.ptr b o))) => some (.val (ceV (.ptr b o)) m)
    | some (.one (.ce (.lit (.func (.func g) f c)))) => some (.val (litV (.func (.func g) f c)) m)
    | _ => none
  | .binOp op t x y _ => match evx ts x, evx ts y with
    | some a, some b => evBin P op t x y a b m
    | _, _ => none
  | .unOp op _ x => match evx ts x with
    | some (.one (.ce (.hole k i))) => match op with
      | .xor => some (newHole m k)
      | _ => none
    | some a => match litVa a with
      | some v => lit1 (pureRun P (Op.unary op v)) m
      | none => none
    | none => none
  | .makeMap t none => (m.alloc (.map [] 0)).map fun p => .val (ceV (.mp p.1)) p.2
  | .lookup t x ix ok => match evx ts x, evx ts ix with
    | some a, some i => evLookup P t a i ok m
    | _, _ => none
  | .mapUpdate t x k v => match evx ts x, evx ts k, evx ts v with
    | some a, some i, some v => evUpdate P t a i v m
    | _, _, _ => none
  | .range t x => (evx ts x).bind fun a => evRange P t a m
  | .next it false => (evx ts it).bind fun a => evNext a m
  | .convert s d x => (evx ts x).bind fun a => evConvert P s d a m
  | .makeInterface t x => match (evx ts x).bind litVa with
    | some v => lit1 (pureRun P (Instr.makeInterface t v)) m
    | none => none
  | .makeSlice t a b => match evx ts a, evx ts b with
    | some a, some b => evMakeSlice P t a b m
    | _, _ => none
  | .slice t x lo hi mx => match evx ts x with
    | some a => match litVa a with
      | some v => match boundV ts lo, boundV ts hi, boundV ts mx with
        | some l, some h, some c => lit1 (pureRun P (Instr.sliceAt t v l h c)) m
        | _, _, _ => none
      | none => match bound ts lo, bound ts hi, bound ts mx with
        | some l, some h, some c => evSlice P t a l h c m
        | _, _, _ => none
    | none => none
  | .fieldAddr s x f => (evx ts x).bind fun a => evFieldAddr P s a f m
  | .field t x f => (evx ts x).bind fun a => evField P t a f m
  | .indexAddr t x ix => match evx ts x, evx ts ix with
    | some a, some i => evIndexAddr P t a i m
    | _, _ => none
  | .index t x ix => match evx ts x, evx ts ix with
    | some a, some i => evIndex P t a i m
    | _, _ => none
  | .extract x i => match evx ts x with
    | some (.tup vs) => (vs[i]?).map fun v => .val (.one v) m
    | _ => none
  | .call c => evCall P ts c o.type m
  | _ => none
end Go.Proofs.YtibdikihgdkfnaaGreatDoor.Ev
end
section
/- A reckoner, fourth part: code, run by fuel. -/
namespace Go.Proofs.YtibdikihgdkfnaaGreatDoor.Ev
set_option linter.unusedVariables false
set_option linter.unusedSimpArgs false

inductive Ex where
  | normal
  | exit (id : Nat)
  | ret
inductive Task where
  | code (c : Code)
  | ops (all : Array Oper) (l : List Oper)
def wantedA (all : Array Oper) (ts : Fr) (o : Oper) : Option Bool :=
  match o.guard with
  | none => some true
  | some (j, want) => match (all[j]?).bind (·.dst) with
    | some d => match ts.get d with
      | some (.one (.ce (.lit (.bool b)))) => some (b == want)
      | some (.tup []) => some false
      | _ => none
    | none => some false
def resultsA (P : Program) (rs : List ResultVar) (ts : Fr) (m : Mem) : Option (List V1) :=
  match rs with
  | [] => some []
  | .tmp t :: r => match ts.get t, resultsA P r ts m with
    | some (.one v), some l => some (v :: l)
    | _, _ => none
  | .cell a t :: r => match (ts.get a).bind fun a => evLoad P t a m, resultsA P r ts m with
    | some (.val (.one v) _), some l => some (v :: l)
    | _, _ => none
def oneOf : List V1 → Va
  | [v] => .one v
  | vs => .tup vs
/-- A quiet operation. -/
def evPure (P : Program) (ts : Fr) (o : Oper) : Option Va :=
  match o.op with
  | .move x => evx ts x
  | .assign x => evx ts x
  | .nilCheck x => match evx ts x with
    | some (.one (.ce (.ptr b o))) => some (ceV (.ptr b o))
    | _ => none
  | .fieldAddr s x f => match evx ts x, P.underlying s with
    | some (.one (.ce (.ptr b o))), some (.struct fields) => match fields[f]? with
      | some fd => match P.info? fd.type with
        | some i => if i.size = 0 then none else some (ceV (.ptr b (o + fd.offset)))
        | none => none
      | none => none
    | _, _ => none
  | .extract x i => match evx ts x with
    | some (.tup vs) => (vs[i]?).map .one
    | _ => none
  | .build t parts => (partsC ts parts.toList).bind fun ps => (evBuild P t ps).map fun cs => .one (.agg cs)
  | .binOp op t x y _ => match (evx ts x).bind litVa, (evx ts y).bind litVa with
    | some u, some v => (pureRun P (do eqGuard op t x y u v; binOp op t u v)).bind ofVa
    | _, _ => none
  | .unOp op _ x => match (evx ts x).bind litVa with
    | some v => (pureRun P (Op.unary op v)).bind ofVa
    | none => none
  | .convert s d x => match (evx ts x).bind litVa with
    | some v => (pureRun P (convert s d v)).bind ofVa
    | none => none
  | .indexAddr t x ix => match evx ts x, evx ts ix, P.underlying t with
    | some (.one (.ce (.slc b o len lo up))), some (.one (.ce (.lit (.int k i)))), some (.slice elem) => match P.info? elem with
      | some ie => if 0 ≤ i ∧ i < len then some (ceV (.ptr b (o + i.toNat * ie.size))) else none
      | none => none
    | some (.one (.ce (.ptr b o))), some (.one (.ce (.lit (.int k i)))), some (.array len elem) => match P.info? elem with
      | some ie => if 0 ≤ i ∧ i < len then some (ceV (.ptr b (o + i.toNat * ie.size))) else none
      | none => none
    | _, _, _ => none
  | .slice t x lo hi mx => match evx ts x with
    | some a => match litVa a with
      | some v => match boundV ts lo, boundV ts hi, boundV ts mx with
        | some l, some h, some c => (pureRun P (Instr.sliceAt t v l h c)).bind ofVa
        | _, _, _ => none
      | none => match bound ts lo, bound ts hi, bound ts mx with
        | some l, some h, some c => match evSlice P t a l h c ⟨.nil, 0, 0, 0, []⟩ with
          | some (.val a' _) => some a'
          | _ => none
        | _, _, _ => none
    | none => none
  | .call ⟨.builtin .len, ⟨[x]⟩, ⟨[t]⟩⟩ => match evx ts x with
    | some (.one (.ce (.slc _ _ n _ _))) => if isSlcT P t = true then some (litV (.int .i64 n)) else none
    | some (.one (.ce (.lit (.slice none n _)))) => if isSlcT P t = true then some (litV (.int .i64 n)) else none
    | _ => none
  | _ => none
def evHoleK (op : BinOp) (a b : Va) : Option IntKind :=
  match op, kindOf a, kindOf b with
  | .add, some k, some k' => if k = k' then some k else none
  | .sub, some k, some k' => if k = k' then some k else none
  | .and, some k, some k' => if k = k' then some k else none
  | .or, some k, some k' => if k = k' then some k else none
  | .xor, some k, some k' => if k = k' then some k else none
  | .shl, some k, _ => match b with
    | .one (.ce (.lit (.int _ n))) => if 0 ≤ n then some k else none
    | _ => none
  | .shr, some k, _ => match b with
    | .one (.ce (.lit (.int _ n))) => if 0 ≤ n then some k else none
    | _ => none
  | _, _, _ => none
/-- A quiet operation whose number isn't known. -/
def evPureH (P : Program) (ts : Fr) (o : Oper) : Option IntKind :=
  match o.op with
  | .binOp op t x y _ => match evx ts x, evx ts y with
    | some a, some b => evHoleK op a b
    | _, _ => none
  | .unOp .xor t x => match evx ts x with
    | some (.one (.ce (.hole k _))) => some k
    | _ => none
  | .convert s d x => match evx ts x, P.underlying s, P.underlying d with
    | some (.one (.ce (.hole _ _))), some _, some (.int k) => some k
    | _, _, _ => none
  | _ => none
def Mem.holes (m : Mem) (n : Nat) : Mem := { m with nhole := m.nhole + n }
/-- A load of a block that was there when the region began and is not written meanwhile. -/
def okW (X : List Nat) (nb : Nat) (m : Mem) : Bool := m.wl.all fun c => Nat.ble nb c || X.contains c
def loadQ (P : Program) (X : List Nat) (nb : Nat) (ts : Fr) (m : Mem) (o : Oper) : Option Va :=
  match o.op with
  | .load t x => match evx ts x with
    | some (.one (.ce (.ptr b off))) => bif Nat.blt b nb && !X.contains b && okW X nb m then match evLoad P t (.one (.ce (.ptr b off))) m with
        | some (.val a _) => some a
        | _ => none
      else none
    | _ => none
  | _ => none
/-- A frame at its beginning. -/
def argsL : Nat → List Va → List (Nat × Va)
  | _, [] => []
  | k, a :: r => (k, a) :: argsL (k + 1) r
def frame (n : Nat) (args : List Va) : Fr := ⟨n, argsL 0 args, .nil⟩
/-- What a function does that is told, not run. -/
abbrev Sum := List Va → Mem → Option (Va × Mem)
/-- What is told: of functions, and of package variables. -/
structure Tab where
  fn : FuncId → Option Sum
  gl : Nat → TypeId → Option Va
def evG (P : Program) (T : Nat → TypeId → Option Va) (ts : Fr) (m : Mem) (o : Oper) : Option Res :=
  match o.op with
  | .load t (.global g) => (T g t).map fun a => .val a m
  | _ => evOp P ts m o
abbrev Out := Option (Ex × Fr × Mem)
def flushA (x : Ex) (n : Nat) (m : Mem) : Option (Tr Va) → Out
  | some t => some (x, ⟨n, [], t⟩, m)
  | none => none
def seqA (k : Fr → Mem → Out) : Out → Out
  | some (.normal, ts, m) => k ts m
  | r => r
def blockA (id : Nat) : Out → Out
  | some (.exit j, ts, m) => bif j == id then some (.normal, ts, m) else some (.exit j, ts, m)
  | r => r
def condA (k : Bool → Out) : Option Va → Out
  | some (.one (.ce (.lit (.bool t)))) => k t
  | _ => none
def backA (P : Program) (fn : Func) (k : Va → Mem → Out) : Out → Out
  | none => none
  | some (.exit _, _, _) => none
  | some (_, ts, m) => match resultsA P fn.results.toList ts m with
    | some l => k (oneOf l) m
    | none => none
def sumA (k : Va → Mem → Out) : Option (Va × Mem) → Out
  | some (a, m) => k a m
  | none => none
def callA (P : Program) (F : FuncId → Option Func) (G : Tab) (run : Task → Fr → Mem → Out) (f : FuncId) (args : List Va) (m : Mem) (k : Va → Mem → Out) : Out :=
  match G.fn f with
  | some g => sumA k (g args m)
  | none => match F f with
    | none => none
    | some fn => match fn.body with
      | none => none
      | some c => bif args.length.ble fn.ntmps then backA P fn k (run (.code c) (frame fn.ntmps args) m) else none
def resA (P : Program) (F : FuncId → Option Func) (G : Tab) (run : Task → Fr → Mem → Out) (k : Va → Mem → Out) : Option Res → Out
  | some (.val a m) => k a m
  | some (.skip m) => k undefV m
  | some (.call f args m) => callA P F G run f args m k
  | none => none
/-- The operations that wait for every load. -/
def dsOf (all : Array Oper) : List Nat :=
  let loads := (List.range all.size).filter fun j => match all[j]? with
    | some o => (match o.op with | .load .. => true | _ => false)
    | none => false
  (List.range all.size).filter fun d => loads.all fun j => j != d && Go.Proofs.YtibdikihgdkfnaaGreatDoorW.PrintLast.Region.reachB .any all j all.size d
def maskA (all : Array Oper) (l : Array Bool) (i : Nat) : Bool := Go.Proofs.YtibdikihgdkfnaaGreatDoorW.PrintLast.anyB .any all l (l.setIfInBounds i true) i
def maskT (all : Array Oper) (ds : List Nat) (l : Array Bool) (i : Nat) : Bool := Go.Proofs.YtibdikihgdkfnaaGreatDoorW.PrintLast.takeB .any all ds l (l.setIfInBounds i true) i
def whenQ (c : Bool) (a : Va) (m : Mem) : Option (Va × Mem) := bif c then some (a, m) else none
/-- What an operation that may be taken first yields. -/
def quietQ (P : Program) (all : Array Oper) (ds X : List Nat) (nb : Nat) (l : Array Bool) (ts : Fr) (m : Mem) (i : Nat) (o : Oper) : Option (Va × Mem) :=
  match wantedA all ts o with
  | none => none
  | some false => whenQ (maskA all l i) undefV m
  | some true => match evPure P ts o with
    | some a => whenQ (maskA all l i) a m
    | none => match loadQ P X nb ts m o with
      | some a => whenQ (maskT all ds l i) a m
      | none => match evPureH P ts o with
        | some k => whenQ (maskA all l i) (ceV (.hole k m.nhole)) (m.holes 1)
        | none => none
def stepA (P : Program) (F : FuncId → Option Func) (G : Tab) (run : Task → Fr → Mem → Out) (all : Array Oper) (c : Mem → Bool) (ts : Fr) (m : Mem) (o : Oper) (k : Fr → Mem → Out) : Out :=
  match wantedA all ts o with
  | some true => resA P F G run (fun a m' => bif c m' then k (ts.put o.dst a) m' else none) (evG P G.gl ts m o)
  | some false => bif c m then k (ts.put o.dst undefV) m else none
  | none => none
def nextA (k : Nat) (f : Nat → Out) : Out := match k with
  | 0 => none
  | k + 1 => f k
/-- A region that draws its order: what is quiet first, else the one that alone may come up. (fuel; operations left; those to be tried; those that were; whether one was taken) -/
def drA (P : Program) (F : FuncId → Option Func) (G : Tab) (run : Task → Fr → Mem → Out) (all : Array Oper) (ds X : List Nat) (nb : Nat) : Nat → Nat → List Nat → List Nat → Bool → Array Bool → Fr → Mem → Out
  | 0, _, _, _, _, _, _, _ => none
  | n + 1, k, i :: r, late, t, l, ts, m => match all[i]? with
    | none => none
    | some o => match quietQ P all ds X nb l ts m i o with
      | some (a, m) => nextA k fun k => drA P F G run all ds X nb n k r late true (l.setIfInBounds i true) (ts.put o.dst a) m
      | none => drA P F G run all ds X nb n k r (i :: late) t l ts m
  | n + 1, k, [], late, t, l, ts, m => match Region.ready .any all l with
    | [] => some (.normal, ts, m)
    | [i] => match all[i]? with
      | some o => nextA k fun k => stepA P F G run all (fun m' => ds.contains i || okW X nb m') ts m o (drA P F G run all ds X nb n k (late.reverse.filter (· != i)) [] false (l.setIfInBounds i true))
      | none => none
    | _ => bif t then drA P F G run all ds X nb n k late.reverse [] false l ts m else none
/-- What a pointer of a region comes of. -/
def rootT (all : List Oper) : Nat → Tmp → Tmp
  | 0, t => t
  | k + 1, t => match all.findSome? (fun o => if o.dst == some t then (match o.op with
      | .fieldAddr _ (.tmp x) _ => some x
      | .nilCheck (.tmp x) => some x
      | .move (.tmp x) => some x
      | .indexAddr _ (.tmp x) _ => some x
      | _ => none) else none) with
    | some x => rootT all k x
    | none => t
/-- The blocks that stores write that do not wait for every load. -/
def xOf (all : Array Oper) (ds : List Nat) (ts : Fr) : List Nat :=
  (List.range all.size).filterMap fun i => if ds.contains i then none else match ((all[i]?).map (·.op) : Option Op) with
    | some (Op.store _ (.tmp a) _) => match ts.get (rootT all.toList 8 a) with
      | some (.one (.ce (.ptr b _))) => some b
      | _ => none
    | some (Op.call ⟨.builtin .append, ⟨.tmp a :: _⟩, _⟩) => match ts.get (rootT all.toList 8 a) with
      | some (.one (.ce (.slc b _ _ _ _))) => some b
      | _ => none
    | _ => none
def backL (wl : List Nat) : Out → Out
  | some (x, ts, m) => flushA x ts.n { m with wl := m.wl ++ wl } (flushL ts.t ts.l)
  | none => none
def regionA (P : Program) (F : FuncId → Option Func) (G : Tab) (run : Task → Fr → Mem → Out) (all : Array Oper) (ts : Fr) (m : Mem) : Out :=
  backL m.wl (drA P F G run all (dsOf all) (xOf all (dsOf all) ts) m.next (2 * (all.size + 1) * (all.size + 1)) all.size (List.range all.size) [] false (Array.replicate all.size false) ts { m with wl := [] })
def codeA (P : Program) (F : FuncId → Option Func) (G : Tab) (run : Task → Fr → Mem → Out) (ts : Fr) (m : Mem) : Code → Out
  | .skip => some (.normal, ts, m)
  | .label _ => some (.normal, ts, m)
  | .region _ ops false => run (.ops ops ops.toList) ts m
  | .region _ ops true => regionA P F G run ops ts m
  | .seq a b => seqA (run (.code b)) (run (.code a) ts m)
  | .cond c a b => condA (fun t => run (.code (bif t then a else b)) ts m) (evx ts c)
  | .block id b => blockA id (run (.code b) ts m)
  | .loop b => seqA (run (.code (.loop b))) (run (.code b) ts m)
  | .exit id => some (.exit id, ts, m)
  | .ret => some (.ret, ts, m)
  | _ => none
def opsA (P : Program) (F : FuncId → Option Func) (G : Tab) (run : Task → Fr → Mem → Out) (all : Array Oper) (ts : Fr) (m : Mem) : List Oper → Out
  | [] => flushA .normal ts.n m (flushL ts.t ts.l)
  | o :: r => match wantedA all ts o with
    | some true => resA P F G run (fun a m' => run (.ops all r) (ts.put o.dst a) m') (evG P G.gl ts m o)
    | some false => run (.ops all r) (ts.put o.dst undefV) m
    | none => none
def ev (P : Program) (F : FuncId → Option Func) (G : Tab) : Nat → Task → Fr → Mem → Out
  | 0, _, _, _ => none
  | n + 1, .code c, ts, m => codeA P F G (ev P F G n) ts m c
  | n + 1, .ops all l, ts, m => opsA P F G (ev P F G n) all ts m l
end Go.Proofs.YtibdikihgdkfnaaGreatDoor.Ev
end
section
/- A reckoner, fifth part: what is reckoned of an operation is so. -/
namespace Go.Proofs.YtibdikihgdkfnaaGreatDoor.Ev
set_option linter.unusedVariables false
set_option linter.unusedSimpArgs false

structure RT (E : Env) (ts : Fr) (A : Act) : Prop where
  size : A.tmps.size = ts.n
  get : ∀ t, t < ts.n → ∃ u, A.tmps[t]? = some u ∧ (findT ts.t t ts.l).R E u
theorem RT.le {E F : Env} {ts : Fr} {A : Act} (h : RT E ts A) (hl : Env.Le E F) : RT F ts A :=
  ⟨h.size, fun t ht => by obtain ⟨u, h1, h2⟩ := h.get t ht; exact ⟨u, h1, h2.le hl⟩⟩
theorem RT.of_get {E : Env} {ts : Fr} {A : Act} (h : RT E ts A) {t : Nat} {a : Va} (ha : ts.get t = some a) : ∃ u, A.tmps[t]? = some u ∧ a.R E u := by
  unfold Fr.get at ha
  simp only [cond_eq_ite, Nat.blt_eq] at ha
  split at ha
  · rename_i ht
    simp only [Option.some.injEq] at ha
    subst ha
    exact h.get t ht
  · simp at ha
theorem RT.put {E : Env} {ts : Fr} {A : Act} (h : RT E ts A) {d : Option Tmp} {a : Va} {v : Value} (ha : a.R E v) : RT E (ts.put d a) (A.put d v) := by
  cases d with
  | none => exact h
  | some d =>
    refine ⟨by simpa [Fr.put, Act.put] using h.size, fun t ht => ?_⟩
    obtain ⟨u, h1, h2⟩ := h.get t ht
    simp only [Fr.put, Act.put, findT, cond_eq_ite, beq_iff_eq]
    have hlt : t < A.tmps.size := (Array.getElem?_eq_some_iff.1 h1).1
    by_cases hd : d = t
    · subst hd
      rw [if_pos rfl]
      exact ⟨v, by simp [hlt], ha⟩
    · rw [if_neg hd]
      exact ⟨u, by rw [Array.getElem?_setIfInBounds_ne hd]; exact h1, h2⟩
theorem RT.flush {E : Env} {ts : Fr} {A : Act} {t' : Tr Va} (h : RT E ts A) (hf : flushL ts.t ts.l = some t') : RT E ⟨ts.n, [], t'⟩ A :=
  ⟨h.size, fun t ht => by
    obtain ⟨u, h1, h2⟩ := h.get t ht
    exact ⟨u, h1, by show (findT t' t []).R E u; rw [flushL_find ts.l t' hf t]; exact h2⟩⟩
theorem evx_R {E : Env} {ts : Fr} {A : Act} (h : RT E ts A) : ∀ {x : Operand} {a : Va}, evx ts x = some a → a.R E (A.eval x)
  | .tmp t, a, hx => by
    obtain ⟨u, h1, h2⟩ := h.of_get hx
    have : A.eval (.tmp t) = u := by simp [Act.eval, Array.getD_eq_getD_getElem?, h1]
    exact this ▸ h2
  | .const v, a, hx => ofVa_R v a hx
  | .global g, a, hx => by
    simp only [evx, Option.some.injEq] at hx
    subst hx; exact ⟨rfl, rfl⟩
  | .func f, a, hx => by
    simp only [evx, Option.some.injEq] at hx
    subst hx; exact ⟨rfl, rfl⟩
def RLa (E : Env) : List Va → List Value → Prop
  | [], us => us = []
  | c :: cs, us => ∃ u r, us = u :: r ∧ c.R E u ∧ RLa E cs r
theorem evxs_R {E : Env} {ts : Fr} {A : Act} (h : RT E ts A) : ∀ {xs : List Operand} {l : List Va}, evxs ts xs = some l → RLa E l (xs.map A.eval)
  | [], l, hx => by simp only [evxs, Option.some.injEq] at hx; subst hx; rfl
  | x :: xs, l, hx => by
    unfold evxs at hx
    split at hx
    · rename_i a r h1 h2
      simp only [Option.some.injEq] at hx
      subst hx
      exact ⟨_, _, rfl, evx_R h h1, evxs_R h h2⟩
    · simp at hx
theorem RLa.length {E : Env} : ∀ {cs : List Va} {us : List Value}, RLa E cs us → us.length = cs.length
  | [], _, h => by simp only [RLa] at h; subst h; rfl
  | _ :: cs, _, ⟨u, r, e, _, h⟩ => by subst e; simp [h.length]
theorem RLa.get {E : Env} : ∀ {cs : List Va} {us : List Value}, RLa E cs us → ∀ {i : Nat} {c : Va}, cs[i]? = some c → ∃ u, us[i]? = some u ∧ c.R E u
  | _ :: cs, _, ⟨u, r, e, h1, h⟩, 0, c, hc => by
    simp only [List.getElem?_cons_zero, Option.some.injEq] at hc
    subst e; subst hc; exact ⟨u, rfl, h1⟩
  | _ :: cs, _, ⟨u, r, e, h1, h⟩, i + 1, c, hc => by
    subst e
    simp only [List.getElem?_cons_succ] at hc ⊢
    exact h.get hc
theorem RLa.le {E F : Env} (h : Env.Le E F) : ∀ {cs : List Va} {us : List Value}, RLa E cs us → RLa F cs us
  | [], _, q => q
  | _ :: _, _, ⟨u, r, e, h1, h2⟩ => ⟨u, r, e, h1.le h, h2.le h⟩
theorem litVas_eq {E : Env} : ∀ {cs : List Va} {l us : List Value}, litVas cs = some l → RLa E cs us → us = l
  | [], l, us, h, k => by simp only [litVas, Option.some.injEq] at h; subst h; exact k
  | a :: r, l, us, h, ⟨u, t, e, h1, h2⟩ => by
    unfold litVas at h
    split at h
    · rename_i v q g1 g2
      simp only [Option.some.injEq] at h
      subst h; subst e
      rw [litVa_eq g1 h1, litVas_eq g2 h2]
    · simp at h
theorem cellsVa_R {E : Env} {a : Va} {u : Value} {cs : List Ce} (h : cellsVa a = some cs) (k : a.R E u) : RL E cs u.cells.toList := by
  unfold cellsVa at h
  split at h
  · rename_i c
    simp only [Option.some.injEq] at h
    subst h
    have h1 : c.R E u := k
    have h2 := h1.one
    have : u.cells = #[u] := by
      cases u <;> first | rfl | (simp [Value.oneCell'] at h2; done)
    rw [this]
    exact ⟨u, [], rfl, h1, rfl⟩
  · rename_i ds
    simp only [Option.some.injEq] at h
    subst h
    obtain ⟨us, h1, h2⟩ := k
    subst h2
    simpa [Value.cells] using h1
  · simp at h

def OpOk (P : Program) (E : Env) (B : Nat) (m : Mem) (w : World) (A : Act) (o : Oper) : Res → Prop
  | .val a m' => ∃ F w' v, (execOp A.eval o).run P w = .ok (.value v) w' ∧ To E m w F m' w' ∧ Rel F B m' w' ∧ a.R F v
  | .skip m' => ∃ F w', (execOp A.eval o).run P w = .ok .skip w' ∧ To E m w F m' w' ∧ Rel F B m' w'
  | .call f args m' => m' = m ∧ ∃ us, (∀ fn c, P.funcs[f]? = some fn → (fn.name == "runtime.NumGoroutine") = false → fn.body = some c → (execOp A.eval o).run P w = .ok (.enter f us.toArray) w) ∧ RLa E args us
section
variable {P : Program} {E : Env} {B : Nat} {m : Mem} {w : World} {A : Act} {o : Oper} {ts : Fr}
theorem OpOk.same {a : Va} {v : Value} (hr : Rel E B m w) (h : (execOp A.eval o).run P w = .ok (.value v) w) (ha : a.R E v) : OpOk P E B m w A o (.val a m) := ⟨E, w, v, h, To.refl E m w, hr, ha⟩
/-- Reckoned by the machine itself. -/
theorem OpOk.lit {r : Res} {s : Sem Value} (hr : Rel E B m w) (h : lit1 (pureRun P s) m = some r) (he : execOp A.eval o = (do pure (.value (← s)))) : OpOk P E B m w A o r := by
  unfold lit1 at h
  cases hp : pureRun P s with
  | none => rw [hp] at h; simp at h
  | some v =>
    rw [hp] at h
    simp only [Option.bind_some] at h
    cases hv : ofVa v with
    | none => rw [hv] at h; simp at h
    | some a =>
      rw [hv] at h
      simp only [Option.map_some, Option.some.injEq] at h
      subst h
      refine OpOk.same hr ?_ (ofVa_R v a hv)
      rw [he]
      simp [pureRun_sound s v hp w]

theorem OpOk.move {x : Operand} {a : Va} (hr : Rel E B m w) (ht : RT E ts A) (ho : o.op = .move x ∨ o.op = .assign x) (h : evx ts x = some a) : OpOk P E B m w A o (.val a m) := by
  refine OpOk.same hr (v := A.eval x) ?_ (evx_R ht h)
  rcases ho with ho | ho <;> simp [execOp, ho]
/-- A new block of cells, and its address. -/
theorem OpOk.new {cs : List Ce} {e : TypeId} {r : Res} {us : List Value} (hr : Rel E B m w) (h : allocV m cs e = some r) (hl : RL E cs us)
    (hrun : (execOp A.eval o).run P w = .ok (.value (.pointer (some ⟨w.heap.size, 0, none⟩))) (w.alloc (.cells us.toArray e))) : OpOk P E B m w A o r := by
  unfold allocV at h
  cases ha : m.alloc (.cells ⟨cs, e, none, 0, true⟩) with
  | none => rw [ha] at h; simp at h
  | some p =>
    obtain ⟨b, m'⟩ := p
    rw [ha] at h
    simp only [Option.map_some, Option.some.injEq] at h
    subst h
    obtain ⟨h1, h2, h3, _, _⟩ := hr.alloc ha us [] hl 0 (0, 0) (fun _ => rfl) rfl (by simp)
    rw [List.append_nil] at h1 h2
    exact ⟨_, _, _, hrun, h1, h2, ⟨_, _, h3, rfl⟩⟩
theorem OpOk.alloc {e : TypeId} {cs : List Ce} {r : Res} (hr : Rel E B m w) (ho : o.op = .alloc e) (hz : zeroCs P e = some cs) (h : allocV m cs e = some r) : OpOk P E B m w A o r := by
  unfold zeroCs at hz
  cases hi : P.info? e with
  | none => rw [hi] at hz; simp at hz
  | some i =>
    rw [hi] at hz
    simp only [Option.bind_some] at hz
    cases hq : i.zero with
    | none => rw [hq] at hz; simp at hz
    | some z =>
      rw [hq] at hz
      simp only [Option.bind_some] at hz
      refine OpOk.new hr h (ofCells_R _ _ hz) ?_
      simp [execOp, ho, Instr.alloc, zeroValue, typeInfo, hi, hq, newVar, newRow]
theorem OpOk.box {e : TypeId} {x : Operand} {a : Va} {cs : List Ce} {r : Res} (hr : Rel E B m w) (ht : RT E ts A) (ho : o.op = .box e x) (hx : evx ts x = some a) (hc : cellsVa a = some cs) (h : allocV m cs e = some r) : OpOk P E B m w A o r := by
  refine OpOk.new hr h (cellsVa_R hc (evx_R ht hx)) ?_
  simp [execOp, ho, Instr.box, newVar, newRow]
theorem isAgg_false {t : TypeId} {d : TypeDesc} (hu : P.underlying t = some d) (hd : ¬ d.isRow = true) (w : World) : (isAgg t).run P w = .ok false w := by
  cases d <;> simp_all [isAgg, run_underlying hu]
theorem OpOk.load {t : TypeId} {x : Operand} {a : Va} {r : Res} (hr : Rel E B m w) (ht : RT E ts A) (ho : o.op = .load t x) (hx : evx ts x = some a) (h : evLoad P t a m = some r) : OpOk P E B m w A o r := by
  have hxR := evx_R ht hx
  unfold evLoad at h
  split at h
  · rename_i b off
    obtain ⟨cb, co, hb, hxe⟩ := hxR
    split at h
    · rename_i d i hu hi
      split at h
      · rename_i hd
        cases hl : m.load b off i.size with
        | none => rw [hl] at h; simp at h
        | some cs =>
          rw [hl] at h
          simp only [Option.map_some, Option.some.injEq] at h
          subst h
          obtain ⟨us, h1, h2, h3⟩ := hr.load hl hb
          refine OpOk.same hr (v := .agg us.toArray) ?_ ⟨us, h1, rfl⟩
          have := run_loadAt_mid (P := P) w cb (co + off) t us d h3 hu hd (by rw [hi, h2]; rfl)
          simp [execOp, ho, hxe, this]
      · rename_i hd
        split at h
        · rename_i c hl
          simp only [Option.some.injEq] at h
          subst h
          obtain ⟨us, h1, h2, h3⟩ := hr.load hl hb
          obtain ⟨u, q, rfl, h4, h5⟩ := h1
          refine OpOk.same hr (v := u) ?_ h4
          have hc := h3 0 u rfl
          simp only [Nat.add_zero] at hc
          simp [execOp, ho, hxe, Instr.loadAt, Instr.sureAddr, loadVar, isAgg_false hu hd, load, Sem.run, hc]
        · simp at h
    · simp at h
  · simp at h
theorem OpOk.store {t : TypeId} {x y : Operand} {a v : Va} {r : Res} (hr : Rel E B m w) (ht : RT E ts A) (ho : o.op = .store t x y) (hx : evx ts x = some a) (hy : evx ts y = some v) (h : evStore P t a v m = some r) : OpOk P E B m w A o r := by
  have hxR := evx_R ht hx
  have hyR := evx_R ht hy
  unfold evStore at h
  split at h
  · rename_i b off cs i hc hi
    obtain ⟨cb, co, hb, hxe⟩ := hxR
    split at h
    · rename_i hs
      cases hm : m.store b off cs with
      | none => rw [hm] at h; simp at h
      | some m' =>
        rw [hm] at h
        simp only [Option.map_some, Option.some.injEq] at h
        subst h
        have hl := cellsVa_R hc hyR
        obtain ⟨w', h1, h2, h3⟩ := hr.store (P := P) hm hb hl
        refine ⟨E, w', ?_, h2, h3⟩
        have hlen := hl.length
        have hsz : (A.eval y).cells.size = i.size := by rw [← hs, ← hlen]; simp
        simp [execOp, ho, hxe, Instr.storeAt, Instr.sureAddr, storeVar, sizeOf, typeInfo, hi, hsz, h1]
    · simp at h
  · simp at h
end
end Go.Proofs.YtibdikihgdkfnaaGreatDoor.Ev
end
section
/- A reckoner, sixth part: operations on values are so. -/
namespace Go.Proofs.YtibdikihgdkfnaaGreatDoor.Ev
open Go.RowKit
set_option linter.unusedVariables false
set_option linter.unusedSimpArgs false
section
variable {P : Program} {E : Env} {B : Nat} {m : Mem} {w : World} {A : Act} {o : Oper} {ts : Fr}

theorem OpOk.pick {c x y : Operand} {t : Bool} {u v : Va} (hr : Rel E B m w) (ht : RT E ts A) (ho : o.op = .pick c x y) (hc : evx ts c = some (.one (.ce (.lit (.bool t))))) (hx : evx ts x = some u) (hy : evx ts y = some v) :
    OpOk P E B m w A o (.val (if t then u else v) m) := by
  have h1 : A.eval c = .bool t := (evx_R ht hc).2
  refine OpOk.same hr (v := if t then A.eval x else A.eval y) ?_ ?_
  · simp [execOp, ho, h1, asBool]
  · cases t
    · exact evx_R ht hy
    · exact evx_R ht hx
theorem OpOk.nilPtr {x : Operand} {b off : Nat} (hr : Rel E B m w) (ht : RT E ts A) (ho : o.op = .nilCheck x) (hx : evx ts x = some (.one (.ce (.ptr b off)))) : OpOk P E B m w A o (.val (ceV (.ptr b off)) m) := by
  have h := evx_R ht hx
  obtain ⟨cb, co, hb, hxe⟩ := h
  refine OpOk.same hr (v := A.eval x) ?_ ⟨cb, co, hb, hxe⟩
  simp [execOp, ho, hxe]
theorem OpOk.nilFn {x : Operand} {g : FuncId} {f c : Array Value} (hr : Rel E B m w) (ht : RT E ts A) (ho : o.op = .nilCheck x) (hx : evx ts x = some (.one (.ce (.lit (.func (.func g) f c))))) : OpOk P E B m w A o (.val (litV (.func (.func g) f c)) m) := by
  have h := evx_R ht hx
  refine OpOk.same hr (v := A.eval x) ?_ h
  have h2 : A.eval x = .func (.func g) f c := h.2
  simp [execOp, ho, h2]
theorem OpOk.hole {k : IntKind} {n : Int} {v : Value} (hr : Rel E B m w) (hv : v = .int k n) (hrun : (execOp A.eval o).run P w = .ok (.value v) w) : OpOk P E B m w A o (newHole m k) := by
  let F : Env := { E with hole := fun i => if i = m.nhole then some v else E.hole i }
  have hle : Env.Le E F := ⟨fun _ _ h => h, fun _ _ h => h, fun i x h => by
    show (if i = m.nhole then some v else E.hole i) = some x
    by_cases hi : i = m.nhole
    · subst hi; rw [hr.freshH _ (Nat.le_refl _)] at h; cases h
    · rw [if_neg hi]; exact h⟩
  refine ⟨F, w, v, hrun, ⟨hle, rfl, rfl, rfl, Nat.le_refl _, fun _ _ h => h, fun _ _ _ => rfl, Nat.le_refl _, ⟨[], rfl, fun _ _ _ => ⟨rfl, fun _ _ _ _ _ => rfl⟩⟩⟩, ⟨?_, hr.inj, hr.freshB, hr.freshC, ?_, hr.base⟩, ?_⟩
  · intro b x hb
    obtain ⟨cb, co, h1, h2, h3⟩ := hr.blk b x hb
    exact ⟨cb, co, h1, h2, h3.le hle rfl⟩
  · intro i hi
    show (if i = m.nhole then some v else E.hole i) = none
    rw [if_neg (by simp only at hi; omega)]
    exact hr.freshH i (by simp only at hi; omega)
  · exact ⟨n, by show (if m.nhole = m.nhole then some v else E.hole m.nhole) = _; rw [if_pos rfl, hv], hv⟩
theorem kindOf_R {a : Va} {k : IntKind} {u : Value} (h : kindOf a = some k) (hu : a.R E u) : ∃ n, u = .int k n := by
  unfold kindOf at h
  split at h
  · rename_i k' n
    simp only [Option.some.injEq] at h
    subst h
    exact ⟨n, hu.2⟩
  · rename_i k' i
    simp only [Option.some.injEq] at h
    subst h
    obtain ⟨n, _, h2⟩ := hu
    exact ⟨n, h2⟩
  · simp at h
theorem OpOk.unX {x : Operand} {t : TypeId} {k : IntKind} {i : Nat} (hr : Rel E B m w) (ht : RT E ts A) (ho : o.op = .unOp .xor t x) (hx : evx ts x = some (.one (.ce (.hole k i)))) : OpOk P E B m w A o (newHole m k) := by
  obtain ⟨n, _, h2⟩ := evx_R ht hx
  refine OpOk.hole (v := .int k (k.wrap (BitVec.ofInt k.bits (if k.signed then -1 else k.max) ^^^ BitVec.ofInt k.bits n).toNat)) hr rfl ?_
  simp [execOp, ho, h2, Op.unary, Op.intBits]
theorem OpOk.extract {x : Operand} {i : Nat} {vs : List V1} {v : V1} (hr : Rel E B m w) (ht : RT E ts A) (ho : o.op = .extract x i) (hx : evx ts x = some (.tup vs)) (hv : vs[i]? = some v) : OpOk P E B m w A o (.val (.one v) m) := by
  obtain ⟨us, h1, h2⟩ := evx_R ht hx
  obtain ⟨u, h3, h4⟩ := h1.get hv
  refine OpOk.same hr (v := u) ?_ h4
  simp [execOp, ho, h2, Instr.extract, h3]
theorem lit_of {x : Operand} {v : Value} (ht : RT E ts A) (h : (evx ts x).bind litVa = some v) : A.eval x = v := by
  cases hx : evx ts x with
  | none => rw [hx] at h; simp at h
  | some a => rw [hx] at h; exact litVa_eq h (evx_R ht hx)
theorem OpOk.nil {op : BinOp} {t ty : TypeId} {x y : Operand} {a b : Va} {r : Res} (hr : Rel E B m w) (ht : RT E ts A) (ho : o.op = .binOp op t x y ty) (hx : evx ts x = some a) (hy : evx ts y = some b) (h : evNil P op t a b m = some r) : OpOk P E B m w A o r := by
  have hxR := evx_R ht hx
  have hyR := evx_R ht hy
  have eP : ∀ (c : Addr), isPtrT P t = true → (Op.equal t (.pointer (some c)) (.pointer none)).run P w = .ok false w := fun c hq => by
    unfold isPtrT at hq
    split at hq
    · rename_i q hu
      have : ∀ d, (Op.equalIn (d + 1) t (.pointer (some c)) (.pointer none)).run P w = .ok false w := fun d => by simp [Op.equalIn, run_underlying hu]
      exact this 9999
    · cases hq
  have eS : ∀ (c : Addr) (l k : Nat), isSlcT P t = true → (Op.equal t (.slice (some c) l k) (.slice none 0 0)).run P w = .ok false w := fun c l k hq => by
    unfold isSlcT at hq
    split at hq
    · rename_i q hu
      have : ∀ d, (Op.equalIn (d + 1) t (.slice (some c) l k) (.slice none 0 0)).run P w = .ok false w := fun d => by simp [Op.equalIn, run_underlying hu]
      exact this 9999
    · cases hq
  unfold evNil at h
  split at h
  · split at h
    · rename_i hq
      simp only [Option.some.injEq] at h
      subst h
      obtain ⟨cb, co, hb, hxe⟩ := hxR
      have hye : A.eval y = .pointer none := hyR.2
      refine OpOk.same hr (v := .bool false) ?_ ⟨rfl, rfl⟩
      simp [execOp, ho, hxe, hye, eqGuard, binOp, eP _ hq]
    · simp at h
  · split at h
    · rename_i hq
      simp only [Option.some.injEq] at h
      subst h
      obtain ⟨cb, co, hb, hxe⟩ := hxR
      have hye : A.eval y = .pointer none := hyR.2
      refine OpOk.same hr (v := .bool true) ?_ ⟨rfl, rfl⟩
      simp [execOp, ho, hxe, hye, eqGuard, binOp, eP _ hq]
    · simp at h
  · split at h
    · rename_i hq
      simp only [Option.some.injEq] at h
      subst h
      obtain ⟨cb, co, k, hb, hk, hxe⟩ := hxR
      have hye : A.eval y = .slice none 0 0 := hyR.2
      refine OpOk.same hr (v := .bool false) ?_ ⟨rfl, rfl⟩
      simp [execOp, ho, hxe, hye, eqGuard, binOp, eS _ _ _ hq]
    · simp at h
  · split at h
    · rename_i hq
      simp only [Option.some.injEq] at h
      subst h
      obtain ⟨cb, co, k, hb, hk, hxe⟩ := hxR
      have hye : A.eval y = .slice none 0 0 := hyR.2
      refine OpOk.same hr (v := .bool true) ?_ ⟨rfl, rfl⟩
      simp [execOp, ho, hxe, hye, eqGuard, binOp, eS _ _ _ hq]
    · simp at h
  · simp at h
end
end Go.Proofs.YtibdikihgdkfnaaGreatDoor.Ev
end
section
/- A reckoner, seventh part: parts of structs, places, cuts. -/
namespace Go.Proofs.YtibdikihgdkfnaaGreatDoor.Ev
open Go.RowKit
set_option linter.unusedVariables false
set_option linter.unusedSimpArgs false
section
variable {P : Program} {E : Env} {B : Nat} {m : Mem} {w : World} {A : Act} {o : Oper} {ts : Fr}

theorem OpOk.binHole {op : BinOp} {t ty : TypeId} {x y : Operand} {a b : Va} {r : Res} (hr : Rel E B m w) (ht : RT E ts A) (ho : o.op = .binOp op t x y ty) (hx : evx ts x = some a) (hy : evx ts y = some b) (h : evHole op a b m = some r) : OpOk P E B m w A o r := by
  have hxR := evx_R ht hx
  have hyR := evx_R ht hy
  unfold evHole at h
  split at h
  · rename_i k k' h1 h2
    split at h
    · rename_i hk
      subst hk
      simp only [Option.some.injEq] at h
      subst h
      obtain ⟨n, e1⟩ := kindOf_R h1 hxR
      obtain ⟨n', e2⟩ := kindOf_R h2 hyR
      exact OpOk.hole (v := .int k (k.wrap (n + n'))) hr rfl (by simp [execOp, ho, e1, e2, eqGuard, binOp, Op.intArith])
    · simp at h
  · rename_i k k' h1 h2
    split at h
    · rename_i hk
      subst hk
      simp only [Option.some.injEq] at h
      subst h
      obtain ⟨n, e1⟩ := kindOf_R h1 hxR
      obtain ⟨n', e2⟩ := kindOf_R h2 hyR
      exact OpOk.hole (v := .int k (k.wrap (n - n'))) hr rfl (by simp [execOp, ho, e1, e2, eqGuard, binOp, Op.intArith])
    · simp at h
  · rename_i k k' h1 h2
    split at h
    · rename_i hk
      subst hk
      simp only [Option.some.injEq] at h
      subst h
      obtain ⟨n, e1⟩ := kindOf_R h1 hxR
      obtain ⟨n', e2⟩ := kindOf_R h2 hyR
      exact OpOk.hole (v := .int k (k.wrap (BitVec.ofInt k.bits n &&& BitVec.ofInt k.bits n').toNat)) hr rfl (by simp [execOp, ho, e1, e2, eqGuard, binOp, Op.intBits])
    · simp at h
  · rename_i k k' h1 h2
    split at h
    · rename_i hk
      subst hk
      simp only [Option.some.injEq] at h
      subst h
      obtain ⟨n, e1⟩ := kindOf_R h1 hxR
      obtain ⟨n', e2⟩ := kindOf_R h2 hyR
      exact OpOk.hole (v := .int k (k.wrap (BitVec.ofInt k.bits n ||| BitVec.ofInt k.bits n').toNat)) hr rfl (by simp [execOp, ho, e1, e2, eqGuard, binOp, Op.intBits])
    · simp at h
  · rename_i k k' h1 h2
    split at h
    · rename_i hk
      subst hk
      simp only [Option.some.injEq] at h
      subst h
      obtain ⟨n, e1⟩ := kindOf_R h1 hxR
      obtain ⟨n', e2⟩ := kindOf_R h2 hyR
      exact OpOk.hole (v := .int k (k.wrap (BitVec.ofInt k.bits n ^^^ BitVec.ofInt k.bits n').toNat)) hr rfl (by simp [execOp, ho, e1, e2, eqGuard, binOp, Op.intBits])
    · simp at h
  · rename_i k h1
    split at h
    · rename_i k' n'
      split at h
      · rename_i hn
        simp only [Option.some.injEq] at h
        subst h
        obtain ⟨n, e1⟩ := kindOf_R h1 hxR
        have e2 : A.eval y = .int k' n' := hyR.2
        have hn' : ¬ n' < 0 := by omega
        exact OpOk.hole (v := .int k (k.wrap (n * 2 ^ (min n'.toNat k.bits)))) hr rfl (by simp [execOp, ho, e1, e2, eqGuard, binOp, Op.shift, hn'])
      · simp at h
    · simp at h
  · rename_i k h1
    split at h
    · rename_i k' n'
      split at h
      · rename_i hn
        simp only [Option.some.injEq] at h
        subst h
        obtain ⟨n, e1⟩ := kindOf_R h1 hxR
        have e2 : A.eval y = .int k' n' := hyR.2
        have hn' : ¬ n' < 0 := by omega
        exact OpOk.hole (v := .int k (n.fdiv (2 ^ (min n'.toNat k.bits)))) hr rfl (by simp [execOp, ho, e1, e2, eqGuard, binOp, Op.shift, hn'])
      · simp at h
    · simp at h
  · simp at h
theorem OpOk.bin {op : BinOp} {t ty : TypeId} {x y : Operand} {a b : Va} {r : Res} (hr : Rel E B m w) (ht : RT E ts A) (ho : o.op = .binOp op t x y ty) (hx : evx ts x = some a) (hy : evx ts y = some b) (h : evBin P op t x y a b m = some r) : OpOk P E B m w A o r := by
  unfold evBin at h
  split at h
  · rename_i u v h1 h2
    refine OpOk.lit hr h ?_
    rw [← litVa_eq h1 (evx_R ht hx), ← litVa_eq h2 (evx_R ht hy)]
    simp [execOp, ho]
  · split at h
    · rename_i q hq
      simp only [Option.some.injEq] at h
      subst h
      exact OpOk.nil hr ht ho hx hy hq
    · exact OpOk.binHole hr ht ho hx hy h

theorem partV_ok {t : TypeId} {cs : List Ce} {us : List Value} {off : Nat} {a : Va} (hl : RL E cs us) (h : partV P t cs off = some a) : ∃ v, (part t us.toArray off).run P w = .ok v w ∧ a.R E v := by
  unfold partV at h
  split at h
  · rename_i d i hu hi
    split at h
    · rename_i hd
      split at h
      · rename_i hs
        simp only [Option.some.injEq] at h
        subst h
        refine ⟨.agg (us.toArray.extract off (off + i.size)), ?_, ?_⟩
        · have : (isAgg t).run P w = .ok true w := by
            unfold isAgg
            rw [Sem.run_bind, run_underlying hu w]
            cases d <;> simp_all
          simp [part, this, sizeOf, typeInfo, hi]
        · refine ⟨(us.drop off).take i.size, (hl.drop off).take i.size, ?_⟩
          congr 1
          apply Array.ext'
          simp [List.extract_eq_take_drop]
      · simp at h
    · rename_i hd
      cases hc : cs[off]? with
      | none => rw [hc] at h; simp at h
      | some c =>
        rw [hc] at h
        simp only [Option.map_some, Option.some.injEq] at h
        subst h
        obtain ⟨u, h1, h2⟩ := hl.get hc
        refine ⟨u, ?_, h2⟩
        simp [part, isAgg_false hu hd, h1]
  · simp at h
theorem OpOk.field {t : TypeId} {x : Operand} {f : Nat} {a : Va} {r : Res} (hr : Rel E B m w) (ht : RT E ts A) (ho : o.op = .field t x f) (hx : evx ts x = some a) (h : evField P t a f m = some r) : OpOk P E B m w A o r := by
  have hxR := evx_R ht hx
  unfold evField at h
  split at h
  · rename_i cs fields hu
    split at h
    · rename_i fd hf
      cases hp : partV P fd.type cs fd.offset with
      | none => rw [hp] at h; simp at h
      | some a =>
        rw [hp] at h
        simp only [Option.map_some, Option.some.injEq] at h
        subst h
        obtain ⟨us, h1, h2⟩ := hxR
        obtain ⟨v, h3, h4⟩ := partV_ok (w := w) h1 hp
        refine OpOk.same hr (v := v) ?_ h4
        simp [execOp, ho, h2, Instr.field, run_underlying hu, hf, asAgg, h3]
    · simp at h
  · simp at h
theorem OpOk.index {t : TypeId} {x y : Operand} {a b : Va} {r : Res} (hr : Rel E B m w) (ht : RT E ts A) (ho : o.op = .index t x y) (hx : evx ts x = some a) (hy : evx ts y = some b) (h : evIndex P t a b m = some r) : OpOk P E B m w A o r := by
  have hxR := evx_R ht hx
  have hyR := evx_R ht hy
  unfold evIndex at h
  split at h
  · rename_i cs k i
    split at h
    · rename_i len elem hu
      split at h
      · rename_i ie hi
        split at h
        · rename_i hb
          cases hp : partV P elem cs (i.toNat * ie.size) with
          | none => rw [hp] at h; simp at h
          | some a =>
            rw [hp] at h
            simp only [Option.map_some, Option.some.injEq] at h
            subst h
            obtain ⟨us, h1, h2⟩ := hxR
            have e2 : A.eval y = .int k i := hyR.2
            obtain ⟨v, h3, h4⟩ := partV_ok (w := w) h1 hp
            refine OpOk.same hr (v := v) ?_ h4
            simp [execOp, ho, h2, e2, Instr.index, asIntOf, run_underlying hu, hb, sizeOf, typeInfo, hi, h3]
        · simp at h
      · simp at h
    · simp at h
  · split at h
    · rename_i u v h1 h2
      refine OpOk.lit hr h ?_
      rw [← litVa_eq h1 hxR, ← litVa_eq h2 hyR]
      simp [execOp, ho]
    · simp at h
theorem OpOk.fieldAddr {t : TypeId} {x : Operand} {f : Nat} {a : Va} {r : Res} (hr : Rel E B m w) (ht : RT E ts A) (ho : o.op = .fieldAddr t x f) (hx : evx ts x = some a) (h : evFieldAddr P t a f m = some r) : OpOk P E B m w A o r := by
  have hxR := evx_R ht hx
  unfold evFieldAddr at h
  split at h
  · rename_i b off fields hu
    split at h
    · rename_i fd hf
      split at h
      · rename_i i hi
        split at h
        · simp at h
        · rename_i hs
          simp only [Option.some.injEq] at h
          subst h
          obtain ⟨cb, co, hb, hxe⟩ := hxR
          refine OpOk.same hr (v := .pointer (some ⟨cb, co + (off + fd.offset), none⟩)) ?_ ⟨cb, co, hb, rfl⟩
          simp [execOp, ho, hxe, Instr.fieldAt, Instr.sureAddr, run_underlying hu, hf, fieldPlace, sizeOf, typeInfo, hi, hs, Addr.add_mid, Nat.add_assoc]
      · simp at h
    · simp at h
  · simp at h
theorem OpOk.indexAddr {t : TypeId} {x y : Operand} {a b : Va} {r : Res} (hr : Rel E B m w) (ht : RT E ts A) (ho : o.op = .indexAddr t x y) (hx : evx ts x = some a) (hy : evx ts y = some b) (h : evIndexAddr P t a b m = some r) : OpOk P E B m w A o r := by
  have hxR := evx_R ht hx
  have hyR := evx_R ht hy
  unfold evIndexAddr at h
  split at h
  · rename_i b off k i len elem hu
    split at h
    · rename_i ie hi
      split at h
      · rename_i hb
        simp only [Option.some.injEq] at h
        subst h
        obtain ⟨cb, co, hbl, hxe⟩ := hxR
        have e2 : A.eval y = .int k i := hyR.2
        refine OpOk.same hr (v := .pointer (some ⟨cb, co + (off + i.toNat * ie.size), none⟩)) ?_ ⟨cb, co, hbl, rfl⟩
        simp [execOp, ho, hxe, e2, Instr.indexAt, Instr.sureAddr, asIntOf, run_underlying hu, hb, sizeOf, typeInfo, hi, Addr.add_mid, Nat.add_assoc]
      · simp at h
    · simp at h
  · rename_i b off len lo up k i elem hu
    split at h
    · rename_i ie hi
      split at h
      · rename_i hb
        simp only [Option.some.injEq] at h
        subst h
        obtain ⟨cb, co, kk, hbl, hk, hxe⟩ := hxR
        have e2 : A.eval y = .int k i := hyR.2
        refine OpOk.same hr (v := .pointer (some ⟨cb, co + (off + i.toNat * ie.size), none⟩)) ?_ ⟨cb, co, hbl, rfl⟩
        simp [execOp, ho, hxe, e2, Instr.indexAt, Instr.sureAddr, asIntOf, run_underlying hu, hb, sizeOf, typeInfo, hi, Addr.add_mid, Nat.add_assoc]
      · simp at h
    · simp at h
  · simp at h
end
end Go.Proofs.YtibdikihgdkfnaaGreatDoor.Ev
end
section
/- A reckoner, eighth part: structs and rows that are built. -/
namespace Go.Proofs.YtibdikihgdkfnaaGreatDoor.Ev
open Go.RowKit
set_option linter.unusedVariables false
set_option linter.unusedSimpArgs false
theorem foldl_set : ∀ (v : List Value) (k off : Nat) (us : Array Value), off + k + v.length ≤ us.size →
    ((v.zipIdx k).foldl (fun (cs : Array Value) (x : Value × Nat) => cs.setIfInBounds (off + x.2) x.1) us).toList = us.toList.take (off + k) ++ v ++ us.toList.drop (off + k + v.length)
  | [], k, off, us, h => by simp
  | c :: v, k, off, us, h => by
    simp only [List.length_cons] at h
    rw [List.zipIdx_cons, List.foldl_cons, foldl_set v (k + 1) off _ (by simp; omega)]
    apply List.ext_getElem?
    intro i
    have e1 := splice_get (us.setIfInBounds (off + k) c).toList v (off + (k + 1)) i (by simp; omega)
    have e2 := splice_get us.toList (c :: v) (off + k) i (by simp; omega)
    rw [e1, e2]
    simp only [List.length_cons, Array.toList_setIfInBounds]
    by_cases h1 : i = off + k
    · subst h1
      rw [if_neg (by omega), if_pos (by omega), List.getElem?_set]
      simp only [Nat.sub_self, List.getElem?_cons_zero, if_true]
      rw [if_pos (by simp; omega)]
    · by_cases h2 : off + (k + 1) ≤ i ∧ i < off + (k + 1) + v.length
      · rw [if_pos h2, if_pos (by omega)]
        have : i - (off + k) = (i - (off + (k + 1))) + 1 := by omega
        rw [this, List.getElem?_cons_succ]
      · rw [if_neg h2, if_neg (by omega), List.getElem?_set_ne (by omega)]
section
variable {P : Program} {E : Env} {B : Nat} {m : Mem} {w : World} {A : Act} {o : Oper} {ts : Fr}
/-- The parts, and what they stand for. -/
def RP (E : Env) : List (Nat × List Ce) → List (Nat × Value) → Prop
  | [], us => us = []
  | p :: ps, us => ∃ v r, us = (p.1, v) :: r ∧ RL E p.2 v.cells.toList ∧ RP E ps r
theorem partsC_R (ht : RT E ts A) : ∀ {ps : List (Nat × Operand)} {l : List (Nat × List Ce)}, partsC ts ps = some l → RP E l (ps.map fun p => (p.1, A.eval p.2))
  | [], l, h => by simp only [partsC, Option.some.injEq] at h; subst h; rfl
  | (i, x) :: r, l, h => by
    unfold partsC at h
    split at h
    · rename_i c q h1 h2
      simp only [Option.some.injEq] at h
      subst h
      cases hx : evx ts x with
      | none => rw [hx] at h1; simp at h1
      | some a =>
        rw [hx] at h1
        exact ⟨_, _, rfl, cellsVa_R h1 (evx_R ht hx), partsC_R ht h2⟩
    · simp at h
theorem fillC_R {place : Nat → Option (Nat × Nat)} : ∀ {ps : List (Nat × List Ce)} {us : List (Nat × Value)} {cells cs : List Ce} {vs : Array Value}, RP E ps us → RL E cells vs.toList → fillC place cells ps = some cs →
    ∃ vs', Instr.fill place vs us = some vs' ∧ RL E cs vs'.toList
  | [], us, cells, cs, vs, hp, hl, h => by
    simp only [RP] at hp
    subst hp
    simp only [fillC, Option.some.injEq] at h
    subst h
    exact ⟨vs, rfl, hl⟩
  | (i, c) :: ps, us, cells, cs, vs, ⟨v, r, e, h1, h2⟩, hl, h => by
    subst e
    unfold fillC at h
    cases hpl : place i with
    | none => rw [hpl] at h; simp at h
    | some q =>
      obtain ⟨off, size⟩ := q
      rw [hpl] at h
      simp only at h
      split at h
      · simp at h
      · rename_i hn
        have e1 : v.cells.size = c.length := by simpa using h1.length
        have e2 : vs.size = cells.length := by simpa using hl.length
        have hn' : ¬ (v.cells.size ≠ size || off + v.cells.size > vs.size) = true := by rw [e1, e2]; exact hn
        have hle : off + 0 + v.cells.toList.length ≤ vs.size := by
          simp only [Bool.or_eq_true, decide_eq_true_eq, not_or] at hn
          simp only [Nat.add_zero, Array.length_toList]; omega
        have hfold := foldl_set v.cells.toList 0 off vs hle
        simp only [Nat.add_zero] at hfold
        have hnext : RL E (cells.take off ++ c ++ cells.drop (off + c.length)) ((v.cells.toList.zipIdx 0).foldl (fun (cs : Array Value) (x : Value × Nat) => cs.setIfInBounds (off + x.2) x.1) vs).toList := by
          rw [hfold]
          have := ((hl.take off).append h1).append (hl.drop (off + c.length))
          rwa [← e1, ← Array.length_toList] at this ⊢
        obtain ⟨vs', h3, h4⟩ := fillC_R h2 hnext h
        refine ⟨vs', ?_, h4⟩
        unfold Instr.fill
        rw [hpl]
        simp only
        rw [if_neg hn']
        rw [← h3]
        congr 1
        rw [← Array.foldl_toList]
        simp [Array.toList_zipIdx]
theorem placesC_is : ∀ {fs : List Field} {l : List (Nat × Nat)}, placesC P fs = some l → fs.mapM (fun f => (P.info? f.type).map fun i => (f.offset, i.size)) = some l
  | [], l, h => by simp only [placesC, Option.some.injEq] at h; subst h; rfl
  | f :: fs, l, h => by
    unfold placesC at h
    split at h
    · rename_i i q h1 h2
      simp only [Option.some.injEq] at h
      subst h
      simp [List.mapM_cons, h1, placesC_is h2]
    · simp at h
theorem evBuild_ok {t : TypeId} {parts : Array (Nat × Operand)} {ps : List (Nat × List Ce)} {cs : List Ce} (ht : RT E ts A) (hp : partsC ts parts.toList = some ps) (h : evBuild P t ps = some cs) : ∃ vs, P.built t ((parts.map fun p => (p.1, A.eval p.2)).toList) = some vs ∧ RL E cs vs.toList := by
  have hR := partsC_R ht hp
  unfold evBuild at h
  rw [Array.toList_map]
  unfold Program.built
  split at h
  · rename_i it e hi hu
    rw [hi, hu]
    split at h
    · rename_i z ie hz hie
      simp only [hz, hie]
      cases hc : ofCells z.cells.toList with
      | none => rw [hc] at h; simp at h
      | some zs =>
        rw [hc] at h
        exact fillC_R hR (ofCells_R _ _ hc) h
    · simp at h
  · rename_i it fields hi hu
    rw [hi, hu]
    split at h
    · rename_i z places hz hpl
      simp only [hz, placesC_is hpl]
      cases hc : ofCells z.cells.toList with
      | none => rw [hc] at h; simp at h
      | some zs =>
        rw [hc] at h
        have : (fun (i : Nat) => places.toArray[i]?) = (fun (i : Nat) => places[i]?) := by funext i; simp
        rw [this]
        exact fillC_R hR (ofCells_R _ _ hc) h
    · simp at h
  · simp at h
theorem OpOk.build {t : TypeId} {parts : Array (Nat × Operand)} {ps : List (Nat × List Ce)} {cs : List Ce} (hr : Rel E B m w) (ht : RT E ts A) (ho : o.op = .build t parts) (hp : partsC ts parts.toList = some ps) (h : evBuild P t ps = some cs) : OpOk P E B m w A o (.val (.one (.agg cs)) m) := by
  obtain ⟨vs, h1, h2⟩ := evBuild_ok ht hp h
  refine OpOk.same hr (v := .agg vs) ?_ ⟨vs.toList, h2, by simp⟩
  have := run_build (P := P) w t _ vs h1
  simp [execOp, ho, this]
theorem OpOk.newSl {x : Blk} {k : Nat} {r : Res} {us : List Value} (hr : Rel E B m w) (hroom : x.room = none) (hwr : x.wr = true) (h : ((m.alloc (.cells x)).map fun p => Res.val (ceV (.slc p.1 0 k k none)) p.2) = some r) (hl : RL E x.cells us)
    (hrun : (execOp A.eval o).run P w = .ok (.value (.slice (some ⟨w.heap.size, 0, none⟩) k k)) (w.alloc (.cells us.toArray x.ty))) (hsz : x.sz = 0) : OpOk P E B m w A o r := by
  cases ha : m.alloc (.cells x) with
  | none => rw [ha] at h; simp at h
  | some p =>
    obtain ⟨b, m'⟩ := p
    rw [ha] at h
    simp only [Option.map_some, Option.some.injEq] at h
    subst h
    obtain ⟨h1, h2, h3, _, _⟩ := hr.alloc ha us [] hl 0 (0, 0) (fun _ => rfl) (by rw [hroom]; rfl) (by simp)
    rw [List.append_nil] at h1 h2
    exact ⟨_, _, _, hrun, h1, h2, ⟨_, _, 0, h3, rfl, rfl⟩⟩
theorem OpOk.buildSlice {t : TypeId} {len : Nat} {parts : Array (Nat × Operand)} {ps : List (Nat × List Ce)} {r : Res} (hr : Rel E B m w) (ht : RT E ts A) (ho : o.op = .buildSlice t len parts) (hp : partsC ts parts.toList = some ps) (h : evBuildSlice P t len ps m = some r) : OpOk P E B m w A o r := by
  have hR := partsC_R ht hp
  unfold evBuildSlice at h
  split at h
  · rename_i e hu
    split at h
    · rename_i ie hi
      split at h
      · rename_i z hz
        split at h
        · rename_i h0
          split at h
          · refine OpOk.newSl hr rfl rfl h (us := []) rfl ?_ rfl
            have hps : (parts.toList.map fun p => (p.1, A.eval p.2)) = [] := hR
            have hps' : parts = #[] := by
              have := congrArg List.length hps
              simp only [List.length_map, Array.length_toList, List.length_nil] at this
              exact Array.eq_empty_of_size_eq_zero this
            have h0' : len = 0 ∨ ie.size = 0 := by
              rcases Nat.mul_eq_zero.1 h0 with h | h
              · exact .inl h
              · exact .inr h
            simp [execOp, ho, hps', Instr.buildSlice, run_underlying hu, sizeOf, typeInfo, hi, h0, Instr.fill, newRow]
            congr 2
            apply Array.ext'
            simp [Array.range]
          · simp at h
        · rename_i h0
          split at h
          · simp at h
          · rename_i hsm
            cases hc : ofCells (madeCells z.cells (len * ie.size)).toList with
            | none => rw [hc] at h; simp at h
            | some zs =>
              rw [hc] at h
              simp only [Option.bind_some] at h
              cases hf : fillC (fun i => some (i * ie.size, ie.size)) zs ps with
              | none => rw [hf] at h; simp at h
              | some cs =>
                rw [hf] at h
                simp only [Option.bind_some] at h
                obtain ⟨vs, h3, h4⟩ := fillC_R hR (ofCells_R _ _ hc) hf
                refine OpOk.newSl hr rfl rfl h h4 ?_ rfl
                have h3' : Instr.fill (fun i => some (i * ie.size, ie.size)) ((Array.range (len * ie.size)).map (z.cells[· % z.cells.size]!)) (parts.map fun p => (p.1, A.eval p.2)).toList = some vs := by
                  rw [Array.toList_map]; exact h3
                have := run_buildSlice (P := P) w t e len (parts.map fun p => (p.1, A.eval p.2)) vs ie z hu hi hz hsm h0 h3'
                simp [execOp, ho, this]
      · simp at h
    · simp at h
  · simp at h
end
end Go.Proofs.YtibdikihgdkfnaaGreatDoor.Ev
end
section
/- A reckoner, ninth part: cuts of slices, made slices, conversions. -/
namespace Go.Proofs.YtibdikihgdkfnaaGreatDoor.Ev
open Go.RowKit
set_option linter.unusedVariables false
set_option linter.unusedSimpArgs false
section
variable {P : Program} {E : Env} {B : Nat} {m : Mem} {w : World} {A : Act} {o : Oper} {ts : Fr}
/-- An index that is given, as a value: none is, or its number. -/
def BR (x : Option Operand) (i : Option Int) (A : Act) : Prop := match x, i with
  | none, none => True
  | some x, some i => ∃ k, A.eval x = .int k i
  | _, _ => False
theorem bound_R (ht : RT E ts A) {x : Option Operand} {i : Option Int} (h : bound ts x = some i) : BR x i A := by
  unfold bound at h
  split at h
  · simp only [Option.some.injEq] at h
    subst h; trivial
  · split at h
    · rename_i x k j hx
      simp only [Option.some.injEq] at h
      subst h
      exact ⟨k, (evx_R ht hx).2⟩
    · simp at h
theorem sliceBound_ok {k : IntKind} {i : Int} {y : Nat} {c : BoundsCode} (h : 0 ≤ i ∧ i ≤ y) (w : World) : (Instr.sliceBound (.int k i) y c).run P w = .ok i.toNat w := by
  simp [Instr.sliceBound, asIntOf, h]
theorem lowB_ok {h L : Nat} {l : Option Int} {low : Option Operand} {c : BoundsCode} (hl : BR low l A) (hb : lowB h l = some L) (w : World) : (match low.map A.eval with
    | some v => Instr.sliceBound v h c
    | none => (pure 0 : Sem Nat)).run P w = .ok L w ∧ L ≤ h := by
  cases l with
  | none =>
    cases low with
    | some x => exact hl.elim
    | none =>
      simp only [lowB, Option.some.injEq] at hb
      subst hb
      exact ⟨rfl, Nat.zero_le _⟩
  | some li =>
    cases low with
    | none => exact hl.elim
    | some x =>
      obtain ⟨k, e⟩ := hl
      simp only [lowB] at hb
      split at hb
      · rename_i hq
        simp only [Option.some.injEq] at hb
        subst hb
        refine ⟨?_, by omega⟩
        simp only [Option.map_some, e]
        exact sliceBound_ok hq w
      · simp at hb
theorem highB_ok {len lo cap H : Nat} {h : Option Int} {high : Option Operand} {c : BoundsCode} (hh : BR high h A) (hcap : lo ≤ cap) (hb : highB len lo h = some H) (w : World) : (match high.map A.eval with
    | some v => Instr.sliceBound v cap c
    | none => (pure len : Sem Nat)).run P w = .ok H w := by
  cases h with
  | none =>
    cases high with
    | some x => exact hh.elim
    | none =>
      simp only [highB, Option.some.injEq] at hb
      subst hb
      rfl
  | some hi =>
    cases high with
    | none => exact hh.elim
    | some x =>
      obtain ⟨k, e⟩ := hh
      simp only [highB] at hb
      split at hb
      · rename_i hq
        simp only [Option.some.injEq] at hb
        subst hb
        simp only [Option.map_some, e]
        exact sliceBound_ok ⟨hq.1, by omega⟩ w
      · simp at hb
theorem cutB_ok {isS : Bool} {len lo cap : Nat} {low high mx : Option Operand} {l h c : Option Int} {L H : Nat} {C : Option Nat} (hl : BR low l A) (hh : BR high h A) (hc : BR mx c A) (hcap : lo ≤ cap)
    (hb : cutB len lo l h c = some (L, H, C)) (w : World) : (Instr.sliceBounds isS len cap (low.map A.eval) (high.map A.eval) (mx.map A.eval)).run P w = .ok (L, H, C.getD cap) w ∧ L ≤ H := by
  unfold cutB at hb
  split at hb
  · rename_i ci hi
    cases mx with
    | none => exact hc.elim
    | some mx =>
      obtain ⟨kc, ec⟩ := hc
      cases high with
      | none => exact hh.elim
      | some high =>
        obtain ⟨kh, eh⟩ := hh
        split at hb
        · rename_i hq
          have b1 : 0 ≤ ci ∧ ci ≤ cap := ⟨hq.1, by omega⟩
          have b2 : 0 ≤ hi ∧ hi ≤ (ci.toNat : Nat) := ⟨hq.2.2.1, by omega⟩
          cases hw : lowB hi.toNat l with
          | none => rw [hw] at hb; simp at hb
          | some LL =>
            rw [hw] at hb
            simp only [Option.map_some, Option.some.injEq, Prod.mk.injEq] at hb
            obtain ⟨rfl, rfl, rfl⟩ := hb
            obtain ⟨k1, k2⟩ := lowB_ok (P := P) (c := .slice3C) hl hw w
            refine ⟨?_, k2⟩
            simp only [Instr.sliceBounds, Option.map_some, ec, eh, Option.isSome_some, if_true]
            simp only [Sem.run_bind, sliceBound_ok b1, sliceBound_ok b2, Result.andThen_ok, Sem.run_pure, Option.getD_some]
            cases hx : low.map A.eval with
            | none =>
              rw [hx] at k1
              simp only [Sem.run_pure, Result.ok.injEq, and_true] at k1
              subst k1
              simp only [Sem.run_bind, Sem.run_pure, Result.andThen_ok]
            | some v =>
              rw [hx] at k1
              simp only at k1
              simp only [Sem.run_bind, k1, Sem.run_pure, Result.andThen_ok]
        · simp at hb
  · simp at hb
  · cases mx with
    | some mx => exact hc.elim
    | none =>
      cases hv : highB len lo h with
      | none => rw [hv] at hb; simp at hb
      | some HH =>
        rw [hv] at hb
        simp only at hb
        cases hw : lowB HH l with
        | none => rw [hw] at hb; simp at hb
        | some LL =>
          rw [hw] at hb
          simp only [Option.map_some, Option.some.injEq, Prod.mk.injEq] at hb
          obtain ⟨rfl, rfl, rfl⟩ := hb
          have k0 := highB_ok (P := P) (c := if isS then .sliceAcap else .sliceAlen) hh hcap hv w
          obtain ⟨k1, k2⟩ := lowB_ok (P := P) (c := .sliceB) hl hw w
          refine ⟨?_, k2⟩
          simp only [Instr.sliceBounds, Option.map_none, Option.isSome_none, Bool.false_eq_true, if_false, Option.getD_none]
          cases hx : high.map A.eval with
          | none =>
            rw [hx] at k0
            simp only [Sem.run_pure, Result.ok.injEq, and_true] at k0
            subst k0
            simp only [Sem.run_bind, Sem.run_pure, Result.andThen_ok]
            cases hy : low.map A.eval with
            | none =>
              rw [hy] at k1
              simp only [Sem.run_pure, Result.ok.injEq, and_true] at k1
              subst k1
              simp only [Sem.run_bind, Sem.run_pure, Result.andThen_ok]
            | some v =>
              rw [hy] at k1
              simp only at k1
              simp only [Sem.run_bind, k1, Sem.run_pure, Result.andThen_ok]
          | some u =>
            rw [hx] at k0
            simp only at k0
            simp only [Sem.run_bind, k0, Sem.run_pure, Result.andThen_ok]
            cases hy : low.map A.eval with
            | none =>
              rw [hy] at k1
              simp only [Sem.run_pure, Result.ok.injEq, and_true] at k1
              subst k1
              simp only [Sem.run_bind, Sem.run_pure, Result.andThen_ok]
            | some v =>
              rw [hy] at k1
              simp only at k1
              simp only [Sem.run_bind, k1, Sem.run_pure, Result.andThen_ok]
end
end Go.Proofs.YtibdikihgdkfnaaGreatDoor.Ev
end
section
/- A reckoner, tenth part: slices cut and made, conversions. -/
namespace Go.Proofs.YtibdikihgdkfnaaGreatDoor.Ev
open Go.RowKit
set_option linter.unusedVariables false
set_option linter.unusedSimpArgs false
section
variable {P : Program} {E : Env} {B : Nat} {m : Mem} {w : World} {A : Act} {o : Oper} {ts : Fr}
theorem OpOk.slice {t : TypeId} {x : Operand} {low high mx : Option Operand} {l h c : Option Int} {a : Va} {r : Res} (hr : Rel E B m w) (ht : RT E ts A) (ho : o.op = .slice t x low high mx) (hx : evx ts x = some a)
    (hl : bound ts low = some l) (hh : bound ts high = some h) (hc : bound ts mx = some c) (hs : evSlice P t a l h c m = some r) : OpOk P E B m w A o r := by
  have hxR := evx_R ht hx
  have hl := bound_R ht hl
  have hh := bound_R ht hh
  have hc := bound_R ht hc
  unfold evSlice at hs
  split at hs
  · rename_i b off n e hu
    split at hs
    · rename_i ie L H C hi hcut
      simp only [Option.some.injEq] at hs
      subst hs
      obtain ⟨cb, co, hb, hxe⟩ := hxR
      obtain ⟨k1, k2⟩ := cutB_ok (P := P) (isS := false) (cap := n) hl hh hc (Nat.le_refl _) hcut w
      refine OpOk.same hr (v := .slice (some (if C.getD n = L then ⟨cb, co + off, none⟩ else (⟨cb, co + off, none⟩ : Addr).add (L * ie.size))) (H - L) (C.getD n - L)) ?_ ?_
      · simp [execOp, ho, hxe, Instr.sliceAt, Instr.sureAddr, run_underlying hu, k1, sizeOf, typeInfo, hi]
      · refine ⟨cb, co, 0, hb, rfl, ?_⟩
        by_cases hq : C.getD n = L
        · simp [hq]
        · simp [hq, Addr.add_mid, Nat.add_assoc]
    · simp at hs
  · rename_i b off len lo up e hu
    obtain ⟨cb, co, k, hb, hk, hxe⟩ := hxR
    have hrun : ∀ L H C ie, P.info? e = some ie → cutB len lo l h c = some (L, H, C) → (execOp A.eval o).run P w = .ok (.value (.slice (if C.getD (lo + k) = L then some ⟨cb, co + off, none⟩ else some ((⟨cb, co + off, none⟩ : Addr).add (L * ie.size))) (H - L) (C.getD (lo + k) - L))) w ∧ L ≤ H := fun L H C ie hi hcut => by
      obtain ⟨k1, k2⟩ := cutB_ok (P := P) (isS := true) (cap := lo + k) hl hh hc (Nat.le_add_right _ _) hcut w
      exact ⟨by simp [execOp, ho, hxe, Instr.sliceAt, Instr.slice, run_underlying hu, k1, sizeOf, typeInfo, hi], k2⟩
    split at hs
    · rename_i ie L H C hi hcut
      simp only [Option.some.injEq] at hs
      subst hs
      obtain ⟨k1, k2⟩ := hrun L H (some C) ie hi hcut
      refine OpOk.same hr k1 ⟨cb, co, 0, hb, rfl, ?_⟩
      simp only [Option.getD_some]
      by_cases hq : C = L
      · simp [hq]
      · simp [hq, Addr.add_mid, Nat.add_assoc]
    · rename_i ie L H hi hcut
      obtain ⟨k1, k2⟩ := hrun L H none ie hi hcut
      simp only [Option.getD_none] at k1
      split at hs
      · simp only [Option.some.injEq] at hs
        subst hs
        have hk0 : k = 0 := by simpa [Env.capOf] using hk.symm
        subst hk0
        refine OpOk.same hr k1 ⟨cb, co, 0, hb, rfl, ?_⟩
        simp only [Nat.add_zero]
        by_cases hq : lo = L
        · simp [hq]
        · simp [hq, Addr.add_mid, Nat.add_assoc]
      · rename_i u
        split at hs
        · rename_i h0
          simp only [Option.some.injEq] at hs
          subst hs
          subst h0
          refine OpOk.same hr k1 ⟨cb, co, k, hb, hk, ?_⟩
          by_cases hq : lo + k = 0
          · simp [hq]
          · simp [hq, Addr.add_mid]
        · rename_i h0
          split at hs
          · rename_i hlt
            simp only [Option.some.injEq] at hs
            subst hs
            refine OpOk.same hr k1 ⟨cb, co, k, hb, hk, ?_⟩
            have hq : ¬ lo + k = L := by omega
            simp only [hq, if_false, Addr.add_mid]
            congr 1
            · simp [Nat.add_assoc]
            · omega
          · simp at hs
    · simp at hs
  · simp at hs
theorem boundV_R (ht : RT E ts A) {x : Option Operand} {v : Option Value} (h : boundV ts x = some v) : x.map A.eval = v := by
  cases x with
  | none => simp only [boundV, Option.some.injEq] at h; subst h; rfl
  | some x =>
    simp only [boundV] at h
    cases hx : (evx ts x).bind litVa with
    | none => rw [hx] at h; simp at h
    | some u =>
      rw [hx] at h
      simp only [Option.map_some, Option.some.injEq] at h
      subst h
      rw [Option.map_some, lit_of ht hx]
theorem OpOk.sliceLit {t : TypeId} {x : Operand} {low high mx : Option Operand} {l h c : Option Value} {a : Va} {v : Value} {r : Res} (hr : Rel E B m w) (ht : RT E ts A) (ho : o.op = .slice t x low high mx) (hx : evx ts x = some a)
    (hl : boundV ts low = some l) (hh : boundV ts high = some h) (hc : boundV ts mx = some c) (hv : litVa a = some v) (hs : lit1 (pureRun P (Instr.sliceAt t v l h c)) m = some r) : OpOk P E B m w A o r := by
  refine OpOk.lit hr hs ?_
  rw [← litVa_eq hv (evx_R ht hx), ← boundV_R ht hl, ← boundV_R ht hh, ← boundV_R ht hc]
  simp [execOp, ho]
theorem OpOk.makeSlice {t : TypeId} {x y : Operand} {a b : Va} {r : Res} (hr : Rel E B m w) (ht : RT E ts A) (ho : o.op = .makeSlice t x y) (hx : evx ts x = some a) (hy : evx ts y = some b) (h : evMakeSlice P t a b m = some r) : OpOk P E B m w A o r := by
  have hxR := evx_R ht hx
  have hyR := evx_R ht hy
  unfold evMakeSlice at h
  split at h
  · rename_i kl l kc c e hu
    split at h
    · rename_i ie hi
      split at h
      · rename_i z hz
        split at h
        · rename_i hq
          obtain ⟨q1, q2, q3, q4⟩ := hq
          have e1 : A.eval x = .int kl l := hxR.2
          have e2 : A.eval y = .int kc c := hyR.2
          cases hcs : ofCells (madeCells z.cells (c.toNat * ie.size)).toList with
          | none => rw [hcs] at h; simp at h
          | some cs =>
            rw [hcs] at h
            simp only [Option.bind_some] at h
            cases ha : m.alloc (.cells ⟨cs, e, none, 0, true⟩) with
            | none => rw [ha] at h; simp at h
            | some p =>
              obtain ⟨b, m'⟩ := p
              rw [ha] at h
              simp only [Option.map_some, Option.some.injEq] at h
              subst h
              obtain ⟨h1, h2, h3, _, _⟩ := hr.alloc ha _ [] (ofCells_R _ _ hcs) 0 (0, 0) (fun _ => rfl) rfl (by simp)
              rw [List.append_nil] at h1 h2
              have hrun := run_make (P := P) w t e ie z hu hi hz kl kc l c q1 q2 q3 q4
              exact ⟨_, _, _, by simp [execOp, ho, e1, e2, hrun], h1, h2, ⟨_, _, 0, h3, rfl, rfl⟩⟩
        · simp at h
      · simp at h
    · simp at h
  · simp at h
end
end Go.Proofs.YtibdikihgdkfnaaGreatDoor.Ev
end
section
/- A reckoner, eleventh part: memory again: spare room, a block given up, a block that goes on. -/
namespace Go.Proofs.YtibdikihgdkfnaaGreatDoor.Ev
open Go.RowKit
set_option linter.unusedVariables false
set_option linter.unusedSimpArgs false
section
variable {P : Program} {E : Env} {B : Nat} {m : Mem} {w : World} {A : Act} {o : Oper} {ts : Fr}
theorem To.sameHeap {W : World} (hh : W.heap = w.heap) (hos : W.os = w.os ∧ W.tape = w.tape ∧ W.output = w.output) : To E m w E m W :=
  ⟨Env.Le.refl E, hos.1, hos.2.1, hos.2.2, by rw [hh]; exact Nat.le_refl _, fun _ _ h => h, fun _ _ _ => by rw [hh], Nat.le_refl _, ⟨[], rfl, fun _ _ _ => ⟨rfl, fun _ _ _ _ _ => by rw [hh]⟩⟩⟩
theorem Rel.sameHeap {W : World} (hr : Rel E B m w) (hh : W.heap = w.heap) : Rel E B m W :=
  ⟨fun b x hb => by
    obtain ⟨cb, co, h1, h2, h3⟩ := hr.blk b x hb
    exact ⟨cb, co, h1, h2, h3.le (Env.Le.refl E) (by rw [hh])⟩, hr.inj, hr.freshB, hr.freshC, hr.freshH, by rw [hh]; exact hr.base⟩
def Env.withC (E : Env) (n k : Nat) : Env := { E with cap := fun i => if i = n then some k else E.cap i }
theorem Env.withC_le {E : Env} {n k : Nat} (h : E.cap n = none) : Env.Le E (E.withC n k) :=
  ⟨fun _ _ q => q, fun b x q => by
    by_cases hb : b = n
    · subst hb; rw [h] at q; cases q
    · simp only [Env.withC, if_neg hb]; exact q, fun _ _ q => q⟩
theorem Env.withC_at (E : Env) (n k : Nat) : (E.withC n k).capOf (some n) = some k := by simp [Env.withC, Env.capOf]
/-- One more letter for spare room. -/
theorem Rel.room (hr : Rel E B m w) (k : Nat) : To E m w (E.withC m.ncap k) { m with ncap := m.ncap + 1 } w ∧ Rel (E.withC m.ncap k) B { m with ncap := m.ncap + 1 } w := by
  have hle := Env.withC_le (k := k) (hr.freshC _ (Nat.le_refl _))
  refine ⟨⟨hle, rfl, rfl, rfl, Nat.le_refl _, fun _ _ h => h, fun _ _ _ => rfl, Nat.le_refl _, ⟨[], rfl, fun _ _ _ => ⟨rfl, fun _ _ _ _ _ => rfl⟩⟩⟩, ⟨fun b x hb => ?_, hr.inj, hr.freshB, fun i hi => ?_, hr.freshH, hr.base⟩⟩
  · obtain ⟨cb, co, h1, h2, h3⟩ := hr.blk b x hb
    exact ⟨cb, co, h1, h2, h3.le hle rfl⟩
  · show (if i = m.ncap then some k else E.cap i) = none
    rw [if_neg (by simp only at hi; omega)]
    exact hr.freshC i (by simp only at hi; omega)
/-- A block is given up. -/
theorem Rel.drop {m' : Mem} {b : Nat} (hr : Rel E B m w) (h : m.drop b = some m') : To E m w E m' w ∧ Rel E B m' w ∧ (∀ c, m'.get c = if c = b then none else m.get c) ∧ m'.ncap = m.ncap ∧ m'.next = m.next := by
  unfold Mem.drop at h
  cases hp : Tr.put none 64 m.t b with
  | none => rw [hp] at h; simp at h
  | some t =>
    rw [hp] at h
    simp only [Option.map_some, Option.some.injEq] at h
    subst h
    have hget := Tr.put_get 64 m.t b t hp
    have hsub : ∀ c x, t.get c = some x → m.get c = some x := fun c x hx => by
      rw [hget] at hx
      by_cases hc : c = b
      · rw [if_pos hc] at hx; cases hx
      · rw [if_neg hc] at hx; exact hx
    refine ⟨⟨Env.Le.refl E, rfl, rfl, rfl, Nat.le_refl _, ?_, fun _ _ _ => rfl, Nat.le_refl _, ⟨[b], rfl, ?_⟩⟩, ⟨?_, ?_, hr.freshB, hr.freshC, hr.freshH, hr.base⟩, fun c => hget c, rfl, rfl⟩
    · rintro k _ ⟨c, x, co, h1, h2⟩
      exact ⟨c, x, co, hsub c x h1, h2⟩
    · intro c _ hc
      refine ⟨?_, fun _ _ _ _ _ => rfl⟩
      show t.get c = _
      rw [hget, if_neg (by simpa using hc)]; rfl
    · intro c x hx
      exact hr.blk c x (hsub c x hx)
    · intro c c' x x' cb co co' h1 h2 h3 h4
      exact hr.inj c c' x x' cb co co' (hsub c x h1) (hsub c' x' h2) h3 h4
/-- A block goes on under another number, its world's block turned. -/
theorem Rel.adopt {m1 m2 m' : Mem} {W : World} {b r cb co co' : Nat} {xb x : Bl} {k : Nat} (hr : Rel E B m w) (hg : m.get b = some xb) (hb : E.blk b = some (cb, co)) (hd : m.drop b = some m1) (hm2 : m2 = { m1 with ncap := m1.ncap + 1 }) (ha : m2.alloc x = some (r, m'))
    (hheap : ∀ k, k ≠ cb → W.heap[k]? = w.heap[k]?) (hsize : W.heap.size = w.heap.size) (hos : W.os = w.os ∧ W.tape = w.tape ∧ W.output = w.output)
    (hx : ∀ F, Env.Le (E.withC m.ncap k) F → BlR F x cb co' W) :
    ∃ F, To E m w F m' W ∧ Rel F B m' W ∧ F.blk r = some (cb, co') ∧ F.capOf (some m.ncap) = some k := by
  obtain ⟨d1, d2, d3, d4, d5⟩ := hr.drop hd
  obtain ⟨r1, r2⟩ := d2.room k
  rw [← hm2, d4] at r1 r2
  have hcb : ∃ co, B ≤ cb ∧ BlR E xb cb co w := by
    obtain ⟨cb', co', h1, h2, h3⟩ := hr.blk b xb hg
    rw [hb] at h1
    simp only [Option.some.injEq, Prod.mk.injEq] at h1
    obtain ⟨rfl, rfl⟩ := h1
    exact ⟨_, h2, h3⟩
  obtain ⟨_, hB, hbl⟩ := hcb
  have hnot : ∀ c y co, m2.get c = some y → E.blk c ≠ some (cb, co) := fun c y co hc he => by
    have hc' : m1.get c = some y := by rw [hm2] at hc; exact hc
    rw [d3] at hc'
    by_cases hcb : c = b
    · rw [if_pos hcb] at hc'; cases hc'
    · rw [if_neg hcb] at hc'; exact hcb (hr.inj c b y xb cb co _ hc' hg he hb)
  unfold Mem.alloc at ha
  cases hp : Tr.put (some x) 64 m2.t m2.next with
  | none => rw [hp] at ha; simp at ha
  | some t =>
    rw [hp] at ha
    simp only [Option.map_some, Option.some.injEq, Prod.mk.injEq] at ha
    obtain ⟨rfl, rfl⟩ := ha
    have hget := Tr.put_get 64 m2.t m2.next t hp
    have hgn : ∀ c, ({ m2 with t := t, next := m2.next + 1 } : Mem).get c = if c = m2.next then some x else m2.get c := fun c => hget c
    have hle2 : Env.Le (E.withC m.ncap k) ((E.withC m.ncap k).withB m2.next cb co') := Env.withB_le (r2.freshB _ (Nat.le_refl _))
    have hle : Env.Le E ((E.withC m.ncap k).withB m2.next cb co') := r1.le.trans hle2
    have hnew : ((E.withC m.ncap k).withB m2.next cb co').blk m2.next = some (cb, co') := by simp [Env.withB]
    have hold : ∀ c, c ≠ m2.next → ((E.withC m.ncap k).withB m2.next cb co').blk c = E.blk c := fun c hc => by simp [Env.withB, hc, Env.withC]
    have hnext : m2.next = m.next := by rw [hm2]; exact d5
    refine ⟨_, ⟨hle, hos.1, hos.2.1, hos.2.2, Nat.le_of_eq hsize.symm, ?_, ?_, by simp only [hnext]; omega, ?_⟩, ⟨?_, ?_, ?_, ?_, ?_, hsize ▸ hr.base⟩, hnew, hle2.capOf (Env.withC_at E m.ncap k)⟩
    · rintro q _ ⟨c, y, cq, h1, h2⟩
      rw [hgn] at h1
      by_cases hc : c = m2.next
      · subst hc
        rw [hnew] at h2
        simp only [Option.some.injEq, Prod.mk.injEq] at h2
        exact ⟨b, xb, co, hg, by rw [← h2.1]; exact hb⟩
      · rw [if_neg hc] at h1
        rw [hold c hc] at h2
        have h1' : m1.get c = some y := by rw [hm2] at h1; exact h1
        rw [d3] at h1'
        by_cases hcb : c = b
        · rw [if_pos hcb] at h1'; cases h1'
        · rw [if_neg hcb] at h1'; exact ⟨c, y, cq, h1', h2⟩
    · intro q hq hn
      refine hheap q ?_
      rintro rfl
      exact hn ⟨b, xb, co, hg, hb⟩
    · obtain ⟨nw, k1, k2⟩ := d1.keep
      refine ⟨nw, ?_, fun c hc hcn => ?_⟩
      · show m2.wl = _
        rw [hm2]; exact k1
      · obtain ⟨k3, k4⟩ := k2 c hc hcn
        have h1 : m2.get c = m1.get c := by rw [hm2]; rfl
        refine ⟨by rw [hgn, if_neg (by omega), h1]; exact k3, fun z q cq e1 e2 => hheap q (fun he => ?_)⟩
        have e3 := hr.inj c b z xb q cq co e1 hg e2 (he ▸ hb)
        rw [e3, d3, if_pos rfl, hg] at k3
        cases k3
    · intro c y hy
      rw [hgn] at hy
      by_cases hc : c = m2.next
      · subst hc
        rw [if_pos rfl] at hy
        simp only [Option.some.injEq] at hy
        subst hy
        exact ⟨cb, co', hnew, hB, hx _ hle2⟩
      · rw [if_neg hc] at hy
        obtain ⟨cb2, co2, h1, h2, h3⟩ := r2.blk c y hy
        have h1' : E.blk c = some (cb2, co2) := h1
        have hne : cb2 ≠ cb := fun he => hnot c y co2 hy (he ▸ h1')
        exact ⟨cb2, co2, (hold c hc).trans h1', h2, h3.le hle2 (hheap _ hne)⟩
    · intro c c' y y' q q1 q2 hy hy' h1 h2
      rw [hgn] at hy hy'
      by_cases hc : c = m2.next
      · by_cases hc' : c' = m2.next
        · rw [hc, hc']
        · rw [if_neg hc'] at hy'
          rw [hold c' hc'] at h2
          rw [hc, hnew] at h1
          simp only [Option.some.injEq, Prod.mk.injEq] at h1
          exact absurd (by rw [h1.1]; exact h2) (hnot c' y' q2 hy')
      · rw [if_neg hc] at hy
        rw [hold c hc] at h1
        by_cases hc' : c' = m2.next
        · rw [hc', hnew] at h2
          simp only [Option.some.injEq, Prod.mk.injEq] at h2
          exact absurd (by rw [h2.1]; exact h1) (hnot c y q1 hy)
        · rw [if_neg hc'] at hy'
          rw [hold c' hc'] at h2
          exact r2.inj c c' y y' q q1 q2 hy hy' h1 h2
    · intro c hc
      have hc : m2.next + 1 ≤ c := hc
      rw [hold c (by omega)]
      exact hr.freshB c (by omega)
    · intro i hi
      exact r2.freshC i hi
    · intro i hi
      exact r2.freshH i hi
end
end Go.Proofs.YtibdikihgdkfnaaGreatDoor.Ev
end
