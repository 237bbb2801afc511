/- The evaluator of the model's code over an abstract heap, and that it tells right: part 3 of 3.
   Conditions: none. -/
import Derived.Test.YtegmeohmkmjbhaaGreatDoorQEvB
import Derived.IntWalk
import Derived.Attr
import Derived.ChangeSame
import Derived.ChangeVars
import Derived.WideShapes
import Derived.DataReads
import Derived.Deep.Slices
import Derived.Deep.Strs
import Derived.ChangeArms
/- Code made ready: its regions planned, its loops run without a bound; what it answers, the evaluator answers. Conditions: none. -/
set_option linter.unusedVariables false
set_option linter.unusedSimpArgs false
set_option linter.unnecessarySimpa false
namespace Go.Ev

inductive C2 where
  | skip
  | ops (l : List POp)
  | seq (a b : C2)
  | cond (c : Operand) (a b : C2)
  | block (id : Nat) (b : C2)
  | loop (b : C2)
  | exit (id : Nat)
  | ret
  | range (f : Operand) (ps : List Tmp) (a b : Code)

def comp : Code → Option C2
  | .skip => some .skip
  | .label _ => some .skip
  | .seq a b => (comp a).bind fun a => (comp b).map fun b => .seq a b
  | .cond c a b => (comp a).bind fun a => (comp b).map fun b => .cond c a b
  | .block id b => (comp b).map fun b => .block id b
  | .loop b => (comp b).map fun b => .loop b
  | .exit id => some (.exit id)
  | .ret => some .ret
  | .scope b => comp b
  | .region _ ops draw => (plan ops.toList draw).map .ops
  | .rangeFunc f ps a b => some (.range f ps.toList a b)
  | .goto _ => none
  | .refuse _ => none

/-- One of two, by a test. -/
def branch {β : Type} (t : Bool) (a b : Option β) : Option β := match t with
  | true => a
  | false => b

variable (P : Program) (X : Xt)

abbrev Ih2 := C2 → St → Option (AExit × St)

noncomputable def evC2 (rnd : Option Nat) (nt : Nat) (ih : Ih2) : C2 → St → Option (AExit × St)
  | .skip => fun s => some (.normal, s)
  | .ops l => fun s => (evOps P X (evω P X) nt l s.tm s.K).map fun r => (.normal, { tm := r.1, K := r.2, marks := s.marks })
  | .seq a b => fun s => (evC2 rnd nt ih a s).bind (andThen (evC2 rnd nt ih b))
  | .cond c a b => fun s => ((opv P c s.tm).bind condOf).bind fun t => branch t (evC2 rnd nt ih a s) (evC2 rnd nt ih b s)
  | .block id b => fun s => (evC2 rnd nt ih b s).map (blockExit id)
  | .loop b => fun s => (evC2 rnd nt ih b s).bind (andThen (ih (.loop b)))
  | .exit id => fun s => some (.exit id, s)
  | .ret => fun s => some (.ret, s)
  | .range f ps a b => fun s => evRange P X (evω P X) rnd nt f ps a b s

noncomputable def ev2 (rnd : Option Nat) (nt : Nat) : Nat → Ih2
  | 0 => fun _ _ => none
  | n + 1 => fun c s => evC2 P X rnd nt (ev2 rnd nt n) c s

variable {P X}

theorem ev2_ok {rnd : Option Nat} {nt : Nat} (n : Nat) : ∀ (c : Code) (c2 : C2), comp c = some c2 → ∀ s r, ev2 P X rnd nt n c2 s = some r → evω P X rnd nt c s = some r := by
  induction n with
  | zero => intro c c2 _ s r h; cases h
  | succ n ihn =>
    have key : ∀ (c : Code) (c2 : C2), comp c = some c2 → ∀ s r, evC2 P X rnd nt (ev2 P X rnd nt n) c2 s = some r → evCode P X (evω P X) rnd nt c s = some r := by
      intro c
      induction c with
      | skip => intro c2 hc s r h; cases hc; exact h
      | label l => intro c2 hc s r h; cases hc; exact h
      | exit id => intro c2 hc s r h; cases hc; exact h
      | ret => intro c2 hc s r h; cases hc; exact h
      | goto l => intro c2 hc; cases hc
      | refuse w => intro c2 hc; cases hc
      | seq a b iha ihb =>
        intro c2 hc s r h
        simp only [comp] at hc
        obtain ⟨a2, ha, hc⟩ := bind_some.1 hc
        obtain ⟨b2, hb, rfl⟩ := map_some.1 hc
        simp only [evC2] at h
        obtain ⟨⟨e, s1⟩, h1, h2⟩ := bind_some.1 h
        refine bind_some.2 ⟨_, iha a2 ha s _ h1, ?_⟩
        cases e with
        | normal => exact ihb b2 hb s1 r h2
        | exit id => exact h2
        | ret => exact h2
      | cond t a b iha ihb =>
        intro c2 hc s r h
        simp only [comp] at hc
        obtain ⟨a2, ha, hc⟩ := bind_some.1 hc
        obtain ⟨b2, hb, rfl⟩ := map_some.1 hc
        simp only [evC2] at h
        obtain ⟨t, h1, h2⟩ := bind_some.1 h
        simp only [evCode]
        refine bind_some.2 ⟨t, h1, ?_⟩
        cases t with
        | true => exact iha a2 ha s r h2
        | false => exact ihb b2 hb s r h2
      | block id b ih =>
        intro c2 hc s r h
        simp only [comp] at hc
        obtain ⟨b2, hb, rfl⟩ := map_some.1 hc
        simp only [evC2] at h
        obtain ⟨q, h1, h2⟩ := map_some.1 h
        exact map_some.2 ⟨q, ih b2 hb s q h1, h2⟩
      | scope b ih => intro c2 hc s r h; exact ih c2 hc s r h
      | loop b ih =>
        intro c2 hc s r h
        simp only [comp] at hc
        obtain ⟨b2, hb, rfl⟩ := map_some.1 hc
        simp only [evC2] at h
        obtain ⟨⟨e, s1⟩, h1, h2⟩ := bind_some.1 h
        refine bind_some.2 ⟨_, ih b2 hb s _ h1, ?_⟩
        cases e with
        | normal => exact ihn (.loop b) (.loop b2) (by simp only [comp, hb, Option.map_some]) s1 r h2
        | exit id => exact h2
        | ret => exact h2
      | region id ops draw =>
        intro c2 hc s r h
        simp only [comp] at hc
        obtain ⟨l, hl, rfl⟩ := map_some.1 hc
        simp only [evC2] at h
        exact bind_some.2 ⟨l, hl, h⟩
      | rangeFunc f ps a b _ _ =>
        intro c2 hc s r h
        cases hc
        exact h
    intro c c2 hc s r h
    rw [evω_eq]
    exact key c c2 hc s r h

theorem ev2_mono1 {rnd : Option Nat} {nt : Nat} (n : Nat) : ∀ (c : C2) s r, ev2 P X rnd nt n c s = some r → ev2 P X rnd nt (n + 1) c s = some r := by
  induction n with
  | zero => intro c s r h; cases h
  | succ n ihn =>
    intro c
    show ∀ s r, evC2 P X rnd nt (ev2 P X rnd nt n) c s = some r → evC2 P X rnd nt (ev2 P X rnd nt (n + 1)) c s = some r
    induction c with
    | skip => intro s r h; exact h
    | ops l => intro s r h; exact h
    | exit id => intro s r h; exact h
    | ret => intro s r h; exact h
    | range f ps a b => intro s r h; exact h
    | seq a b iha ihb =>
      intro s r h
      obtain ⟨⟨e, s1⟩, h1, h2⟩ := bind_some.1 h
      refine bind_some.2 ⟨_, iha s _ h1, ?_⟩
      cases e with
      | normal => exact ihb s1 r h2
      | exit id => exact h2
      | ret => exact h2
    | cond t a b iha ihb =>
      intro s r h
      obtain ⟨t, h1, h2⟩ := bind_some.1 h
      refine bind_some.2 ⟨t, h1, ?_⟩
      cases t with
      | true => exact iha s r h2
      | false => exact ihb s r h2
    | block id b ih =>
      intro s r h
      obtain ⟨q, h1, h2⟩ := map_some.1 h
      exact map_some.2 ⟨q, ih s q h1, h2⟩
    | loop b ih =>
      intro s r h
      obtain ⟨⟨e, s1⟩, h1, h2⟩ := bind_some.1 h
      refine bind_some.2 ⟨_, ih s _ h1, ?_⟩
      cases e with
      | normal => exact ihn (.loop b) s1 r h2
      | exit id => exact h2
      | ret => exact h2

theorem ev2_le {rnd : Option Nat} {nt : Nat} {n : Nat} {c : C2} {s : St} {r : AExit × St} (h : ev2 P X rnd nt n c s = some r) : ∀ d, ev2 P X rnd nt (n + d) c s = some r
  | 0 => h
  | d + 1 => ev2_mono1 (n + d) c s r (ev2_le h d)

open Classical in
/-- CODE MADE READY, ITS LOOPS WITHOUT A BOUND. -/
noncomputable def run2 (P : Program) (X : Xt) (rnd : Option Nat) (nt : Nat) : Ih2 := fun c s => if h : ∃ r n, ev2 P X rnd nt n c s = some r then some (Classical.choose h) else none

theorem run2_of {rnd : Option Nat} {nt n : Nat} {c : C2} {s : St} {r : AExit × St} (h : ev2 P X rnd nt n c s = some r) : run2 P X rnd nt c s = some r := by
  have hx : ∃ r n, ev2 P X rnd nt n c s = some r := ⟨r, n, h⟩
  unfold run2
  rw [dif_pos hx]
  obtain ⟨m, hm⟩ := Classical.choose_spec hx
  have h1 := ev2_le h m
  have h2 := ev2_le hm n
  rw [Nat.add_comm, h1] at h2
  exact h2.symm

theorem run2_some {rnd : Option Nat} {nt : Nat} {c : C2} {s : St} {r : AExit × St} (h : run2 P X rnd nt c s = some r) : ∃ n, ev2 P X rnd nt n c s = some r := by
  unfold run2 at h
  split at h
  · rename_i hx
    cases h
    exact Classical.choose_spec hx
  · cases h

theorem run2_ok {rnd : Option Nat} {nt : Nat} {c : Code} {c2 : C2} (hc : comp c = some c2) {s : St} {r : AExit × St} (h : run2 P X rnd nt c2 s = some r) : evω P X rnd nt c s = some r := by
  obtain ⟨n, hn⟩ := run2_some h
  exact ev2_ok n c c2 hc s r hn

/-- What is answered with the unbounded loops is answered with bounded ones. -/
theorem evC2_fin {rnd : Option Nat} {nt : Nat} : ∀ (c : C2) (s : St) (r : AExit × St), evC2 P X rnd nt (run2 P X rnd nt) c s = some r → ∃ n, evC2 P X rnd nt (ev2 P X rnd nt n) c s = some r := by
  have up : ∀ {c : C2} {s : St} {r : AExit × St} {n : Nat} (d : Nat), evC2 P X rnd nt (ev2 P X rnd nt n) c s = some r → evC2 P X rnd nt (ev2 P X rnd nt (n + d)) c s = some r := fun {c s r n} d h => by
    have : ev2 P X rnd nt (n + 1) c s = some r := h
    have h2 := ev2_le this d
    rw [Nat.add_right_comm] at h2
    exact h2
  intro c
  induction c with
  | skip => intro s r h; exact ⟨0, h⟩
  | ops l => intro s r h; exact ⟨0, h⟩
  | exit id => intro s r h; exact ⟨0, h⟩
  | ret => intro s r h; exact ⟨0, h⟩
  | range f ps a b => intro s r h; exact ⟨0, h⟩
  | seq a b iha ihb =>
    intro s r h
    obtain ⟨⟨e, s1⟩, h1, h2⟩ := bind_some.1 h
    obtain ⟨n, hn⟩ := iha s _ h1
    cases e with
    | normal =>
      obtain ⟨m, hm⟩ := ihb s1 r h2
      refine ⟨n + m, bind_some.2 ⟨_, up m hn, ?_⟩⟩
      have := up n hm
      rw [Nat.add_comm] at this
      exact this
    | exit id => exact ⟨n, bind_some.2 ⟨_, hn, h2⟩⟩
    | ret => exact ⟨n, bind_some.2 ⟨_, hn, h2⟩⟩
  | cond t a b iha ihb =>
    intro s r h
    obtain ⟨t, h1, h2⟩ := bind_some.1 h
    cases t with
    | true => obtain ⟨n, hn⟩ := iha s r h2; exact ⟨n, bind_some.2 ⟨_, h1, hn⟩⟩
    | false => obtain ⟨n, hn⟩ := ihb s r h2; exact ⟨n, bind_some.2 ⟨_, h1, hn⟩⟩
  | block id b ih =>
    intro s r h
    obtain ⟨q, h1, h2⟩ := map_some.1 h
    obtain ⟨n, hn⟩ := ih s q h1
    exact ⟨n, map_some.2 ⟨q, hn, h2⟩⟩
  | loop b ih =>
    intro s r h
    obtain ⟨⟨e, s1⟩, h1, h2⟩ := bind_some.1 h
    obtain ⟨n, hn⟩ := ih s _ h1
    cases e with
    | normal =>
      obtain ⟨m, hm⟩ := run2_some h2
      refine ⟨n + m, bind_some.2 ⟨_, up m hn, ?_⟩⟩
      have := ev2_le hm n
      rw [Nat.add_comm] at this
      exact this
    | exit id => exact ⟨n, bind_some.2 ⟨_, hn, h2⟩⟩
    | ret => exact ⟨n, bind_some.2 ⟨_, hn, h2⟩⟩

/-- IT UNFOLDS. -/
theorem run2_eq {rnd : Option Nat} {nt : Nat} {c : C2} {s : St} : run2 P X rnd nt c s = evC2 P X rnd nt (run2 P X rnd nt) c s := by
  have lim : ∀ (c : C2) (n : Nat) (s : St) (r : AExit × St), evC2 P X rnd nt (ev2 P X rnd nt n) c s = some r → evC2 P X rnd nt (run2 P X rnd nt) c s = some r := by
    intro c n
    induction c with
    | skip => intro s r h; exact h
    | ops l => intro s r h; exact h
    | exit id => intro s r h; exact h
    | ret => intro s r h; exact h
    | range f ps a b => intro s r h; exact h
    | seq a b iha ihb =>
      intro s r h
      obtain ⟨⟨e, s1⟩, h1, h2⟩ := bind_some.1 h
      refine bind_some.2 ⟨_, iha s _ h1, ?_⟩
      cases e with
      | normal => exact ihb s1 r h2
      | exit id => exact h2
      | ret => exact h2
    | cond t a b iha ihb =>
      intro s r h
      obtain ⟨t, h1, h2⟩ := bind_some.1 h
      refine bind_some.2 ⟨t, h1, ?_⟩
      cases t with
      | true => exact iha s r h2
      | false => exact ihb s r h2
    | block id b ih =>
      intro s r h
      obtain ⟨q, h1, h2⟩ := map_some.1 h
      exact map_some.2 ⟨q, ih s q h1, h2⟩
    | loop b ih =>
      intro s r h
      obtain ⟨⟨e, s1⟩, h1, h2⟩ := bind_some.1 h
      refine bind_some.2 ⟨_, ih s _ h1, ?_⟩
      cases e with
      | normal => exact run2_of h2
      | exit id => exact h2
      | ret => exact h2
  have key : ∀ r, run2 P X rnd nt c s = some r ↔ evC2 P X rnd nt (run2 P X rnd nt) c s = some r := fun r => by
    constructor
    · intro h
      obtain ⟨n, hn⟩ := run2_some h
      cases n with
      | zero => cases hn
      | succ n => exact lim c n s r hn
    · intro h
      obtain ⟨n, hn⟩ := evC2_fin c s r h
      exact run2_of (n := n + 1) hn
  cases h : run2 P X rnd nt c s with
  | some r => exact ((key r).1 h).symm
  | none =>
    cases h2 : evC2 P X rnd nt (run2 P X rnd nt) c s with
    | none => rfl
    | some r => rw [(key r).2 h2] at h; cases h

end Go.Ev

/- The evaluator's steps as rules for a walk over unknown values: one rule an operation. Conditions: none. -/
set_option linter.unusedVariables false
set_option linter.unusedSimpArgs false
set_option linter.unnecessarySimpa false
namespace Go.Ev
universe u

/-- An equation that is not told as one by computation (so it can serve as a side condition). -/
theorem nrfl {α : Type} {a b : α} (h : a = b) : a = b := h

/-- What simp leaves as it is. -/
class Tag {α : Sort u} (a : α) : Type where
instance {α : Sort u} (a : α) : Tag a := {}

/-- It answers, and the answer is such. -/
def Sat {α : Type} (o : Option α) (Q : α → Prop) [Tag Q] : Prop := ∃ r, o = some r ∧ Q r

theorem Sat.mono {α : Type} {o : Option α} {Q R : α → Prop} (h : Sat o Q) (k : ∀ r, Q r → R r) : Sat o R := let ⟨r, a, b⟩ := h; ⟨r, a, k r b⟩
@[go_sem] theorem sat_some {α : Type} {x : α} {Q : α → Prop} : Sat (some x) Q = Q x := by
  apply propext; constructor
  · rintro ⟨r, h, q⟩; cases h; exact q
  · intro h; exact ⟨x, rfl, h⟩
@[go_sem] theorem sat_bind {α β : Type} {o : Option α} {f : α → Option β} {Q : β → Prop} : Sat (o.bind f) Q = Sat o fun x => Sat (f x) Q := by
  apply propext; constructor
  · rintro ⟨r, h, q⟩; obtain ⟨x, a, b⟩ := bind_some.1 h; exact ⟨x, a, r, b, q⟩
  · rintro ⟨x, a, r, b, q⟩; exact ⟨r, bind_some.2 ⟨x, a, b⟩, q⟩
@[go_sem] theorem sat_map {α β : Type} {o : Option α} {f : α → β} {Q : β → Prop} : Sat (o.map f) Q = Sat o fun x => Q (f x) := by
  apply propext; constructor
  · rintro ⟨r, h, q⟩; obtain ⟨x, a, rfl⟩ := map_some.1 h; exact ⟨x, a, q⟩
  · rintro ⟨x, a, q⟩; exact ⟨f x, map_some.2 ⟨x, a, rfl⟩, q⟩
/-- A guard is to be shown. -/
def Must (b : Prop) (A : Prop) [Tag A] : Prop := b ∧ A
theorem Must.of {b A : Prop} (h : b) (k : A) : Must b A := ⟨h, k⟩
@[go_sem] theorem must_true {A : Prop} : Must True A = A := by simp [Must]
@[go_sem] theorem sat_guard {β : Type} {b : Bool} {o : Option β} {Q : β → Prop} : Sat (guardO b o) Q = Must (b = true) (Sat o Q) := by
  cases b <;> simp [guardO, Sat, Must]

/-- The same, without the marks: for the proofs of the rules. -/
def SatU {α : Type} (o : Option α) (Q : α → Prop) : Prop := ∃ r, o = some r ∧ Q r
theorem sat_un {α : Type} {o : Option α} {Q : α → Prop} : Sat o Q = SatU o Q := nrfl rfl
theorem must_un {b A : Prop} : Must b A = (b ∧ A) := nrfl rfl
theorem satU_some {α : Type} {x : α} {Q : α → Prop} : SatU (some x) Q = Q x := sat_some
theorem satU_bind {α β : Type} {o : Option α} {f : α → Option β} {Q : β → Prop} : SatU (o.bind f) Q = SatU o fun x => SatU (f x) Q := sat_bind
theorem satU_map {α β : Type} {o : Option α} {f : α → β} {Q : β → Prop} : SatU (o.map f) Q = SatU o fun x => Q (f x) := sat_map
theorem satU_guard {β : Type} {b : Bool} {o : Option β} {Q : β → Prop} : SatU (guardO b o) Q = (b = true ∧ SatU o Q) := sat_guard

/-- One of two ways, by a test. -/
def Fork (t : Bool) (A B : Prop) [Tag A] [Tag B] : Prop := (t = true → A) ∧ (t = false → B)
theorem Fork.of {t : Bool} {A B : Prop} (a : t = true → A) (b : t = false → B) : Fork t A B := ⟨a, b⟩
@[go_sem] theorem fork_true {A B : Prop} : Fork true A B = A := by simp [Fork]
@[go_sem] theorem fork_false {A B : Prop} : Fork false A B = B := by simp [Fork]

@[go_sem] theorem sat_branch {β : Type} {t : Bool} {a b : Option β} {Q : β → Prop} : Sat (branch t a b) Q = Fork t (Sat a Q) (Sat b Q) := by
  cases t <;> simp [branch, Fork]

theorem Fork.dec {p : Prop} [Decidable p] {A B : Prop} (a : p → A) (b : ¬ p → B) : Fork (decide p) A B := ⟨fun h => a (of_decide_eq_true h), fun h => b (of_decide_eq_false h)⟩
theorem Fork.ndec {p : Prop} [Decidable p] {A B : Prop} (a : ¬ p → A) (b : p → B) : Fork (!decide p) A B := ⟨fun h => a (by simpa using h), fun h => b (by simpa using h)⟩
@[go_sem] theorem dec_true [Decidable True] : decide True = true := by simp
@[go_sem] theorem dec_false [Decidable False] : decide False = false := by simp
@[go_sem] theorem ite_t {α : Sort _} [Decidable True] {a b : α} : (if True then a else b) = a := by simp
@[go_sem] theorem ite_f {α : Sort _} [Decidable False] {a b : α} : (if False then a else b) = b := by simp
@[go_sem] theorem not_t : (!true) = false := rfl
@[go_sem] theorem not_f : (!false) = true := rfl

/-! ### Slots -/
@[go_sem] theorem get_put {v : Value} {t : T Value} {k j : Nat} : (t.put k v).get j = if j = k then some v else t.get j := T.get_put' v t k j
theorem get_e {j : Nat} : (T.e : T Value).get j = none := rfl

section
variable {P : Program} {X : Xt} {rnd : Option Nat} {nt : Nat}

/-- A slot is written. -/
def WPut (nt : Nat) (dst : Option Tmp) (v : Value) (tm : T Value) (Q : T Value → Prop) [Tag Q] : Prop := Sat (put nt tm dst v) Q
@[go_sem] theorem wput_none {v : Value} {tm : T Value} {Q : T Value → Prop} : WPut nt none v tm Q = Q tm := by simp [WPut, put, sat_some]
@[go_sem] theorem wput_some {d : Nat} {v : Value} {tm : T Value} {Q : T Value → Prop} : WPut nt (some d) v tm Q = Must (d < nt ∧ d < 1099511627776) (Q (tm.put d v)) := by
  simp -dsimp only [WPut, put, sat_un, must_un, satU_guard, sat_un, satU_some]
  congr 1
  rw [Bool.and_eq_true, blt_tt, blt_tt]
  rfl

/-! ### Operations -/
def WOp (P : Program) (X : Xt) (op : Op) (tm : T Value) (K : AHeap) (Q : Value → AHeap → Prop) [Tag Q] : Prop := Sat (evOper P X (evω P X) tm K op) fun p => Q p.1 p.2

/-- An operand's value. -/
def WV (P : Program) (x : Operand) (tm : T Value) (Q : Value → Prop) [Tag Q] : Prop := Sat (opv P x tm) Q
@[go_sem] theorem wv_tmp {t : Nat} {tm : T Value} {Q : Value → Prop} : WV P (.tmp t) tm Q = Sat (tm.get t) Q := rfl
@[go_sem] theorem wv_const {v : Value} {tm : T Value} {Q : Value → Prop} : WV P (.const v) tm Q = Must (grnd v = true) (Q v) := by simp -dsimp only [WV, opv, sat_un, must_un, satU_guard, sat_un, satU_some]
@[go_sem] theorem wv_func {f : FuncId} {tm : T Value} {Q : Value → Prop} : WV P (.func f) tm Q = Q (.func (.func f) #[] #[]) := by simp -dsimp only [WV, opv, sat_un, satU_some]
@[go_sem] theorem wv_global {g : Nat} {tm : T Value} {Q : Value → Prop} : WV P (.global g) tm Q = Must (Nat.blt g P.globals.size = true) (Q (.pointer (some ⟨g, 0, none⟩))) := by simp -dsimp only [WV, opv, sat_un, must_un, satU_guard, sat_un, satU_some]

/-- The values of operands. -/
def WVs (P : Program) (l : List Operand) (tm : T Value) (Q : List Value → Prop) [Tag Q] : Prop := Sat (opvs P l tm) Q
@[go_sem] theorem wvs_nil {tm : T Value} {Q : List Value → Prop} : WVs P [] tm Q = Q [] := by simp -dsimp only [WVs, opvs, sat_un, satU_some]
@[go_sem] theorem wvs_cons {x : Operand} {l : List Operand} {tm : T Value} {Q : List Value → Prop} : WVs P (x :: l) tm Q = WV P x tm fun v => WVs P l tm fun vs => Q (v :: vs) := by simp -dsimp only [WVs, WV, opvs, sat_un, satU_bind, sat_un, satU_map]

def WPs (P : Program) (l : List (Nat × Operand)) (tm : T Value) (Q : List (Nat × Value) → Prop) [Tag Q] : Prop := Sat (opps P l tm) Q
@[go_sem] theorem wps_nil {tm : T Value} {Q : List (Nat × Value) → Prop} : WPs P [] tm Q = Q [] := by simp -dsimp only [WPs, opps, sat_un, satU_some]
@[go_sem] theorem wps_cons {i : Nat} {x : Operand} {l : List (Nat × Operand)} {tm : T Value} {Q : List (Nat × Value) → Prop} : WPs P ((i, x) :: l) tm Q = WV P x tm fun v => WPs P l tm fun vs => Q ((i, v) :: vs) := by simp -dsimp only [WPs, WV, opps, sat_un, satU_bind, sat_un, satU_map]

def WVo (P : Program) (x : Option Operand) (tm : T Value) (Q : Option Value → Prop) [Tag Q] : Prop := Sat (opvo P x tm) Q
@[go_sem] theorem wvo_none {tm : T Value} {Q : Option Value → Prop} : WVo P none tm Q = Q none := by simp -dsimp only [WVo, opvo, sat_un, satU_some]
@[go_sem] theorem wvo_some {x : Operand} {tm : T Value} {Q : Option Value → Prop} : WVo P (some x) tm Q = WV P x tm fun v => Q (some v) := by simp -dsimp only [WVo, WV, opvo, sat_un, satU_map]

/-- A call. -/
def WCall (P : Program) (X : Xt) (f : FuncId) (args : List Value) (K : AHeap) (Q : Value → AHeap → Prop) [Tag Q] : Prop := Sat (evCall P X (evω P X) f args K) fun p => Q p.1 p.2
theorem WCall.mono {f : FuncId} {args : List Value} {K : AHeap} {Q R : Value → AHeap → Prop} (h : WCall P X f args K Q) (k : ∀ v K', Q v K' → R v K') : WCall P X f args K R := Sat.mono h fun r => k r.1 r.2

@[go_sem] theorem wop_move {x : Operand} {tm : T Value} {K : AHeap} {Q : Value → AHeap → Prop} : WOp P X (.move x) tm K Q = WV P x tm fun v => Q v K := by simp -dsimp only [WOp, WV, WVs, WPs, WVo, evOper, evOp, sat_un, satU_bind, sat_un, satU_map, sat_un, satU_some, withK, asRes, skipK, evRes, sat_un, must_un, satU_guard]
@[go_sem] theorem wop_assign {x : Operand} {tm : T Value} {K : AHeap} {Q : Value → AHeap → Prop} : WOp P X (.assign x) tm K Q = WV P x tm fun v => Q v K := by simp -dsimp only [WOp, WV, WVs, WPs, WVo, evOper, evOp, sat_un, satU_bind, sat_un, satU_map, sat_un, satU_some, withK, asRes, skipK, evRes, sat_un, must_un, satU_guard]
/-- One of two values. -/
def pickOf (t : Bool) (a b : Value) : Value := match t with
  | true => a
  | false => b
@[go_sem] theorem pickOf_true {a b : Value} : pickOf true a b = a := rfl
@[go_sem] theorem pickOf_false {a b : Value} : pickOf false a b = b := rfl
@[go_sem] theorem pickOf_and {t u : Bool} : pickOf t (.bool u) (.bool false) = .bool (t && u) := by cases t <;> rfl
@[go_sem] theorem pickOf_or {t u : Bool} : pickOf t (.bool true) (.bool u) = .bool (t || u) := by cases t <;> rfl
theorem pickV_eq {a b : Value} {t : Bool} : pickV a b t = pickOf t a b := by cases t <;> rfl
@[go_sem] theorem boolV_bool {b : Bool} : boolV (.bool b) = some b := rfl
@[go_sem] theorem condOf_bool {b : Bool} : condOf (.bool b) = some b := rfl
@[go_sem] theorem wop_pick {c a b : Operand} {tm : T Value} {K : AHeap} {Q : Value → AHeap → Prop} : WOp P X (.pick c a b) tm K Q = WV P c tm fun c => Sat (boolV c) fun t => WV P a tm fun a => WV P b tm fun b => Q (pickOf t a b) K := by
  simp -dsimp only [WOp, WV, evOper, evOp, sat_un, satU_bind, sat_un, satU_map, sat_un, satU_some, withK, evRes, pickV_eq]
@[go_sem] theorem wop_alloc {t : TypeId} {tm : T Value} {K : AHeap} {Q : Value → AHeap → Prop} : WOp P X (.alloc t) tm K Q = Sat (zeroT P t) fun z => Sat (aNewVar K t z) fun p => Q p.1 p.2 := by simp -dsimp only [WOp, WV, WVs, WPs, WVo, evOper, evOp, sat_un, satU_bind, sat_un, satU_map, sat_un, satU_some, withK, asRes, skipK, evRes, sat_un, must_un, satU_guard]
@[go_sem] theorem wop_box {t : TypeId} {x : Operand} {tm : T Value} {K : AHeap} {Q : Value → AHeap → Prop} : WOp P X (.box t x) tm K Q = WV P x tm fun v => Sat (aNewVar K t v) fun p => Q p.1 p.2 := by simp -dsimp only [WOp, WV, WVs, WPs, WVo, evOper, evOp, sat_un, satU_bind, sat_un, satU_map, sat_un, satU_some, withK, asRes, skipK, evRes, sat_un, must_un, satU_guard]
@[go_sem] theorem wop_build {t : TypeId} {ps : Array (Nat × Operand)} {tm : T Value} {K : AHeap} {Q : Value → AHeap → Prop} : WOp P X (.build t ps) tm K Q = WPs P ps.toList tm fun vs => Sat (aBuild P t vs) fun v => Q v K := by simp -dsimp only [WOp, WV, WVs, WPs, WVo, evOper, evOp, sat_un, satU_bind, sat_un, satU_map, sat_un, satU_some, withK, asRes, skipK, evRes, sat_un, must_un, satU_guard]
@[go_sem] theorem wop_buildSlice {t : TypeId} {n : Nat} {ps : Array (Nat × Operand)} {tm : T Value} {K : AHeap} {Q : Value → AHeap → Prop} : WOp P X (.buildSlice t n ps) tm K Q = WPs P ps.toList tm fun vs => Sat (aBuildSlice P K t n vs) fun p => Q p.1 p.2 := by simp -dsimp only [WOp, WV, WVs, WPs, WVo, evOper, evOp, sat_un, satU_bind, sat_un, satU_map, sat_un, satU_some, withK, asRes, skipK, evRes, sat_un, must_un, satU_guard]
@[go_sem] theorem wop_load {t : TypeId} {x : Operand} {tm : T Value} {K : AHeap} {Q : Value → AHeap → Prop} : WOp P X (.load t x) tm K Q = WV P x tm fun a => Sat (addrV a) fun a => Sat (aLoadVar P K t a.1 a.2) fun v => Q v K := by simp -dsimp only [WOp, WV, WVs, WPs, WVo, evOper, evOp, sat_un, satU_bind, sat_un, satU_map, sat_un, satU_some, withK, asRes, skipK, evRes, sat_un, must_un, satU_guard]
@[go_sem] theorem wop_store {t : TypeId} {x v : Operand} {tm : T Value} {K : AHeap} {Q : Value → AHeap → Prop} : WOp P X (.store t x v) tm K Q = WV P x tm fun a => Sat (addrV a) fun a => WV P v tm fun v => Must (decide (sizeT P t = some v.cells.size) = true) (Sat (K.write a.1 a.2 v.cells.toList) fun K' => Q undefV K') := by simp -dsimp only [WOp, WV, WVs, WPs, WVo, evOper, evOp, sat_un, satU_bind, sat_un, satU_map, sat_un, satU_some, withK, asRes, skipK, evRes, sat_un, must_un, satU_guard]
@[go_sem] theorem wop_nilCheck {x : Operand} {tm : T Value} {K : AHeap} {Q : Value → AHeap → Prop} : WOp P X (.nilCheck x) tm K Q = WV P x tm fun v => Must (nilCk v = true) (Q v K) := by simp -dsimp only [WOp, WV, WVs, WPs, WVo, evOper, evOp, sat_un, satU_bind, sat_un, satU_map, sat_un, satU_some, withK, asRes, skipK, evRes, sat_un, must_un, satU_guard]
@[go_sem] theorem wop_bin {o : BinOp} {t u : TypeId} {x y : Operand} {tm : T Value} {K : AHeap} {Q : Value → AHeap → Prop} : WOp P X (.binOp o t x y u) tm K Q = WV P x tm fun a => WV P y tm fun b => Sat (aBin P a K o t x y b) fun v => Q v K := by simp -dsimp only [WOp, WV, WVs, WPs, WVo, evOper, evOp, sat_un, satU_bind, sat_un, satU_map, sat_un, satU_some, withK, asRes, skipK, evRes, sat_un, must_un, satU_guard]
@[go_sem] theorem wop_not {t : TypeId} {x : Operand} {tm : T Value} {K : AHeap} {Q : Value → AHeap → Prop} : WOp P X (.unOp .not t x) tm K Q = WV P x tm fun v => Must (grnd v = true) (Sat (pureRun P (Op.unary .not v)) fun u => Must (grnd u = true) (Q u K)) := by simp -dsimp only [WOp, WV, WVs, WPs, WVo, evOper, evOp, sat_un, satU_bind, sat_un, satU_map, sat_un, satU_some, withK, asRes, skipK, evRes, sat_un, must_un, satU_guard]
@[go_sem] theorem wop_neg {t : TypeId} {x : Operand} {tm : T Value} {K : AHeap} {Q : Value → AHeap → Prop} : WOp P X (.unOp .neg t x) tm K Q = WV P x tm fun v => Must (grnd v = true) (Sat (pureRun P (Op.unary .neg v)) fun u => Must (grnd u = true) (Q u K)) := by simp -dsimp only [WOp, WV, WVs, WPs, WVo, evOper, evOp, sat_un, satU_bind, sat_un, satU_map, sat_un, satU_some, withK, asRes, skipK, evRes, sat_un, must_un, satU_guard]
@[go_sem] theorem wop_convert {s d : TypeId} {x : Operand} {tm : T Value} {K : AHeap} {Q : Value → AHeap → Prop} : WOp P X (.convert s d x) tm K Q = WV P x tm fun v => Sat (aConvert P v K s d) fun p => Q p.1 p.2 := by simp -dsimp only [WOp, WV, WVs, WPs, WVo, evOper, evOp, sat_un, satU_bind, sat_un, satU_map, sat_un, satU_some, withK, asRes, skipK, evRes, sat_un, must_un, satU_guard]
@[go_sem] theorem wop_makeFunc {f : FuncId} {a b : Array Operand} {tm : T Value} {K : AHeap} {Q : Value → AHeap → Prop} : WOp P X (.makeFunc (.func f) a b) tm K Q = WVs P a.toList tm fun a => WVs P b.toList tm fun b => Q (.func (.func f) a.toArray b.toArray) K := by
  simp -dsimp only [WOp, WVs, evOper, evOp, sat_un, satU_bind, sat_un, satU_map, sat_un, satU_some, withK, evRes, sat_un, must_un, satU_guard, fnOk, true_and]
@[go_sem] theorem wop_makeSlice {t : TypeId} {l c : Operand} {tm : T Value} {K : AHeap} {Q : Value → AHeap → Prop} : WOp P X (.makeSlice t l c) tm K Q = WV P l tm fun l => WV P c tm fun c => Sat (aMakeSlice P K t l c) fun p => Q p.1 p.2 := by simp -dsimp only [WOp, WV, WVs, WPs, WVo, evOper, evOp, sat_un, satU_bind, sat_un, satU_map, sat_un, satU_some, withK, asRes, skipK, evRes, sat_un, must_un, satU_guard]
@[go_sem] theorem wop_slice {t : TypeId} {x : Operand} {lo hi mx : Option Operand} {tm : T Value} {K : AHeap} {Q : Value → AHeap → Prop} : WOp P X (.slice t x lo hi mx) tm K Q = WV P x tm fun v => WVo P lo tm fun lo => WVo P hi tm fun hi => WVo P mx tm fun mx => Sat (aSliceOp P t v lo hi mx) fun v => Q v K := by simp -dsimp only [WOp, WV, WVs, WPs, WVo, evOper, evOp, sat_un, satU_bind, sat_un, satU_map, sat_un, satU_some, withK, asRes, skipK, evRes, sat_un, must_un, satU_guard]
@[go_sem] theorem wop_fieldAddr {t : TypeId} {x : Operand} {f : Nat} {tm : T Value} {K : AHeap} {Q : Value → AHeap → Prop} : WOp P X (.fieldAddr t x f) tm K Q = WV P x tm fun v => Sat (aFieldAddr P t f v) fun v => Q v K := by simp -dsimp only [WOp, WV, WVs, WPs, WVo, evOper, evOp, sat_un, satU_bind, sat_un, satU_map, sat_un, satU_some, withK, asRes, skipK, evRes, sat_un, must_un, satU_guard]
@[go_sem] theorem wop_field {t : TypeId} {x : Operand} {f : Nat} {tm : T Value} {K : AHeap} {Q : Value → AHeap → Prop} : WOp P X (.field t x f) tm K Q = WV P x tm fun v => Sat (aField P t f v) fun v => Q v K := by simp -dsimp only [WOp, WV, WVs, WPs, WVo, evOper, evOp, sat_un, satU_bind, sat_un, satU_map, sat_un, satU_some, withK, asRes, skipK, evRes, sat_un, must_un, satU_guard]
@[go_sem] theorem wop_indexAddr {t : TypeId} {x i : Operand} {tm : T Value} {K : AHeap} {Q : Value → AHeap → Prop} : WOp P X (.indexAddr t x i) tm K Q = WV P x tm fun v => WV P i tm fun i => Sat (aIndexAddr P t v i) fun v => Q v K := by simp -dsimp only [WOp, WV, WVs, WPs, WVo, evOper, evOp, sat_un, satU_bind, sat_un, satU_map, sat_un, satU_some, withK, asRes, skipK, evRes, sat_un, must_un, satU_guard]
@[go_sem] theorem wop_index {t : TypeId} {x i : Operand} {tm : T Value} {K : AHeap} {Q : Value → AHeap → Prop} : WOp P X (.index t x i) tm K Q = WV P x tm fun v => WV P i tm fun i => Sat (aIndex P t v i) fun v => Q v K := by simp -dsimp only [WOp, WV, WVs, WPs, WVo, evOper, evOp, sat_un, satU_bind, sat_un, satU_map, sat_un, satU_some, withK, asRes, skipK, evRes, sat_un, must_un, satU_guard]
@[go_sem] theorem wop_lookup {t : TypeId} {x i : Operand} {ok : Bool} {tm : T Value} {K : AHeap} {Q : Value → AHeap → Prop} : WOp P X (.lookup t x i ok) tm K Q = WV P x tm fun m => WV P i tm fun k => Sat (aLookup P K t ok k m) fun v => Q v K := by simp -dsimp only [WOp, WV, WVs, WPs, WVo, evOper, evOp, sat_un, satU_bind, sat_un, satU_map, sat_un, satU_some, withK, asRes, skipK, evRes, sat_un, must_un, satU_guard]
@[go_sem] theorem wop_mapUpdate {t : TypeId} {m k v : Operand} {tm : T Value} {K : AHeap} {Q : Value → AHeap → Prop} : WOp P X (.mapUpdate t m k v) tm K Q = WV P m tm fun m => WV P k tm fun k => WV P v tm fun v => Sat (aMapUpdate P K t m k v) fun K' => Q undefV K' := by simp -dsimp only [WOp, WV, WVs, WPs, WVo, evOper, evOp, sat_un, satU_bind, sat_un, satU_map, sat_un, satU_some, withK, asRes, skipK, evRes, sat_un, must_un, satU_guard]
@[go_sem] theorem wop_range {t : TypeId} {x : Operand} {tm : T Value} {K : AHeap} {Q : Value → AHeap → Prop} : WOp P X (.range t x) tm K Q = WV P x tm fun v => Sat (aRange P K t v) fun p => Q p.1 p.2 := by simp -dsimp only [WOp, WV, WVs, WPs, WVo, evOper, evOp, sat_un, satU_bind, sat_un, satU_map, sat_un, satU_some, withK, asRes, skipK, evRes, sat_un, must_un, satU_guard]
@[go_sem] theorem wop_next {it : Operand} {b : Bool} {tm : T Value} {K : AHeap} {Q : Value → AHeap → Prop} : WOp P X (.next it b) tm K Q = WV P it tm fun v => Sat (aNext K b v) fun p => Q p.1 p.2 := by simp -dsimp only [WOp, WV, WVs, WPs, WVo, evOper, evOp, sat_un, satU_bind, sat_un, satU_map, sat_un, satU_some, withK, asRes, skipK, evRes, sat_un, must_un, satU_guard]
@[go_sem] theorem wop_makeMap0 {t : TypeId} {tm : T Value} {K : AHeap} {Q : Value → AHeap → Prop} : WOp P X (.makeMap t none) tm K Q = Sat (K.mk? (.map [] 0)) fun p => Q (.map (some p.1)) p.2 := by
  simp -dsimp only [WOp, evOper, evOp, opvo, sat_un, satU_bind, sat_un, satU_map, sat_un, satU_some, sat_un, must_un, satU_guard, true_and, evRes]
/-- A part of a tuple. -/
def tupAt (v : Value) (i : Nat) : Option Value := match v with
  | .tuple vs => vs.toList[i]?
  | _ => none
@[go_sem] theorem tupAt_tuple {vs : Array Value} {i : Nat} : tupAt (.tuple vs) i = vs.toList[i]? := rfl
@[go_sem] theorem wop_extract {x : Operand} {i : Nat} {tm : T Value} {K : AHeap} {Q : Value → AHeap → Prop} : WOp P X (.extract x i) tm K Q = WV P x tm fun v => Sat (tupAt v i) fun v => Q v K := by
  simp -dsimp only [WOp, WV, evOper, evOp, sat_un, satU_bind]
  congr 1; funext v
  cases v <;> simp -dsimp only [tupAt, sat_un, satU_map, sat_un, satU_some, withK, evRes] <;> (apply propext; constructor <;> (rintro ⟨r, h, _⟩; cases h))
@[go_sem] theorem wop_builtin {b : Builtin} {as : Array Operand} {ts : Array TypeId} {tm : T Value} {K : AHeap} {Q : Value → AHeap → Prop} : WOp P X (.call ⟨.builtin b, as, ts⟩) tm K Q = WVs P as.toList tm fun as => Sat (aBuiltin P b K ts.toList as) fun p => Q p.1 p.2 := by
  simp -dsimp only [WOp, WVs, evOper, evOp, evCallee, sat_un, satU_bind, sat_un, satU_map, asRes, sat_un, satU_some, evRes]
@[go_sem] theorem wop_call {g : FuncId} {as : Array Operand} {ts : Array TypeId} {tm : T Value} {K : AHeap} {Q : Value → AHeap → Prop} : WOp P X (.call ⟨.value (.func g), as, ts⟩) tm K Q = WVs P as.toList tm fun as => WCall P X g as K Q := by
  simp -dsimp only [WOp, WVs, WCall, evOper, evOp, evCallee, opv, callV, sat_un, satU_bind, sat_un, satU_map, sat_un, satU_some, evRes, List.nil_append, List.append_nil, Array.toList_empty]
/-- A call of a value. -/
def WCallV (P : Program) (X : Xt) (v : Value) (args : List Value) (K : AHeap) (Q : Value → AHeap → Prop) [Tag Q] : Prop := Sat (callV v args) fun r => Sat (evRes P X (evω P X) r K) fun p => Q p.1 p.2
@[go_sem] theorem wcallv_func {g : FuncId} {a b : Array Value} {args : List Value} {K : AHeap} {Q : Value → AHeap → Prop} : WCallV P X (.func (.func g) a b) args K Q = WCall P X g (a.toList ++ args ++ b.toList) K Q := by
  simp -dsimp only [WCallV, WCall, callV, sat_un, satU_some, evRes]
@[go_sem] theorem wop_callv {t : Nat} {as : Array Operand} {ts : Array TypeId} {tm : T Value} {K : AHeap} {Q : Value → AHeap → Prop} : WOp P X (.call ⟨.value (.tmp t), as, ts⟩) tm K Q = WVs P as.toList tm fun as => Sat (tm.get t) fun f => WCallV P X f as K Q := by
  simp -dsimp only [WOp, WVs, WCallV, evOper, evOp, evCallee, opv, sat_un, satU_bind, sat_un, satU_map, sat_un, satU_some]

/-! ### Regions -/
/-- An operation of a region, its guard looked at. -/
def WPop (P : Program) (X : Xt) (p : POp) (tm : T Value) (K : AHeap) (Q : Value → AHeap → Prop) [Tag Q] : Prop := Sat (evPOp P X (evω P X) tm K p) fun r => Q r.1 r.2
def WOps (P : Program) (X : Xt) (nt : Nat) (l : List POp) (tm : T Value) (K : AHeap) (Q : T Value → AHeap → Prop) [Tag Q] : Prop := Sat (evOps P X (evω P X) nt l tm K) fun r => Q r.1 r.2
@[go_sem] theorem wops_nil {tm : T Value} {K : AHeap} {Q : T Value → AHeap → Prop} : WOps P X nt [] tm K Q = Q tm K := by simp -dsimp only [WOps, evOps, sat_un, satU_some]
@[go_sem] theorem wops_cons {p : POp} {l : List POp} {tm : T Value} {K : AHeap} {Q : T Value → AHeap → Prop} : WOps P X nt (p :: l) tm K Q = WPop P X p tm K fun v K' => WPut nt p.dst v tm fun tm' => WOps P X nt l tm' K' Q := by
  simp -dsimp only [WOps, WPop, WPut, evOps, sat_un, satU_bind]

/-- Run with the written names told apart. -/
def AHeap.fresh (K : AHeap) : AHeap := { t := K.t, next := K.next, low := K.next }
def AHeap.join (K : AHeap) (low : Nat) : AHeap := { t := K.t, next := K.next, low := min low K.low }
def WOp1 (P : Program) (X : Xt) (clean : Bool) (op : Op) (tm : T Value) (K : AHeap) (Q : Value → AHeap → Prop) [Tag Q] : Prop := match clean with
  | false => WOp P X op tm K Q
  | true => WOp P X op tm K.fresh fun v K' => Must (Nat.ble K.next K'.low = true) (Q v (K'.join K.low))
@[go_sem] theorem wop1_false {op : Op} {tm : T Value} {K : AHeap} {Q : Value → AHeap → Prop} : WOp1 P X false op tm K Q = WOp P X op tm K Q := rfl
@[go_sem] theorem wop1_true {op : Op} {tm : T Value} {K : AHeap} {Q : Value → AHeap → Prop} : WOp1 P X true op tm K Q = WOp P X op tm K.fresh fun v K' => Must (Nat.ble K.next K'.low = true) (Q v (K'.join K.low)) := rfl
theorem wop1_eqU {p : POp} {tm : T Value} {K : AHeap} {Q : Value → AHeap → Prop} : SatU (evOper1 P X (evω P X) tm K p) (fun r => Q r.1 r.2) = WOp1 P X p.clean p.op tm K Q := by
  unfold evOper1
  cases p.clean with
  | false => rfl
  | true => simp -dsimp only [wop1_true, WOp, AHeap.fresh, sat_un, satU_bind, cleanly, must_un, satU_guard, satU_some]; rfl
theorem wop1_eq {p : POp} {tm : T Value} {K : AHeap} {Q : Value → AHeap → Prop} : Sat (evOper1 P X (evω P X) tm K p) (fun r => Q r.1 r.2) = WOp1 P X p.clean p.op tm K Q := by
  unfold evOper1
  cases p.clean with
  | false => rfl
  | true => simp -dsimp only [wop1_true, WOp, AHeap.fresh, sat_un, satU_bind, cleanly, sat_un, must_un, satU_guard, sat_un, satU_some]; rfl
@[go_sem] theorem wpop_plain {op : Op} {dst : Option Tmp} {clean : Bool} {tm : T Value} {K : AHeap} {Q : Value → AHeap → Prop} : WPop P X ⟨op, dst, clean, none⟩ tm K Q = WOp1 P X clean op tm K Q := by
  simp -dsimp only [WPop, evPOp, aWanted, sat_un, satU_bind, sat_un, satU_some, wop1_eqU]
/-- A test's answer, as it is wanted. -/
def want (w b : Bool) : Bool := match w with
  | true => b
  | false => !b
@[go_sem] theorem want_true {b : Bool} : want true b = b := rfl
@[go_sem] theorem want_false {b : Bool} : want false b = !b := rfl
/-- The guard's slot: a test, or an operation that was left out. -/
def WGuard (v : Value) (w : Bool) (A B : Prop) [Tag A] [Tag B] : Prop := Sat (isWanted v w) fun b => Fork b A B
@[go_sem] theorem wguard_bool {b w : Bool} {A B : Prop} : WGuard (.bool b) w A B = Fork (want w b) A B := by
  cases w <;> cases b <;> simp [WGuard, isWanted, sat_some, want]
@[go_sem] theorem wguard_undef {w : Bool} {A B : Prop} : WGuard undefV w A B = B := by simp [WGuard, undefV, isWanted, sat_some, fork_false]
@[go_sem] theorem wpop_guard {op : Op} {dst : Option Tmp} {clean : Bool} {d : Nat} {w : Bool} {tm : T Value} {K : AHeap} {Q : Value → AHeap → Prop} : WPop P X ⟨op, dst, clean, some (some d, w)⟩ tm K Q = Sat (tm.get d) fun v => WGuard v w (WOp1 P X clean op tm K Q) (Q undefV K) := by
  simp -dsimp only [WPop, evPOp, aWanted, sat_un, satU_bind, sat_un, satU_some, Option.bind_some, WGuard]
  congr 1; funext v; congr 1; funext b
  cases b <;> simp -dsimp only [fork_true, fork_false, wop1_eqU, sat_un, satU_some]

/-! ### Code -/
def W2 (P : Program) (X : Xt) (rnd : Option Nat) (nt : Nat) (c : C2) (s : St) (Q : AExit → St → Prop) [Tag Q] : Prop := Sat (run2 P X rnd nt c s) fun r => Q r.1 r.2
theorem W2.mono {c : C2} {s : St} {Q R : AExit → St → Prop} (h : W2 P X rnd nt c s Q) (k : ∀ e s, Q e s → R e s) : W2 P X rnd nt c s R := Sat.mono h fun r => k r.1 r.2

/-- And then, if it went on. -/
def thenQ (k : St → Prop) (Q : AExit → St → Prop) [Tag k] [Tag Q] (e : AExit) (s : St) : Prop := match e with
  | .normal => k s
  | .exit id => Q (.exit id) s
  | .ret => Q .ret s
@[go_sem] theorem thenQ_normal {k : St → Prop} {Q : AExit → St → Prop} {s : St} : thenQ k Q .normal s = k s := rfl
@[go_sem] theorem thenQ_exit {k : St → Prop} {Q : AExit → St → Prop} {id : Nat} {s : St} : thenQ k Q (.exit id) s = Q (.exit id) s := rfl
@[go_sem] theorem thenQ_ret {k : St → Prop} {Q : AExit → St → Prop} {s : St} : thenQ k Q .ret s = Q .ret s := rfl
/-- The end of a block. -/
def outQ (id : Nat) (Q : AExit → St → Prop) [Tag Q] (e : AExit) (s : St) : Prop := Q (blockExit id (e, s)).1 s
@[go_sem] theorem outQ_normal {id : Nat} {Q : AExit → St → Prop} {s : St} : outQ id Q .normal s = Q .normal s := rfl
@[go_sem] theorem outQ_ret {id : Nat} {Q : AExit → St → Prop} {s : St} : outQ id Q .ret s = Q .ret s := rfl
@[go_sem] theorem outQ_same {id : Nat} {Q : AExit → St → Prop} {s : St} : outQ id Q (.exit id) s = Q .normal s := by simp [outQ, blockExit]
@[go_sem] theorem outQ_other {id id' : Nat} {Q : AExit → St → Prop} {s : St} (h : id' ≠ id) : outQ id Q (.exit id') s = Q (.exit id') s := by
  have : Nat.beq id' id = false := by rw [Bool.eq_false_iff]; exact fun e => h (Nat.eq_of_beq_eq_true e)
  simp [outQ, blockExit, this]

@[go_sem] theorem w2_skip {s : St} {Q : AExit → St → Prop} : W2 P X rnd nt .skip s Q = Q .normal s := by simp -dsimp only [W2, run2_eq, evC2, sat_un, satU_some]
@[go_sem] theorem w2_exit {id : Nat} {s : St} {Q : AExit → St → Prop} : W2 P X rnd nt (.exit id) s Q = Q (.exit id) s := by simp -dsimp only [W2, run2_eq, evC2, sat_un, satU_some]
@[go_sem] theorem w2_ret {s : St} {Q : AExit → St → Prop} : W2 P X rnd nt .ret s Q = Q .ret s := by simp -dsimp only [W2, run2_eq, evC2, sat_un, satU_some]
@[go_sem] theorem w2_ops {l : List POp} {tm : T Value} {K : AHeap} {m : List Nat} {Q : AExit → St → Prop} : W2 P X rnd nt (.ops l) ⟨tm, K, m⟩ Q = WOps P X nt l tm K fun tm K => Q .normal ⟨tm, K, m⟩ := by
  simp -dsimp only [W2, WOps, run2_eq, evC2, sat_un, satU_map]
theorem sat_then {k : St → Option (AExit × St)} {e : AExit} {s : St} {Q : AExit → St → Prop} : Sat (andThen k (e, s)) (fun r => Q r.1 r.2) = thenQ (fun s => Sat (k s) fun r => Q r.1 r.2) Q e s := by
  cases e <;> simp -dsimp only [andThen, thenQ, sat_un, satU_some]
@[go_sem] theorem w2_seq {a b : C2} {s : St} {Q : AExit → St → Prop} : W2 P X rnd nt (.seq a b) s Q = W2 P X rnd nt a s fun e s => thenQ (fun s => W2 P X rnd nt b s Q) Q e s := by
  have e : evC2 P X rnd nt (run2 P X rnd nt) b = run2 P X rnd nt b := funext fun s => run2_eq.symm
  unfold W2
  rw [run2_eq (c := .seq a b)]
  simp -dsimp only [evC2, sat_un, satU_bind]
  rw [← run2_eq, e]
  congr 1; funext r; obtain ⟨e, s⟩ := r
  exact sat_then
@[go_sem] theorem w2_cond {c : Operand} {a b : C2} {tm : T Value} {K : AHeap} {m : List Nat} {Q : AExit → St → Prop} : W2 P X rnd nt (.cond c a b) ⟨tm, K, m⟩ Q = WV P c tm fun v => Sat (condOf v) fun t => Fork t (W2 P X rnd nt a ⟨tm, K, m⟩ Q) (W2 P X rnd nt b ⟨tm, K, m⟩ Q) := by
  unfold W2 WV
  rw [run2_eq (c := .cond c a b)]
  simp -dsimp only [evC2, sat_un, satU_bind]
  congr 1; funext v; congr 1; funext t
  rw [← run2_eq, ← run2_eq]
  exact sat_branch
@[go_sem] theorem w2_block {id : Nat} {b : C2} {s : St} {Q : AExit → St → Prop} : W2 P X rnd nt (.block id b) s Q = W2 P X rnd nt b s fun e s => outQ id Q e s := by
  unfold W2
  rw [run2_eq (c := .block id b)]
  simp -dsimp only [evC2, sat_un, satU_map]
  rw [← run2_eq]
  congr 1; funext r; obtain ⟨e, s⟩ := r
  cases e <;> simp -dsimp only [outQ, blockExit]
  split <;> rfl
/-- A loop, one round. -/
theorem w2_loop {b : C2} {s : St} {Q : AExit → St → Prop} : W2 P X rnd nt (.loop b) s Q = W2 P X rnd nt b s fun e s => thenQ (fun s => W2 P X rnd nt (.loop b) s Q) Q e s := by
  unfold W2
  rw [run2_eq (c := .loop b) (s := s)]
  simp -dsimp only [evC2, sat_un, satU_bind]
  rw [← run2_eq]
  congr 1; funext r; obtain ⟨e, s⟩ := r
  exact sat_then

/-- A loop, by what holds at its head. -/
theorem w2_inv {b : C2} {m : List Nat} {Q : AExit → St → Prop} (I : Nat → T Value → AHeap → Prop) (h : ∀ d tm K, I d tm K → W2 P X rnd nt b ⟨tm, K, m⟩ fun e s => thenQ (fun s => s.marks = m ∧ ∃ d', d' < d ∧ I d' s.tm s.K) Q e s) :
    ∀ d tm K, I d tm K → W2 P X rnd nt (.loop b) ⟨tm, K, m⟩ Q := by
  intro d
  induction d using Nat.strongRecOn with
  | _ d ih =>
    intro tm K hI
    rw [w2_loop]
    refine (h d tm K hI).mono fun e s hs => ?_
    cases e with
    | normal =>
      obtain ⟨tm', K', m'⟩ := s
      obtain ⟨rfl, d', hlt, hI'⟩ := hs
      exact ih d' hlt tm' K' hI'
    | exit id => exact hs
    | ret => exact hs

/-! ### Functions -/
def WRes (P : Program) (l : List ResultVar) (tm : T Value) (K : AHeap) (Q : List Value → Prop) [Tag Q] : Prop := Sat (aResults P l tm K) Q
@[go_sem] theorem wres_nil {tm : T Value} {K : AHeap} {Q : List Value → Prop} : WRes P [] tm K Q = Q [] := by simp -dsimp only [WRes, aResults, sat_un, satU_some]
@[go_sem] theorem wres_tmp {t : Nat} {l : List ResultVar} {tm : T Value} {K : AHeap} {Q : List Value → Prop} : WRes P (.tmp t :: l) tm K Q = Sat (tm.get t) fun v => WRes P l tm K fun vs => Q (v :: vs) := by simp -dsimp only [WRes, aResults, aResult, sat_un, satU_bind, sat_un, satU_map]
@[go_sem] theorem wres_cell {a t : Nat} {l : List ResultVar} {tm : T Value} {K : AHeap} {Q : List Value → Prop} : WRes P (.cell a t :: l) tm K Q = Sat (tm.get a) fun v => Sat (addrV v) fun a => Sat (aLoadVar P K t a.1 a.2) fun v => WRes P l tm K fun vs => Q (v :: vs) := by simp -dsimp only [WRes, aResults, aResult, sat_un, satU_bind, sat_un, satU_map]
/-- A function is left. -/
def WLeave (P : Program) (rs : List ResultVar) (e : AExit) (s : St) (Q : Value → AHeap → Prop) [Tag Q] : Prop := match e with
  | .exit _ => False
  | _ => Sat (shut s.marks s.K) fun K => WRes P rs s.tm K fun vs => Q (tupled vs) K
@[go_sem] theorem wleave_ret {rs : List ResultVar} {tm : T Value} {K : AHeap} {m : List Nat} {Q : Value → AHeap → Prop} : WLeave P rs .ret ⟨tm, K, m⟩ Q = Sat (shut m K) fun K => WRes P rs tm K fun vs => Q (tupled vs) K := rfl
@[go_sem] theorem wleave_normal {rs : List ResultVar} {tm : T Value} {K : AHeap} {m : List Nat} {Q : Value → AHeap → Prop} : WLeave P rs .normal ⟨tm, K, m⟩ Q = Sat (shut m K) fun K => WRes P rs tm K fun vs => Q (tupled vs) K := rfl
@[go_sem] theorem shut_nil {K : AHeap} : shut [] K = some K := rfl
@[go_sem] theorem tupled_one {v : Value} : tupled [v] = v := rfl
@[go_sem] theorem tupled_none : tupled [] = .tuple #[] := rfl
@[go_sem] theorem tupled_two {u v : Value} {l : List Value} : tupled (u :: v :: l) = .tuple (u :: v :: l).toArray := rfl
@[go_sem] theorem initTm_nil {i : Nat} {t : T Value} : initTm [] i t = t := rfl
@[go_sem] theorem initTm_cons {v : Value} {l : List Value} {i : Nat} {t : T Value} : initTm (v :: l) i t = initTm l (i + 1) (t.put i v) := rfl

/-- A CALL, ITS BODY WALKED. -/
theorem wcall_of {f : FuncId} {fn : Func} {c : Code} {c2 : C2} {args : List Value} {K : AHeap} {Q : Value → AHeap → Prop} (hf : P.funcs[f]? = some fn) (hb : fn.body = some c) (hc : comp c = some c2) {nt : Nat} (hnt : fn.ntmps = nt) (hlt : Nat.blt nt cap40 = true)
    {rs : List ResultVar} (hrs : fn.results.toList = rs) (hx : X f args K = none) (hlen : Nat.ble args.length nt = true)
    (h : W2 P X none nt c2 ⟨initTm args 0 .e, K, []⟩ fun e s => WLeave P rs e s Q) : WCall P X f args K Q := by
  subst hnt hrs
  obtain ⟨⟨e, s⟩, h1, h2⟩ := h
  have h3 := run2_ok hc h1
  have key : Sat (closeCall P fn s) (fun p => Q p.1 p.2) → leave P fn e s = closeCall P fn s → WCall P X f args K Q := fun k hl => by
    obtain ⟨r, k1, k2⟩ := k
    refine ⟨r, ?_, k2⟩
    simp -dsimp only [evCall, hf, Option.bind_some, evFunc, hb, hx, evBody, hlen, hlt, Bool.and_self, guardO, h3, hl, k1]
  cases e with
  | exit id => exact h2.elim
  | normal => exact key (by simp -dsimp only [closeCall, sat_un, satU_bind, sat_un, satU_some]; exact h2) rfl
  | ret => exact key (by simp -dsimp only [closeCall, sat_un, satU_bind, sat_un, satU_some]; exact h2) rfl
end
end Go.Ev

/- The abstract heap under a walk over unknown values: what grows, what is read. Conditions: none. -/
set_option linter.unusedVariables false
set_option linter.unusedSimpArgs false
set_option linter.unnecessarySimpa false
namespace Go.Ev

/-! ### A heap that grows -/
def AHeap.add (K : AHeap) (o : AObj) : AHeap := { t := K.t.put K.next o, next := K.next + 1, low := K.low }
def AHeap.upd (K : AHeap) (n : Nat) (o : AObj) : AHeap := { t := K.t.put n o, next := K.next, low := min K.low n }
@[go_sem] theorem mk_eq {K : AHeap} {o : AObj} : K.mk? o = some (K.next, K.add o) := by unfold AHeap.mk?; rfl
@[go_sem] theorem set_eq {K : AHeap} {n : Nat} {o : AObj} : K.set? n o = some (K.upd n o) := by unfold AHeap.set?; rfl
@[go_sem] theorem add_next {K : AHeap} {o : AObj} : (K.add o).next = K.next + 1 := rfl
@[go_sem] theorem add_low {K : AHeap} {o : AObj} : (K.add o).low = K.low := rfl
@[go_sem] theorem upd_next {K : AHeap} {n : Nat} {o : AObj} : (K.upd n o).next = K.next := rfl
theorem upd_low {K : AHeap} {n : Nat} {o : AObj} : (K.upd n o).low = min K.low n := rfl
@[go_sem] theorem fresh_next' {K : AHeap} : K.fresh.next = K.next := rfl
@[go_sem] theorem fresh_low {K : AHeap} : K.fresh.low = K.next := rfl
@[go_sem] theorem join_next {K : AHeap} {l : Nat} : (K.join l).next = K.next := rfl
theorem join_low {K : AHeap} {l : Nat} : (K.join l).low = min l K.low := rfl
theorem add_obj {K : AHeap} {o : AObj} {n : Nat} : (K.add o).obj n = if n = K.next then some o else K.obj n := T.get_put' _ _ _ _
theorem upd_obj {K : AHeap} {o : AObj} {m n : Nat} : (K.upd m o).obj n = if n = m then some o else K.obj n := T.get_put' _ _ _ _
@[go_sem] theorem fresh_obj {K : AHeap} {n : Nat} : K.fresh.obj n = K.obj n := rfl
@[go_sem] theorem join_obj {K : AHeap} {l n : Nat} : (K.join l).obj n = K.obj n := rfl
@[go_sem] theorem add_obj_same {K : AHeap} {o : AObj} {n : Nat} (h : n = K.next) : (K.add o).obj n = some o := by rw [add_obj, if_pos h]
@[go_sem] theorem add_obj_old {K : AHeap} {o : AObj} {n : Nat} (h : n < K.next) : (K.add o).obj n = K.obj n := by rw [add_obj, if_neg (by omega)]
@[go_sem] theorem upd_obj_same {K : AHeap} {o : AObj} {m n : Nat} (h : n = m) : (K.upd m o).obj n = some o := by rw [upd_obj, if_pos h]
@[go_sem] theorem upd_obj_ne {K : AHeap} {o : AObj} {m n : Nat} (h : n ≠ m) : (K.upd m o).obj n = K.obj n := by rw [upd_obj, if_neg h]

/-- Good: no name past the next one; what was written is below it; the globals are. -/
structure Good (g : Nat) (K : AHeap) : Prop where
  wf : WF K
  low : K.low ≤ K.next
  glob : g ≤ K.next

/-- Grown: what was there is as it was. -/
structure Grew (K K' : AHeap) : Prop where
  next : K.next ≤ K'.next
  obj : ∀ n, n < K.next → K'.obj n = K.obj n
  low : K.low ≤ K.next → K'.low = K.low
  wf : WF K → WF K'

theorem Grew.refl (K : AHeap) : Grew K K := ⟨Nat.le_refl _, fun _ _ => rfl, fun _ => rfl, fun h => h⟩
theorem Grew.trans {A B C : AHeap} (h : Grew A B) (k : Grew B C) : Grew A C :=
  ⟨Nat.le_trans h.next k.next, fun n hn => by rw [k.obj n (Nat.lt_of_lt_of_le hn h.next), h.obj n hn], fun hl => by
    have h1 := h.low hl
    have := h.next
    rw [k.low (by omega), h1], fun hw => k.wf (h.wf hw)⟩
theorem Grew.add {A K : AHeap} (h : Grew A K) (o : AObj) : Grew A (K.add o) := h.trans
  ⟨Nat.le_succ _, fun n hn => add_obj_old hn, fun _ => rfl, fun hw n hn => by
    rw [add_next] at hn
    rw [add_obj, if_neg (by omega)]; exact hw n (by omega)⟩
/-- A new name is written. -/
theorem Grew.upd {A K : AHeap} (h : Grew A K) {n : Nat} (o : AObj) (hn : A.next ≤ n) (hk : n < K.next) : Grew A (K.upd n o) where
  next := h.next
  obj := fun m hm => by rw [upd_obj, if_neg (by omega)]; exact h.obj m hm
  low := fun hl => by
    have := h.low hl
    rw [upd_low]; omega
  wf := fun hw m hm => by
    rw [upd_next] at hm
    rw [upd_obj, if_neg (by omega)]; exact h.wf hw m hm
theorem Grew.fresh {A K : AHeap} (h : Grew A K) {K' : AHeap} (k : Grew K.fresh K') : Grew A (K'.join K.low) where
  next := Nat.le_trans h.next k.next
  obj := fun m hm => by rw [join_obj, k.obj m (Nat.lt_of_lt_of_le hm h.next)]; exact h.obj m hm
  low := fun hl => by
    have h1 := h.low hl
    have h2 := k.low (by simp only [fresh_low, fresh_next', Nat.le_refl])
    have h3 := h.next
    rw [join_low, h2, fresh_low]; omega
  wf := fun hw => k.wf (h.wf hw)
theorem Grew.fresh_low {K K' : AHeap} (k : Grew K.fresh K') : Nat.ble K.next K'.low = true := by
  have h2 := k.low (by simp only [Ev.fresh_low, fresh_next', Nat.le_refl])
  rw [h2, Ev.fresh_low]
  exact Nat.ble_eq ▸ Nat.le_refl _

/-! ### Cells -/
@[go_sem] theorem cs_cells {l : List Value} {e : TypeId} : AObj.cs (.cells l e) = some l := rfl
@[go_sem] theorem elem_cells {l : List Value} {e : TypeId} : AObj.elem (.cells l e) = some e := rfl
theorem takeN_eq : ∀ (n : Nat) (l : List Value), takeN n l = if n ≤ l.length then some (l.take n) else none
  | 0, l => by simp [takeN]
  | n + 1, [] => by simp [takeN]
  | n + 1, v :: l => by
    simp only [takeN, takeN_eq n l, List.length_cons, Nat.add_le_add_iff_right, List.take_succ_cons]
    split <;> rfl

section
variable {P : Program}
@[go_sem] theorem newVar_eq {K : AHeap} {t : TypeId} {v : Value} : aNewVar K t v = some (.pointer (some ⟨K.next, 0, none⟩), K.add (.cells v.cells.toList t)) := by
  simp only [aNewVar, mk_eq, Option.map_some, ptrTo]
@[go_sem] theorem addrV_ptr {b o : Nat} : addrV (.pointer (some ⟨b, o, none⟩)) = some (b, o) := rfl
theorem kcell_of {K : AHeap} {b o : Nat} {l : List Value} {e : TypeId} (h : K.obj b = some (.cells l e)) : K.cell b o = l[o]? := by
  simp only [AHeap.cell, h, Option.bind_some, AObj.cellAt, nth_eq]
theorem kread_of {K : AHeap} {b o n : Nat} {l : List Value} {e : TypeId} (h : K.obj b = some (.cells l e)) : K.read b o n = takeN n (l.drop o) := by
  simp only [AHeap.read, h, Option.bind_some, AObj.readAt]

/-! ### Rows: so many cells from a place on -/
def Row (K : AHeap) (b o : Nat) (vs : List Value) : Prop := b < K.next ∧ ∀ i, i < vs.length → K.cell b (o + i) = vs[i]?
theorem Row.of_cells {K : AHeap} {b o : Nat} {vs l : List Value} {e : TypeId} (hb : b < K.next) (h : K.obj b = some (.cells l e)) (h2 : (l.drop o).take vs.length = vs) : Row K b o vs := ⟨hb, fun i hi => by
  rw [kcell_of h]
  have : vs[i]? = ((l.drop o).take vs.length)[i]? := by rw [h2]
  rw [this, List.getElem?_take, if_pos hi, List.getElem?_drop]⟩
theorem Row.cell {K : AHeap} {b o : Nat} {vs : List Value} (h : Row K b o vs) {i : Nat} (hi : i < vs.length) : K.cell b (o + i) = vs[i]? := h.2 i hi
theorem Grew.cell {K K' : AHeap} (hg : Grew K K') {n o : Nat} (h : n < K.next) : K'.cell n o = K.cell n o := by simp only [AHeap.cell, hg.obj n h]
theorem Grew.read {K K' : AHeap} (hg : Grew K K') {n o k : Nat} (h : n < K.next) : K'.read n o k = K.read n o k := by simp only [AHeap.read, hg.obj n h]
theorem Row.grew {K K' : AHeap} (hg : Grew K K') {b o : Nat} {vs : List Value} (h : Row K b o vs) : Row K' b o vs :=
  ⟨Nat.lt_of_lt_of_le h.1 hg.next, fun i hi => by rw [hg.cell h.1]; exact h.2 i hi⟩
/-- A slice of n elements, of q cells each, that hold these cells. -/
def Sl (K : AHeap) (q n : Nat) (vs : List Value) (v : Value) : Prop := vs.length = n * q ∧ ∃ a c, v = .slice a n c ∧ (n = 0 ∨ ∃ b o s, a = some ⟨b, o, s⟩ ∧ Row K b o vs)
theorem Sl.grew {K K' : AHeap} (hg : Grew K K') {q n : Nat} {vs : List Value} {v : Value} (h : Sl K q n vs v) : Sl K' q n vs v := by
  obtain ⟨h0, a, c, h1, h2⟩ := h
  refine ⟨h0, a, c, h1, ?_⟩
  rcases h2 with h2 | ⟨b, o, s, h2, h3⟩
  · exact .inl h2
  · exact .inr ⟨b, o, s, h2, h3.grew hg⟩

/-! ### Integers -/
section
variable {K : AHeap} {t : TypeId} {ox oy : Operand} {k : IntKind} {a b : Int}
@[go_sem] theorem bin_add : aBin P (.int k a) K .add t ox oy (.int k b) = some (.int k (k.wrap (a + b))) := by simp [aBin, binIV, binII, isShift, binInt]
@[go_sem] theorem bin_sub : aBin P (.int k a) K .sub t ox oy (.int k b) = some (.int k (k.wrap (a - b))) := by simp [aBin, binIV, binII, isShift, binInt]
@[go_sem] theorem bin_mul : aBin P (.int k a) K .mul t ox oy (.int k b) = some (.int k (k.wrap (a * b))) := by simp [aBin, binIV, binII, isShift, binInt]
@[go_sem] theorem bin_eql : aBin P (.int k a) K .eql t ox oy (.int k b) = some (.bool (decide (a = b))) := by
  simp [aBin, binIV, binII, isShift, binInt]; rfl
@[go_sem] theorem bin_neq : aBin P (.int k a) K .neq t ox oy (.int k b) = some (.bool (!decide (a = b))) := by
  simp [aBin, binIV, binII, isShift, binInt, bne]; rfl
@[go_sem] theorem bin_lss : aBin P (.int k a) K .lss t ox oy (.int k b) = some (.bool (decide (a < b))) := by simp [aBin, binIV, binII, isShift, binInt]
@[go_sem] theorem bin_leq : aBin P (.int k a) K .leq t ox oy (.int k b) = some (.bool (decide (a ≤ b))) := by simp [aBin, binIV, binII, isShift, binInt]
@[go_sem] theorem bin_gtr : aBin P (.int k a) K .gtr t ox oy (.int k b) = some (.bool (decide (b < a))) := by simp [aBin, binIV, binII, isShift, binInt]
@[go_sem] theorem bin_geq : aBin P (.int k a) K .geq t ox oy (.int k b) = some (.bool (decide (b ≤ a))) := by simp [aBin, binIV, binII, isShift, binInt]
end
theorem eqBytes_iff : ∀ (x y : List UInt8), eqBytes x y = decide (x = y)
  | [], [] => by simp [eqBytes]
  | [], b :: y => by simp [eqBytes]
  | a :: x, [] => by simp [eqBytes]
  | a :: x, b :: y => by
    simp only [eqBytes]
    by_cases h : a = b
    · subst h; simp [eqBytes_iff x y]
    · have : Nat.beq a.toNat b.toNat = false := by
        rw [Bool.eq_false_iff]; intro e; exact h (UInt8.toNat_inj.1 (Nat.eq_of_beq_eq_true e))
      simp [this, h]
@[go_sem] theorem str_eql {K : AHeap} {t : TypeId} {ox oy : Operand} {a b : ByteArray} : aBin P (.string a) K .eql t ox oy (.string b) = some (.bool (decide (a.data.toList = b.data.toList))) := by
  simp [aBin, binSV, binStr, eqBytes_iff]
@[go_sem] theorem str_neq {K : AHeap} {t : TypeId} {ox oy : Operand} {a b : ByteArray} : aBin P (.string a) K .neq t ox oy (.string b) = some (.bool (!decide (a.data.toList = b.data.toList))) := by
  simp [aBin, binSV, binStr, eqBytes_iff]
@[go_sem] theorem un_not {b : Bool} : pureRun P (Op.unary .not (.bool b)) = some (.bool (!b)) := rfl
@[go_sem] theorem grnd_bool {b : Bool} : grnd (.bool b) = true := nrfl rfl
@[go_sem] theorem grnd_int {k : IntKind} {n : Int} : grnd (.int k n) = true := nrfl rfl
@[go_sem] theorem grnd_string {s : ByteArray} : grnd (.string s) = true := nrfl rfl
/-- A number within its kind. -/
theorem wrap_i64 {n : Int} (h1 : -9223372036854775808 ≤ n) (h2 : n ≤ 9223372036854775807) : IntKind.i64.wrap n = n := IntWalk.i64_in n ⟨h1, h2⟩

/-! ### What is told of types (closed facts, a few for each type) -/
/-- A field's place, for its address. -/
def foff (P : Program) (s : TypeId) (f : Nat) : Option Nat := (fieldT P s f).bind fun fd => guardO (decide ((sizeT P fd.type).getD 0 ≠ 0)) (some fd.offset)
@[go_sem] theorem fieldAddr_eq {s : TypeId} {f b o : Nat} : aFieldAddr P s f (.pointer (some ⟨b, o, none⟩)) = (foff P s f).map fun k => .pointer (some ⟨b, o + k, none⟩) := by
  simp only [aFieldAddr, foff, addrV_ptr, Option.bind_some]
  cases fieldT P s f with
  | none => rfl
  | some fd => simp only [Option.bind_some]; cases decide ((sizeT P fd.type).getD 0 ≠ 0) <;> rfl
/-- A field of a struct that is a value. -/
def fpart (P : Program) (s : TypeId) (f : Nat) : Option (Bool × Nat × Nat) := (fieldT P s f).bind fun fd => (isAggT P fd.type).bind fun a => (sizeT P fd.type).map fun n => (a, fd.offset, n)
@[go_sem] theorem field_eq {s : TypeId} {f : Nat} {cs : Array Value} : aField P s f (.agg cs) = (fpart P s f).bind fun p => partOf p.1 cs.toList p.2.1 p.2.2 := by
  simp only [aField, fpart, aggV, Option.bind_some]
  cases fieldT P s f with
  | none => rfl
  | some fd =>
    simp only [Option.bind_some, aPart]
    cases isAggT P fd.type with
    | none => rfl
    | some a => simp only [Option.bind_some]; cases sizeT P fd.type <;> rfl
/-- A struct's cells, before its parts are laid in. -/
def bldS (P : Program) (t : TypeId) : Option (List Value) := (P.underlying t).bind fun d => match d with
  | .struct fs => guardO (allSized P fs.toList) ((zeroT P t).map fun z => z.cells.toList)
  | _ => none
theorem build_struct {t : TypeId} {z : List Value} (h : bldS P t = some z) {vs : List (Nat × Value)} : aBuild P t vs = (fillL (placeS P t) vs z).map fun cs => .agg cs.toArray := by
  unfold bldS at h
  obtain ⟨d, h1, h2⟩ := bind_some.1 h
  cases d <;> try (cases h2; done)
  obtain ⟨h3, h4⟩ := guardO_some.1 h2
  obtain ⟨z0, h5, rfl⟩ := map_some.1 h4
  simp only [aBuild, h1, Option.bind_some, h5, buildD, h3, guardO]
@[go_sem] theorem fill_nil {pl : Nat → Option (Nat × Nat)} {cs : List Value} : fillL pl [] cs = some cs := rfl
@[go_sem] theorem fill_cons {pl : Nat → Option (Nat × Nat)} {i : Nat} {v : Value} {l : List (Nat × Value)} {cs : List Value} : fillL pl ((i, v) :: l) cs = (pl i).bind fun os => guardO (Nat.beq v.cells.size os.2) ((over os.1 v.cells.toList cs).bind fun cs => fillL pl l cs) := rfl

/-! ### len, and places in a slice -/
@[go_sem] theorem len_eq {K : AHeap} {t : TypeId} {ts : List TypeId} {x : Value} {l : List Value} : aBuiltin P .len K (t :: ts) (x :: l) = (P.underlying t).bind fun d => (lenNat P d K x).map fun n => (.int .i64 n, K) := by
  simp only [aBuiltin, aLen, List.head?_cons, Option.bind_some]
  cases P.underlying t with
  | none => rfl
  | some d => simp only [Option.bind_some]; cases lenNat P d K x <;> rfl
@[go_sem] theorem len_slice {K : AHeap} {e : TypeId} {a : Option Addr} {n c : Nat} : lenNat P (.slice e) K (.slice a n c) = some n := by simp [lenNat, isSliceV, lenV]
@[go_sem] theorem len_string {K : AHeap} {s : ByteArray} : lenNat P .string K (.string s) = some s.size := by simp [lenNat, strV]
@[go_sem] theorem indexAddr_eq {t : TypeId} {x i : Value} : aIndexAddr P t x i = (P.underlying t).bind fun d => indexAddrD P d x i := rfl
@[go_sem] theorem indexAddr_slice {e : TypeId} {b o : Nat} {s : Option Nat} {n c : Nat} {i : Int} : indexAddrD P (.slice e) (.slice (some ⟨b, o, s⟩) n c) (.int .i64 i) = (idx n i).bind fun i => (sizeT P e).map fun q => .pointer (some ⟨b, o + i * q, none⟩) := by
  simp only [indexAddrD, slcAddr, elemAddr, intV, Option.bind_some]; rfl
@[go_sem] theorem idx_nat {n i : Nat} : idx n (i : Int) = guardO (decide (i < n)) (some i) := by
  show guardO (Nat.blt i n) (some i) = _
  congr 1
  rw [Bool.eq_iff_iff]; simp [Nat.blt_eq]
@[go_sem] theorem load_eq {K : AHeap} {t b o : Nat} : aLoadVar P K t b o = (isAggT P t).bind fun g => branch g (loadAgg K b o (sizeT P t)) (K.cell b o) := by
  unfold aLoadVar
  cases isAggT P t with
  | none => rfl
  | some g => cases g <;> rfl
end
end Go.Ev

/- What is told of functions with a body (a table of contracts); a closed call by the kernel's run; from a walk to the machine. Conditions: none. -/
set_option linter.unusedVariables false
set_option linter.unusedSimpArgs false
set_option linter.unnecessarySimpa false
namespace Go.Ev
variable {P : Program}

/-- A contract: called so, it answers v and leaves K'. -/
def HC (P : Program) (f : FuncId) (args : List Value) (K : AHeap) (v : Value) (K' : AHeap) : Prop :=
  ∀ η w args', Desc P η K w → WF K → Fresh η K K' → LRel η args args' → CallsIn (FW none) 0 P f args'.toArray w (Ends P η K w v K')

/-- A table of contracts. -/
structure Pacts (P : Program) where
  fn : FuncId → List Value → AHeap → Option (Value × AHeap)
  ok : ∀ f args K v K', fn f args K = some (v, K') → hasBody P f = true ∧ HC P f args K v K' ∧ (WF K → Kle K K')

def Pacts.none (P : Program) : Pacts P := ⟨fun _ _ _ => Option.none, fun _ _ _ _ _ h => by cases h⟩

/-- The table of functions without a body, and one of contracts. -/
def toldX (P : Program) (tab : List (FuncId × Xk)) (O : Pacts P) : Xt := fun f args K => match O.fn f args K with
  | some r => some r
  | none => extX P tab f args K

theorem toldX_ok {tab : List (FuncId × Xk)} (ht : TabOk P tab) (O : Pacts P) : XOk P (toldX P tab O) := fun f args K v K' h fn hfn η w args' hd hw hf hr => by
  unfold toldX at h
  split at h
  · rename_i hx
    cases h
    obtain ⟨h1, h2, _⟩ := O.ok _ _ _ _ _ hx
    refine ⟨fun hb => ?_, fun _ => h2 η w args' hd hw hf hr⟩
    unfold hasBody at h1
    rw [hfn] at h1
    simp [hb] at h1
  · exact extX_ok ht f args K v K' h fn hfn η w args' hd hw hf hr

theorem toldX_kle (tab : List (FuncId × Xk)) (O : Pacts P) : XKle (toldX P tab O) := fun f args K v K' h hw => by
  unfold toldX at h
  split at h
  · rename_i hx
    cases h
    exact (O.ok _ _ _ _ _ hx).2.2 hw
  · exact extX_kle tab f args K v K' h hw

theorem toldX_none {tab : List (FuncId × Xk)} {O : Pacts P} {f : FuncId} {args : List Value} {K : AHeap} (h1 : O.fn f args K = none) (h2 : tab.lookup f = none) : toldX P tab O f args K = none := by
  unfold toldX
  rw [h1]
  simp only [extX, h2, Option.bind_none]
theorem toldX_some {tab : List (FuncId × Xk)} {O : Pacts P} {f : FuncId} {args : List Value} {K : AHeap} {r : Value × AHeap} (h1 : O.fn f args K = some r) : toldX P tab O f args K = some r := by
  unfold toldX
  rw [h1]

/-- A call that is told. -/
theorem wcall_told {X : Xt} {f : FuncId} {fn : Func} (hf : P.funcs[f]? = some fn) (hb : fn.body.isSome) {args : List Value} {K : AHeap} {v : Value} {K' : AHeap} {Q : Value → AHeap → Prop} (hx : X f args K = some (v, K')) (h : Q v K') : WCall P X f args K Q := by
  obtain ⟨c, hc⟩ := Option.isSome_iff_exists.1 hb
  exact ⟨(v, K'), by simp only [evCall, hf, Option.bind_some, evFunc, hc, hx], h⟩
/-- A function without a body. -/
theorem wcall_ext {X : Xt} {f : FuncId} {fn : Func} (hf : P.funcs[f]? = some fn) (hb : fn.body = none) {args : List Value} {K : AHeap} {v : Value} {K' : AHeap} {Q : Value → AHeap → Prop} (hx : X f args K = some (v, K')) (h : Q v K') : WCall P X f args K Q :=
  ⟨(v, K'), by simp only [evCall, hf, Option.bind_some, evFunc, hb, hx], h⟩

section
variable {X : Xt}
/-- FROM A WALK TO THE MACHINE. -/
theorem calls_of_w (hX : XOk P X) (hXk : XKle X) (hng : NoNum P) (hmo : P.follows .mixedOrders = true) {f : FuncId} {args args' : List Value} {K : AHeap} {Q : Value → AHeap → Prop} (hb : hasBody P f = true) (h : WCall P X f args K Q)
    {η : Env} {w : World} (hd : Desc P η K w) (hw : WF K) (hη : ∀ n L, η n = some L → n < K.next) (hr : LRel η args args') :
    Calls P f args'.toArray w fun | .returned v', w' => ∃ v K' η', Q v K' ∧ Step P η K w η' K' w' ∧ VRel η' v v' | _, _ => False := by
  obtain ⟨⟨v, K'⟩, h1, hq⟩ := h
  obtain ⟨n, hn⟩ := callω h1
  obtain ⟨_, h2⟩ := call_enter hX hXk (ev_ok hX hXk hng hmo n) (ev_kle hXk n) hng hb hn hd hw (fun m L hm => .inl (hη m L hm)) hr
  refine calls_FW (h2.mono fun e w' he => ?_)
  cases e with
  | returned v' => obtain ⟨η', a, b⟩ := he; exact ⟨v, K', η', hq, a, b⟩
  | panicked c => exact he
  | outgrown => exact he

/-- A walk's contract, told. -/
theorem hc_of_w (hX : XOk P X) (hXk : XKle X) (hng : NoNum P) (hmo : P.follows .mixedOrders = true) {f : FuncId} {args : List Value} {K K' : AHeap} {v : Value} (hb : hasBody P f = true) (h : evCall P X (evω P X) f args K = some (v, K')) : HC P f args K v K' := fun η w args' hd hw hf hr => by
  obtain ⟨n, hn⟩ := callω h
  exact (call_enter hX hXk (ev_ok hX hXk hng hmo n) (ev_kle hXk n) hng hb hn hd hw hf hr).2

theorem grounds_nth : ∀ {l : List Value} {i : Nat} {v : Value}, grounds l = true → l[i]? = some v → ground v = true
  | [], i, v, _, h => by simp at h
  | x :: l, 0, v, hg, h => by simp at h; subst h; simp only [grounds, Bool.and_eq_true] at hg; exact hg.1
  | x :: l, i + 1, v, hg, h => by simp only [grounds, Bool.and_eq_true] at hg; exact grounds_nth hg.2 (by simpa using h)

/-- What is told of globals alone, all of it without names. -/
def Plain (K0 : AHeap) (g : Nat) : Prop := ∀ n o, K0.obj n = some o → n < g ∧ ∃ f, o = .ro f ∧ ∀ i v, f i = some v → ground v = true
/-- The one is known where the other is. -/
def Within (K0 K : AHeap) : Prop := ∀ m f, K0.obj m = some (.ro f) → ∃ f', K.obj m = some (.ro f') ∧ ∀ i v, f i = some v → f' i = some v

/-- A CLOSED CALL, by a run on the globals alone: pure, whatever else lies in the heap. -/
theorem hc_pure (hX : XOk P X) (hXk : XKle X) (hng : NoNum P) (hmo : P.follows .mixedOrders = true) {f : FuncId} {args : List Value} {K0 K1 K : AHeap} {v : Value} (hb : hasBody P f = true) {n : Nat} (h : evCall P X (ev P X n) f args K0 = some (v, K1))
    (hp : Plain K0 P.globals.size) (hn : P.globals.size ≤ K0.next) (hl : K0.next ≤ K1.low) (hg : grounds args = true) (hv : ground v = true) (hk : Within K0 K) : HC P f args K v K := fun η w args' hd hw hf hr => by
  let η0 : Env := fun m => if m < P.globals.size then η m else none
  have h0 : ∀ m L, η0 m = some L → m < P.globals.size ∧ η m = some L := fun m L hm => by
    simp only [η0] at hm
    split at hm
    · rename_i hlt; exact ⟨hlt, hm⟩
    · cases hm
  have hw0 : WF K0 := fun m hm => by
    cases ho : K0.obj m with
    | none => rfl
    | some o => have := (hp m o ho).1; omega
  have hd0 : Desc P η0 K0 w := by
    refine ⟨fun g hg => ?_, fun m L hm => hd.inb m L (h0 m L hm).2, fun a b La Lb ha hb he hne => ?_, fun m L o hm ho => ?_⟩
    · obtain ⟨L, a, b, c⟩ := hd.glob g hg
      exact ⟨L, by simp only [η0, if_pos hg]; exact a, b, c⟩
    · have live : ∀ m x, K0.obj m = some x → ∃ f', K.obj m = some (.ro f') := fun m x hx => by
        obtain ⟨_, f, rfl, _⟩ := hp m x hx
        obtain ⟨f', h1, _⟩ := hk m f hx
        exact ⟨f', h1⟩
      rcases hd.inj a b La Lb (h0 a La ha).2 (h0 b Lb hb).2 he hne with hx | hx
      · refine .inl fun x hx0 => ?_
        obtain ⟨f', h1⟩ := live a x hx0
        cases hx _ h1
      · refine .inr fun x hx0 => ?_
        obtain ⟨f', h1⟩ := live b x hx0
        cases hx _ h1
    · obtain ⟨_, f, rfl, hgl⟩ := hp m o ho
      obtain ⟨f', k1, k2⟩ := hk m f ho
      obtain ⟨z, c, e, fr, a1, a2⟩ := hd.obj m L _ (h0 m L hm).2 k1
      refine ⟨z, c, e, fr, a1, fun i u hi => ?_⟩
      obtain ⟨u', b1, b2⟩ := a2 i u (k2 i u hi)
      refine ⟨u', b1, ?_⟩
      have hgu : ground u = true := hgl i u hi
      rw [b2.eq_of_ground hgu]
      exact .ground u hgu
  have hf0 : Fresh η0 K0 K1 := fun m L hm => .inl (Nat.lt_of_lt_of_le (h0 m L hm).1 hn)
  have hr0 : LRel η0 args args' := by
    rw [hr.eq_of_ground hg]
    exact .ground args hg
  have hc := (call_enter hX hXk (ev_ok hX hXk hng hmo n) (ev_kle hXk n) hng hb h hd0 hw0 hf0 hr0).2
  refine hc.mono fun e w' he => ?_
  cases e with
  | panicked c => exact he
  | outgrown => exact he
  | returned v' =>
    obtain ⟨η', hs, hvr⟩ := he
    have hfrm : ∀ b, b < w.heap.size → w'.heap[b]? = w.heap[b]? := fun b hb => hs.frm b hb fun m L hm _ => .inr (.inr (by have := (h0 m L hm).1; omega))
    refine ⟨η, ⟨Ext.refl η, fun _ _ h => .inl h, fun m L h0 h1 => (by rw [h0] at h1; cases h1), ?_, hs.size, fun b hb _ => hfrm b hb, fun _ _ _ => rfl, hs.tape, hs.os, hs.output⟩, ?_⟩
    · exact ⟨hd.glob, fun m L hm => Nat.lt_of_lt_of_le (hd.inb m L hm) hs.size, hd.inj, fun m L o hm ho => (hd.obj m L o hm ho).block (P := P) (hfrm _ (hd.inb m L hm))⟩
    · rw [hvr.eq_of_ground hv]
      exact .ground v hv
end
end Go.Ev

/- Slices of structs under a walk. Conditions: none. -/
set_option linter.unusedVariables false
set_option linter.unusedSimpArgs false
set_option linter.unnecessarySimpa false
namespace Go.Ev
/-! ### Places, compared -/
attribute [go_sem] Nat.add_assoc Nat.add_lt_add_iff_left Nat.add_left_cancel_iff Nat.add_zero Nat.zero_add Nat.mul_one Nat.one_mul
@[go_sem] theorem lt_lit {n k : Nat} : (n < n + (k + 1)) = True := eq_true (by omega)
@[go_sem] theorem lt_self' {n : Nat} : (n < n) = False := by simp
@[go_sem] theorem lt_lit' {n k : Nat} : (n + k < n) = False := by simp
@[go_sem] theorem eq_lit {n k : Nat} : (n = n + (k + 1)) = False := by simp
@[go_sem] theorem eq_lit' {n k : Nat} : (n + (k + 1) = n) = False := by simp
@[go_sem] theorem lt_up {n m k : Nat} (h : n < m) : (n < m + k) = True := eq_true (by omega)
@[go_sem] theorem eq_up {n m k : Nat} (h : n < m) : (n = m + k) = False := eq_false (by omega)
@[go_sem] theorem eq_up0 {n m : Nat} (h : n < m) : (n = m) = False := eq_false (by omega)
@[go_sem] theorem ne_iff {n m : Nat} : (n ≠ m) = ¬ (n = m) := nrfl rfl
attribute [go_sem] not_false_eq_true not_true_eq_false Bool.false_or Bool.true_or Bool.or_false Bool.or_true Bool.and_true Bool.true_and Bool.false_and Bool.and_false Bool.not_not
@[go_sem] theorem add_cell_same {K : AHeap} {l : List Value} {e : TypeId} {n o : Nat} (h : n = K.next) : (K.add (.cells l e)).cell n o = l[o]? := kcell_of (add_obj_same h)
@[go_sem] theorem add_cell_old {K : AHeap} {ob : AObj} {n o : Nat} (h : n < K.next) : (K.add ob).cell n o = K.cell n o := by simp only [AHeap.cell, add_obj_old h]
@[go_sem] theorem upd_cell_same {K : AHeap} {l : List Value} {e : TypeId} {n m o : Nat} (h : n = m) : (K.upd m (.cells l e)).cell n o = l[o]? := kcell_of (upd_obj_same h)
@[go_sem] theorem upd_cell_ne {K : AHeap} {ob : AObj} {n m o : Nat} (h : n ≠ m) : (K.upd m ob).cell n o = K.cell n o := by simp only [AHeap.cell, upd_obj_ne h]
@[go_sem] theorem fresh_cell {K : AHeap} {n o : Nat} : K.fresh.cell n o = K.cell n o := rfl
@[go_sem] theorem join_cell {K : AHeap} {l n o : Nat} : (K.join l).cell n o = K.cell n o := rfl
@[go_sem] theorem add_read_same {K : AHeap} {l : List Value} {e : TypeId} {n o k : Nat} (h : n = K.next) : (K.add (.cells l e)).read n o k = takeN k (l.drop o) := kread_of (add_obj_same h)
@[go_sem] theorem add_read_old {K : AHeap} {ob : AObj} {n o k : Nat} (h : n < K.next) : (K.add ob).read n o k = K.read n o k := by simp only [AHeap.read, add_obj_old h]
@[go_sem] theorem upd_read_same {K : AHeap} {l : List Value} {e : TypeId} {n m o k : Nat} (h : n = m) : (K.upd m (.cells l e)).read n o k = takeN k (l.drop o) := kread_of (upd_obj_same h)
@[go_sem] theorem upd_read_ne {K : AHeap} {ob : AObj} {n m o k : Nat} (h : n ≠ m) : (K.upd m ob).read n o k = K.read n o k := by simp only [AHeap.read, upd_obj_ne h]
@[go_sem] theorem fresh_read {K : AHeap} {n o k : Nat} : K.fresh.read n o k = K.read n o k := rfl
@[go_sem] theorem join_read {K : AHeap} {l n o k : Nat} : (K.join l).read n o k = K.read n o k := rfl
/-! ### Explicit lists -/
attribute [go_sem] List.getElem?_cons_zero List.getElem?_cons_succ List.drop_zero List.drop_succ_cons List.append_nil List.nil_append List.cons_append Array.toList_empty
@[go_sem] theorem takeN_zero {l : List Value} : takeN 0 l = some [] := rfl
@[go_sem] theorem takeN_cons {n : Nat} {v : Value} {l : List Value} : takeN (n + 1) (v :: l) = (takeN n l).map (v :: ·) := rfl
@[go_sem] theorem map_some' {α β : Type} {x : α} {f : α → β} : (some x).map f = some (f x) := rfl

/-! ### More operations -/
attribute [go_sem] List.size_toArray List.length_cons List.length_nil decide_eq_true_eq Nat.mul_zero Nat.zero_mul
@[go_sem] theorem nbeq_eq {a b : Nat} : Nat.beq a b = decide (a = b) := by
  rw [Bool.eq_iff_iff]; simp [Nat.beq_eq]
@[go_sem] theorem nble_eq {a b : Nat} : Nat.ble a b = decide (a ≤ b) := by
  rw [Bool.eq_iff_iff]; simp [Nat.ble_eq]
@[go_sem] theorem cells_agg {cs : Array Value} : (Value.agg cs).cells = cs := rfl
@[go_sem] theorem cells_int {k : IntKind} {n : Int} : (Value.int k n).cells = #[.int k n] := rfl
@[go_sem] theorem cells_bool {b : Bool} : (Value.bool b).cells = #[.bool b] := rfl
@[go_sem] theorem cells_string {s : ByteArray} : (Value.string s).cells = #[.string s] := rfl
@[go_sem] theorem cells_slice {a : Option Addr} {n c : Nat} : (Value.slice a n c).cells = #[.slice a n c] := rfl
@[go_sem] theorem cells_pointer {a : Option Addr} : (Value.pointer a).cells = #[.pointer a] := rfl
@[go_sem] theorem cells_map {a : Option Nat} : (Value.map a).cells = #[.map a] := rfl
@[go_sem] theorem cells_func {f : Fn} {a b : Array Value} : (Value.func f a b).cells = #[.func f a b] := rfl
@[go_sem] theorem one_int {k : IntKind} {n : Int} : oneCell (.int k n) = true := nrfl rfl
@[go_sem] theorem one_bool {b : Bool} : oneCell (.bool b) = true := nrfl rfl
@[go_sem] theorem one_string {s : ByteArray} : oneCell (.string s) = true := nrfl rfl
@[go_sem] theorem one_slice {a : Option Addr} {n c : Nat} : oneCell (.slice a n c) = true := nrfl rfl
@[go_sem] theorem one_pointer {a : Option Addr} : oneCell (.pointer a) = true := nrfl rfl
@[go_sem] theorem one_map {a : Option Nat} : oneCell (.map a) = true := nrfl rfl
@[go_sem] theorem one_func {f : Fn} {a b : Array Value} : oneCell (.func f a b) = true := nrfl rfl
@[go_sem] theorem over_zero {xs vs : List Value} : over 0 xs vs = overFront xs vs := rfl
@[go_sem] theorem over_succ {n : Nat} {xs vs : List Value} {v : Value} : over (n + 1) xs (v :: vs) = (over n xs vs).map (v :: ·) := rfl
@[go_sem] theorem overFront_nil {vs : List Value} : overFront [] vs = some vs := rfl
@[go_sem] theorem overFront_cons {x v : Value} {xs vs : List Value} : overFront (x :: xs) (v :: vs) = branch (oneCell x) ((overFront xs vs).map (x :: ·)) none := by
  unfold branch; simp only [overFront]; cases oneCell x <;> rfl
@[go_sem] theorem branch_true {β : Type} {a b : Option β} : branch true a b = a := rfl
@[go_sem] theorem branch_false {β : Type} {a b : Option β} : branch false a b = b := rfl
@[go_sem] theorem bind_some' {α β : Type} {x : α} {f : α → Option β} : (some x).bind f = f x := rfl
@[go_sem] theorem guardO_true {β : Type} {o : Option β} : guardO true o = o := rfl
section
variable {P : Program}
@[go_sem] theorem loadAgg_eq {K : AHeap} {b o n : Nat} : loadAgg K b o (some n) = (K.read b o n).map fun l => .agg l.toArray := rfl
@[go_sem] theorem elemT_eq {t : TypeId} : elemT P t = (P.underlying t).bind elemD := rfl
@[go_sem] theorem elemD_slice {e : TypeId} : elemD (.slice e) = some e := rfl
@[go_sem] theorem zeroRow_eq {e : TypeId} {n : Nat} : zeroRow P e n = (zerosT P e).map fun z => (List.replicate n z).flatten := rfl
attribute [go_sem] List.replicate_succ List.replicate_zero List.flatten_cons List.flatten_nil
@[go_sem] theorem buildSlice_eq {K : AHeap} {t : TypeId} {n : Nat} {vs : List (Nat × Value)} : aBuildSlice P K t n vs = (elemT P t).bind fun e => (sizeT P e).bind fun s => guardO (Nat.ble (n * s) 16777216) ((zeroRow P e n).bind fun z => (fillL (fun i => some (i * s, s)) vs z).map fun cs => (.slice (some ⟨K.next, 0, none⟩) n n, K.add (.cells cs e))) := by
  unfold aBuildSlice
  cases elemT P t with
  | none => rfl
  | some e =>
    simp only [Option.bind_some]
    cases sizeT P e with
    | none => rfl
    | some s =>
      simp only [Option.bind_some]
      congr 1
      cases zeroRow P e n with
      | none => rfl
      | some z =>
        simp only [Option.bind_some]
        cases fillL (fun i => some (i * s, s)) vs z with
        | none => rfl
        | some cs => simp only [Option.bind_some, mk_eq, Option.map_some, slcEx]
@[go_sem] theorem ptr_eql {a b : Option Addr} {K : AHeap} {t : TypeId} {ox oy : Operand} : aBin P (.pointer a) K .eql t ox oy (.pointer b) = (P.underlying t).bind fun d => (aEqD P d K (.pointer a) (.pointer b) (isConst ox || isConst oy)).map .bool := by
  simp only [aBin, binOther, isAggV, binEq]
  cases P.underlying t <;> rfl
@[go_sem] theorem ptr_neq {a b : Option Addr} {K : AHeap} {t : TypeId} {ox oy : Operand} : aBin P (.pointer a) K .neq t ox oy (.pointer b) = (P.underlying t).bind fun d => (aEqD P d K (.pointer a) (.pointer b) (isConst ox || isConst oy)).map fun b => .bool (!b) := by
  simp only [aBin, binOther, isAggV, binEq]
  cases P.underlying t <;> rfl
@[go_sem] theorem eqD_ptr {a b : Option Addr} {K : AHeap} {e : TypeId} {l : Bool} : aEqD P (.pointer e) K (.pointer a) (.pointer b) l = eqPtr P K e a b := rfl
@[go_sem] theorem eqPtr_none {b : Option Addr} {K : AHeap} {e : TypeId} : eqPtr P K e none b = some b.isNone := rfl
@[go_sem] theorem eqPtr_some {a : Addr} {K : AHeap} {e : TypeId} : eqPtr P K e (some a) none = some false := rfl
attribute [go_sem] Option.isNone_none Option.isNone_some Option.isSome_none Option.isSome_some
@[go_sem] theorem grnd_ptr0 : grnd (.pointer none) = true := nrfl rfl
@[go_sem] theorem grnd_slice0 {n c : Nat} : grnd (.slice none n c) = true := nrfl rfl
@[go_sem] theorem grnd_map0 : grnd (.map none) = true := nrfl rfl
@[go_sem] theorem grnd_nilFunc : grnd .nilFunc = true := nrfl rfl
end

/-- The cells of element after element. -/
theorem rows_get {q : Nat} : ∀ {vs : List (List Value)} {i j : Nat}, (∀ (k : Nat) (c : List Value), vs[k]? = some c → c.length = q) → j < q → i < vs.length → vs.flatten[i * q + j]? = (vs[i]?).bind fun c => c[j]?
  | [], i, j, _, _, hi => by simp at hi
  | c :: vs, 0, j, h, hj, _ => by
    have hc : c.length = q := h 0 c rfl
    simp only [List.flatten_cons, Nat.zero_mul, Nat.zero_add]
    rw [List.getElem?_append_left (by omega)]
    rfl
  | c :: vs, i + 1, j, h, hj, hi => by
    have hc : c.length = q := h 0 c rfl
    simp only [List.flatten_cons]
    rw [List.getElem?_append_right (by rw [hc, Nat.add_mul]; omega)]
    have e : (i + 1) * q + j - c.length = i * q + j := by rw [hc, Nat.add_mul]; omega
    rw [e, rows_get (fun k c' hk => h (k + 1) c' (by simpa using hk)) hj (by simpa using hi)]
    simp
theorem rows_len {q : Nat} : ∀ {vs : List (List Value)}, (∀ (k : Nat) (c : List Value), vs[k]? = some c → c.length = q) → vs.flatten.length = vs.length * q
  | [], _ => by simp
  | c :: vs, h => by
    have hc : c.length = q := h 0 c rfl
    rw [List.flatten_cons, List.length_append, hc, rows_len fun k c' hk => h (k + 1) c' (by simpa using hk), List.length_cons, Nat.add_mul]; omega
/-- A slice of structs (or of what else has q cells), told element by element. -/
def SlR {α : Type} (K : AHeap) (q : Nat) (R : AHeap → α → List Value → Prop) (l : List α) (v : Value) : Prop :=
  ∃ vs : List (List Value), vs.length = l.length ∧ (∀ (k : Nat) (c : List Value), vs[k]? = some c → c.length = q) ∧ (∀ (k : Nat) (x : α) (c : List Value), l[k]? = some x → vs[k]? = some c → R K x c) ∧ Sl K q l.length vs.flatten v
theorem SlR.grew {α : Type} {K K' : AHeap} {q : Nat} {R : AHeap → α → List Value → Prop} (hR : ∀ x c, R K x c → R K' x c) (hg : Grew K K') {l : List α} {v : Value} (h : SlR K q R l v) : SlR K' q R l v := by
  obtain ⟨vs, h1, h2, h3, h4⟩ := h
  exact ⟨vs, h1, h2, fun k x c a b => hR x c (h3 k x c a b), h4.grew hg⟩
/-- The element at a place. -/
theorem SlR.at {α : Type} {K : AHeap} {q : Nat} {R : AHeap → α → List Value → Prop} {l : List α} {v : Value} (h : SlR K q R l v) {i : Nat} (hi : i < l.length) :
    ∃ b o s c cs, v = .slice (some ⟨b, o, s⟩) l.length c ∧ R K l[i] cs ∧ cs.length = q ∧ ∀ j, j < q → K.cell b (o + (i * q + j)) = cs[j]? := by
  obtain ⟨vs, h1, h2, h3, h4, a, c, rfl, h5⟩ := h
  obtain ⟨b, o, s, rfl, hrow⟩ := h5.resolve_left (by omega)
  have hiv : i < vs.length := by omega
  refine ⟨b, o, s, c, vs[i], rfl, h3 i _ _ (by simp [hi]) (by simp [hiv]), h2 i _ (by simp [hiv]), fun j hj => ?_⟩
  have hlt : i * q + j < vs.flatten.length := by
    rw [rows_len h2]
    calc i * q + j < i * q + q := by omega
      _ = (i + 1) * q := by rw [Nat.add_mul]; omega
      _ ≤ vs.length * q := Nat.mul_le_mul_right _ hiv
  rw [hrow.cell hlt, rows_get h2 hj hiv]
  simp [hiv]
theorem SlR.len {α : Type} {K : AHeap} {q : Nat} {R : AHeap → α → List Value → Prop} {l : List α} {v : Value} (h : SlR K q R l v) : ∃ a c, v = .slice a l.length c := by
  obtain ⟨vs, h1, h2, h3, h4, a, c, rfl, h5⟩ := h
  exact ⟨a, c, rfl⟩

end Go.Ev

/- From a row's world to the abstract heap, and back: what is read of old blocks is read behind the call as it was. Conditions: none. -/
set_option linter.unusedVariables false
set_option linter.unusedSimpArgs false
set_option linter.unnecessarySimpa false
namespace Go.Ev
universe u

/-- All old blocks are as they were. -/
def Kept (W W' : World) : Prop := ∀ b, b < W.heap.size → W'.heap[b]? = W.heap[b]?

theorem Kept.cell {W W' : World} (h : Kept W W') {a : Addr} {v : Value} (hv : W.cell? a = some v) : W'.cell? a = some v := by
  have hb : a.block < W.heap.size := by
    by_cases hb : a.block < W.heap.size
    · exact hb
    · have : W.heap[a.block]? = none := by simp; omega
      simp [World.cell?, this] at hv
  unfold World.cell? at hv ⊢
  rw [h _ hb]; exact hv

theorem mapM_opt {α β : Type} {f g : α → Option β} : ∀ {l : List α} {r : List β}, l.mapM f = some r → (∀ x y, x ∈ l → f x = some y → y ∈ r → g x = some y) → l.mapM g = some r
  | [], r, h, _ => by simpa using h
  | x :: l, r, h, k => by
    rw [List.mapM_cons] at h ⊢
    simp only [Option.bind_eq_bind, Option.pure_def] at h ⊢
    obtain ⟨y, h1, h2⟩ := bind_some.1 h
    obtain ⟨ys, h3, h4⟩ := bind_some.1 h2
    cases h4
    rw [k x y (by simp) h1 (by simp), Option.bind_some, mapM_opt h3 fun a b ha hb hc => k a b (by simp [ha]) hb (by simp [hc])]
    rfl

theorem Kept.cells {W W' : World} (h : Kept W W') {base : Nat} {a : Addr} {n : Nat} {cs : List Value} (hv : W.cells? base a n = some cs) : W'.cells? base a n = some cs := by
  unfold World.cells? at hv ⊢
  split at hv
  · rename_i hb
    rw [if_pos hb]
    exact mapM_opt hv fun i v _ hi _ => h.cell hi
  · cases hv

section
variable {H : Type} {enc : TypeId × Value → H} {P : Program} {W W' : World} {base : Nat} {held : Bool} {sp : Nat → Bool}

theorem mapM_len {α β : Type} {f : α → Option β} : ∀ {l : List α} {r : List β}, l.mapM f = some r → r.length = l.length
  | [], r, h => by simp at h; subst h; rfl
  | x :: l, r, h => by
    rw [List.mapM_cons] at h
    simp only [Option.bind_eq_bind, Option.pure_def] at h
    obtain ⟨y, _, h2⟩ := bind_some.1 h
    obtain ⟨ys, h3, h4⟩ := bind_some.1 h2
    cases h4
    simp [mapM_len h3]

theorem cells_lt {base n : Nat} {a : Addr} {cs : List Value} (h : W.cells? base a n = some cs) (hn : n ≠ 0) : a.block < W.heap.size := by
  obtain ⟨_, hl, hc⟩ := World.cells?_some h
  have h0 := hc 0 (by omega)
  by_cases hb : a.block < W.heap.size
  · exact hb
  · have e : W.heap[(a.add 0).block]? = none := by simp [Addr.add]; omega
    have h1 : W.cell? (a.add 0) = none := by simp only [World.cell?, e]
    rw [h1] at h0
    have : cs.length ≤ 0 := List.getElem?_eq_none_iff.1 h0.symm
    omega

/-- The table's types lead to no others, and no slice of elements without cells is among them. -/
def typeOk (P : Program) (t : TypeId) : Bool := match P.underlying t with
  | some (.slice e) => decide (e < P.types.size) && !(Nat.beq (P.cellsOf e) 0)
  | some (.pointer e) => decide (e < P.types.size)
  | some (.array _ e) => decide (e < P.types.size)
  | some (.map _ e) => decide (e < P.types.size)
  | some (.struct fs) => fs.toList.all fun f => decide (f.type < P.types.size)
  | _ => true
def NoZero (P : Program) : Prop := (List.range P.types.size).all (typeOk P) = true
theorem NoZero.at {P : Program} (h : NoZero P) {t : TypeId} (ht : t < P.types.size) : typeOk P t = true := List.all_eq_true.1 h t (List.mem_range.2 ht)

/-- WHAT WAS READ OF OLD BLOCKS IS READ AS IT WAS. -/
theorem trod_keep (hz : NoZero P) (hk : Kept W W') (hsp : ∀ b, b < W.heap.size → sp b = true) : ∀ (n : Nat) (t : TypeId) (cs : List Value) (x : DataW H × List MemPlace), t < P.types.size → DataW.trod enc P W base (fun _ => true) true n t cs = some x → DataW.trod enc P W' base sp true n t cs = some x := by
  intro n
  induction n with
  | zero => intro t cs x _ h; cases h
  | succ n ih =>
    intro t cs x htl h
    have htok := hz.at htl
    unfold typeOk at htok
    have one : ∀ (e : TypeId) (a : Addr) (k : Nat) y, e < P.types.size → (W.cells? base a k).bind (DataW.trod enc P W base (fun _ => true) true n e) = some y → (W'.cells? base a k).bind (DataW.trod enc P W' base sp true n e) = some y := fun e a k y hel hy => by
      obtain ⟨c, h5, h6⟩ := bind_some.1 hy
      rw [hk.cells h5, Option.bind_some, ih _ _ y hel h6]
    unfold DataW.trod at h ⊢
    split at h <;> try (first | exact h | cases h; done)
    · -- pointer
      rename_i e a heq
      rw [heq] at htok
      obtain ⟨y, h1, rfl⟩ := map_some.1 h
      rw [one _ _ _ y (of_decide_eq_true htok) h1]
      rfl
    · -- slice
      rename_i e a len cap heq
      rw [heq] at htok
      simp only [Bool.and_eq_true, decide_eq_true_eq, Bool.not_eq_true'] at htok
      obtain ⟨hel, hez⟩ := htok
      have hez : P.cellsOf e ≠ 0 := fun h0 => by rw [h0] at hez; cases hez
      split at h
      · rename_i hb
        rw [if_pos hb]
        obtain ⟨elems, h1, h2⟩ := bind_some.1 h
        obtain ⟨rest, h3, rfl⟩ := map_some.1 h2
        simp only [if_true] at h3
        have he : (List.range len).mapM (fun i => (W'.cells? base (a.add (i * P.cellsOf e)) (P.cellsOf e)).bind (DataW.trod enc P W' base sp true n e)) = some elems :=
          mapM_opt h1 fun i y hi hy hm => one _ _ _ y hel hy
        have all := mapM_opt (g := fun j => (W'.cells? base (a.add ((len + j) * P.cellsOf e)) (P.cellsOf e)).bind (DataW.trod enc P W' base sp true n e)) h3 fun j y hj hy hm => one _ _ _ y hel hy
        have hr : (if sp a.block = true then (List.range (cap - len)).mapM (fun j => (W'.cells? base (a.add ((len + j) * P.cellsOf e)) (P.cellsOf e)).bind (DataW.trod enc P W' base sp true n e)) else some []) = some rest := by
          by_cases hc : cap - len = 0
          · rw [hc] at h3 ⊢
            have : rest = [] := by simpa using h3.symm
            subst this
            split <;> rfl
          · have hl := mapM_len h3
            have hlt : a.block < W.heap.size := by
              cases rest with
              | nil => simp at hl; omega
              | cons y r =>
                obtain ⟨m, hm⟩ : ∃ m, cap - len = m + 1 := ⟨cap - len - 1, by omega⟩
                rw [hm, List.range_succ_eq_map, List.mapM_cons] at h3
                simp only [Option.bind_eq_bind, Option.pure_def] at h3
                obtain ⟨y', h4, _⟩ := bind_some.1 h3
                obtain ⟨c, h5, _⟩ := bind_some.1 h4
                exact (show ∀ k, (a.add k).block = a.block from fun _ => by unfold Addr.add; split <;> rfl) _ ▸ cells_lt h5 hez
            rw [if_pos (hsp _ hlt)]
            exact all
        simp only [he, Option.bind_some, hr, Option.map_some]
      · cases h
    · -- struct
      rename_i fs heq
      rw [heq] at htok
      split at h
      · rename_i hl
        rw [if_pos hl]
        obtain ⟨xs, h1, rfl⟩ := map_some.1 h
        rw [mapM_opt h1 fun f y hf hy _ => ih _ _ y (of_decide_eq_true (List.all_eq_true.1 htok f hf)) hy]
        rfl
      · cases h
    · -- array
      rename_i k e heq
      rw [heq] at htok
      split at h
      · rename_i hl
        rw [if_pos hl]
        obtain ⟨xs, h1, rfl⟩ := map_some.1 h
        rw [mapM_opt h1 fun f y _ hy _ => ih _ _ y (of_decide_eq_true htok) hy]
        rfl
      · cases h
    · -- map
      rename_i k e b heq
      rw [heq] at htok
      split at h
      · rename_i es clock hh
        have hb : b < W.heap.size := by
          by_cases hb : b < W.heap.size
          · exact hb
          · have : W.heap[b]? = none := by simp; omega
            rw [this] at hh; cases hh
        rw [hk b hb, hh]
        simp only
        split at h
        · rename_i hc
          rw [if_pos hc]
          obtain ⟨en, h1, h2⟩ := bind_some.1 h
          have : (es.toList.mapM fun x => (keyOf P k x.key).bind fun key => if x.val.formed P e then (DataW.trod enc P W' base sp true n e x.val.cells.toList).map fun y => ((key, y.1), y.2) else none) = some en := by
            refine mapM_opt h1 fun x y _ hy _ => ?_
            obtain ⟨key, h3, h4⟩ := bind_some.1 hy
            rw [h3, Option.bind_some]
            split at h4
            · rename_i hf
              rw [if_pos hf]
              obtain ⟨z, h5, rfl⟩ := map_some.1 h4
              rw [ih _ _ z (of_decide_eq_true htok) h5]
              rfl
            · cases h4
          rw [this, Option.bind_some]
          exact h2
        · cases h
      · cases h

theorem trodAll_keep (hz : NoZero P) (hk : Kept W W') (hsp : ∀ b, b < W.heap.size → sp b = true) : ∀ {ts : List TypeId} {vs : List Value} {ds : List (DataW H)} {ps : List MemPlace}, (∀ t ∈ ts, t < P.types.size) → DataW.TrodAll enc P W base (fun _ => true) true ts vs ds ps → DataW.TrodAll enc P W' base sp true ts vs ds ps
  | [], [], [], ps, _, h => h
  | t :: ts, v :: vs, d :: ds, ps, hts, ⟨p, q, ⟨n, h1⟩, h2, h3⟩ => ⟨p, q, ⟨n, trod_keep hz hk hsp n t _ _ (hts t (by simp)) h1⟩, trodAll_keep hz hk hsp (fun u hu => hts u (by simp [hu])) h2, h3⟩
  | [], _ :: _, _, _, _, h => h.elim
  | [], [], _ :: _, _, _, h => h.elim
  | _ :: _, [], _, _, _, h => h.elim
  | _ :: _, _ :: _, [], _, _, h => h.elim

theorem Kept.but (hk : Kept W W') (hos : W'.os = W.os) (hout : W'.output = W.output) (may : MemPlace → Prop) : W.keptBut W' may := by
  refine ⟨hos, hout, fun i hi => ?_⟩
  rw [hk i hi]
  cases h : W.heap[i]? with
  | none => exact rfl
  | some o =>
    cases o <;> first | exact ⟨rfl, rfl, rfl, fun _ _ => rfl⟩ | exact .inr ⟨rfl, rfl⟩ | exact rfl

theorem Kept.frozen (hk : Kept W W') {a : Addr} (h : a.block < W.heap.size) : W'.frozen? a = W.frozen? a := by
  unfold World.frozen?
  rw [hk _ h]

/-- A LAW'S END: it answers true, and all that was there is as it was. -/
theorem law_post {f : Func} {s : ChangeSpec} {apart fresh handsOn again : Bool} {args : Array Value} {ds gs : List (DataW H)} {before : List MemPlace} {tb : TypeId} (hz : NoZero P) (hts : f.params.toList.all (fun t => decide (t < P.types.size)) = true)
    (hW : DataW.Whole enc P f.params.toList s.vars apart W args.toList ds gs before) (hv : s.vars = []) (hrt : f.resultTypes = #[tb]) (htb : P.underlying tb = some .bool)
    (hfn : s.fn H (ds ++ gs) = { results := [.lit (.bool true)], args := ds }) (hk : Kept W W') (hos : W'.os = W.os) (hout : W'.output = W.output) : s.post enc P f apart fresh handsOn again W args (.bool true) W' := by
  have hW0 := hW
  obtain ⟨p, q, hA, hV, rfl, hfz, hnd⟩ := hW
  rw [hv] at hV
  obtain ⟨rfl, rfl⟩ : gs = [] ∧ q = [] := by
    cases gs with
    | nil => exact ⟨rfl, hV⟩
    | cons g r => exact absurd hV (by intro h; cases h)
  have hres : ∀ (b : Nat) (sp : Nat → Bool) (hd : Bool), DataW.TrodAll enc P W' b sp hd f.resultTypes.toList ((Value.bool true).resultList f.resultTypes.size) (s.fn H (ds ++ [])).results [] := fun b sp hd => by
    rw [hfn, hrt]
    exact ⟨[], [], ⟨1, by simp [DataW.trod, htb, Value.cells]⟩, rfl, rfl⟩
  have hargs : ∀ sp : Nat → Bool, (∀ b, b < W.heap.size → sp b = true) → DataW.TrodAll enc P W' 0 sp true f.params.toList args.toList (s.fn H (ds ++ [])).args p := fun sp hsp => by
    rw [hfn]
    exact trodAll_keep hz hk hsp (fun t ht => of_decide_eq_true (List.all_eq_true.1 hts t ht)) hA
  have hvars : ∀ sp : Nat → Bool, DataW.TrodVars enc P W' sp s.vars (s.fn H (ds ++ [])).vars [] := fun sp => by
    rw [hfn, hv]; rfl
  refine ⟨ds, [], p ++ [], [], p, [], hW0, hres _ _ _, hargs _ (fun b hb => by simpa using hb), hvars _, hk.but hos hout _, fun _ => ⟨?_, _, _, ([] ++ p) ++ [], ⟨[] ++ p, [], ChangeShapes.trodAll_append (hargs _ (fun _ _ => rfl)) (hres _ _ _), hvars _, rfl, ?_, ?_⟩, ?_⟩⟩
  · intro j t r h1 h2
    rw [hrt] at h1 h2
    cases j with
    | zero =>
      simp at h1; subst h1
      simp [Value.resultList] at h2
      subst h2
      simp [Value.okWide, htb, Cell.okWide, Cell.ok]
    | succ j => simp at h1
  · intro b off hp
    have hp' : MemPlace.cell b off ∈ p ++ [] := by simpa using hp
    rw [hk.frozen (a := ⟨b, off, none⟩) (hW0.lt _ hp')]
    exact hfz b off hp'
  · intro ha
    have := hnd ha
    simpa using this
  · intro x hx _
    simpa using hx
end

/-! ### The abstract heap of a world -/
/-- A value of which all is known, its names the blocks. -/
def idOk (N : Nat) : Value → Bool
  | .bool _ | .int _ _ | .float _ _ | .complex _ _ _ | .string _ | .nilFunc | .nilIface => true
  | .pointer none | .slice none _ _ | .map none | .chan none => true
  | .pointer (some ⟨b, _, none⟩) => Nat.blt b N
  | .slice (some ⟨b, _, none⟩) _ _ => Nat.blt b N
  | _ => false

def idEnv (W : World) : Env := fun n => if n < W.heap.size then some ⟨n, 0, 0⟩ else none

theorem idEnv_some {W : World} {n : Nat} (h : n < W.heap.size) : idEnv W n = some ⟨n, 0, 0⟩ := by simp [idEnv, h]
theorem idEnv_inv {W : World} {n : Nat} {L : Loc} (h : idEnv W n = some L) : n < W.heap.size ∧ L = ⟨n, 0, 0⟩ := by
  unfold idEnv at h
  split at h
  · rename_i hl; cases h; exact ⟨hl, rfl⟩
  · cases h

theorem id_rel {W : World} {v : Value} (h : idOk W.heap.size v = true) : VRel (idEnv W) v v := by
  unfold idOk at h
  split at h <;> first | (cases h; done) | (constructor; done) | skip
  · rename_i b o
    exact VRel.ptr (L := ⟨b, 0, 0⟩) (idEnv_some (by simpa [Nat.blt_eq] using h))
  · rename_i b o l c
    exact VRel.sex (L := ⟨b, 0, 0⟩) l c (idEnv_some (by simpa [Nat.blt_eq] using h))

def idObj (W : World) (n : Nat) : Option AObj := match W.heap[n]? with
  | some (.cells c _ _) => some (.ro fun i => (c[i]?).bind fun v => guardO (idOk W.heap.size v) (some v))
  | _ => none

theorem tree_of (f : Nat → Option AObj) : ∀ N : Nat, ∃ t : T AObj, ∀ n, t.get n = if n < N then f n else none
  | 0 => ⟨.e, fun n => by simp [T.get]⟩
  | N + 1 => by
    obtain ⟨t, ht⟩ := tree_of f N
    cases hf : f N with
    | none =>
      refine ⟨t, fun n => ?_⟩
      rw [ht]
      by_cases hn : n = N
      · subst hn; simp [hf]
      · by_cases h1 : n < N
        · simp [h1]; omega
        · rw [if_neg h1, if_neg (by omega)]
    | some o =>
      refine ⟨t.put N o, fun n => ?_⟩
      rw [T.get_put', ht]
      by_cases hn : n = N
      · subst hn; simp [hf]
      · rw [if_neg hn]
        by_cases h1 : n < N
        · rw [if_pos h1, if_pos (by omega)]
        · rw [if_neg h1, if_neg (by omega)]

noncomputable def idHeap (W : World) : AHeap := { t := Classical.choose (tree_of (idObj W) W.heap.size), next := W.heap.size, low := W.heap.size }
theorem idHeap_obj {W : World} {n : Nat} : (idHeap W).obj n = if n < W.heap.size then idObj W n else none := Classical.choose_spec (tree_of (idObj W) W.heap.size) n
theorem idHeap_wf (W : World) : WF (idHeap W) := fun n hn => by
  rw [idHeap_obj, if_neg (by show ¬ n < W.heap.size; have : W.heap.size ≤ n := hn; omega)]
theorem idHeap_desc {P : Program} {W : World} (hg : P.globals.size ≤ W.heap.size) : Desc P (idEnv W) (idHeap W) W := by
  refine ⟨fun g h => ⟨_, idEnv_some (by omega), rfl, rfl⟩, fun n L h => ?_, fun a b La Lb ha hb he hne => ?_, fun n L o hn ho => ?_⟩
  · obtain ⟨h1, rfl⟩ := idEnv_inv h; exact h1
  · obtain ⟨h1, rfl⟩ := idEnv_inv ha
    obtain ⟨h2, rfl⟩ := idEnv_inv hb
    exact absurd he hne
  · obtain ⟨h1, rfl⟩ := idEnv_inv hn
    rw [idHeap_obj, if_pos h1] at ho
    unfold idObj at ho
    split at ho
    · rename_i c e fr hh
      cases ho
      refine ⟨rfl, c, e, fr, hh, fun i v hi => ?_⟩
      obtain ⟨u', h3, h4⟩ := bind_some.1 hi
      obtain ⟨h5, h6⟩ := guardO_some.1 h4
      cases h6
      exact ⟨_, h3, id_rel h5⟩
    · cases ho
/-- A known cell of the world is one of the abstract heap. -/
theorem idHeap_cell {W : World} {b o : Nat} {v : Value} (h : W.cell? ⟨b, o, none⟩ = some v) (hv : idOk W.heap.size v = true) : (idHeap W).cell b o = some v := by
  have hb : b < W.heap.size := by
    by_cases hb : b < W.heap.size
    · exact hb
    · have : W.heap[b]? = none := by simp; omega
      simp [World.cell?, this] at h
  unfold AHeap.cell
  rw [idHeap_obj, if_pos hb]
  unfold idObj
  unfold World.cell? at h
  split at h
  · rename_i c e fr hh
    simp only at hh
    rw [hh]
    simp only [Option.isSome_none, Bool.false_eq_true, if_false] at h
    simp only [Option.bind_some, AObj.cellAt, h, hv, guardO]
  · cases h

/-- FROM A WALK TO THE MACHINE, from the world as it comes. -/
theorem calls_of_id {P : Program} {X : Xt} (hX : XOk P X) (hXk : XKle X) (hng : NoNum P) (hmo : P.follows .mixedOrders = true) {f : FuncId} {args : Array Value} {W : World} (hb : hasBody P f = true) (hg : P.globals.size ≤ W.heap.size)
    (ha : ∀ v ∈ args.toList, VRel (idEnv W) v v) {v : Value} (hv : ground v = true) (h : WCall P X f args.toList (idHeap W) fun r K' => r = v ∧ Grew (idHeap W) K') :
    Calls P f args W fun e W' => e = .returned v ∧ Kept W W' ∧ W'.os = W.os ∧ W'.output = W.output := by
  have hl : LRel (idEnv W) args.toList args.toList := by
    clear h
    generalize args.toList = l at ha
    induction l with
    | nil => exact .nil
    | cons x l ih => exact .cons (ha x (by simp)) (ih fun v hv => ha v (by simp [hv]))
  have := calls_of_w hX hXk hng hmo hb h (idHeap_desc hg) (idHeap_wf W) (fun n L hn => (idEnv_inv hn).1) hl
  rw [Array.toArray_toList] at this
  refine this.mono fun e W' he => ?_
  cases e with
  | panicked c => exact he.elim
  | outgrown => exact he.elim
  | returned v' =>
    obtain ⟨r, K', η', ⟨rfl, hgr⟩, hs, hr⟩ := he
    refine ⟨by rw [hr.eq_of_ground hv], fun b hb => hs.frm b hb fun n L hn he => .inr (.inr ?_), hs.os, hs.output⟩
    obtain ⟨h1, rfl⟩ := idEnv_inv hn
    rw [hgr.low (Nat.le_refl _)]
    exact h1
end Go.Ev

/- What a row's arguments give a walk: slices that read as lists. Conditions: none. -/
set_option linter.unusedVariables false
set_option linter.unusedSimpArgs false
set_option linter.unnecessarySimpa false
namespace Go.Ev
section
variable {H : Type} {enc : TypeId × Value → H} {P : Program} {W : World} {held : Bool} {sp : Nat → Bool}

/-- A slice of values of one cell each. -/
theorem sl_of_cells {t e : TypeId} {fuel : Nat} {v : Value} {x : DataW H × List MemPlace} (ht : P.underlying t = some (.slice e)) (hc : P.cellsOf e = 1) (h : DataW.trod enc P W 0 sp held fuel t [v] = some x)
    {α : Type} [Inhabited α] {mk : α → Value} {ok : α → Prop} (hmk : ∀ a, idOk W.heap.size (mk a) = true) (hel : ∀ (n : Nat) (u : Value) (y : DataW H × List MemPlace), DataW.trod enc P W 0 sp held n e [u] = some y → ∃ a, u = mk a ∧ ok a) :
    ∃ l : List α, Sl (idHeap W) 1 l.length (l.map mk) v ∧ l.length ≤ maxLen ∧ ∀ a ∈ l, ok a := by
  rcases Go.Deep.open_slice1 ht hc h with ⟨h0, _⟩ | ⟨a, len, cap, m, n, V, D, Pl, h0, hb, hl, hm, hmm, _, hx⟩
  · cases h0
    exact ⟨[], ⟨by simp, none, 0, rfl, .inl rfl⟩, by simp, by simp⟩
  · cases h0
    have hlm : len ≤ m := by rw [hmm]; split <;> omega
    have hex : ∀ i, ∃ y : α, i < len → V i = mk y ∧ ok y := fun i => by
      by_cases hi : i < len
      · obtain ⟨y, k⟩ := hel n (V i) (D i, Pl i) (hx i (by omega)).2
        exact ⟨y, fun _ => k⟩
      · exact ⟨default, fun h => absurd h hi⟩
    let f : Nat → α := fun i => Classical.choose (hex i)
    have hf : ∀ i, i < len → V i = mk (f i) ∧ ok (f i) := fun i => Classical.choose_spec (hex i)
    refine ⟨(List.range len).map f, ⟨by simp, some a, cap, by simp, ?_⟩, by simp; omega, ?_⟩
    · by_cases h0 : len = 0
      · left; simpa using h0
      · right
        have hs : a.spot = none := by
          have := (hx 0 (by omega)).1
          have e : a.add 0 = a := by simp [Addr.add]
          rw [e] at this
          unfold World.cell? at this
          split at this
          · cases hsp : a.spot with
            | none => rfl
            | some s => rw [hsp] at this; simp at this
          · cases this
        obtain ⟨b, o, s⟩ := a
        simp only at hs
        subst hs
        have hcell : ∀ i, i < len → W.cell? ⟨b, o + i, none⟩ = some (mk (f i)) := fun i hi => by
          have h1 := (hx i (by omega)).1
          have e : (⟨b, o, none⟩ : Addr).add i = ⟨b, o + i, none⟩ := by
            unfold Addr.add; split
            · rename_i h; subst h; rfl
            · rfl
          rw [e, (hf i hi).1] at h1
          exact h1
        refine ⟨b, o, none, rfl, ?_, fun i hi => ?_⟩
        · have h1 := hcell 0 (by omega)
          show b < W.heap.size
          by_cases hb : b < W.heap.size
          · exact hb
          · have : W.heap[b]? = none := by simp; omega
            simp [World.cell?, this] at h1
        · have hi' : i < len := by simpa using hi
          rw [idHeap_cell (hcell i hi') (hmk _)]
          simp [hi']
    · intro x hx'
      obtain ⟨i, hi, rfl⟩ := List.mem_map.1 hx'
      exact (hf i (by simpa using hi)).2

theorem sl_strings {t e : TypeId} {fuel : Nat} {v : Value} {x : DataW H × List MemPlace} (ht : P.underlying t = some (.slice e)) (he : P.underlying e = some .string) (hc : P.cellsOf e = 1) (h : DataW.trod enc P W 0 sp held fuel t [v] = some x) :
    ∃ l : List ByteArray, Sl (idHeap W) 1 l.length (l.map .string) v ∧ l.length ≤ maxLen ∧ ∀ s ∈ l, s.size ≤ maxLen :=
  sl_of_cells ht hc h (fun _ => rfl) fun n u y hy => by
    obtain ⟨s, h1, _, h2⟩ := DataW.trod_string he hy
    cases h1
    exact ⟨s, rfl, h2⟩
/-- An integer within its kind. -/
theorem sl_ints {t e : TypeId} {k : IntKind} {fuel : Nat} {v : Value} {x : DataW H × List MemPlace} (ht : P.underlying t = some (.slice e)) (he : P.underlying e = some (.int k)) (hc : P.cellsOf e = 1) (h : DataW.trod enc P W 0 sp held fuel t [v] = some x) :
    ∃ l : List Int, Sl (idHeap W) 1 l.length (l.map (.int k)) v ∧ l.length ≤ maxLen ∧ ∀ n ∈ l, k.min ≤ n ∧ n ≤ k.max :=
  sl_of_cells ht hc h (fun _ => rfl) fun n u y hy => by
    obtain ⟨s, h1, _, h2⟩ := DataW.trod_int he hy
    cases h1
    refine ⟨s, rfl, ?_⟩
    simpa [Lit.wf] using h2

/-- A slice that is handed over: its address is one of the heap's. -/
theorem ok_slice {t e : TypeId} {v : Value} {base : Nat} (ht : P.underlying t = some (.slice e)) (h : Cell.okWide P W .any base t v) : idOk W.heap.size v = true := by
  unfold Cell.okWide at h
  rw [ht] at h
  cases v <;> simp only [Cell.ok, ht] at h <;> try (cases h; done)
  rename_i a l c
  cases a with
  | none => rfl
  | some a =>
    obtain ⟨_, _, _, hs, row, cells, hsh, _⟩ := h
    obtain ⟨b, o, s⟩ := a
    simp only at hs
    subst hs
    have hb : b < W.heap.size := by
      by_cases hb : b < W.heap.size
      · exact hb
      · have : W.heap[b]? = none := by simp; omega
        simp [World.shape?, this] at hsh
    simpa [idOk, Nat.blt_eq] using hb
theorem ok_int {t : TypeId} {k : IntKind} {v : Value} {base : Nat} (ht : P.underlying t = some (.int k)) (h : Cell.okWide P W .any base t v) : ∃ n, v = .int k n ∧ k.min ≤ n ∧ n ≤ k.max := by
  unfold Cell.okWide at h
  rw [ht] at h
  cases v <;> simp only [Cell.ok, ht] at h <;> try (cases h; done)
  obtain ⟨rfl, h⟩ := h
  exact ⟨_, rfl, h⟩
theorem ok_string {t : TypeId} {v : Value} {base : Nat} (ht : P.underlying t = some .string) (h : Cell.okWide P W .any base t v) : ∃ s : ByteArray, v = .string s := by
  unfold Cell.okWide at h
  rw [ht] at h
  cases v <;> simp only [Cell.ok, ht] at h <;> try (cases h; done)
  exact ⟨_, rfl⟩
/-- A struct that is handed over, cell by cell. -/
theorem ok_struct {t : TypeId} {fs : Array Field} {ts : List TypeId} {v : Value} {base : Nat} (ht : P.underlying t = some (.struct fs)) (hts : P.cellTypes P.depth t = some ts) (hl : P.cellsOf t = ts.length) (h : Value.okWide P W .any base t v) :
    ∃ cs : List Value, v = .agg ⟨cs⟩ ∧ cs.length = ts.length ∧ ∀ (i : Nat) (c : Value), cs[i]? = some c → ∃ u, ts[i]? = some u ∧ Cell.okWide P W .any base u c := by
  unfold Value.okWide at h
  rw [ht] at h
  obtain ⟨⟨cs⟩, rfl, hs, ts', hts', _, hall⟩ := h
  rw [hts] at hts'
  cases hts'
  have hcl : cs.length = ts.length := by rw [← hl]; simpa using hs
  refine ⟨cs, rfl, hcl, fun i c hi => ?_⟩
  obtain ⟨u, h1, h2⟩ := hall i c (by simpa using hi)
  have hlt : i < ts.length := by rw [← hcl]; exact (List.getElem?_eq_some_iff.1 hi).1
  rw [Nat.mod_eq_of_lt hlt] at h1
  exact ⟨u, h1, h2⟩
end
end Go.Ev
