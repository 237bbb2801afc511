/- What the laws' guards answer: whether lists of texts, and events, are such as are gone through.
   Conditions: none. -/
import Derived.Test.YtegmeohmkmjbhaaGreatDoorQTy
import Derived.Test.YtegmeohmkmjbhaaGreatDoorQEvC
set_option linter.unusedVariables false
set_option linter.unusedSimpArgs false
namespace Go.Proofs.YtegmeohmkmjbhaaGreatDoor
open Go Go.Ev
/-- columbary/columbarylaw10.Fits -/
noncomputable def b_fits10 : C2 := (.seq (.ops [⟨.assign (.const (.bool false)), (some 2), false, none⟩])
  (.seq (.seq (.ops [⟨.assign (.const (.int .i64 0)), (some 3), false, none⟩])
  (.block 0
   (.loop
    (.seq (.seq (.ops [⟨.move (.tmp 3), (some 4), false, none⟩,
      ⟨.move (.tmp 0), (some 5), false, none⟩,
      ⟨.call ⟨(.builtin .len), #[(.tmp 5)], #[22]⟩, (some 6), false, none⟩,
      ⟨.binOp .lss 3 (.tmp 4) (.tmp 6) 3, (some 7), false, none⟩])
    (.cond (.tmp 7) .skip (.exit 0)))
    (.seq (.block 1
     (.seq (.ops [⟨.move (.tmp 3), (some 10), false, none⟩,
       ⟨.binOp .eql 3 (.tmp 10) (.const (.int .i64 20)) 3, (some 11), false, none⟩,
       ⟨.move (.tmp 11), (some 12), false, none⟩,
       ⟨.move (.tmp 0), (some 13), false, (some ((some 12), false))⟩,
       ⟨.move (.tmp 3), (some 14), false, (some ((some 12), false))⟩,
       ⟨.indexAddr 22 (.tmp 13) (.tmp 14), (some 15), false, (some ((some 12), false))⟩,
       ⟨.load 9 (.tmp 15), (some 16), false, (some ((some 12), false))⟩,
       ⟨.call ⟨(.builtin .len), #[(.tmp 16)], #[9]⟩, (some 17), false, (some ((some 12), false))⟩,
       ⟨.binOp .gtr 3 (.tmp 17) (.const (.int .i64 80)) 3, (some 18), false, (some ((some 12), false))⟩,
       ⟨.pick (.tmp 12) (.const (.bool true)) (.tmp 18), (some 19), false, none⟩])
     (.cond (.tmp 19) (.seq (.ops [⟨.assign (.const (.bool false)), (some 2), false, none⟩])
      .ret) .skip)))
    (.ops [⟨.move (.tmp 3), (some 8), false, none⟩,
      ⟨.binOp .add 3 (.tmp 8) (.const (.int .i64 1)) 3, (some 9), false, none⟩,
      ⟨.assign (.tmp 9), (some 3), false, none⟩]))))))
  (.seq (.ops [⟨.assign (.const (.bool true)), (some 2), false, none⟩])
  .ret)))
theorem k_fits10 : comp (Go.Proofs.Tryz.f20.body.getD .skip) = some b_fits10 := by kernel_rfl
theorem e_fits10 {X : Xt} {args : List Value} {K : AHeap} {Q : Value → AHeap → Prop} (hx : X 20 args K = none) (hl : Nat.ble args.length 20 = true) (h : W2 P X none 20 b_fits10 ⟨initTm args 0 .e, K, []⟩ fun e s => WLeave P [.tmp 2] e s Q) : WCall P X 20 args K Q :=
  wcall_of (c := Go.Proofs.Tryz.f20.body.getD .skip) Go.Proofs.Tryz.func20 rfl k_fits10 (nt := 20) rfl (by decide) (rs := [.tmp 2]) rfl hx hl h

/-- columbary/columbarylaw18.Fits -/
noncomputable def b_fits18 : C2 := (.seq (.ops [⟨.box 24 (.tmp 0), (some 2), false, none⟩,
    ⟨.assign (.const (.bool false)), (some 4), false, none⟩])
  (.seq (.ops [⟨.fieldAddr 24 (.tmp 2) 0, (some 9), false, none⟩,
    ⟨.load 22 (.tmp 9), (some 10), false, none⟩,
    ⟨.call ⟨(.value (.func 20)), #[(.tmp 10)], #[22]⟩, (some 11), false, none⟩,
    ⟨.assign (.tmp 11), (some 5), false, none⟩])
  (.seq (.ops [⟨.fieldAddr 24 (.tmp 2) 1, (some 12), false, none⟩,
    ⟨.load 22 (.tmp 12), (some 13), false, none⟩,
    ⟨.call ⟨(.value (.func 20)), #[(.tmp 13)], #[22]⟩, (some 14), false, none⟩,
    ⟨.assign (.tmp 14), (some 6), false, none⟩])
  (.seq (.seq (.ops [⟨.move (.tmp 5), (some 15), false, none⟩,
    ⟨.unOp .not 4 (.tmp 15), (some 16), false, none⟩,
    ⟨.move (.tmp 16), (some 17), false, none⟩,
    ⟨.move (.tmp 6), (some 18), false, (some ((some 17), false))⟩,
    ⟨.unOp .not 4 (.tmp 18), (some 19), false, (some ((some 17), false))⟩,
    ⟨.pick (.tmp 17) (.const (.bool true)) (.tmp 19), (some 20), false, none⟩,
    ⟨.move (.tmp 20), (some 21), false, none⟩,
    ⟨.move (.tmp 1), (some 22), false, (some ((some 21), false))⟩,
    ⟨.call ⟨(.builtin .len), #[(.tmp 22)], #[25]⟩, (some 23), false, (some ((some 21), false))⟩,
    ⟨.binOp .gtr 3 (.tmp 23) (.const (.int .i64 60)) 3, (some 24), false, (some ((some 21), false))⟩,
    ⟨.pick (.tmp 21) (.const (.bool true)) (.tmp 24), (some 25), false, none⟩])
  (.cond (.tmp 25) (.seq (.ops [⟨.assign (.const (.bool false)), (some 4), false, none⟩])
   .ret) .skip))
  (.seq (.seq (.ops [⟨.assign (.const (.int .i64 0)), (some 7), false, none⟩])
  (.block 0
   (.loop
    (.seq (.seq (.ops [⟨.move (.tmp 7), (some 26), false, none⟩,
      ⟨.move (.tmp 1), (some 27), false, none⟩,
      ⟨.call ⟨(.builtin .len), #[(.tmp 27)], #[25]⟩, (some 28), false, none⟩,
      ⟨.binOp .lss 3 (.tmp 26) (.tmp 28) 3, (some 29), false, none⟩])
    (.cond (.tmp 29) .skip (.exit 0)))
    (.seq (.block 1
     (.seq (.ops [⟨.move (.tmp 1), (some 32), false, none⟩,
       ⟨.move (.tmp 7), (some 33), false, none⟩,
       ⟨.indexAddr 25 (.tmp 32) (.tmp 33), (some 34), false, none⟩,
       ⟨.fieldAddr 41 (.tmp 34) 1, (some 35), false, none⟩,
       ⟨.load 22 (.tmp 35), (some 36), false, none⟩,
       ⟨.call ⟨(.value (.func 20)), #[(.tmp 36)], #[22]⟩, (some 37), false, none⟩,
       ⟨.assign (.tmp 37), (some 8), false, none⟩])
     (.seq (.ops [⟨.move (.tmp 8), (some 38), false, none⟩,
       ⟨.unOp .not 4 (.tmp 38), (some 39), false, none⟩,
       ⟨.move (.tmp 39), (some 40), false, none⟩,
       ⟨.move (.tmp 1), (some 41), false, (some ((some 40), false))⟩,
       ⟨.move (.tmp 7), (some 42), false, (some ((some 40), false))⟩,
       ⟨.indexAddr 25 (.tmp 41) (.tmp 42), (some 43), false, (some ((some 40), false))⟩,
       ⟨.fieldAddr 41 (.tmp 43) 2, (some 44), false, (some ((some 40), false))⟩,
       ⟨.load 39 (.tmp 44), (some 45), false, (some ((some 40), false))⟩,
       ⟨.call ⟨(.builtin .len), #[(.tmp 45)], #[39]⟩, (some 46), false, (some ((some 40), false))⟩,
       ⟨.binOp .gtr 3 (.tmp 46) (.const (.int .i64 20)) 3, (some 47), false, (some ((some 40), false))⟩,
       ⟨.pick (.tmp 40) (.const (.bool true)) (.tmp 47), (some 48), false, none⟩])
     (.cond (.tmp 48) (.seq (.ops [⟨.assign (.const (.bool false)), (some 4), false, none⟩])
      .ret) .skip))))
    (.ops [⟨.move (.tmp 7), (some 30), false, none⟩,
      ⟨.binOp .add 3 (.tmp 30) (.const (.int .i64 1)) 3, (some 31), false, none⟩,
      ⟨.assign (.tmp 31), (some 7), false, none⟩]))))))
  (.seq (.ops [⟨.assign (.const (.bool true)), (some 4), false, none⟩])
  .ret))))))
theorem k_fits18 : comp (Go.Proofs.Tryz.f6.body.getD .skip) = some b_fits18 := by kernel_rfl
theorem e_fits18 {X : Xt} {args : List Value} {K : AHeap} {Q : Value → AHeap → Prop} (hx : X 6 args K = none) (hl : Nat.ble args.length 49 = true) (h : W2 P X none 49 b_fits18 ⟨initTm args 0 .e, K, []⟩ fun e s => WLeave P [.tmp 4] e s Q) : WCall P X 6 args K Q :=
  wcall_of (c := Go.Proofs.Tryz.f6.body.getD .skip) Go.Proofs.Tryz.func6 rfl k_fits18 (nt := 49) rfl (by decide) (rs := [.tmp 4]) rfl hx hl h


def sfit (s : ByteArray) : Bool := decide (s.size ≤ 80)
def fits10 (ss : List ByteArray) : Bool := decide (ss.length ≤ 20) && ss.all sfit

theorem all_take_succ {α : Type} (p : α → Bool) (l : List α) (i : Nat) (h : i < l.length) : (l.take (i + 1)).all p = ((l.take i).all p && p l[i]) := by
  rw [List.take_succ_eq_append_getElem h, List.all_append]; simp

set_option maxRecDepth 100000 in
set_option maxHeartbeats 1000000 in
theorem w_fits10 {X : Xt} {K : AHeap} {Q : Value → AHeap → Prop} (hx : Quiet X) {ss : List ByteArray} {v : Value} (hs : Sl K 1 ss.length (ss.map .string) v) (hm : ss.length ≤ 9223372036854775807)
    (hQ : Q (.bool (fits10 ss)) K) : WCall P X 20 [v] K Q := by
  refine e_fits10 (hx _ _ _ rfl) rfl ?_
  obtain ⟨hl, a, c, rfl, hr⟩ := hs
  unfold b_fits10
  simp -dsimp +decide only [go_sem, Nat.reduceAdd]
  refine w2_inv (fun d tm K' => K' = K ∧ ∃ i : Nat, d = ss.length - i ∧ i ≤ ss.length ∧ i ≤ 20 ∧ (ss.take i).all sfit = true ∧ tm.get 0 = some (.slice a ss.length c) ∧ tm.get 3 = some (.int .i64 i)) ?_ ss.length _ _ ⟨rfl, 0, rfl, Nat.zero_le _, by omega, rfl, by simp -dsimp +decide only [go_sem, Nat.reduceAdd], by simp -dsimp +decide only [go_sem, Nat.reduceAdd]; rfl⟩
  rintro d tm K' ⟨rfl, i, rfl, h1, h2, h3, g0, g3⟩
  simp -dsimp +decide only [go_sem, Nat.reduceAdd, g0, g3]
  refine Fork.dec (fun h => ?_) (fun h => ?_)
  · have hi : i < ss.length := by omega
    obtain ⟨b, o, s, rfl, hrow⟩ := hr.resolve_left (by omega)
    have hc : K'.cell b (o + i) = some (.string ss[i]) := by
      rw [hrow.cell (by simpa using hi)]; simp [hi]
    simp -dsimp +decide only [go_sem, Nat.reduceAdd, g0, g3]
    refine Fork.ndec (fun h20 => ?_) (fun h20 => ?_)
    · simp -dsimp +decide only [go_sem, Nat.reduceAdd, g0, g3, h20, hi, hc, Bool.false_or]
      refine Fork.dec (fun h80 => ?_) (fun h80 => ?_)
      · simp -dsimp +decide only [go_sem, Nat.reduceAdd]
        have : fits10 ss = false := by
          unfold fits10
          rw [Bool.and_eq_false_iff]; right
          rw [List.all_eq_false]
          exact ⟨ss[i], List.getElem_mem hi, by unfold sfit; simp; omega⟩
        rw [this] at hQ
        exact hQ
      · simp -dsimp +decide only [go_sem, Nat.reduceAdd, g0, g3]
        refine ⟨trivial, ss.length - (i + 1), by omega, trivial, i + 1, rfl, by omega, by omega, ?_, trivial, ?_⟩
        · rw [all_take_succ _ _ _ hi, h3]; unfold sfit; simp; omega
        · rw [wrap_i64 (by omega) (by omega)]; rfl
    · simp -dsimp +decide only [go_sem, Nat.reduceAdd, g0, g3, h20]
      have : fits10 ss = false := by
        unfold fits10
        rw [Bool.and_eq_false_iff]; left
        rw [decide_eq_false_iff_not]; omega
      rw [this] at hQ
      exact hQ
  · simp -dsimp +decide only [go_sem, Nat.reduceAdd]
    have : fits10 ss = true := by
      unfold fits10
      rw [Bool.and_eq_true]
      have e : i = ss.length := by omega
      rw [e, List.take_length] at h3
      exact ⟨decide_eq_true (by omega), h3⟩
    rw [this] at hQ
    exact hQ

/-- An event's data. -/
structure Evt where
  t : Int
  dims : List ByteArray
  mets : List Int
def EvtR (K : AHeap) (e : Evt) (cs : List Value) : Prop := ∃ dv mv, cs = [.int .i64 e.t, dv, mv] ∧ Sl K 1 e.dims.length (e.dims.map .string) dv ∧ Sl K 1 e.mets.length (e.mets.map (.int .i64)) mv
theorem EvtR.grew {K K' : AHeap} (hg : Grew K K') {e : Evt} {cs : List Value} (h : EvtR K e cs) : EvtR K' e cs := by
  obtain ⟨dv, mv, rfl, h1, h2⟩ := h
  exact ⟨dv, mv, rfl, h1.grew hg, h2.grew hg⟩
def efit (e : Evt) : Bool := fits10 e.dims && decide (e.mets.length ≤ 20)
def fits18 (sd sm : List ByteArray) (l : List Evt) : Bool := fits10 sd && fits10 sm && decide (l.length ≤ 60) && l.all efit

set_option maxRecDepth 100000 in
set_option maxHeartbeats 1000000 in
theorem w_fits18 {X : Xt} {K : AHeap} {Q : Value → AHeap → Prop} (hx : Quiet X) {sd sm : List ByteArray} {l : List Evt} {dv mv v : Value} (hw : WF K)
    (hd : Sl K 1 sd.length (sd.map .string) dv) (hdl : sd.length ≤ 9223372036854775807) (hm : Sl K 1 sm.length (sm.map .string) mv) (hml : sm.length ≤ 9223372036854775807) (hl : SlR K 3 EvtR l v) (hll : ∀ e ∈ l, e.dims.length ≤ 9223372036854775807 ∧ e.mets.length ≤ 9223372036854775807)
    (hQ : ∀ K', Grew K K' → Q (.bool (fits18 sd sm l)) K') : WCall P X 6 [.agg #[dv, mv], v] K Q := by
  refine e_fits18 (hx _ _ _ rfl) rfl ?_
  obtain ⟨a, c, rfl⟩ := hl.len
  unfold b_fits18
  simp -dsimp +decide only [go_sem, Nat.reduceAdd]
  have hg : Grew K (K.add (.cells [dv, mv] 24)) := (Grew.refl K).add _
  refine w_fits10 hx (hd.grew hg) hdl ?_
  simp -dsimp +decide only [go_sem, Nat.reduceAdd]
  refine w_fits10 hx (hm.grew hg) hml ?_
  cases hf1 : fits10 sd
  · simp -dsimp +decide only [go_sem, Nat.reduceAdd]
    exact (by simpa [fits18, hf1] using hQ _ hg)
  cases hf2 : fits10 sm
  · simp -dsimp +decide only [go_sem, Nat.reduceAdd]
    exact (by simpa [fits18, hf1, hf2] using hQ _ hg)
  simp -dsimp +decide only [go_sem, Nat.reduceAdd]
  refine Fork.dec (fun h60 => ?_) (fun h60 => ?_)
  · simp -dsimp +decide only [go_sem, Nat.reduceAdd]
    have e : decide (l.length ≤ 60) = false := by simp; omega
    exact (by simpa [fits18, hf1, hf2, e] using hQ _ hg)
  simp -dsimp +decide only [go_sem, Nat.reduceAdd]
  have e60 : decide (l.length ≤ 60) = true := by simp; omega
  have hl' : SlR (K.add (.cells [dv, mv] 24)) 3 EvtR l (.slice a l.length c) := hl.grew (fun x c h => h.grew hg) hg
  have hw' := hg.wf hw
  revert hl' hg hw'
  generalize K.add (.cells [dv, mv] 24) = K1
  intro hg hl' hw'
  refine w2_inv (fun d tm K' => K' = K1 ∧ ∃ i : Nat, d = l.length - i ∧ i ≤ l.length ∧ (l.take i).all efit = true ∧ tm.get 1 = some (.slice a l.length c) ∧ tm.get 7 = some (.int .i64 i)) ?_ l.length _ _ ⟨rfl, 0, rfl, Nat.zero_le _, rfl, by simp -dsimp +decide only [go_sem, Nat.reduceAdd], by simp -dsimp +decide only [go_sem, Nat.reduceAdd]; rfl⟩
  rintro d tm K' ⟨rfl, i, rfl, h1, h3, g0, g3⟩
  simp -dsimp +decide only [go_sem, Nat.reduceAdd, g0, g3]
  refine Fork.dec (fun h => ?_) (fun h => ?_)
  · have hi : i < l.length := by omega
    obtain ⟨b, o, s, c', cs, he, hr, hcl, hcell⟩ := hl'.at hi
    cases he
    obtain ⟨dv', mv', rfl, hd1, hm1⟩ := hr
    have c1 := hcell 1 (by omega)
    have c2 := hcell 2 (by omega)
    simp -dsimp +decide only [go_sem, Nat.reduceAdd, g0, g3, hi, c1]
    refine w_fits10 hx hd1 (hll _ (List.getElem_mem hi)).1 ?_
    cases hf3 : fits10 l[i].dims
    · simp -dsimp +decide only [go_sem, Nat.reduceAdd]
      have e : l.all efit = false := by
        rw [List.all_eq_false]
        exact ⟨l[i], List.getElem_mem hi, by simp [efit, hf3]⟩
      exact (by simpa [fits18, e] using hQ _ hg)
    · obtain ⟨hml1, am, cm, rfl, _⟩ := hm1
      simp -dsimp +decide only [go_sem, Nat.reduceAdd, g0, g3, hi, c2]
      refine Fork.dec (fun h20 => ?_) (fun h20 => ?_)
      · simp -dsimp +decide only [go_sem, Nat.reduceAdd]
        have e : l.all efit = false := by
          rw [List.all_eq_false]
          exact ⟨l[i], List.getElem_mem hi, by simp [efit]; omega⟩
        exact (by simpa [fits18, e] using hQ _ hg)
      · simp -dsimp +decide only [go_sem, Nat.reduceAdd, g0, g3]
        refine ⟨trivial, l.length - (i + 1), by omega, trivial, i + 1, rfl, by omega, ?_, trivial, ?_⟩
        · rw [all_take_succ _ _ _ hi, h3]; simp [efit, hf3]; omega
        · rw [wrap_i64 (by omega) (by omega)]; rfl
  · simp -dsimp +decide only [go_sem, Nat.reduceAdd]
    have e : i = l.length := by omega
    rw [e, List.take_length] at h3
    exact (by simpa [fits18, hf1, hf2, e60, h3] using hQ _ hg)
end Go.Proofs.YtegmeohmkmjbhaaGreatDoor
