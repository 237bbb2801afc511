/- The law about no index (columbarylaw18.IngestNil), walked.
   Conditions: none. -/
import Derived.Test.YtegmeohmkmjbhaaGreatDoorQFits
set_option linter.unusedVariables false
set_option linter.unusedSimpArgs false
namespace Go.Proofs.YtegmeohmkmjbhaaGreatDoor
open Go Go.Ev
/-- columbary/columbarylaw18.IngestNil -/
noncomputable def b_lawNil : C2 := (.seq (.ops [⟨.box 41 (.tmp 0), (some 1), false, none⟩,
    ⟨.assign (.const (.bool false)), (some 2), false, none⟩])
  (.seq (.ops [⟨.build 24 #[], (some 5), false, none⟩,
    ⟨.load 41 (.tmp 1), (some 6), false, none⟩,
    ⟨.buildSlice 25 1 #[(0, (.tmp 6))], (some 7), false, none⟩,
    ⟨.call ⟨(.value (.func 6)), #[(.tmp 5), (.tmp 7)], #[24, 25]⟩, (some 8), false, none⟩,
    ⟨.assign (.tmp 8), (some 3), false, none⟩])
  (.seq (.seq (.ops [⟨.move (.tmp 3), (some 9), false, none⟩,
    ⟨.unOp .not 4 (.tmp 9), (some 10), false, none⟩])
  (.cond (.tmp 10) (.seq (.ops [⟨.call ⟨(.value (.func 7)), #[], #[]⟩, (some 11), false, none⟩,
     ⟨.assign (.tmp 11), (some 2), false, none⟩])
   .ret) .skip))
  (.seq (.ops [⟨.assign (.const (.pointer none)), (some 4), false, none⟩])
  (.seq (.ops [⟨.call ⟨(.value (.func 7)), #[], #[]⟩, (some 12), false, none⟩,
    ⟨.move (.tmp 12), (some 13), false, none⟩,
    ⟨.move (.tmp 4), (some 14), false, (some ((some 13), true))⟩,
    ⟨.load 41 (.tmp 1), (some 15), false, (some ((some 13), true))⟩,
    ⟨.call ⟨(.value (.func 12)), #[(.tmp 14), (.tmp 15)], #[28, 41]⟩, (some 16), false, (some ((some 13), true))⟩,
    ⟨.binOp .eql 29 (.tmp 16) (.const (.int .i64 1)) 29, (some 17), false, (some ((some 13), true))⟩,
    ⟨.pick (.tmp 13) (.tmp 17) (.const (.bool false)), (some 18), false, none⟩,
    ⟨.move (.tmp 18), (some 19), false, none⟩,
    ⟨.move (.tmp 4), (some 20), false, (some ((some 19), true))⟩,
    ⟨.call ⟨(.value (.func 11)), #[(.tmp 20)], #[28]⟩, (some 21), false, (some ((some 19), true))⟩,
    ⟨.call ⟨(.builtin .len), #[(.tmp 21)], #[36]⟩, (some 22), false, (some ((some 19), true))⟩,
    ⟨.binOp .eql 3 (.tmp 22) (.const (.int .i64 0)) 3, (some 23), false, (some ((some 19), true))⟩,
    ⟨.pick (.tmp 19) (.tmp 23) (.const (.bool false)), (some 24), false, none⟩,
    ⟨.move (.tmp 24), (some 25), false, none⟩,
    ⟨.move (.tmp 4), (some 26), false, (some ((some 25), true))⟩,
    ⟨.call ⟨(.value (.func 15)), #[(.tmp 26)], #[28]⟩, (some 27), false, (some ((some 25), true))⟩,
    ⟨.binOp .eql 3 (.tmp 27) (.const (.int .i64 0)) 3, (some 28), false, (some ((some 25), true))⟩,
    ⟨.pick (.tmp 25) (.tmp 28) (.const (.bool false)), (some 29), false, none⟩,
    ⟨.move (.tmp 29), (some 30), false, none⟩,
    ⟨.move (.tmp 4), (some 31), false, (some ((some 30), true))⟩,
    ⟨.call ⟨(.value (.func 16)), #[(.tmp 31)], #[28]⟩, (some 32), false, (some ((some 30), true))⟩,
    ⟨.binOp .eql 3 (.tmp 32) (.const (.int .i64 0)) 3, (some 33), false, (some ((some 30), true))⟩,
    ⟨.pick (.tmp 30) (.tmp 33) (.const (.bool false)), (some 34), false, none⟩,
    ⟨.move (.tmp 34), (some 35), false, none⟩,
    ⟨.move (.tmp 4), (some 36), false, (some ((some 35), true))⟩,
    ⟨.call ⟨(.value (.func 10)), #[(.tmp 36)], #[28]⟩, (some 37), false, (some ((some 35), true))⟩,
    ⟨.binOp .eql 28 (.tmp 37) (.const (.pointer none)) 28, (some 38), false, (some ((some 35), true))⟩,
    ⟨.pick (.tmp 35) (.tmp 38) (.const (.bool false)), (some 39), false, none⟩,
    ⟨.assign (.tmp 39), (some 2), false, none⟩])
  .ret)))))
theorem k_lawNil : comp (Go.Proofs.Tryz.f4.body.getD .skip) = some b_lawNil := by kernel_rfl
theorem e_lawNil {X : Xt} {args : List Value} {K : AHeap} {Q : Value → AHeap → Prop} (hx : X 4 args K = none) (hl : Nat.ble args.length 40 = true) (h : W2 P X none 40 b_lawNil ⟨initTm args 0 .e, K, []⟩ fun e s => WLeave P [.tmp 2] e s Q) : WCall P X 4 args K Q :=
  wcall_of (c := Go.Proofs.Tryz.f4.body.getD .skip) Go.Proofs.Tryz.func4 rfl k_lawNil (nt := 40) rfl (by decide) (rs := [.tmp 2]) rfl hx hl h

/-- (*columbary/ingest.Index).Add -/
noncomputable def b_iAdd : C2 := (.seq (.ops [⟨.box 41 (.tmp 1), (some 3), false, none⟩,
    ⟨.assign (.const (.int .i64 0)), (some 4), false, none⟩])
  (.seq (.seq (.ops [⟨.move (.tmp 0), (some 10), false, none⟩,
    ⟨.binOp .eql 28 (.tmp 10) (.const (.pointer none)) 28, (some 11), false, none⟩])
  (.cond (.tmp 11) (.seq (.ops [⟨.assign (.const (.int .i64 1)), (some 4), false, none⟩])
   .ret) .skip))
  (.seq (.ops [⟨.move (.tmp 0), (some 13), true, none⟩,
    ⟨.nilCheck (.tmp 13), (some 14), true, none⟩,
    ⟨.fieldAddr 65 (.tmp 14) 0, (some 15), true, none⟩,
    ⟨.load 24 (.tmp 15), (some 16), true, none⟩,
    ⟨.load 41 (.tmp 3), (some 17), true, none⟩,
    ⟨.call ⟨(.value (.func 31)), #[(.tmp 16), (.tmp 17)], #[24, 41]⟩, (some 18), false, none⟩,
    ⟨.move (.tmp 18), (some 12), true, none⟩,
    ⟨.extract (.tmp 12) 0, (some 19), true, none⟩,
    ⟨.extract (.tmp 12) 1, (some 20), true, none⟩,
    ⟨.alloc 57, (some 5), true, none⟩,
    ⟨.store 57 (.tmp 5) (.tmp 19), none, false, none⟩,
    ⟨.assign (.tmp 20), (some 6), true, none⟩])
  (.seq (.seq (.ops [⟨.move (.tmp 6), (some 21), false, none⟩,
    ⟨.binOp .neq 29 (.tmp 21) (.const (.int .i64 0)) 29, (some 22), false, none⟩])
  (.cond (.tmp 22) (.seq (.ops [⟨.move (.tmp 6), (some 23), false, none⟩,
     ⟨.assign (.tmp 23), (some 4), false, none⟩])
   .ret) .skip))
  (.seq (.ops [⟨.fieldAddr 57 (.tmp 5) 0, (some 25), true, none⟩,
    ⟨.load 3 (.tmp 25), (some 26), true, none⟩,
    ⟨.move (.tmp 0), (some 27), true, none⟩,
    ⟨.nilCheck (.tmp 27), (some 28), true, none⟩,
    ⟨.fieldAddr 65 (.tmp 28) 1, (some 29), true, none⟩,
    ⟨.load 3 (.tmp 29), (some 30), true, none⟩,
    ⟨.call ⟨(.value (.func 32)), #[(.tmp 26), (.tmp 30)], #[3, 3]⟩, (some 31), false, none⟩,
    ⟨.move (.tmp 31), (some 24), true, none⟩,
    ⟨.extract (.tmp 24) 0, (some 32), true, none⟩,
    ⟨.extract (.tmp 24) 1, (some 33), true, none⟩,
    ⟨.fieldAddr 57 (.tmp 5) 0, (some 34), true, none⟩,
    ⟨.store 3 (.tmp 34) (.tmp 32), none, false, none⟩])
  (.seq (.ops [⟨.load 57 (.tmp 5), (some 35), false, none⟩,
    ⟨.call ⟨(.value (.func 33)), #[(.tmp 35)], #[57]⟩, (some 36), false, none⟩,
    ⟨.assign (.tmp 36), (some 7), false, none⟩])
  (.seq (.seq (.ops [⟨.move (.tmp 0), (some 38), false, none⟩,
    ⟨.nilCheck (.tmp 38), (some 39), false, none⟩,
    ⟨.fieldAddr 65 (.tmp 39) 2, (some 40), false, none⟩,
    ⟨.load 63 (.tmp 40), (some 41), false, none⟩,
    ⟨.move (.tmp 7), (some 42), false, none⟩,
    ⟨.lookup 63 (.tmp 41) (.tmp 42) true, (some 43), false, none⟩,
    ⟨.move (.tmp 43), (some 37), false, none⟩,
    ⟨.extract (.tmp 37) 0, (some 44), false, none⟩,
    ⟨.extract (.tmp 37) 1, (some 45), false, none⟩,
    ⟨.alloc 57, (some 8), false, none⟩,
    ⟨.store 57 (.tmp 8) (.tmp 44), none, false, none⟩,
    ⟨.assign (.tmp 45), (some 9), false, none⟩])
  (.seq (.ops [⟨.move (.tmp 9), (some 46), false, none⟩])
  (.cond (.tmp 46) (.seq (.ops [⟨.load 57 (.tmp 8), (some 48), false, none⟩,
     ⟨.load 57 (.tmp 5), (some 49), false, none⟩,
     ⟨.call ⟨(.value (.func 34)), #[(.tmp 48), (.tmp 49)], #[57, 57]⟩, (some 50), false, none⟩,
     ⟨.move (.tmp 50), (some 47), false, none⟩,
     ⟨.extract (.tmp 47) 0, (some 51), false, none⟩,
     ⟨.extract (.tmp 47) 1, (some 52), false, none⟩,
     ⟨.store 57 (.tmp 5) (.tmp 51), none, false, none⟩,
     ⟨.assign (.tmp 52), (some 6), false, none⟩])
   (.seq (.ops [⟨.move (.tmp 6), (some 53), false, none⟩,
     ⟨.binOp .neq 29 (.tmp 53) (.const (.int .i64 0)) 29, (some 54), false, none⟩])
   (.cond (.tmp 54) (.seq (.ops [⟨.move (.tmp 6), (some 55), false, none⟩,
      ⟨.assign (.tmp 55), (some 4), false, none⟩])
    .ret) .skip))) .skip)))
  (.seq (.ops [⟨.move (.tmp 0), (some 56), true, none⟩,
    ⟨.nilCheck (.tmp 56), (some 57), true, none⟩,
    ⟨.fieldAddr 65 (.tmp 57) 2, (some 58), true, none⟩,
    ⟨.load 63 (.tmp 58), (some 59), true, none⟩,
    ⟨.move (.tmp 7), (some 60), true, none⟩,
    ⟨.load 57 (.tmp 5), (some 61), true, none⟩,
    ⟨.mapUpdate 63 (.tmp 59) (.tmp 60) (.tmp 61), none, false, none⟩])
  (.seq (.ops [⟨.move (.tmp 0), (some 62), false, none⟩,
    ⟨.nilCheck (.tmp 62), (some 63), false, none⟩,
    ⟨.fieldAddr 65 (.tmp 63) 3, (some 64), false, none⟩,
    ⟨.load 3 (.tmp 64), (some 65), false, none⟩,
    ⟨.binOp .add 3 (.tmp 65) (.const (.int .i64 1)) 3, (some 66), false, none⟩,
    ⟨.nilCheck (.tmp 62), (some 67), false, none⟩,
    ⟨.fieldAddr 65 (.tmp 67) 3, (some 68), false, none⟩,
    ⟨.store 3 (.tmp 68) (.tmp 66), none, false, none⟩])
  (.seq (.ops [⟨.assign (.const (.int .i64 0)), (some 4), false, none⟩])
  .ret))))))))))
theorem k_iAdd : comp (Go.Proofs.Tryz.f12.body.getD .skip) = some b_iAdd := by kernel_rfl
theorem e_iAdd {X : Xt} {args : List Value} {K : AHeap} {Q : Value → AHeap → Prop} (hx : X 12 args K = none) (hl : Nat.ble args.length 69 = true) (h : W2 P X none 69 b_iAdd ⟨initTm args 0 .e, K, []⟩ fun e s => WLeave P [.tmp 4] e s Q) : WCall P X 12 args K Q :=
  wcall_of (c := Go.Proofs.Tryz.f12.body.getD .skip) Go.Proofs.Tryz.func12 rfl k_iAdd (nt := 69) rfl (by decide) (rs := [.tmp 4]) rfl hx hl h

/-- (*columbary/ingest.Index).Rows -/
noncomputable def b_iRows : C2 := (.seq (.ops [⟨.assign (.const (.slice none 0 0)), (some 2), false, none⟩])
  (.seq (.seq (.ops [⟨.move (.tmp 0), (some 3), false, none⟩,
    ⟨.binOp .eql 28 (.tmp 3) (.const (.pointer none)) 28, (some 4), false, none⟩])
  (.cond (.tmp 4) (.seq (.ops [⟨.assign (.const (.slice none 0 0)), (some 2), false, none⟩])
   .ret) .skip))
  (.seq (.ops [⟨.move (.tmp 0), (some 5), false, none⟩,
    ⟨.nilCheck (.tmp 5), (some 6), false, none⟩,
    ⟨.fieldAddr 65 (.tmp 6) 2, (some 7), false, none⟩,
    ⟨.load 63 (.tmp 7), (some 8), false, none⟩,
    ⟨.call ⟨(.value (.func 29)), #[(.tmp 8)], #[63]⟩, (some 9), false, none⟩,
    ⟨.call ⟨(.value (.func 28)), #[(.tmp 9), (.func 30)], #[70, 72]⟩, (some 10), false, none⟩,
    ⟨.call ⟨(.value (.func 27)), #[(.tmp 10)], #[36]⟩, (some 11), false, none⟩,
    ⟨.assign (.tmp 11), (some 2), false, none⟩])
  .ret)))
theorem k_iRows : comp (Go.Proofs.Tryz.f11.body.getD .skip) = some b_iRows := by kernel_rfl
theorem e_iRows {X : Xt} {args : List Value} {K : AHeap} {Q : Value → AHeap → Prop} (hx : X 11 args K = none) (hl : Nat.ble args.length 12 = true) (h : W2 P X none 12 b_iRows ⟨initTm args 0 .e, K, []⟩ fun e s => WLeave P [.tmp 2] e s Q) : WCall P X 11 args K Q :=
  wcall_of (c := Go.Proofs.Tryz.f11.body.getD .skip) Go.Proofs.Tryz.func11 rfl k_iRows (nt := 12) rfl (by decide) (rs := [.tmp 2]) rfl hx hl h

/-- (*columbary/ingest.Index).Len -/
noncomputable def b_iLen : C2 := (.seq (.ops [⟨.assign (.const (.int .i64 0)), (some 2), false, none⟩])
  (.seq (.seq (.ops [⟨.move (.tmp 0), (some 3), false, none⟩,
    ⟨.binOp .eql 28 (.tmp 3) (.const (.pointer none)) 28, (some 4), false, none⟩])
  (.cond (.tmp 4) (.seq (.ops [⟨.assign (.const (.int .i64 0)), (some 2), false, none⟩])
   .ret) .skip))
  (.seq (.ops [⟨.move (.tmp 0), (some 5), false, none⟩,
    ⟨.nilCheck (.tmp 5), (some 6), false, none⟩,
    ⟨.fieldAddr 65 (.tmp 6) 2, (some 7), false, none⟩,
    ⟨.load 63 (.tmp 7), (some 8), false, none⟩,
    ⟨.call ⟨(.builtin .len), #[(.tmp 8)], #[63]⟩, (some 9), false, none⟩,
    ⟨.assign (.tmp 9), (some 2), false, none⟩])
  .ret)))
theorem k_iLen : comp (Go.Proofs.Tryz.f15.body.getD .skip) = some b_iLen := by kernel_rfl
theorem e_iLen {X : Xt} {args : List Value} {K : AHeap} {Q : Value → AHeap → Prop} (hx : X 15 args K = none) (hl : Nat.ble args.length 10 = true) (h : W2 P X none 10 b_iLen ⟨initTm args 0 .e, K, []⟩ fun e s => WLeave P [.tmp 2] e s Q) : WCall P X 15 args K Q :=
  wcall_of (c := Go.Proofs.Tryz.f15.body.getD .skip) Go.Proofs.Tryz.func15 rfl k_iLen (nt := 10) rfl (by decide) (rs := [.tmp 2]) rfl hx hl h

/-- (*columbary/ingest.Index).Count -/
noncomputable def b_iCount : C2 := (.seq (.ops [⟨.assign (.const (.int .i64 0)), (some 2), false, none⟩])
  (.seq (.seq (.ops [⟨.move (.tmp 0), (some 3), false, none⟩,
    ⟨.binOp .eql 28 (.tmp 3) (.const (.pointer none)) 28, (some 4), false, none⟩])
  (.cond (.tmp 4) (.seq (.ops [⟨.assign (.const (.int .i64 0)), (some 2), false, none⟩])
   .ret) .skip))
  (.seq (.ops [⟨.move (.tmp 0), (some 5), false, none⟩,
    ⟨.nilCheck (.tmp 5), (some 6), false, none⟩,
    ⟨.fieldAddr 65 (.tmp 6) 3, (some 7), false, none⟩,
    ⟨.load 3 (.tmp 7), (some 8), false, none⟩,
    ⟨.assign (.tmp 8), (some 2), false, none⟩])
  .ret)))
theorem k_iCount : comp (Go.Proofs.Tryz.f16.body.getD .skip) = some b_iCount := by kernel_rfl
theorem e_iCount {X : Xt} {args : List Value} {K : AHeap} {Q : Value → AHeap → Prop} (hx : X 16 args K = none) (hl : Nat.ble args.length 9 = true) (h : W2 P X none 9 b_iCount ⟨initTm args 0 .e, K, []⟩ fun e s => WLeave P [.tmp 2] e s Q) : WCall P X 16 args K Q :=
  wcall_of (c := Go.Proofs.Tryz.f16.body.getD .skip) Go.Proofs.Tryz.func16 rfl k_iCount (nt := 9) rfl (by decide) (rs := [.tmp 2]) rfl hx hl h

/-- (*columbary/ingest.Index).Copy -/
noncomputable def b_iCopy : C2 := (.seq (.ops [⟨.assign (.const (.pointer none)), (some 2), false, none⟩])
  (.seq (.seq (.ops [⟨.move (.tmp 0), (some 3), false, none⟩,
    ⟨.binOp .eql 28 (.tmp 3) (.const (.pointer none)) 28, (some 4), false, none⟩])
  (.cond (.tmp 4) (.seq (.ops [⟨.assign (.const (.pointer none)), (some 2), false, none⟩])
   .ret) .skip))
  (.seq (.ops [⟨.move (.tmp 0), (some 5), true, none⟩,
    ⟨.nilCheck (.tmp 5), (some 6), true, none⟩,
    ⟨.fieldAddr 65 (.tmp 6) 0, (some 7), true, none⟩,
    ⟨.load 24 (.tmp 7), (some 8), true, none⟩,
    ⟨.move (.tmp 0), (some 9), true, none⟩,
    ⟨.nilCheck (.tmp 9), (some 10), true, none⟩,
    ⟨.fieldAddr 65 (.tmp 10) 1, (some 11), true, none⟩,
    ⟨.load 3 (.tmp 11), (some 12), true, none⟩,
    ⟨.move (.tmp 0), (some 13), true, none⟩,
    ⟨.nilCheck (.tmp 13), (some 14), true, none⟩,
    ⟨.fieldAddr 65 (.tmp 14) 2, (some 15), true, none⟩,
    ⟨.load 63 (.tmp 15), (some 16), true, none⟩,
    ⟨.call ⟨(.value (.func 26)), #[(.tmp 16)], #[63]⟩, (some 17), true, none⟩,
    ⟨.move (.tmp 0), (some 18), true, none⟩,
    ⟨.nilCheck (.tmp 18), (some 19), true, none⟩,
    ⟨.fieldAddr 65 (.tmp 19) 3, (some 20), true, none⟩,
    ⟨.load 3 (.tmp 20), (some 21), true, none⟩,
    ⟨.build 65 #[(0, (.tmp 8)), (1, (.tmp 12)), (2, (.tmp 17)), (3, (.tmp 21))], (some 22), true, none⟩,
    ⟨.box 65 (.tmp 22), (some 23), true, none⟩,
    ⟨.assign (.tmp 23), (some 2), true, none⟩])
  .ret)))
theorem k_iCopy : comp (Go.Proofs.Tryz.f10.body.getD .skip) = some b_iCopy := by kernel_rfl
theorem e_iCopy {X : Xt} {args : List Value} {K : AHeap} {Q : Value → AHeap → Prop} (hx : X 10 args K = none) (hl : Nat.ble args.length 24 = true) (h : W2 P X none 24 b_iCopy ⟨initTm args 0 .e, K, []⟩ fun e s => WLeave P [.tmp 2] e s Q) : WCall P X 10 args K Q :=
  wcall_of (c := Go.Proofs.Tryz.f10.body.getD .skip) Go.Proofs.Tryz.func10 rfl k_iCopy (nt := 24) rfl (by decide) (rs := [.tmp 2]) rfl hx hl h


set_option maxRecDepth 100000 in
set_option maxHeartbeats 1000000 in
theorem w_iAdd0 {X : Xt} {K : AHeap} {Q : Value → AHeap → Prop} (hx : Quiet X) {a b c : Value} (hQ : ∀ K', Grew K K' → Q (.int .i64 1) K') : WCall P X 12 [.pointer none, .agg #[a, b, c]] K Q := by
  refine e_iAdd (hx _ _ _ rfl) rfl ?_
  unfold b_iAdd
  simp -dsimp +decide only [go_sem, Nat.reduceAdd]
  exact hQ _ ((Grew.refl K).add _)
set_option maxRecDepth 100000 in
theorem w_iRows0 {X : Xt} {K : AHeap} {Q : Value → AHeap → Prop} (hx : Quiet X) (hQ : Q (.slice none 0 0) K) : WCall P X 11 [.pointer none] K Q := by
  refine e_iRows (hx _ _ _ rfl) rfl ?_
  unfold b_iRows
  simp -dsimp +decide only [go_sem, Nat.reduceAdd]
  exact hQ
set_option maxRecDepth 100000 in
theorem w_iLen0 {X : Xt} {K : AHeap} {Q : Value → AHeap → Prop} (hx : Quiet X) (hQ : Q (.int .i64 0) K) : WCall P X 15 [.pointer none] K Q := by
  refine e_iLen (hx _ _ _ rfl) rfl ?_
  unfold b_iLen
  simp -dsimp +decide only [go_sem, Nat.reduceAdd]
  exact hQ
set_option maxRecDepth 100000 in
theorem w_iCount0 {X : Xt} {K : AHeap} {Q : Value → AHeap → Prop} (hx : Quiet X) (hQ : Q (.int .i64 0) K) : WCall P X 16 [.pointer none] K Q := by
  refine e_iCount (hx _ _ _ rfl) rfl ?_
  unfold b_iCount
  simp -dsimp +decide only [go_sem, Nat.reduceAdd]
  exact hQ
set_option maxRecDepth 100000 in
theorem w_iCopy0 {X : Xt} {K : AHeap} {Q : Value → AHeap → Prop} (hx : Quiet X) (hQ : Q (.pointer none) K) : WCall P X 10 [.pointer none] K Q := by
  refine e_iCopy (hx _ _ _ rfl) rfl ?_
  unfold b_iCopy
  simp -dsimp +decide only [go_sem, Nat.reduceAdd]
  exact hQ

set_option maxRecDepth 100000 in
set_option maxHeartbeats 2000000 in
theorem w_lawNil {X : Xt} {K : AHeap} {Q : Value → AHeap → Prop} (hx : Quiet X) (hw : WF K) (hal : ∀ K', Grew K K' → X 7 [] K' = some (.bool true, K')) {e : Evt} {dv mv : Value}
    (he : EvtR K e [.int .i64 e.t, dv, mv]) (hd : e.dims.length ≤ 9223372036854775807) (hm : e.mets.length ≤ 9223372036854775807) (hQ : ∀ K', Grew K K' → Q (.bool true) K') : WCall P X 4 [.agg #[.int .i64 e.t, dv, mv]] K Q := by
  have alive : ∀ {K' : AHeap} {R : Value → AHeap → Prop}, Grew K K' → R (.bool true) K' → WCall P X 7 [] K' R := fun {K' R} hg h => wcall_told Go.Proofs.Tryz.func7 rfl (hal K' hg) h
  refine e_lawNil (hx _ _ _ rfl) rfl ?_
  obtain ⟨dv', mv', hcs, hd1, hm1⟩ := he
  cases hcs
  obtain ⟨hl1, a1, c1, rfl, hr1⟩ := hd1
  obtain ⟨hl2, a2, c2, rfl, hr2⟩ := hm1
  unfold b_lawNil
  simp -dsimp +decide only [go_sem, Nat.reduceAdd]
  let ec : List Value := [.int .i64 e.t, .slice a1 e.dims.length c1, .slice a2 e.mets.length c2]
  let K1 := K.add (.cells ec 41)
  have hg1 : Grew K K1 := (Grew.refl K).add _
  have hg2 : Grew K (K1.add (.cells ec 41)) := hg1.add _
  have hlt : K.next < K1.next := Nat.lt_succ_self _
  refine w_fits18 (sd := []) (sm := []) (l := [e]) hx (hg2.wf hw) ⟨rfl, none, 0, rfl, .inl rfl⟩ (Nat.zero_le _) ⟨rfl, none, 0, rfl, .inl rfl⟩ (Nat.zero_le _) ⟨[ec], rfl, fun k c h => ?_, fun k x c h1 h2 => ?_, rfl, some ⟨K1.next, 0, none⟩, 1, rfl, .inr ⟨_, _, _, rfl, Row.of_cells (l := ec) (e := 41) ?_ ?_ rfl⟩⟩ (fun e' h => ?_) fun K2 hg3 => ?_
  · cases k with
    | zero => cases h; rfl
    | succ k => simp at h
  · cases k with
    | zero =>
      cases h1; cases h2
      exact ⟨_, _, rfl, ⟨hl1, a1, c1, rfl, hr1.imp id fun ⟨b, o, s, h, hr⟩ => ⟨b, o, s, h, hr.grew hg2⟩⟩, ⟨hl2, a2, c2, rfl, hr2.imp id fun ⟨b, o, s, h, hr⟩ => ⟨b, o, s, h, hr.grew hg2⟩⟩⟩
    | succ k => simp at h1
  · exact Nat.lt_succ_self _
  · exact add_obj_same rfl
  · cases List.mem_singleton.1 h
    exact ⟨hd, hm⟩
  have hgK : Grew K K2 := hg2.trans hg3
  have hload2 : K2.read K.next 0 3 = some ec := by
    rw [hg3.read (Nat.lt_succ_of_lt hlt), add_read_old hlt, add_read_same rfl]; rfl
  cases fits18 [] [] [e]
  · simp -dsimp +decide only [go_sem, Nat.reduceAdd]
    refine alive hgK ?_
    simp -dsimp +decide only [go_sem, Nat.reduceAdd]
    exact hQ _ hgK
  · simp -dsimp +decide only [go_sem, Nat.reduceAdd]
    refine alive hgK ?_
    simp -dsimp +decide only [go_sem, Nat.reduceAdd, hload2]
    refine w_iAdd0 hx fun K3 hg4 => ?_
    simp -dsimp +decide only [go_sem, Nat.reduceAdd]
    refine w_iRows0 hx ?_
    simp -dsimp +decide only [go_sem, Nat.reduceAdd]
    refine w_iLen0 hx ?_
    simp -dsimp +decide only [go_sem, Nat.reduceAdd]
    refine w_iCount0 hx ?_
    simp -dsimp +decide only [go_sem, Nat.reduceAdd]
    refine w_iCopy0 hx ?_
    simp -dsimp +decide only [go_sem, Nat.reduceAdd]
    exact hQ _ (hgK.trans hg4)

end Go.Proofs.YtegmeohmkmjbhaaGreatDoor
