/- The law about no index (columbarylaw18.IngestNil) holds: whatever event, no index answers ErrArg, nothing, 0 and nil; the event reads as it did.
   Conditions: the row's own (the listed package variables hold what the program's text lays). -/
import Derived.Test.YtegmeohmkmjbhaaGreatDoorQINil
import Derived.Test.YtegmeohmkmjbhaaGreatDoorQPg18
import Derived.Test.YtegmeohmkmjbhaaGreatDoorCards
import Derived.Test.YtegmeohmkmjbhaaGreatDoorTie
import Derived.ProofKit
import Derived.Deep.DeepHandedRow
import Derived.Deep.DeepWitnessRowRef
set_option linter.unusedVariables false
set_option linter.unusedSimpArgs false
namespace Go.Proofs.YtegmeohmkmjbhaaGreatDoor
open Go Go.Ev
open Go.ChangeShapes Go.WideShapes

theorem own : ownKnob P.godebug = none := by kernel_rfl
theorem glob_some : ((((begin P (fun _ _ => 0) default).world.heap[(7 - 1 : Nat)]?).bind Obj.row?).isSome) = true := by kernel_rfl
theorem glob_le {W : World} (h : W.ShapedOpen P) : P.globals.size ≤ W.heap.size := by
  obtain ⟨⟨z, t⟩, hz⟩ := Option.isSome_iff_exists.1 glob_some
  obtain ⟨cs, h1, _⟩ := h.1 (7 - 1) z t (by rw [nglob]; decide) hz
  have := (Array.getElem?_eq_some_iff.1 h1).1
  rw [nglob]; omega
theorem laid_asc {W : World} (h : laidMetH P Rows.ingestNilRow.laid W) : Lib.TabIs P W "strings.asciiSpace" .u8 ascZ := by
  have h0 : laidMet P Rows.ingestNilRow.laid W := h
  exact asc_tab h0.tail.tail.tail.tail
theorem cts : P.cellTypes P.depth 41 = some [3, 22, 39] := by kernel_rfl
theorem cof : P.cellsOf 41 = 3 := by kernel_rfl
theorem cof9 : P.cellsOf 9 = 1 := by kernel_rfl
theorem cof3 : P.cellsOf 3 = 1 := by kernel_rfl
theorem cof22 : P.cellsOf 22 = 1 := by kernel_rfl
theorem cof39 : P.cellsOf 39 = 1 := by kernel_rfl

set_option maxRecDepth 100000 in
/-- WHAT THE WALK GIVES, for every event and every world that holds the table. -/
theorem contract (H : Type) (enc : TypeId × Value → H) (W : World) (base : Nat) (args : Array Value) (ds gs : List (DataW H)) (before : List MemPlace)
    (hval : ∀ (j : Nat) t v, Go.Proofs.Tryz.f4.params[j]? = some t → args[j]? = some v → Value.okWide P W .any base t v)
    (hW : DataW.Whole enc P Go.Proofs.Tryz.f4.params.toList Rows.ingestNilSpec.vars false W args.toList ds gs before) (hL : laidMetH P Rows.ingestNilRow.laid W) (hS : W.ShapedOpen P) :
    Calls P 4 args W fun e W' => ∃ v, e = .returned v ∧ Rows.ingestNilSpec.post enc P Go.Proofs.Tryz.f4 false true false false W args v W' := by
  have hW' := hW
  obtain ⟨p, q, hA0, hV, rfl, hfz, hnd⟩ := hW
  have hA : DataW.TrodAll enc P W 0 (fun _ => true) true Go.Proofs.Tryz.f4.params.toList args.toList ds p := hA0
  rw [Go.Proofs.Tryz.params4] at hA hval
  obtain ⟨v0, d0, rfl, rfl, n0, h0⟩ := trodAll_one hA
  obtain ⟨cs, rfl, hcl, hck⟩ := ok_struct Go.Proofs.Tryz.underlying41 cts cof (hval 0 41 v0 rfl rfl)
  match cs, hcl with
  | [c0, c1, c2], _ =>
  obtain ⟨_, e0, k0⟩ := hck 0 c0 rfl
  obtain ⟨_, e1, k1⟩ := hck 1 c1 rfl
  obtain ⟨_, e2, k2⟩ := hck 2 c2 rfl
  cases e0; cases e1; cases e2
  obtain ⟨n, rfl, hn1, hn2⟩ := ok_int u3 k0
  obtain ⟨y0, y1, y2, m, _, _, t0, t1, t2⟩ := Deep.trod_struct3 Go.Proofs.Tryz.underlying41 h0
  rw [cof22] at t1
  rw [cof39] at t2
  obtain ⟨dims, hd, hdl, _⟩ := sl_strings u22 u9 cof9 t1
  obtain ⟨mets, hm, hml, _⟩ := sl_ints u39 u3 cof3 t2
  have hwalk : WCall P X 4 [.agg #[.int .i64 n, c1, c2]] (idHeap W) fun r K' => r = .bool true ∧ Grew (idHeap W) K' :=
    w_lawNil (e := ⟨n, dims, mets⟩) quiet (idHeap_wf W) (fun K' hg => toldX_some (if_pos ⟨rfl, rfl, within_id (laid_asc hL) hg⟩)) ⟨c1, c2, rfl, hd, hm⟩ (by unfold maxLen at hdl; omega) (by unfold maxLen at hml; omega) fun K' hg => ⟨rfl, hg⟩
  refine (calls_of_id (toldX_ok tabOk O) (toldX_kle tab O) noNum mixed (by kernel_rfl) (glob_le hS) (fun v hv => ?_) rfl hwalk).mono fun e W' ⟨he, hk, ho, hu⟩ => ?_
  · cases List.mem_singleton.1 hv
    exact .agg (.cons (.int _ _) (.cons (id_rel (ok_slice u22 k1)) (.cons (id_rel (ok_slice u39 k2)) .nil)))
  · exact ⟨_, he, law_post noZero (by kernel_rfl) hW' rfl rfl u4 (by
      obtain rfl : gs = [] := by
        cases gs with
        | nil => rfl
        | cons g r => exact absurd hV (by intro h; cases h)
      rfl) hk ho hu⟩

/-! ### A world for the witness -/
def lit1 : DataW Unit → Option Value
  | .lit (.int k n) => some (.int k n)
  | _ => none
def aggOf : DataW Unit → List (DataW Unit)
  | .agg ps => ps
  | _ => []
def cellsOfD : DataW Unit → List Value
  | .agg ps => ps.filterMap lit1
  | .ptr (.agg [.slice rows _, _, _]) => rows.flatMap fun r => (aggOf r).filterMap lit1
  | _ => []
noncomputable def laidWorld (os : Os) : World :=
  let N := (World.settled P os).heap.size
  let w0 := World.holding P os ⟨#[.cells (cellsOfD Rows.laid_unicode_White_Space).toArray 201, .cells #[.slice (some ⟨N, 0, none⟩) 7 7, .slice none 0 0, .int .i64 2] 198], #[], []⟩
  let put (h : Array Obj) (g : Nat) (cs : Array Value) : Array Obj := h.modify g fun
    | .cells _ t frozen => .cells cs t frozen
    | o => o
  let h1 := put w0.heap 0 (cellsOfD Rows.laid_strings_asciiSpace).toArray
  let h2 := put h1 2 (cellsOfD Rows.laid_internal_strconv_uint64pow10).toArray
  let h3 := put h2 4 (cellsOfD Rows.laid_math_bits_deBruijn32tab).toArray
  let h4 := put h3 5 (cellsOfD Rows.laid_math_bits_deBruijn64tab).toArray
  let h5 := put h4 1 #[.pointer (some ⟨N + 1, 0, none⟩)]
  { w0 with heap := h5 }
def wArgs : Array Value := #[.agg #[.int .i64 0, .slice none 0 0, .slice none 0 0]]
theorem laid_met (os : Os) : laidMet P Rows.ingestNilRow.laid ((laidWorld os).forCall (fun _ _ => 0) ⟨#[], wArgs, []⟩).memory :=
  laidMet_of_run' 8 (by kernel_rfl) (by kernel_rfl)
theorem reads (os : Os) {H : Type} (enc : TypeId × Value → H) : ∃ places, DataW.whole enc P ((laidWorld os).forCall (fun _ _ => 0) ⟨#[], wArgs, []⟩).memory Go.Proofs.Tryz.f4.params.toList Rows.ingestNilSpec.vars false wArgs.toList 8 = some ([.agg [.lit (.int .i64 0), .nil, .nil]], [], places) :=
  ⟨[], by kernel_rfl⟩

set_option maxRecDepth 100000 in
theorem lifted (os : Os) (started : os.Started) (H : Type) (enc : TypeId × Value → H) (F : Stop.Interp) :
    ReturnsInHanded {} Go.Proofs.Tryz.checked os 4 .any ((OpenSpec.ofChange Rows.ingestNilSpec).preRow enc P Go.Proofs.Tryz.f4 Rows.ingestNilRow.domain false Rows.ingestNilRow.laid) (((OpenSpec.ofChange Rows.ingestNilSpec).at F).post enc P Go.Proofs.Tryz.f4 false true false false) := by
  obtain ⟨places, hx⟩ := reads os enc
  refine returnsInHanded_of_row (C := Go.Proofs.Tryz.checked) (s := OpenSpec.ofChange Rows.ingestNilSpec) own started (by kernel_rfl) Go.Proofs.Tryz.func4
    (witness_row_atRef (enc := enc) (C := Go.Proofs.Tryz.checked) false (laidWorld os) wArgs rfl (by kernel_rfl) (by kernel_rfl) (by kernel_rfl)
      (OpenSpec.preRow_of_cond 8 hx (by kernel_rfl) (fun k hk => by cases hk) (by kernel_rfl) (laid_met os))) ?_
  intro W base args ds gs before hval hW _ _ _ hL hS _
  exact contract H enc W base args ds gs before hval hW hL hS

theorem said : Rows.IngestNilSaid :=
  OpenClaim.holds_of_cond 4 Go.Proofs.Tryz.f4 rfl rfl rfl rfl rfl rfl rfl ⟨rfl, rfl, rfl, rfl, rfl⟩ rfl rfl rfl rfl rfl (by kernel_rfl) Go.Proofs.Tryz.func4 (by kernel_rfl)
    (of_decide_eq_true (by kernel_rfl)) (by unfold Func.isWrapper; first | (rw [if_pos (by decide +kernel)]; kernel_rfl) | (rw [if_neg (by decide +kernel)]; exact ⟨rfl, rfl⟩))
    (fun os started H enc _ F => by rw [OpenClaim.pre_eq_preRow]; exact lifted os started H enc F)

set_option maxRecDepth 100000 in
/-- No parameter wants a stand-in; the looks are as the card has them. -/
theorem plain (f : FuncId) (fn : Func) (hf : Tryz.pinned.checked.prog.funcNamed "columbary/columbarylaw18.IngestNil" = some f) (hfn : Tryz.pinned.checked.prog.funcs[f]? = some fn) :
    true = Tryz.pinned.checked.prog.looks [] ∧ ∀ (j : Nat) t, fn.params[j]? = some t → Tryz.pinned.checked.prog.wantsStandIn t = false := by
  obtain rfl : f = 4 := Option.some.inj ((show P.funcNamed "columbary/columbarylaw18.IngestNil" = some 4 by kernel_rfl).symm.trans hf) |>.symm
  obtain rfl : fn = Go.Proofs.Tryz.f4 := (Option.some.inj ((Go.Proofs.Tryz.func4).symm.trans hfn)).symm
  refine ⟨by kernel_rfl, fun j t ht => ?_⟩
  rw [Go.Proofs.Tryz.params4] at ht
  obtain rfl : t = 41 := by simpa using Array.mem_of_getElem? ht
  exact (show P.wantsStandIn 41 = false by kernel_rfl)

/-- THE CARD. -/
theorem ingestNil_holds : Rows.IngestNilCardSaid :=
  Claim7.holds_tied_plain_at .later [] _ _ _ _ said (fun _ h => by cases h) (by kernel_rfl) (fun _ h => by cases h) ingestNil_row_tie rfl ⟨rfl, rfl⟩ (by kernel_rfl) rfl plain (by kernel_rfl)
#print axioms ingestNil_holds
end Go.Proofs.YtegmeohmkmjbhaaGreatDoor
