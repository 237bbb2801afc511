/- What the walks lean on at this program: the functions without a body, the live part's contract, the listed table.
   Conditions: none. -/
import Derived.Test.YtegmeohmkmjbhaaGreatDoorQAl18
import Derived.Test.YtegmeohmkmjbhaaGreatDoorRows
import Derived.Test.YtegmeohmkmjbhaaGreatDoorQEvC
import Derived.Lib.LaidTab
import Derived.Stop.LaidErr
set_option linter.unusedVariables false
set_option linter.unusedSimpArgs false
namespace Go.Proofs.YtegmeohmkmjbhaaGreatDoor
open Go Go.Ev
open Go.ChangeShapes Go.WideShapes

/-! ### The program -/
theorem tabOk : TabOk P tab := by
  intro f x h fn hfn
  simp only [tab, List.lookup] at h
  split at h
  · rename_i he
    cases h
    obtain rfl : f = 148 := by simpa using he
    cases (Go.Proofs.Tryz.func148).symm.trans hfn
    exact ⟨by kernel_rfl, by kernel_rfl, by kernel_rfl, trivial, rfl⟩
  · split at h
    · rename_i he
      cases h
      obtain rfl : f = 172 := by simpa using he
      cases (Go.Proofs.Tryz.func172).symm.trans hfn
      exact ⟨by kernel_rfl, by kernel_rfl, by kernel_rfl, trivial, rfl⟩
    · split at h
      · rename_i he
        cases h
        obtain rfl : f = 149 := by simpa using he
        cases (Go.Proofs.Tryz.func149).symm.trans hfn
        exact ⟨by kernel_rfl, by kernel_rfl, by kernel_rfl, ⟨120, by kernel_rfl, by kernel_rfl⟩, rfl⟩
      · split at h
        · rename_i he
          cases h
          obtain rfl : f = 50 := by simpa using he
          cases (Go.Proofs.Tryz.func50).symm.trans hfn
          exact ⟨by kernel_rfl, by kernel_rfl, by kernel_rfl, trivial, rfl⟩
        · cases h

def numOk (fn : Func) : Bool := !(fn.body.isSome && fn.name == "runtime.NumGoroutine")
theorem noNum : NoNum P := by
  have h : P.funcs.toList.all numOk = true := by kernel_rfl
  intro f fn hf hb
  have hm : fn ∈ P.funcs.toList := Array.mem_toList_iff.2 (Array.mem_of_getElem? hf)
  have := List.all_eq_true.1 h fn hm
  unfold numOk at this
  rw [hb] at this
  simpa using this
theorem mixed : P.follows .mixedOrders = true := by kernel_rfl
theorem nglob : P.globals.size = 7 := by kernel_rfl
theorem noZero : NoZero P := by unfold NoZero; kernel_rfl

/-! ### What is told of the live part -/
theorem isTrue_some {o : Option (Value × AHeap)} (h : isTrue o = true) : ∃ K, o = some (.bool true, K) ∧ 7 ≤ K.low := by
  unfold isTrue at h
  split at h
  · simp only [Bool.and_eq_true] at h
    exact ⟨_, by rw [h.1], Nat.le_of_ble_eq_true h.2⟩
  · cases h
theorem alive_some : ∃ K1, evCall P (extX P tab) (ev P (extX P tab) 1000) 7 [] K0 = some (.bool true, K1) ∧ 7 ≤ K1.low := isTrue_some alive_run

theorem asc_ground : ∀ i v, nth asc i = some v → ground v = true := fun i v h => by
  rw [nth_eq] at h
  unfold asc at h
  rw [List.getElem?_map] at h
  obtain ⟨j, _, rfl⟩ := Option.map_eq_some_iff.1 h
  rfl
theorem k0_obj (n : Nat) : K0.obj n = if n = 0 then some (.ro fun i => nth asc i) else none := by
  unfold K0 AHeap.obj
  rw [T.get_put']
  split <;> rfl
theorem k0_plain : Plain K0 P.globals.size := fun n o h => by
  rw [k0_obj] at h
  split at h
  · rename_i e
    subst e
    cases h
    exact ⟨by rw [nglob]; decide, _, rfl, asc_ground⟩
  · cases h

open Classical in
noncomputable def O : Pacts P where
  fn := fun f args K => if f = 7 ∧ args = [] ∧ Within K0 K then some (.bool true, K) else none
  ok := fun f args K v K' h => by
    split at h
    · rename_i hc
      obtain ⟨rfl, rfl, hw⟩ := hc
      cases h
      obtain ⟨K1, h1, h2⟩ := alive_some
      exact ⟨by kernel_rfl, hc_pure (extX_ok tabOk) (extX_kle tab) noNum mixed (by kernel_rfl) h1 k0_plain (by rw [nglob]; exact Nat.le_refl _) h2 rfl rfl hw, fun hw => Kle.refl hw⟩
    · cases h
noncomputable def X : Xt := toldX P tab O

theorem quiet : Quiet X := fun f args K h => by
  have hn : ∀ n ∈ told, f ≠ n := fun n hn e => by
    subst e
    have : told.contains f = true := by simpa using hn
    rw [this] at h; cases h
  refine toldX_none ?_ ?_
  · exact if_neg fun hc => hn 7 (by decide) hc.1
  · have h1 := hn 148 (by decide)
    have h2 := hn 172 (by decide)
    have h3 := hn 149 (by decide)
    have h4 := hn 50 (by decide)
    simp [tab, List.lookup, beq_eq_false_iff_ne.2 h1, beq_eq_false_iff_ne.2 h2, beq_eq_false_iff_ne.2 h3, beq_eq_false_iff_ne.2 h4]

/-! ### The listed variable -/
noncomputable def ascZ : List Int := (List.range 256).map fun i => if i == 9 || i == 10 || i == 11 || i == 12 || i == 13 || i == 32 then 1 else 0
theorem asc_datum : (Rows.laid_strings_asciiSpace : DataW Unit) = Lib.tabData .u8 ascZ := by kernel_rfl
theorem asc_eq : asc = ascZ.map (.int .u8) := by kernel_rfl
theorem gAsc : P.globalNamed "strings.asciiSpace" = some 0 := by kernel_rfl
theorem asc_tab {W : World} (h : laidMet P [("strings.asciiSpace", Rows.laid_strings_asciiSpace)] W) : Lib.TabIs P W "strings.asciiSpace" .u8 ascZ := by
  rw [asc_datum] at h
  exact Lib.tabIs_of_head gAsc (t := 163) (by kernel_rfl) (n := 256) (e := 5) u163 u5 (by kernel_rfl) (by kernel_rfl) h

theorem within_id {W : World} (h : Lib.TabIs P W "strings.asciiSpace" .u8 ascZ) {K : AHeap} (hg : Grew (idHeap W) K) : Within K0 K := fun m f hm => by
  rw [k0_obj] at hm
  split at hm
  · rename_i e
    subst e
    cases hm
    have hc : ∀ i, i < 256 → W.cell? ⟨0, i, none⟩ = some (.int .u8 (ascZ.getD i 0)) := fun i hi => h.cell gAsc i (by rw [ascZ, List.length_map, List.length_range]; exact hi)
    have h0 := hc 0 (by decide)
    have hb : 0 < W.heap.size := by
      by_cases hb : 0 < W.heap.size
      · exact hb
      · have : W.heap[(0 : Nat)]? = none := Array.getElem?_eq_none (Nat.le_of_not_lt hb)
        simp [World.cell?, this] at h0
    have ho : ∃ f', (idHeap W).obj 0 = some (.ro f') := by
      rw [idHeap_obj, if_pos hb]
      unfold idObj
      unfold World.cell? at h0
      split at h0
      · rename_i c e fr hh
        simp only at hh
        rw [hh]; exact ⟨_, rfl⟩
      · cases h0
    obtain ⟨f', hf'⟩ := ho
    refine ⟨f', by rw [hg.obj _ hb]; exact hf', fun i v hi => ?_⟩
    have hi : nth asc i = some v := hi
    rw [nth_eq, asc_eq, List.getElem?_map] at hi
    obtain ⟨z, hz, rfl⟩ := Option.map_eq_some_iff.1 hi
    have hlt : i < 256 := by have := (List.getElem?_eq_some_iff.1 hz).1; rwa [ascZ, List.length_map, List.length_range] at this
    have := idHeap_cell (hc i hlt) rfl
    unfold AHeap.cell at this
    rw [hf'] at this
    simp only [Option.bind_some, AObj.cellAt] at this
    rw [this]
    simp [List.getD, hz]
  · cases hm

end Go.Proofs.YtegmeohmkmjbhaaGreatDoor
