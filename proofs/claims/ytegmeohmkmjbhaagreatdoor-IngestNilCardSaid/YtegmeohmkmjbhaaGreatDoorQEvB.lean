/- The evaluator of the model's code over an abstract heap, and that it tells right: part 2 of 3.
   Conditions: none. -/
import Derived.Test.YtegmeohmkmjbhaaGreatDoorQEvA
import Derived.Lib.UnsafeStr
import Derived.Laws.BytesString
import Derived.RangeFuncRecord
import Derived.Scope
/- append's answer: the machine at what the evaluator answers. Conditions: none. -/
set_option linter.unusedVariables false
set_option linter.unusedSimpArgs false
set_option linter.unnecessarySimpa false
namespace Go.Ev
variable {P : Program}

/-- The machine's run answers as the evaluator tells. -/
def Does (P : Program) (η : Env) (K : AHeap) (w : World) (m : Sem Value) (v : Value) (K' : AHeap) : Prop :=
  ∃ v' w' η', m.run P w = .ok v' w' ∧ Step P η K w η' K' w' ∧ VRel η' v v'

/-- The old name dies; a new one takes its block over, from a place on, with some cells written. -/
theorem take_write {η : Env} {K K1 K2 : AHeap} {w : World} (hd : Desc P η K w) (hw : WF K) {b n' p : Nat} {L : Loc} {old xs xs' vs : List Value} {e : TypeId} (hn : η b = some L) (ho : K.obj b = some (.cells vs e))
    (h1 : K.set? b .dead = some K1) (h2 : K1.mk? (.cells (old ++ xs) e) = some (n', K2)) (hf : Fresh η K K2) (hx : LRel η xs xs') (hone : ∀ x ∈ xs, oneCell x = true) (hsz : p + old.length + xs.length ≤ L.size)
    (hnt : noTake P e = false) (hold : ∀ (i : Nat) (v : Value), old[i]? = some v → ∃ v', w.cell? ⟨L.blk, p + i, none⟩ = some v' ∧ VRel η v v') :
    ∃ w', (storeCells ⟨L.blk, p + old.length, none⟩ xs').run P w = .ok () w' ∧ Step P η K w (upd η n' ⟨L.blk, p, L.size⟩) K2 w' ∧ η n' = none := by
  obtain ⟨c, fr, e1, e2, e4, e5, e6, e7⟩ := hd.cells hn ho
  have hl := hx.length
  obtain ⟨w', c', r1, r2, r3, r4, r5, r6⟩ := store_cells (P := P) xs' 0 L.blk (p + old.length) w c e fr e1 e4 (by omega) (hx.allOne hone)
  have h0 : η n' = none := by
    have hs1 := set_spec h1
    have hs2 := mk_spec h2
    have hn2 : n' = K1.next := hs2.1
    cases e : η n' with
    | none => rfl
    | some L0 => rcases hf _ _ e with h3 | h3 <;> omega
  refine ⟨w', r1, step_take hd hw h1 h2 hf hn ho (by simp) rfl r5.size r4 r5.tape r5.os r5.output ⟨c', fr, r2, by simp [r3, e2], fun i hi => e4 i (by omega), ⟨e5.1, fun hn => by rw [hnt] at hn; cases hn⟩, by simp; omega, fun i v hi => ?_⟩⟩
  show ∃ v', c'[p + i]? = some v' ∧ _
  rw [r6]
  by_cases hin : i < old.length
  · rw [if_neg (by omega)]
    rw [List.getElem?_append_left hin] at hi
    obtain ⟨v', a, r⟩ := hold i v hi
    rw [cell_of e1] at a
    exact ⟨v', a, r.ext (upd_ext h0)⟩
  · rw [List.getElem?_append_right (by omega)] at hi
    obtain ⟨v', a, r⟩ := hx.nth hi
    have hlt : i - old.length < xs.length := (List.getElem?_eq_some_iff.1 hi).1
    rw [if_pos (by omega)]
    exact ⟨v', by rw [← a]; congr 1; omega, r.ext (upd_ext h0)⟩

theorem tail_fits {w w' : World} {elem : TypeId} {size sLen sCap n : Nat} {zeros : Bool} {a : Addr} {s x : Value} {new : List Value} {app : Sem (Array Value)} (h : sLen + n ≤ sCap) (hn : app.run P w = .ok new.toArray w)
    (hst : (storeCells (a.add (sLen * size)) new).run P w = .ok () w') : (appendTail elem size zeros (some a) sLen sCap n s x app).run P w = .ok (.slice (some a) (sLen + n) sCap) w' := by
  unfold appendTail
  simp only [h, if_true, Sem.run_bind, hn, Result.andThen, hst, Sem.run_pure]

theorem tail_fits_nil {w : World} {elem : TypeId} {size sLen sCap n : Nat} {zeros : Bool} {s x : Value} {new : List Value} {app : Sem (Array Value)} (h : sLen + n ≤ sCap) (hn : app.run P w = .ok new.toArray w) :
    (appendTail elem size zeros none sLen sCap n s x app).run P w = .ok (.slice none (sLen + n) sCap) w := by
  unfold appendTail
  simp only [h, if_true, Sem.run_bind, hn, Result.andThen, Sem.run_pure]

theorem zeroCells_eq {z : Array Value} (hz : z.size ≠ 0) {n : Nat} : Builtin.zeroCells z n = ((List.replicate n z.toList).flatten).toArray := by
  apply Array.ext'
  exact flat_zero z hz n

theorem zeroCells_size (z : Array Value) (n : Nat) : (Builtin.zeroCells z n).size = n * z.size := by simp [Builtin.zeroCells]

theorem fresh_next {η : Env} {K K' : AHeap} (h : Fresh η K K') {n : Nat} (h1 : K.next ≤ n) (h2 : n < K'.next) : η n = none := by
  cases e : η n with
  | none => rfl
  | some L0 => rcases h _ _ e with h3 | h3 <;> omega

/-- A new row for it: the machine, and the new name. -/
theorem grow_does {η : Env} {K K' : AHeap} {w w' : World} (hd : Desc P η K w) (hw : WF K) {elem : TypeId} {n' size need newCap : Nat} {cs cs' : List Value} {rest : Array Value} (h : K.mk? (.cells cs elem) = some (n', K')) (hf : Fresh η K K') (hr : LRel η cs cs') (hl : cs.length = need * size)
    (hrest : rest.size = (newCap - need) * size) (hle : need ≤ newCap) (hh : w'.heap = w.heap.push (.cells (cs'.toArray ++ rest) elem)) (ht : w'.tape = w.tape) (hos : w'.os = w.os) (hout : w'.output = w.output) :
    ∃ η', Step P η K w η' K' w' ∧ VRel η' (lowSlice n' 0 size need need) (.slice (some ⟨w.heap.size, 0, none⟩) need newCap) := by
  have hl' := hr.length
  have hsz : (cs'.toArray ++ rest).size = newCap * size := by
    simp only [Array.size_append, List.size_toArray, hrest, hl', hl]
    rw [← Nat.add_mul]; congr 1; omega
  obtain ⟨hs, h0⟩ := row_step (fr := (0, 0)) (vs := cs) (c := cs'.toArray ++ rest) hd hw h hf (fun i v hi => by
      obtain ⟨v', a, r⟩ := hr.nth hi
      have hlt : i < cs'.length := (List.getElem?_eq_some_iff.1 a).1
      exact ⟨v', by rw [Array.getElem?_append_left (by simpa using hlt)]; simpa using a, r⟩)
    (by rw [Array.size_append]; simp; omega) hh (fun i _ => by simp) (fun _ => rfl) ht hos hout
  refine ⟨_, hs, ?_⟩
  have := VRel.slow (o := 0) (q := size) (η := upd η n' ⟨w.heap.size, 0, (cs'.toArray ++ rest).size⟩) need need newCap (upd_same _ _ _) hle (by show 0 + 0 + newCap * size ≤ (cs'.toArray ++ rest).size; omega)
  simpa [lowSlice] using this

theorem allOne_some : ∀ {l : List Value}, allOne l = true → ∀ x ∈ l, oneCell x = true
  | [], _ => by simp
  | v :: l, h => by
    simp only [allOne] at h
    split at h
    · rename_i h1
      intro x hx
      rcases List.mem_cons.1 hx with rfl | hx
      · exact h1
      · exact allOne_some h x hx
    · cases h

/-- A row is appended to, its capacity just known from below: the old name is dead. -/
theorem low_more {η : Env} {K K' : AHeap} {w : World} (hd : Desc P η K w) (hw : WF K) {elem : TypeId} {size bytes n len b p cap' : Nat} {zeros : Bool} {L : Loc} {xs xs' old : List Value} {x z v : Value} {app : Sem (Array Value)}
    (hL : η b = some L) (hel : (K.obj b).bind AObj.elem = some elem) (hone : allOne xs = true) (h : ((K.set? b .dead).bind fun K' => (K'.mk? (.cells (old ++ xs) elem)).map (slcOf size (len + n))) = some (v, K')) (hf : Fresh η K K')
    (hb : bytesT P elem = some bytes) (hz : zeroT P elem = some z) (hzs : z.cells.size = size) (hroom : roomy (len + n) bytes = true) (hxl : xs.length = n * size) (hol : old.length = len * size)
    (hx : LRel η xs xs') (happ : ∀ w1 : World, w1.heap = w.heap → app.run P w1 = .ok xs'.toArray w1) (hcap : p + cap' * size ≤ L.size) (hnt : noTake P elem = false)
    {old' : List Value} (q1 : LRel η old old') (q3 : ∀ w1 : World, w1.heap = w.heap → (Builtin.firstCells size len (.slice (some ⟨L.blk, p, none⟩) len cap')).run P w1 = .ok old'.toArray w1)
    (q4 : ∀ (i : Nat) (v : Value), old[i]? = some v → ∃ v', w.cell? ⟨L.blk, p + i, none⟩ = some v' ∧ VRel η v v') :
    Does P η K w (appendTail elem size zeros (some ⟨L.blk, p, none⟩) len cap' n (.slice (some ⟨L.blk, p, none⟩) len cap') x app) v K' := by
  obtain ⟨vs, ho⟩ := elem_obj hel
  obtain ⟨K1, h1, h2⟩ := bind_some.1 h
  obtain ⟨⟨n', K2⟩, hm, h4⟩ := map_some.1 h2
  simp only [slcOf, Prod.mk.injEq] at h4
  obtain ⟨rfl, rfl⟩ := h4
  by_cases hle : len + n ≤ cap'
  · have hmul : (len + n) * size ≤ cap' * size := Nat.mul_le_mul_right _ hle
    rw [Nat.add_mul] at hmul
    obtain ⟨w', r1, r2, r3⟩ := take_write (p := p) hd hw hL ho h1 hm hf hx (allOne_some hone) (by omega) hnt q4
    refine ⟨_, w', _, tail_fits hle (happ w rfl) ?_, r2, ?_⟩
    · rw [addr_add, ← hol]; exact r1
    · have := VRel.slow (o := 0) (q := size) (η := upd η n' ⟨L.blk, p, L.size⟩) (len + n) (len + n) cap' (upd_same _ _ _) hle (by show 0 + p + cap' * size ≤ L.size; omega)
      simpa [lowSlice] using this
  · obtain ⟨newCap, w', h3, h4, h5, h6, h7, h8⟩ := tail_grows (P := P) (w := w) (zeros := zeros) (base := some ⟨L.blk, p, none⟩) (s := .slice (some ⟨L.blk, p, none⟩) len cap') (x := x) (old := old'.toArray) (size := size) (sLen := len) (sCap := cap') hb hz hroom (by omega) q3 happ
    have hk := step_kill hd hw h1 hL ho (by simp)
    have hk2 := set_kle h1 hw ho (by simp)
    have hs1 := set_spec h1
    have hfr : Fresh η K1 K2 := fun m Lm hm' => by rcases hf m Lm hm' with h9 | h9
                                                   · exact .inl (by omega)
                                                   · exact .inr h9
    obtain ⟨η', hs, hv⟩ := grow_does (size := size) (need := len + n) (newCap := newCap) (rest := Builtin.zeroCells z.cells (newCap - (len + n))) hk.desc hk2.wf hm hfr (q1.append hx) (by simp [hxl, hol, Nat.add_mul]) (by rw [zeroCells_size, hzs]) h3 (by simpa using h5) h6 h7 h8
    exact ⟨_, w', η', h4, hk.trans P hs hk2 (mk_kle hm hk2.wf) hf, hv⟩

/-- append, what is appended in hand. -/
theorem tail_ok {η : Env} {K K' : AHeap} {w : World} (hd : Desc P η K w) (hw : WF K) {elem : TypeId} {size bytes n : Nat} {zeros : Bool} {xs xs' : List Value} {s s' x z v : Value} {app : Sem (Array Value)}
    (h : append2 K elem size bytes n xs s = some (v, K')) (hf : Fresh η K K') (hb : bytesT P elem = some bytes) (hz : zeroT P elem = some z) (hzs : z.cells.size = size) (hsz : size ≠ 0) (hnt : noTake P elem = false)
    (hr : VRel η s s') (hx : LRel η xs xs') (happ : ∀ w1 : World, w1.heap = w.heap → app.run P w1 = .ok xs'.toArray w1) :
    ∃ base sLen sCap, s' = .slice base sLen sCap ∧ lenV s = some sLen ∧ Does P η K w (appendTail elem size zeros base sLen sCap n s' x app) v K' := by
  cases s <;> simp only [append2] at h <;> try (cases h; done)
  rename_i a len cap
  obtain ⟨hg, h'⟩ := guardO_some.1 h
  clear h
  simp only [Bool.and_eq_true] at hg
  obtain ⟨hxl, hroom⟩ := hg
  have hxl := Nat.eq_of_beq_eq_true hxl
  have hl' := hx.length
  have hc0 := happ w rfl
  unfold appendAt at h'
  cases hr with
  | snil _ _ =>
    refine ⟨none, len, cap, rfl, rfl, ?_⟩
    simp only at h'
    split at h'
    · rename_i hle
      have hle := Nat.le_of_ble_eq_true hle
      obtain ⟨hn0, h2⟩ := guardO_some.1 h'
      cases h2
      exact ⟨_, w, η, tail_fits_nil hle hc0, Step.refl P hd, .snil _ _⟩
    · rename_i hle
      have hle : ¬ len + n ≤ cap := fun e => by rw [Nat.ble_eq_true_of_le e] at hle; cases hle
      obtain ⟨hn0, h2⟩ := guardO_some.1 h'
      have hlen := Nat.eq_of_beq_eq_true hn0
      subst hlen
      obtain ⟨⟨n', K1⟩, hm, h2⟩ := map_some.1 h2
      simp only [slcOf, Prod.mk.injEq] at h2
      obtain ⟨rfl, rfl⟩ := h2
      obtain ⟨newCap, w', h3, h4, h5, h6, h7, h8⟩ := tail_grows (P := P) (w := w) (zeros := zeros) (base := none) (s := .slice none 0 cap) (x := x) (old := #[]) (size := size) (sLen := 0) (sCap := cap) hb hz hroom (by omega) (fun w1 _ => by simp [Builtin.firstCells]) happ
      obtain ⟨η', hs, hv⟩ := grow_does (size := size) (need := 0 + n) (newCap := newCap) (rest := Builtin.zeroCells z.cells (newCap - (0 + n))) hd hw hm hf hx (by simpa using hxl) (by rw [zeroCells_size, hzs]) h3 (by simpa using h5) h6 h7 h8
      exact ⟨_, w', η', h4, hs, hv⟩
  | sex _ _ hL =>
    rename_i b o L
    refine ⟨_, len, cap, rfl, rfl, ?_⟩
    simp only at h'
    split at h'
    · rename_i hle
      have hle := Nat.le_of_ble_eq_true hle
      obtain ⟨K1, hwr, h2⟩ := map_some.1 h'
      simp only [Prod.mk.injEq] at h2
      obtain ⟨rfl, rfl⟩ := h2
      obtain ⟨w', r1, r2⟩ := write_step (P := P) hd hw hL hwr hx
      refine ⟨_, w', η, tail_fits hle hc0 ?_, r2, .sex _ _ hL⟩
      rw [addr_add, show o + L.shift + len * size = o + len * size + L.shift by omega]; exact r1
    · rename_i hle
      have hle : ¬ len + n ≤ cap := fun e => by rw [Nat.ble_eq_true_of_le e] at hle; cases hle
      obtain ⟨hel, h2⟩ := guardO_some.1 h'
      obtain ⟨old, hro, h3⟩ := bind_some.1 h2
      simp only [appendMore] at h3
      obtain ⟨⟨n', K1⟩, hm, h4⟩ := map_some.1 h3
      simp only [slcOf, Prod.mk.injEq] at h4
      obtain ⟨rfl, rfl⟩ := h4
      obtain ⟨old', q1, q2, q3, q4⟩ := load_cells_heap hd hL hro
      have hold : ∀ w1 : World, w1.heap = w.heap → (Builtin.firstCells size len (.slice (some ⟨L.blk, o + L.shift, none⟩) len cap)).run P w1 = .ok old'.toArray w1 := fun w1 h1 => by
        simpa [Builtin.firstCells] using q3 w1 h1
      obtain ⟨newCap, w', h3, h4, h5, h6, h7, h8⟩ := tail_grows (P := P) (w := w) (zeros := zeros) (base := some ⟨L.blk, o + L.shift, none⟩) (s := .slice (some ⟨L.blk, o + L.shift, none⟩) len cap) (x := x) (old := old'.toArray) (size := size) (sLen := len) (sCap := cap) hb hz hroom (by omega) hold happ
      obtain ⟨η', hs, hv⟩ := grow_does (size := size) (need := len + n) (newCap := newCap) (rest := Builtin.zeroCells z.cells (newCap - (len + n))) hd hw hm hf (q1.append hx) (by simp [hxl, Nat.add_mul, ← q2, q1.length]) (by rw [zeroCells_size, hzs]) h3 (by simpa using h5) h6 h7 h8
      exact ⟨_, w', η', h4, hs, hv⟩
  | slow _ _ c' hL hc hz' =>
    rename_i b o q L
    refine ⟨_, len, c', rfl, rfl, ?_⟩
    simp only at h'
    split at h'
    · rename_i hle
      have hle := Nat.le_of_ble_eq_true hle
      obtain ⟨K1, hwr, h2⟩ := map_some.1 h'
      simp only [Prod.mk.injEq] at h2
      obtain ⟨rfl, rfl⟩ := h2
      obtain ⟨w', r1, r2⟩ := write_step (P := P) hd hw hL hwr hx
      refine ⟨_, w', η, tail_fits (Nat.le_trans hle hc) hc0 ?_, r2, .slow _ _ _ hL hc hz'⟩
      rw [addr_add, show o + L.shift + len * size = o + len * size + L.shift by omega]; exact r1
    · obtain ⟨hel, h2⟩ := guardO_some.1 h'
      obtain ⟨old, hro, h3⟩ := bind_some.1 h2
      simp only [appendMore] at h3
      obtain ⟨hg, h4⟩ := guardO_some.1 h3
      simp only [Bool.and_eq_true] at hg
      have hq : q = size := by have := Nat.eq_of_beq_eq_true hg.2; omega
      subst hq
      obtain ⟨old', q1, q2, q3, q4⟩ := load_cells_heap hd hL hro
      exact low_more hd hw hL (of_decide_eq_true hel) hg.1 h4 hf hb hz hzs hroom hxl (by rw [← q2, q1.length]) hx happ hz' hnt q1 (fun w1 h1 => by simpa [Builtin.firstCells] using q3 w1 h1) q4
  | ssome o' c' hL hz' =>
    rename_i b o q L
    refine ⟨_, 0, c', rfl, rfl, ?_⟩
    simp only at h'
    split at h'
    · rename_i hle
      have hle := Nat.le_of_ble_eq_true hle
      have hn0 : n = 0 := by omega
      subst hn0
      have hx0 : xs = [] := by cases xs with | nil => rfl | cons _ _ => simp at hxl
      subst hx0
      cases hx
      obtain ⟨K1, hwr, h2⟩ := map_some.1 h'
      simp only [Prod.mk.injEq] at h2
      obtain ⟨rfl, rfl⟩ := h2
      obtain ⟨w', r1, r2⟩ := write_step (P := P) (xs' := []) hd hw hL hwr .nil
      have : w' = w := by simp [storeCells] at r1; exact r1.symm
      subst this
      refine ⟨_, _, η, tail_fits (new := []) (by omega) hc0 (by simp [storeCells]), r2, .ssome _ _ hL hz'⟩
    · obtain ⟨hel, h2⟩ := guardO_some.1 h'
      obtain ⟨old, hro, h3⟩ := bind_some.1 h2
      simp only [appendMore] at h3
      obtain ⟨hg, h4⟩ := guardO_some.1 h3
      simp only [Bool.and_eq_true] at hg
      have hq : q = size := by have := Nat.eq_of_beq_eq_true hg.2; omega
      subst hq
      have ho0 : old = [] := by
        obtain ⟨hlen, _⟩ := read_some hro
        cases old with | nil => rfl | cons _ _ => simp at hlen
      subst ho0
      exact low_more hd hw hL (of_decide_eq_true hel) hg.1 h4 hf hb hz hzs hroom hxl (by simp) hx happ hz' hnt (old' := []) .nil (fun w1 h1 => by simp [Builtin.firstCells, loadCells, loadCellsFrom]) (fun i v hi => by simp at hi)

/-- append. -/
theorem append_ok {η : Env} {K K' : AHeap} {w : World} (hd : Desc P η K w) (hw : WF K) {ts : List TypeId} {ty : TypeId} {args args' : List Value} {v : Value} (h : aAppend P K ts args = some (v, K')) (hf : Fresh η K K') (hr : LRel η args args') :
    Does P η K w (Builtin.append_ ts.toArray ty args'.toArray) v K' := by
  unfold aAppend at h
  split at h
  case h_2 => cases h
  rename_i s x
  cases hr with | cons hs hr =>
  cases hr with | cons hxr hr =>
  cases hr
  rename_i s' x'
  obtain ⟨elem, h1, h⟩ := bind_some.1 h
  cases ts with
  | nil => simp at h1
  | cons t rest =>
  simp only [List.head?_cons, Option.bind_some] at h1
  obtain ⟨size, h2, h3⟩ := bind_some.1 h
  obtain ⟨bytes, h4, h5⟩ := bind_some.1 h3
  obtain ⟨z, h6, h7⟩ := bind_some.1 h5
  clear h h3 h5
  obtain ⟨zv, z1, z2, z3, z4, z5⟩ := zeros_some h6
  have hsz : zv.cells.size = size := by rw [h2] at z3; cases z3; rfl
  cases hzf : zerosForm P (t :: rest) with
  | none => rw [hzf] at h7; cases h7
  | some zeros =>
  rw [hzf] at h7
  cases zeros with
  | true =>
    simp only at h7
    obtain ⟨n, hn, h8⟩ := bind_some.1 h7
    unfold natV at hn
    obtain ⟨i, hi, hn2⟩ := bind_some.1 hn
    obtain ⟨hi2, hi3⟩ := bound1_ok hn2
    obtain ⟨k, rfl, rfl⟩ := intV_ok hi hxr
    subst hi2
    have hroom : ∀ a len cap, s = .slice a len cap → roomy (len + n) bytes = true := fun a len cap e => by
      subst e
      simp only [append2] at h8
      have := (guardO_some.1 h8).1
      simp only [Bool.and_eq_true] at this
      exact this.2
    obtain ⟨base, sLen, sCap, rfl, hl, hdo⟩ := tail_ok (zeros := true) (x := .int k n) (app := appended size n true elem (.int k n)) hd hw h8 hf h4 z1 hsz (by omega) (zeros_noTake h6) hs (LRel.ground _ (grounds_flat z5 n)) (fun w1 _ => by
      unfold appended
      simp only [Bool.not_true, Bool.false_eq_true, if_false]
      split
      · rename_i h0
        subst z2
        have : n = 0 := by
          rcases Nat.mul_eq_zero.1 h0 with h9 | h9
          · exact h9
          · omega
        subst this
        simp
      · simp only [Sem.run_bind, run_zero z1, Result.andThen, Sem.run_pure]
        rw [zeroCells_eq z4, z2])
    obtain ⟨v', w', η', r1, r2, r3⟩ := hdo
    cases s <;> simp only [lenV] at hl <;> try (cases h8; done)
    cases hl
    refine ⟨v', w', η', ?_, r2, r3⟩
    rw [← r1]
    exact append_run h1 h2 h4 hzf (.inl ⟨rfl, ⟨k, rfl⟩, hroom _ _ _ rfl⟩)
  | false =>
    simp only at h7
    obtain ⟨n, hn, h8⟩ := bind_some.1 h7
    obtain ⟨xs, hxs, h9⟩ := bind_some.1 h8
    obtain ⟨xs', e1, e2⟩ := src_ok hd hxs (fun m hm => by rw [hn] at hm; cases hm; exact Nat.le_refl _) hxr
    obtain ⟨base, sLen, sCap, rfl, hl, hdo⟩ := tail_ok (zeros := false) (x := x') (app := appended size n false elem x') hd hw h9 hf h4 z1 hsz (by omega) (zeros_noTake h6) hs e1 (fun w1 hw1 => by
      unfold appended
      simpa using e2 w1 hw1)
    obtain ⟨v', w', η', r1, r2, r3⟩ := hdo
    refine ⟨v', w', η', ?_, r2, r3⟩
    rw [← r1]
    exact append_run h1 h2 h4 hzf (.inr ⟨rfl, lenV_ok hn hxr w⟩)

end Go.Ev

/- copy, clear, maps, iterators, new rows: the machine at what the evaluator answers. Conditions: none. -/
set_option linter.unusedVariables false
set_option linter.unusedSimpArgs false
set_option linter.unnecessarySimpa false
namespace Go.Ev
variable {P : Program}

/-! ### Objects that are no cells -/
theorem setObj_step {η : Env} {K K' : AHeap} {w : World} (hd : Desc P η K w) (hw : WF K) {n : Nat} {L : Loc} {old o : AObj} {ob0 ob : Obj} (hL : η n = some L) (ho : K.obj n = some old) (hnd : old ≠ .dead) (h : K.set? n o = some K')
    (h0 : w.heap[L.blk]? = some ob0) (hc : ∀ c e f, ob0 ≠ .cells c e f) (hr : ∀ w' : World, w'.heap[L.blk]? = some ob → ObjRel P η w' L o) :
    ∃ w', (setObj L.blk ob).run P w = .ok () w' ∧ Step P η K w η K' w' := by
  have hlt : L.blk < w.heap.size := hd.inb n L hL
  refine ⟨{ w with heap := w.heap.setIfInBounds L.blk ob }, ?_, step_set hd hw h hL ho hnd (by simp) (fun b hb => ?_) rfl rfl rfl (hr _ ?_)⟩
  · cases ob0 <;> simp [setObj, Sem.run, h0]
    exact absurd rfl (hc _ _ _)
  · simp [Array.getElem?_setIfInBounds, Ne.symm hb]
  · simp [Array.getElem?_setIfInBounds, hlt]

theorem sameBits_ok {η : Env} {n : Nat} {a a' b : Value} (h : Instr.sameBits n a b = true) (ha : VRel η a a') (hg : ground a = true) : Instr.sameBits n a' b = true := by
  rw [ha.eq_of_ground hg]; exact h

theorem ERel.append {η : Env} : ∀ {a a' b b' : List MapEntry}, ERel η a a' → ERel η b b' → ERel η (a ++ b) (a' ++ b')
  | _, _, _, _, .nil, h => h
  | _, _, _, _, .cons hk hv hb t, h => .cons hk hv hb (t.append h)

theorem ERel.setE {η : Env} {k k' v v' : Value} (hk : VRel η k k') (hv : VRel η v v') : ∀ {l l' : List MapEntry}, ERel η l l' → ∀ i, ERel η (setE l i k v) (l'.modify i fun e => { e with key := k', val := v' })
  | _, _, .nil, i => by cases i <;> exact .nil
  | _, _, .cons a b c t, 0 => by simpa [Ev.setE] using ERel.cons (by exact hk) (by exact hv) (by exact c) t
  | _, _, .cons a b c t, i + 1 => by simpa [Ev.setE] using ERel.cons a b c (t.setE hk hv i)

theorem ERel.eraseIdx {η : Env} : ∀ {l l' : List MapEntry}, ERel η l l' → ∀ i, ERel η (l.eraseIdx i) (l'.eraseIdx i)
  | _, _, .nil, i => by simpa using ERel.nil
  | _, _, .cons a b c t, 0 => by simpa using t
  | _, _, .cons a b c t, i + 1 => by simpa using ERel.cons a b c (t.eraseIdx i)

theorem allGround_nth : ∀ {l : List MapEntry} {i : Nat} {e : MapEntry}, allGroundKeys l = true → l[i]? = some e → ground e.key = true
  | [], i, e, _, h => by simp at h
  | x :: l, 0, e, hg, h => by
    simp at h; subst h
    simp only [allGroundKeys, Bool.and_eq_true] at hg
    exact grnd_ground hg.1
  | x :: l, i + 1, e, hg, h => by
    simp only [allGroundKeys, Bool.and_eq_true] at hg
    exact allGround_nth hg.2 (by simpa using h)

theorem mapUpdate_ok {η : Env} {K K' : AHeap} {w : World} (hd : Desc P η K w) (hw : WF K) {t : TypeId} {m m' k k' v v' : Value} (h : aMapUpdate P K t m k v = some K') (hm : VRel η m m') (hk : VRel η k k') (hv : VRel η v v') :
    ∃ w', (Instr.mapUpdate t m' k' v').run P w = .ok () w' ∧ Step P η K w η K' w' := by
  unfold aMapUpdate at h
  obtain ⟨ke, h1, ha⟩ := bind_some.1 h
  obtain ⟨r, h2, hb⟩ := bind_some.1 ha
  obtain ⟨ec, h3, hc⟩ := bind_some.1 hb
  obtain ⟨_, h4, he⟩ := bind_some.1 hc
  obtain ⟨f, h5, hg⟩ := bind_some.1 he
  obtain ⟨ro, h6, h7⟩ := bind_some.1 h2
  clear h ha hb hc he h2
  have ht := mapT_some h1
  obtain ⟨r', rfl, ho⟩ := mapV_ok h6 hm
  simp only [id] at h7
  subst h7
  obtain ⟨L, hL, rfl⟩ := ho
  obtain ⟨es', e1, e2, e3⟩ := mapE_ok hd hL h3
  obtain ⟨hgk, f', f1, f2⟩ := findE_ok w h5 e2
  have hkg := grnd_ground hgk
  have hke := hk.eq_of_ground hkg
  subst hke
  have hchk : (Instr.checkKey false 10000 ke.1 k').run P w = .ok () w := pureRun_run h4 w
  have hst : ∀ ob o, K.set? r o = some K' → (∀ w' : World, w'.heap[L.blk]? = some ob → ObjRel P η w' L o) → ∃ w', (setObj L.blk ob).run P w = .ok () w' ∧ Step P η K w η K' w' := fun ob o hs hr =>
    setObj_step hd hw hL e3 (by simp) hs e1 (by simp) hr
  rcases f2 with ⟨rfl, rfl⟩ | ⟨i, e, e', rfl, g1, g2, rfl⟩
  · simp only [putE, putEnts] at hg
    obtain ⟨w', r1, r2⟩ := hst (.map (es'.push { key := k', val := v', born := ec.2 }) (ec.2 + 1)) _ hg (fun w' hw' => ⟨_, hw', by simpa using e2.append (.cons (e := { key := k', val := v, born := ec.2 }) (e' := { key := k', val := v', born := ec.2 }) hk hv rfl .nil)⟩)
    refine ⟨w', ?_, r2⟩
    simp only [Instr.mapUpdate, Sem.run_bind, run_underlying' ht, Result.andThen, run_getObj e1 (by simp), hchk, f1]
    exact r1
  · simp only [putE] at hg
    obtain ⟨e0, g3, g4⟩ := bind_some.1 hg
    rw [g1] at g3; cases g3
    obtain ⟨g5, g6⟩ := guardO_some.1 g4
    simp only [putEnts] at g6
    obtain ⟨w', r1, r2⟩ := hst (.map (es'.modify i fun e => { e with key := k', val := v' }) ec.2) _ g6 (fun w' hw' => ⟨_, hw', by simpa using e2.setE hk hv i⟩)
    refine ⟨w', ?_, r2⟩
    have hag : allGroundKeys ec.1 = true := by
      unfold findE at h5
      have := (guardO_some.1 h5).1
      simp only [Bool.and_eq_true] at this
      exact this.2
    have hee : e'.key = e.key := ((e2.nth g1 g2).1).eq_of_ground (allGround_nth hag g1)
    have hks : (Instr.keyThatStays (((es'[i]?).map (·.key)).getD k') k').run P w = .ok k' w := by
      have : es'[i]? = some e' := by simpa using g2
      simp only [this, Option.map_some, Option.getD_some, hee, Instr.keyThatStays, g5, if_true, Sem.run_pure]
    simp only [Instr.mapUpdate, Sem.run_bind, run_underlying' ht, Result.andThen, run_getObj e1 (by simp), hchk, f1, hks]
    exact r1

theorem delete_ok {η : Env} {K K' : AHeap} {w : World} (hd : Desc P η K w) (hw : WF K) {t ty : TypeId} {ts : List TypeId} {m m' k k' : Value} (h : aDelete P K t m k = some K') (hm : VRel η m m') (hk : VRel η k k') :
    ∃ w', (Builtin.delete_ (t :: ts).toArray ty #[m', k']).run P w = .ok (.tuple #[]) w' ∧ Step P η K w η K' w' := by
  unfold aDelete at h
  obtain ⟨ke, h1, ha⟩ := bind_some.1 h
  obtain ⟨r, h2, hb⟩ := bind_some.1 ha
  obtain ⟨ec, h3, hc⟩ := bind_some.1 hb
  obtain ⟨_, h4, he⟩ := bind_some.1 hc
  obtain ⟨f, h5, hg⟩ := bind_some.1 he
  obtain ⟨ro, h6, h7⟩ := bind_some.1 h2
  clear h ha hb hc he h2
  have ht := mapT_some h1
  obtain ⟨r', rfl, ho⟩ := mapV_ok h6 hm
  simp only [id] at h7
  subst h7
  obtain ⟨L, hL, rfl⟩ := ho
  obtain ⟨es', e1, e2, e3⟩ := mapE_ok hd hL h3
  obtain ⟨hgk, f', f1, f2⟩ := findE_ok w h5 e2
  have hkg := grnd_ground hgk
  have hke := hk.eq_of_ground hkg
  subst hke
  have hemp : es'.isEmpty = ec.1.isEmpty := by
    have := e2.length
    rcases ec with ⟨es, c⟩
    cases es <;> simp_all [Array.isEmpty]
  have hchk : (Instr.checkKey es'.isEmpty 10000 ke.1 k').run P w = .ok () w := by rw [hemp]; exact pureRun_run h4 w
  have hst : ∀ ob o, K.set? r o = some K' → (∀ w' : World, w'.heap[L.blk]? = some ob → ObjRel P η w' L o) → ∃ w', (setObj L.blk ob).run P w = .ok () w' ∧ Step P η K w η K' w' := fun ob o hs hr =>
    setObj_step hd hw hL e3 (by simp) hs e1 (by simp) hr
  rcases f2 with ⟨rfl, rfl⟩ | ⟨i, e, e', rfl, g1, g2, rfl⟩
  · simp only [delE, putEnts] at hg
    obtain ⟨w', r1, r2⟩ := hst (.map es' ec.2) _ hg (fun w' hw' => ⟨_, hw', e2⟩)
    refine ⟨w', ?_, r2⟩
    simp only [Builtin.delete_, List.getElem?_toArray, List.getElem?_cons_zero, List.getElem?_cons_succ, Sem.run_bind, run_underlying' ht, Result.andThen, run_getObj e1 (by simp), hchk, f1, r1, Sem.run_pure]
  · simp only [delE, putEnts] at hg
    obtain ⟨w', r1, r2⟩ := hst (.map (es'.eraseIdxIfInBounds i) ec.2) _ hg (fun w' hw' => ⟨_, hw', by
      have := e2.eraseIdx i
      have hsz : i < es'.size := by simpa using (List.getElem?_eq_some_iff.1 g2).1
      simpa [Array.eraseIdxIfInBounds, hsz] using this⟩)
    refine ⟨w', ?_, r2⟩
    simp only [Builtin.delete_, List.getElem?_toArray, List.getElem?_cons_zero, List.getElem?_cons_succ, Sem.run_bind, run_underlying' ht, Result.andThen, run_getObj e1 (by simp), hchk, f1, r1, Sem.run_pure]

/-! ### copy, clear -/
theorem slcV_ok {η : Env} {x x' : Value} {d : Option Addr × Nat} (h : slcV x = some d) (hr : VRel η x x') : ∃ a' c', x' = .slice a' d.2 c' ∧
    ((d.1 = none ∧ a' = none) ∨ ∃ b o s L o', d.1 = some ⟨b, o, s⟩ ∧ η b = some L ∧ a' = some ⟨L.blk, o', none⟩ ∧ (o' = o + L.shift ∨ d.2 = 0)) := by
  cases x <;> simp only [slcV] at h <;> try (cases h; done)
  cases h
  cases hr with
  | snil => exact ⟨none, _, rfl, .inl ⟨rfl, rfl⟩⟩
  | sex _ _ hL => exact ⟨_, _, rfl, .inr ⟨_, _, _, _, _, rfl, hL, rfl, .inl rfl⟩⟩
  | slow _ _ _ hL hc hz => exact ⟨_, _, rfl, .inr ⟨_, _, _, _, _, rfl, hL, rfl, .inl rfl⟩⟩
  | ssome _ _ hL hz => exact ⟨_, _, rfl, .inr ⟨_, _, _, _, _, rfl, hL, rfl, .inr rfl⟩⟩

/-- Cells are written through a slice. -/
theorem slice_write {η : Env} {K K' : AHeap} {w : World} (hd : Desc P η K w) (hw : WF K) {b o o' : Nat} {L : Loc} {xs xs' : List Value} (hL : η b = some L) (h : K.write b o xs = some K') (hx : LRel η xs xs') (ho : o' = o + L.shift ∨ xs = []) :
    ∃ w', (storeCells ⟨L.blk, o', none⟩ xs').run P w = .ok () w' ∧ Step P η K w η K' w' := by
  obtain ⟨w', r1, r2⟩ := write_step (P := P) hd hw hL h hx
  rcases ho with rfl | rfl
  · exact ⟨w', r1, r2⟩
  · cases hx
    have : w' = w := by simp [storeCells] at r1; exact r1.symm
    subst this
    exact ⟨w', by simp [storeCells], r2⟩

theorem copy_ok {η : Env} {K K' : AHeap} {w : World} (hd : Desc P η K w) (hw : WF K) {t ty : TypeId} {ts : List TypeId} {d d' s s' v : Value} (h : aCopy P K t d s = some (v, K')) (hr : VRel η d d') (hs : VRel η s s') :
    Does P η K w (Builtin.copy_ (t :: ts).toArray ty #[d', s']) v K' := by
  unfold aCopy at h
  obtain ⟨elem, h1, ha⟩ := bind_some.1 h
  obtain ⟨size, h2, hb⟩ := bind_some.1 ha
  obtain ⟨dd, h3, hc⟩ := bind_some.1 hb
  obtain ⟨m, h4, he⟩ := bind_some.1 hc
  unfold copyN at he
  obtain ⟨xs, h5, h6⟩ := bind_some.1 he
  obtain ⟨h7, h8⟩ := guardO_some.1 h6
  clear h ha hb hc he h6
  have hxl := Nat.eq_of_beq_eq_true h7
  have ht := elem_some h1
  obtain ⟨a', c', rfl, hcase⟩ := slcV_ok h3 hr
  obtain ⟨xs', e1, e2⟩ := src_ok hd h5 (fun m' hm' => by rw [h4] at hm'; cases hm'; exact Nat.min_le_left _ _) hs
  have hlen := lenV_ok (P := P) h4 hs w
  have hsrc := e2 w rfl
  rcases hcase with ⟨hd1, rfl⟩ | ⟨b, o, sp, L, o', hd1, hL, rfl, ho⟩
  · rw [hd1] at h8
    simp only [copyTo] at h8
    cases h8
    refine ⟨_, w, η, ?_, Step.refl P hd, .int _ _⟩
    simp only [Builtin.copy_, List.getElem?_toArray, List.getElem?_cons_zero, List.getElem?_cons_succ, Sem.run_bind, run_underlying' ht, Result.andThen, run_sizeOf h2, hlen, hsrc, Sem.run_pure, goInt]
  · rw [hd1] at h8
    simp only [copyTo] at h8
    obtain ⟨K1, h9, h10⟩ := map_some.1 h8
    cases h10
    obtain ⟨w', r1, r2⟩ := slice_write (P := P) (o' := o') hd hw hL h9 e1 (by
      rcases ho with rfl | h0
      · exact .inl rfl
      · right
        rw [h0] at hxl
        have : xs.length = 0 := by rw [hxl]; simp
        exact List.length_eq_zero_iff.1 this)
    refine ⟨_, w', η, ?_, r2, .int _ _⟩
    simp only [Builtin.copy_, List.getElem?_toArray, List.getElem?_cons_zero, List.getElem?_cons_succ, Sem.run_bind, run_underlying' ht, Result.andThen, run_sizeOf h2, hlen, hsrc, r1, Sem.run_pure, goInt]

theorem clear_ok {η : Env} {K K' : AHeap} {w : World} (hd : Desc P η K w) (hw : WF K) {t ty : TypeId} {ts : List TypeId} {x x' : Value} {xs' : List Value} (h : aClear P K t x = some K') (hr : VRel η x x') :
    ∃ w', (Builtin.clear_ (t :: ts).toArray ty (x' :: xs').toArray).run P w = .ok (.tuple #[]) w' ∧ Step P η K w η K' w' := by
  unfold aClear at h
  obtain ⟨elem, h1, ha⟩ := bind_some.1 h
  obtain ⟨z, h2, hb⟩ := bind_some.1 ha
  obtain ⟨dd, h3, h8⟩ := bind_some.1 hb
  clear h ha hb
  have ht := elem_some h1
  obtain ⟨zv, z1, z2, z3, z4, z5⟩ := zeros_some h2
  obtain ⟨a', c', rfl, hcase⟩ := slcV_ok h3 hr
  rcases hcase with ⟨hd1, rfl⟩ | ⟨b, o, sp, L, o', hd1, hL, rfl, ho⟩
  · rw [hd1] at h8
    simp only [clearAt] at h8
    cases h8
    refine ⟨w, ?_, Step.refl P hd⟩
    simp only [Builtin.clear_, List.getElem?_toArray, List.getElem?_cons_zero, Sem.run_bind, run_underlying' ht, Result.andThen, Sem.run_pure]
  · rw [hd1] at h8
    simp only [clearAt] at h8
    obtain ⟨w', r1, r2⟩ := slice_write (P := P) (o' := o') hd hw hL h8 (LRel.ground _ (grounds_flat z5 _)) (by
      rcases ho with rfl | h0
      · exact .inl rfl
      · right; rw [h0]; simp)
    refine ⟨w', ?_, r2⟩
    cases hn : dd.2 with
    | zero =>
      rw [hn] at r1
      have : w' = w := by simp [storeCells] at r1; exact r1.symm
      subst this
      simp only [Builtin.clear_, List.getElem?_toArray, List.getElem?_cons_zero, Sem.run_bind, run_underlying' ht, Result.andThen, Sem.run_pure]
    | succ n =>
      rw [hn] at r1
      have hzc : (Builtin.zeroCells zv.cells (n + 1)).toList = (List.replicate (n + 1) z).flatten := by rw [zeroCells_eq z4, z2]
      simp only [Builtin.clear_, List.getElem?_toArray, List.getElem?_cons_zero, Sem.run_bind, run_underlying' ht, Result.andThen, run_zero z1, Sem.run_pure, hzc, r1]

end Go.Ev

/- New rows, iterators, conversions, the unsafe builtins: the machine at what the evaluator answers. Conditions: none. -/
set_option linter.unusedVariables false
set_option linter.unusedSimpArgs false
set_option linter.unnecessarySimpa false
namespace Go.Ev
variable {P : Program}

theorem blt_tt {a b : Nat} : Nat.blt a b = true ↔ a < b := Iff.of_eq Nat.blt_eq
theorem blt_ff {a b : Nat} : Nat.blt a b = false ↔ ¬ a < b := by
  cases h : Nat.blt a b with
  | true => simp [blt_tt.1 h]
  | false => simp; exact Nat.le_of_not_lt fun e => by rw [blt_tt.2 e] at h; cases h

/-! ### New rows -/
theorem zeroRow_some {η : Env} {t : TypeId} {n : Nat} {r : List Value} (h : zeroRow P t n = some r) : ∃ z, zeroT P t = some z ∧ sizeT P t = some z.cells.size ∧ z.cells.size ≠ 0 ∧ r = (List.replicate n z.cells.toList).flatten ∧ LRel η r r := by
  unfold zeroRow at h
  obtain ⟨zs, h1, h2⟩ := map_some.1 h
  obtain ⟨z, z1, z2, z3, z4, z5⟩ := zeros_some h1
  subst z2
  refine ⟨z, z1, z3, z4, h2.symm, ?_⟩
  subst h2
  exact LRel.ground _ (grounds_flat z5 n)

theorem row_zero {z : Array Value} (hz : z.size ≠ 0) (n : Nat) : (Array.range (n * z.size)).map (fun i => (if n * z.size = 0 then (#[] : Array Value) else z)[i % (if n * z.size = 0 then (#[] : Array Value) else z).size]!) = ((List.replicate n z.toList).flatten).toArray := by
  by_cases h0 : n * z.size = 0
  · rw [h0]
    have : n = 0 := by rcases Nat.mul_eq_zero.1 h0 with h | h
                       · exact h
                       · exact absurd h hz
    subst this
    simp
  · simp only [h0, if_false]
    apply Array.ext'
    exact flat_zero z hz n

theorem buildSlice_ok {η : Env} {K K' : AHeap} {w : World} (hd : Desc P η K w) (hw : WF K) {t : TypeId} {len : Nat} {vs vs' : List (Nat × Value)} {v : Value} (h : aBuildSlice P K t len vs = some (v, K')) (hf : Fresh η K K') (hr : PRel η vs vs') :
    Does P η K w (Instr.buildSlice t len vs'.toArray) v K' := by
  unfold aBuildSlice at h
  obtain ⟨elem, h1, ha⟩ := bind_some.1 h
  obtain ⟨s, h2, hb⟩ := bind_some.1 ha
  obtain ⟨hle, hb'⟩ := guardO_some.1 hb
  obtain ⟨r, h3, hc⟩ := bind_some.1 hb'
  obtain ⟨cs, h4, he⟩ := bind_some.1 hc
  obtain ⟨⟨n, K1⟩, hm, hg⟩ := map_some.1 he
  simp only [slcEx, Prod.mk.injEq] at hg
  obtain ⟨rfl, rfl⟩ := hg
  clear h ha hb hb' hc he
  have hle := Nat.le_of_ble_eq_true hle
  have ht := elem_some h1
  obtain ⟨z, z1, z2, z3, z4, z5⟩ := zeroRow_some (η := η) h3
  rw [h2] at z2; cases z2
  subst z4
  obtain ⟨r', f1, f2⟩ := fill_ok (c := ((List.replicate len z.cells.toList).flatten).toArray) (place' := fun i => some (i * z.cells.size, z.cells.size)) (fun _ _ h => h) hr z5 h4
  obtain ⟨w', r1, r2⟩ := row_exact hd hw hm hf f2
  refine ⟨.slice (some ⟨w.heap.size, 0, none⟩) len len, w', _, ?_, r2, slcEx_ok (upd_same _ _ _) rfl⟩
  have hle2 : ¬ len * z.cells.size > 2 ^ 24 := by omega
  have hrz := row_zero z3 len
  by_cases h0 : len * z.cells.size = 0
  · simp only [h0, if_true] at hrz
    simp only [Instr.buildSlice, Sem.run_bind, run_underlying' ht, Result.andThen, run_sizeOf h2, hle2, if_false, h0, if_true, hrz, f1, r1, Sem.run_pure]
    simp only [show ¬ (0 > 2 ^ 24) by omega, if_false, hrz, f1, Sem.run_bind, r1, Result.andThen, Sem.run_pure]
  · simp only [h0, if_false] at hrz
    simp only [Instr.buildSlice, Sem.run_bind, run_underlying' ht, Result.andThen, run_sizeOf h2, hle2, if_false, h0, run_zero z1, hrz, f1, r1, Sem.run_pure]

theorem i64V_ok {η : Env} {v v' : Value} {n : Nat} (h : i64V v = some n) (hr : VRel η v v') : v' = .int .i64 (n : Int) ∧ n ≤ 70368744177664 := by
  unfold i64V at h
  split at h
  · obtain ⟨a, b⟩ := bound1_ok h
    subst a
    cases hr
    exact ⟨rfl, b⟩
  · cases h

theorem makeSlice_ok {η : Env} {K K' : AHeap} {w : World} (hd : Desc P η K w) (hw : WF K) {t : TypeId} {l l' c c' v : Value} (h : aMakeSlice P K t l c = some (v, K')) (hf : Fresh η K K') (hl : VRel η l l') (hc : VRel η c c') :
    Does P η K w (Instr.makeSlice t l' c') v K' := by
  unfold aMakeSlice at h
  obtain ⟨elem, h1, ha⟩ := bind_some.1 h
  obtain ⟨ln, h2, hb⟩ := bind_some.1 ha
  obtain ⟨cn, h3, hb'⟩ := bind_some.1 hb
  obtain ⟨bytes, h4, he⟩ := bind_some.1 hb'
  obtain ⟨hg, h5⟩ := guardO_some.1 he
  obtain ⟨r, h6, h7⟩ := bind_some.1 h5
  obtain ⟨⟨n, K1⟩, hm, h8⟩ := map_some.1 h7
  simp only [slcEx, Prod.mk.injEq] at h8
  obtain ⟨rfl, rfl⟩ := h8
  clear h ha hb hb' he h5 h7
  simp only [Bool.and_eq_true] at hg
  have g1 := Nat.le_of_ble_eq_true hg.1
  have g2 := Nat.le_of_ble_eq_true hg.2
  have ht := elem_some h1
  obtain ⟨rfl, l2⟩ := i64V_ok h2 hl
  obtain ⟨rfl, c2⟩ := i64V_ok h3 hc
  obtain ⟨z, z1, z2, z3, z4, z5⟩ := zeroRow_some (η := η) h6
  subst z4
  obtain ⟨i, hi, hib, _⟩ := bytes_some h4 w
  have hti : ∀ w', (typeInfo elem).run P w' = .ok i w' := fun w' => by simp [typeInfo, hi]
  obtain ⟨w', r1, r2⟩ := row_exact hd hw hm hf z5
  refine ⟨.slice (some ⟨w.heap.size, 0, none⟩) ln cn, w', _, ?_, r2, slcEx_ok (upd_same _ _ _) rfl⟩
  have w1 := wrap64_small l2
  have w2 := wrap64_small c2
  have hbig : ¬ ((i.bytes : Int) * (cn : Int) > 2 ^ 48) := by
    rw [hib]
    have h1 : ((cn * bytes : Nat) : Int) ≤ 70368744177664 := Int.ofNat_le.2 g2
    have h2 : (bytes : Int) * (cn : Int) = ((cn * bytes : Nat) : Int) := by rw [Int.natCast_mul, Int.mul_comm]
    rw [h2]
    omega
  have hcond : ((decide ((cn : Int) < 0) || decide ((i.bytes : Int) * (cn : Int) > 2 ^ 48)) || decide ((ln : Int) < 0) || decide ((ln : Int) > (cn : Int))) = false := by
    have d1 : decide ((cn : Int) < 0) = false := decide_eq_false (by omega)
    have d2 : decide ((ln : Int) < 0) = false := decide_eq_false (by omega)
    have d3 : decide ((ln : Int) > (cn : Int)) = false := decide_eq_false (by omega)
    rw [d1, d2, d3, decide_eq_false hbig]
    rfl
  have hrz := row_zero z3 cn
  by_cases h0 : cn * z.cells.size = 0
  · simp only [h0, if_true] at hrz
    simp only [Instr.makeSlice, Sem.run_bind, run_underlying' ht, Result.andThen, asInt, asIntOf, Sem.run_pure, hti, w1, w2, Int.toNat_natCast, hcond, Bool.false_eq_true, if_false, run_askRoom, run_sizeOf z2, h0, if_true, hrz, r1]
  · simp only [h0, if_false] at hrz
    simp only [Instr.makeSlice, Sem.run_bind, run_underlying' ht, Result.andThen, asInt, asIntOf, Sem.run_pure, hti, w1, w2, Int.toNat_natCast, hcond, Bool.false_eq_true, if_false, run_askRoom, run_sizeOf z2, h0, run_zero z1, hrz, r1]

theorem makeMap_ok {η : Env} {K K' : AHeap} {w : World} (hd : Desc P η K w) (hw : WF K) {t : TypeId} {r r' : Option Value} {n : Nat} (hg : (match r with | none => true | some v => (mapT P t).isSome && (intV v).isSome) = true) (h : K.mk? (.map [] 0) = some (n, K')) (hf : Fresh η K K') (hr : ORel η r r') :
    Does P η K w (Instr.makeMap t r') (.map (some n)) K' := by
  let L : Loc := ⟨w.heap.size, 0, 0⟩
  obtain ⟨hs, h0⟩ := step_mk (L := L) (ob := .map #[] 0) (w' := w.alloc (.map #[] 0)) hd hw h hf rfl rfl rfl rfl rfl ⟨#[], by show (w.heap.push _)[w.heap.size]? = _; simp, .nil⟩
  refine ⟨.map (some w.heap.size), _, _, ?_, hs, .map (L := L) (upd_same _ _ _)⟩
  cases r with
  | none =>
    cases r' with
    | some _ => cases hr
    | none => simp [Instr.makeMap]
  | some v =>
    cases r' with
    | none => cases hr
    | some v' =>
      simp only [Bool.and_eq_true, Option.isSome_iff_exists] at hg
      obtain ⟨⟨ke, h1⟩, ⟨i, h2⟩⟩ := hg
      obtain ⟨k, rfl, rfl⟩ := intV_ok h2 hr
      simp [Instr.makeMap, run_underlying' (mapT_some h1), asInt, asIntOf]

/-! ### Iterators -/
theorem newObj_does {η : Env} {K K' : AHeap} {w : World} (hd : Desc P η K w) (hw : WF K) {o : AObj} {ob : Obj} {v : Value} (h : (K.mk? o).map ptrTo = some (v, K')) (hf : Fresh η K K')
    (hr : ∀ (η' : Env) (w' : World), Ext η η' → w'.heap[w.heap.size]? = some ob → ObjRel P η' w' ⟨w.heap.size, 0, 0⟩ o) :
    Does P η K w (do pure (.pointer (some ⟨← newObj ob, 0, none⟩))) v K' := by
  obtain ⟨⟨n, K1⟩, hm, h2⟩ := map_some.1 h
  simp only [ptrTo, Prod.mk.injEq] at h2
  obtain ⟨rfl, rfl⟩ := h2
  have hn := mk_spec hm
  have h0 : η n = none := fresh_next hf (by omega) (by omega)
  let L : Loc := ⟨w.heap.size, 0, 0⟩
  obtain ⟨hs, _⟩ := step_mk (L := L) (ob := ob) (w' := w.alloc ob) hd hw hm hf rfl rfl rfl rfl rfl (hr _ _ (upd_ext h0) (by show (w.heap.push _)[w.heap.size]? = _; simp))
  refine ⟨.pointer (some ⟨w.heap.size, 0, none⟩), _, _, by simp, hs, ?_⟩
  have : (⟨w.heap.size, 0, none⟩ : Addr) = ⟨L.blk, 0 + L.shift, none⟩ := by simp [L]
  rw [this]
  exact .ptr (upd_same _ _ _)

theorem range_ok {η : Env} {K K' : AHeap} {w : World} (hd : Desc P η K w) (hw : WF K) {t : TypeId} {x x' v : Value} (h : aRange P K t x = some (v, K')) (hf : Fresh η K K') (hr : VRel η x x') :
    Does P η K w (Instr.range t x') v K' := by
  unfold aRange at h
  obtain ⟨d, h1, ha⟩ := bind_some.1 h
  obtain ⟨o, h2, hb⟩ := bind_some.1 ha
  clear h ha
  cases d <;> simp only [rangeD] at h2 <;> try (cases h2; done)
  case string =>
    obtain ⟨s, h3, h4⟩ := map_some.1 h2
    subst h4
    obtain ⟨rfl, rfl⟩ := strV_ok h3 hr
    obtain ⟨v', w', η', r1, r2, r3⟩ := newObj_does (ob := .stringIter s 0) hd hw hb hf (fun η' w' _ hh => ⟨hh, rfl⟩)
    refine ⟨v', w', η', ?_, r2, r3⟩
    rw [← r1]
    simp [Instr.range, run_underlying' h1]
  case map kt et =>
    obtain ⟨r, h3, h4⟩ := bind_some.1 h2
    obtain ⟨r', rfl, ho⟩ := mapV_ok h3 hr
    cases r with
    | none =>
      cases ho
      simp only [Option.some.injEq] at h4
      subst h4
      obtain ⟨v', w', η', r1, r2, r3⟩ := newObj_does (ob := .mapIter none 0 #[] 0) hd hw hb hf (fun η' w' _ hh => ⟨rfl, none, hh, rfl⟩)
      refine ⟨v', w', η', ?_, r2, r3⟩
      rw [← r1]
      simp [Instr.range, run_underlying' h1]
    | some m =>
      obtain ⟨L, hL, rfl⟩ := ho
      obtain ⟨ec, h5, h6⟩ := map_some.1 h4
      subst h6
      obtain ⟨es', e1, e2, e3⟩ := mapE_ok hd hL h5
      obtain ⟨v', w', η', r1, r2, r3⟩ := newObj_does (ob := .mapIter (some L.blk) ec.2 #[] ec.2) hd hw hb hf (fun η' w' hx hh => ⟨rfl, some L.blk, hh, L, hx _ _ hL, rfl⟩)
      refine ⟨v', w', η', ?_, r2, r3⟩
      rw [← r1]
      simp only [Instr.range, Sem.run_bind, run_underlying' h1, Result.andThen, run_getObj e1 (by simp), Sem.run_pure]

theorem contains_eq : ∀ (l : List Nat) (n : Nat), contains l n = l.contains n
  | [], n => rfl
  | a :: l, n => by
    simp only [contains, List.contains_cons, contains_eq l n]
    congr 1
    by_cases h : a = n
    · subst h; simp
    · have h1 : Nat.beq a n = false := by
        cases hb : Nat.beq a n with
        | false => rfl
        | true => exact absurd (Nat.eq_of_beq_eq_true hb) h
      have h2 : (n == a) = false := by simp [Ne.symm h]
      rw [h1, h2]

theorem ERel.filter {η : Env} (p : Nat → Bool) : ∀ {l l' : List MapEntry}, ERel η l l' → ERel η (l.filter fun e => p e.born) (l'.filter fun e => p e.born)
  | _, _, .nil => .nil
  | _, _, .cons hk hv hb t => by
    simp only [List.filter_cons]
    rw [hb]
    split
    · exact .cons hk hv hb (t.filter p)
    · exact t.filter p

theorem ERel.any {η : Env} (p : Nat → Bool) : ∀ {l l' : List MapEntry}, ERel η l l' → (l'.any fun e => p e.born) = l.any fun e => p e.born
  | _, _, .nil => rfl
  | _, _, .cons hk hv hb t => by simp [hb, t.any p]

theorem ERel.all {η : Env} (p : Nat → Bool) : ∀ {l l' : List MapEntry}, ERel η l l' → (l'.all fun e => p e.born) = l.all fun e => p e.born
  | _, _, .nil => rfl
  | _, _, .cons hk hv hb t => by simp [hb, t.all p]

theorem lastN_eq : ∀ (l : List Nat), lastN l = l.getLast?
  | [] => rfl
  | [a] => rfl
  | a :: b :: l => by
    show lastN (b :: l) = _
    rw [lastN_eq (b :: l), List.getLast?_cons_cons]

theorem next_ok {η : Env} {K K' : AHeap} {w : World} (hd : Desc P η K w) (hw : WF K) {ty : TypeId} {isString : Bool} {x x' v : Value} (h : aNext K isString x = some (v, K')) (hr : VRel η x x') :
    Does P η K w (Instr.next x' isString ty) v K' := by
  unfold aNext at h
  obtain ⟨⟨b, o⟩, h1, ha⟩ := bind_some.1 h
  obtain ⟨h2, hb⟩ := guardO_some.1 ha
  obtain ⟨ob, h3, h4⟩ := bind_some.1 hb
  clear h ha hb
  have h2 := Nat.eq_of_beq_eq_true h2
  simp only at h2
  subst h2
  obtain ⟨L, hL, rfl, rfl⟩ := addrV_ok h1 hr
  simp only at hL h3 h4 ⊢
  have hobj := hd.obj b L ob hL h3
  cases ob <;> simp only [nextOf] at h4 <;> try (cases h4; done)
  case siter s pos =>
    obtain ⟨hh, hs⟩ := hobj
    obtain ⟨rfl, h5⟩ := guardO_some.1 h4
    rw [hs]
    split at h5
    · rename_i hlt
      have hlt : pos < s.size := by simpa [Nat.blt_eq] using hlt
      simp only [nextStr] at h5
      obtain ⟨K1, h6, h7⟩ := map_some.1 h5
      simp only [Prod.mk.injEq] at h7
      obtain ⟨rfl, rfl⟩ := h7
      obtain ⟨w', r1, r2⟩ := setObj_step (ob := .stringIter s (pos + (Utf8.decode s pos).2)) hd hw hL h3 (by simp) h6 hh (by simp) (fun w' hw' => ⟨hw', hs⟩)
      refine ⟨_, w', η, ?_, r2, VRel.tuple (.cons (.bool true) (.cons (.int _ _) (.cons (.int _ _) .nil)))⟩
      simp only [Instr.next, Sem.run_bind, run_getObj hh (by simp), Result.andThen, hlt, if_true, r1, Sem.run_pure, goInt]
    · rename_i hlt
      have hlt := blt_ff.1 hlt
      cases h5
      refine ⟨_, w, η, ?_, Step.refl P hd, VRel.tuple (.cons (.bool false) .nil)⟩
      simp only [Instr.next, Sem.run_bind, run_getObj hh (by simp), Result.andThen, hlt, if_false, Sem.run_pure]
  case miter m since seen stepped =>
    obtain ⟨hs, m', hh, hm⟩ := hobj
    rw [hs]
    cases m with
    | none =>
      cases hm
      simp only at h4
      obtain ⟨h5, h6⟩ := guardO_some.1 h4
      cases h6
      have : isString = false := by simpa using h5
      subst this
      refine ⟨_, w, η, ?_, Step.refl P hd, VRel.tuple (.cons (.bool false) .nil)⟩
      simp only [Instr.next, Sem.run_bind, run_getObj hh (by simp), Result.andThen, Sem.run_pure]
    | some m =>
      obtain ⟨Lm, hLm, rfl⟩ := hm
      simp only at h4
      obtain ⟨h5, h6⟩ := guardO_some.1 h4
      have : isString = false := by simpa using h5
      subst this
      obtain ⟨ec, h7, h8⟩ := bind_some.1 h6
      obtain ⟨es', e1, e2, e3⟩ := mapE_ok hd hLm h7
      unfold nextMap at h8
      split at h8
      · cases h8
      rename_i hok
      have hfil := e2.filter (fun n => !contains seen n)
      have hcond : ((!seen.toArray.isEmpty && !es'.isEmpty) && es'.all (fun e => decide (e.born ≥ stepped))) = false := by
        have hl := e2.length
        have hall : (es'.all fun e => decide (e.born ≥ stepped)) = !(ec.1.any fun e => Nat.blt e.born stepped) := by
          rw [← Array.all_toList, e2.all (fun n => decide (n ≥ stepped)), List.not_any_eq_all_not]
          congr 1
          funext e
          by_cases hb : e.born < stepped
          · rw [blt_tt.2 hb]; simp; omega
          · rw [blt_ff.2 hb]; simp; omega
        rw [hall]
        have he : es'.isEmpty = ec.1.isEmpty := by
          rcases ec with ⟨es, c⟩
          cases es <;> simp_all [Array.isEmpty]
        have hse : seen.toArray.isEmpty = seen.isEmpty := by cases seen <;> simp [Array.isEmpty]
        rw [he, hse]
        cases h9 : seen.isEmpty <;> cases h10 : ec.1.isEmpty <;> simp_all
      have hleft : (es'.filter fun e => !seen.toArray.contains e.born).toList = es'.toList.filter fun e => !contains seen e.born := by
        rw [Array.toList_filter]
        congr 1
        funext e
        rw [contains_eq]; simp
      split at h8
      · rename_i heq
        cases h8
        rw [heq] at hfil
        have hnil : es'.toList.filter (fun e => !contains seen e.born) = [] := by
          generalize hgen : es'.toList.filter (fun e => !contains seen e.born) = q at hfil
          cases hfil; rfl
        have hl2 : (es'.filter fun e => !seen.toArray.contains e.born) = #[] := Array.ext' (by rw [hleft, hnil])
        refine ⟨_, w, η, ?_, Step.refl P hd, VRel.tuple (.cons (.bool false) .nil)⟩
        simp only [Instr.next, Sem.run_bind, run_getObj hh (by simp), Result.andThen, run_getObj e1 (by simp), hcond, Bool.false_eq_true, if_false, hl2]
        simp [Question.forced]
      · rename_i e heq
        obtain ⟨h9, h10⟩ := guardO_some.1 h8
        have h9 := blt_tt.1 h9
        obtain ⟨K1, h11, h12⟩ := map_some.1 h10
        simp only [Prod.mk.injEq] at h12
        obtain ⟨rfl, rfl⟩ := h12
        rw [heq] at hfil
        have hone : ∃ e', es'.toList.filter (fun e => !contains seen e.born) = [e'] ∧ VRel η e.key e'.key ∧ VRel η e.val e'.val ∧ e'.born = e.born := by
          generalize hgen : es'.toList.filter (fun e => !contains seen e.born) = q at hfil
          cases hfil with
          | cons a b c t => cases t; exact ⟨_, rfl, a, b, c⟩
        obtain ⟨e', hq, q1, q2, q3⟩ := hone
        have hl2 : (es'.filter fun e => !seen.toArray.contains e.born) = #[e'] := Array.ext' (by rw [hleft, hq])
        have hb' : e'.born < since := by rw [q3]; exact h9
        obtain ⟨w', r1, r2⟩ := setObj_step (ob := .mapIter (some Lm.blk) since (seen ++ [e.born]).toArray ec.2) hd hw hL h3 (by simp) h11 hh (by simp) (fun w' hw' => ⟨hs, some Lm.blk, hw', Lm, hLm, rfl⟩)
        refine ⟨_, w', η, ?_, r2, VRel.tuple (.cons (.bool true) (.cons q1 (.cons q2 .nil)))⟩
        have hpush : seen.toArray.push e'.born = (seen ++ [e.born]).toArray := by rw [q3]; simp
        have ho : (#[e'].filter fun e => decide (e.born < since)) = #[e'] := by simp [hb']
        have hn : (#[e'].filter fun e => decide (e.born ≥ since)) = #[] := by simp; omega
        simp only [Instr.next, Sem.run_bind, run_getObj hh (by simp), Result.andThen, run_getObj e1 (by simp), hcond, Bool.false_eq_true, if_false, hl2, ho, hn]
        simp only [run_choose, Question.forced]
        simp [Sem.run_bind, r1, hpush]
      · cases h8

theorem entry_ok {η : Env} {K : AHeap} {w : World} (hd : Desc P η K w) {x x' v : Value} (h : aEntry K x = some v) (hr : VRel η x x') :
    ∃ v', (Instr.entry x').run P w = .ok v' w ∧ VRel η v v' := by
  unfold aEntry at h
  obtain ⟨⟨b, o⟩, h1, ha⟩ := bind_some.1 h
  obtain ⟨h2, hb⟩ := guardO_some.1 ha
  obtain ⟨ob, h3, h4⟩ := bind_some.1 hb
  clear h ha hb
  have h2 := Nat.eq_of_beq_eq_true h2
  simp only at h2
  subst h2
  obtain ⟨L, hL, rfl, rfl⟩ := addrV_ok h1 hr
  simp only at hL h3 h4 ⊢
  have hobj := hd.obj b L ob hL h3
  cases ob <;> simp only [entryOf] at h4 <;> try (cases h4; done)
  case miter m since seen stepped =>
    obtain ⟨hs, m', hh, hm⟩ := hobj
    rw [hs]
    cases m with
    | none => cases h4
    | some m =>
      obtain ⟨Lm, hLm, rfl⟩ := hm
      simp only at h4
      obtain ⟨ec, h7, h8⟩ := bind_some.1 h4
      obtain ⟨h9, h10⟩ := guardO_some.1 h8
      obtain ⟨n, h11, h12⟩ := bind_some.1 h10
      have h9 := Nat.eq_of_beq_eq_true h9
      obtain ⟨es', e1, e2, e3⟩ := mapE_ok hd hLm h7
      rw [lastN_eq] at h11
      have hback : seen.toArray.back? = some n := by simpa [List.back?_toArray] using h11
      have key : ∀ {l l' : List MapEntry}, ERel η l l' → findBorn n l = some v → ∃ e', (l'.find? fun e => e.born == n) = some e' ∧ VRel η v (.tuple #[e'.key, e'.val]) := by
        intro l l' hl
        induction hl with
        | nil => intro h; cases h
        | cons hk hv hb t ih =>
          intro h
          rename_i e e' l l'
          simp only [findBorn] at h
          split at h
          · rename_i heq
            have heq := Nat.eq_of_beq_eq_true heq
            cases h
            exact ⟨e', by simp [List.find?_cons, hb, heq], VRel.tuple (.cons hk (.cons hv .nil))⟩
          · rename_i heq
            have hne : (e'.born == n) = false := by
              rw [hb]
              simp only [beq_eq_false_iff_ne]
              intro e0
              rw [e0] at heq
              simp at heq
            obtain ⟨e0, f1, f2⟩ := ih h
            exact ⟨e0, by simp [List.find?_cons, hne, f1], f2⟩
      obtain ⟨e', f1, f2⟩ := key e2 h12
      refine ⟨_, ?_, f2⟩
      have hfind : es'.find? (fun e => e.born == n) = some e' := by simpa [← Array.find?_toList] using f1
      have hst : (ec.2 != stepped) = false := by simp [h9]
      simp only [Instr.entry, Sem.run_bind, run_getObj hh (by simp), Result.andThen, hback, run_getObj e1 (by simp), hst, Bool.false_eq_true, if_false, hfind, Sem.run_pure]

end Go.Ev

/- Conversions, the unsafe builtins, min and max: the machine at what the evaluator answers. Conditions: none. -/
set_option linter.unusedVariables false
set_option linter.unusedSimpArgs false
set_option linter.unnecessarySimpa false
namespace Go.Ev
variable {P : Program}

/-! ### Bytes -/
theorem isU8_some {t : TypeId} (h : isU8 P t = true) : P.underlying t = some (.int .u8) := by
  unfold isU8 at h
  split at h
  · rename_i d hd
    rw [hd]
    unfold isU8D at h
    split at h
    · rfl
    · cases h
  · cases h

theorem byteOf1_some {v : Value} {b : UInt8} (h : byteOf1 v = some b) : ∃ n, v = .int .u8 n ∧ b = UInt8.ofNat n.toNat := by
  unfold byteOf1 at h
  split at h
  · cases h; exact ⟨_, rfl, rfl⟩
  · cases h

theorem bytesOf_some : ∀ {l : List Value} {bs : List UInt8}, bytesOf l = some bs → ∃ ns : List Int, l = ns.map (Value.int .u8) ∧ bs = ns.map fun n => UInt8.ofNat n.toNat
  | [], bs, h => by cases h; exact ⟨[], rfl, rfl⟩
  | v :: l, bs, h => by
    simp only [bytesOf] at h
    obtain ⟨b, h1, h2⟩ := bind_some.1 h
    obtain ⟨bs', h3, h4⟩ := map_some.1 h2
    subst h4
    obtain ⟨n, rfl, rfl⟩ := byteOf1_some h1
    obtain ⟨ns, rfl, rfl⟩ := bytesOf_some h3
    exact ⟨n :: ns, rfl, rfl⟩

theorem grounds_bytes : ∀ (ns : List Int), grounds (ns.map (Value.int .u8)) = true
  | [] => rfl
  | n :: ns => by simp [grounds, Ev.ground, grounds_bytes ns]

theorem fold_push : ∀ (ns : List Int) (s : ByteArray), ns.foldl (fun r n => r.push (UInt8.ofNat n.toNat)) s = ⟨s.data ++ (ns.map fun n => UInt8.ofNat n.toNat).toArray⟩
  | [], s => by simp
  | n :: ns, s => by
    simp only [List.foldl_cons, fold_push ns, List.map_cons]
    apply ByteArray.ext
    simp [ByteArray.push]

theorem run_convert_int {src dst : TypeId} {s d : TypeDesc} {k : IntKind} {n : Int} {v : Value} {w : World} (hs : P.underlying src = some s) (hd : P.underlying dst = some d) (h : convIntTo d n = some v) : (convert src dst (.int k n)).run P w = .ok v w := by
  cases d <;> simp only [convIntTo] at h <;> try (cases h; done)
  all_goals
    cases h
    cases s <;> simp [convert, run_underlying' hs, run_underlying' hd, Conv.intToInt, Conv.intToString]

theorem bytes_rel {η : Env} {a : Option Addr} {len : Nat} {K : AHeap} {w : World} {l : List Value} {x' : Value} {cap : Nat} {bs : List UInt8} (hd : Desc P η K w) (h : (match a with | none => some [] | some a => K.read a.block a.off len) = some l) (hb : bytesOf l = some bs) (hr : VRel η (.slice a len cap) x') :
    (Conv.bytesToString x').run P w = .ok (strOf bs) w := by
  obtain ⟨ns, rfl, rfl⟩ := bytesOf_some hb
  have fin : ∀ ad c', (loadCells ad len).run P w = .ok (ns.map (Value.int .u8)).toArray w → (Conv.bytesToString (.slice (some ad) len c')).run P w = .ok (strOf (ns.map fun n => UInt8.ofNat n.toNat)) w := fun ad c' hl => by
    rw [run_bytesToString w ad len c' ns hl, fold_push]
    simp [strOf]
  cases hr with
  | snil =>
    simp only [Option.some.injEq] at h
    have hn : ns = [] := by cases ns with | nil => rfl | cons _ _ => simp at h
    subst hn
    simp only [Conv.bytesToString, Sem.run_pure, strOf, List.map_nil]
    rfl
  | sex _ _ hL =>
    obtain ⟨l', r1, _, r2⟩ := load_cells (P := P) hd hL h
    rw [r1.eq_of_ground (grounds_bytes ns)] at r2
    exact fin _ _ r2
  | slow _ _ _ hL hc hz =>
    obtain ⟨l', r1, _, r2⟩ := load_cells (P := P) hd hL h
    rw [r1.eq_of_ground (grounds_bytes ns)] at r2
    exact fin _ _ r2
  | ssome _ _ hL hz =>
    obtain ⟨l', r1, r3, r2⟩ := load_cells (P := P) hd hL h
    have hn : ns = [] := by
      have := r1.length
      cases ns with | nil => rfl | cons _ _ => simp at this; omega
    subst hn
    exact fin _ _ (by simp [loadCells, loadCellsFrom])

theorem strBytes_ok {η : Env} {K K' : AHeap} {w : World} (hd : Desc P η K w) (hw : WF K) {e : TypeId} {s : ByteArray} {v : Value} (hu : isU8 P e = true) (hs : sizeT P e = some 1)
    (h : (K.mk? (.cells (byteVals s.data.toList) e)).map (slcOf 1 s.size) = some (v, K')) (hf : Fresh η K K') : Does P η K w (Conv.stringToBytes e s) v K' := by
  obtain ⟨⟨n, K1⟩, hm, h2⟩ := map_some.1 h
  simp only [slcOf, Prod.mk.injEq] at h2
  obtain ⟨rfl, rfl⟩ := h2
  let q : Question := .appendCap s.size 0 e
  let cap := q.cut (w.tape w.drawn q)
  have hcap : s.size ≤ cap := by simp [cap, q, Question.cut]
  let c : Array Value := s.data.map (fun b => Value.int .u8 b.toNat) ++ Array.replicate (cap - s.size) (.int .u8 0)
  have hsd : s.data.size = s.size := rfl
  have hsz : c.size = cap := by simp [c, hsd]; omega
  let w1 : World := { w with heap := w.heap.push (.cells c e), drawn := w.drawn + 1 }
  let w2 : World := w1.freeze ⟨w.heap.size, c.size, none⟩ 1
  have hh : w2.heap = w.heap.push (.cells c e (c.size, c.size + 1)) := by
    show (World.freeze w1 _ 1).heap = _
    simp only [World.freeze, w1]
    rw [if_neg (by omega)]
    apply Array.ext (by simp)
    intro i h1 h2
    simp only [Array.getElem_modify, Array.getElem_push]
    by_cases hi : i < w.heap.size
    · have : ¬ w.heap.size = i := by omega
      simp [hi, this]
    · have : w.heap.size = i := by simp at h2; omega
      subst this
      simp
  have hn := mk_spec hm
  obtain ⟨hst, h0⟩ := row_step (vs := byteVals s.data.toList) (c := c) (fr := (c.size, c.size + 1)) (w' := w2) hd hw hm hf (fun i u hi => by
      rw [byteVals_eq] at hi
      refine ⟨u, ?_, ?_⟩
      · have hlt : i < s.data.size := by simpa using (List.getElem?_eq_some_iff.1 hi).1
        simp only [c]
        rw [Array.getElem?_append_left (by simpa using hlt)]
        simpa using hi
      · simp only [List.getElem?_map, Option.map_eq_some_iff] at hi
        obtain ⟨b, _, rfl⟩ := hi
        exact .int _ _)
    (by rw [byteVals_eq]; simp [hsd]; omega) hh (fun i hi => by simp; omega) (fun hx => by rw [hu] at hx; cases hx) (by simp [w2, w1, World.freeze]) (by simp [w2, w1, World.freeze]) (by simp [w2, w1, World.freeze])
  refine ⟨.slice (some ⟨w.heap.size, 0, none⟩) s.size cap, w2, _, ?_, hst, ?_⟩
  · have hch : (choose (.appendCap s.size 0 e)).run P w = .ok cap { w with drawn := w.drawn + 1 } := by simp [q, Question.forced, cap]
    have hshape : w1.shape? w.heap.size = some (e, c.size) := by simp [World.shape?, w1]
    have hmark : (markStringish ⟨w.heap.size, 0, none⟩).run P w1 = .ok () w2 := by
      simp only [markStringish, Sem.run_bind, run_shape, Result.andThen, hshape, run_freeze]
      rfl
    have hrow : (newRow e c).run P { w with drawn := w.drawn + 1 } = .ok ⟨w.heap.size, 0, none⟩ w1 := by simp only [newRow, Sem.run_bind, run_newObj, Result.andThen, Sem.run_pure]; rfl
    simp only [Conv.stringToBytes, Sem.run_bind, hch, Result.andThen, Sem.run_pure]
    rw [hrow]
    simp only [hmark]
  · have := VRel.slow (o := 0) (q := 1) (η := upd η n ⟨w.heap.size, 0, c.size⟩) s.size s.size cap (upd_same _ _ _) hcap (by show 0 + 0 + cap * 1 ≤ c.size; omega)
    simpa [lowSlice] using this

end Go.Ev

/- Conversions whole, unsafe.String and unsafe.SliceData, min and max: the machine at what the evaluator answers. Conditions: none. -/
set_option linter.unusedVariables false
set_option linter.unusedSimpArgs false
set_option linter.unnecessarySimpa false
namespace Go.Ev
variable {P : Program}

theorem size_some {t : TypeId} (h : (sizeT P t).getD 0 ≠ 0) : ∃ n, sizeT P t = some n ∧ n ≠ 0 := by
  cases hs : sizeT P t with
  | none => rw [hs] at h; simp at h
  | some n => rw [hs] at h; exact ⟨n, rfl, by simpa using h⟩

/-- A row of a type's own elements holds such elements. -/
theorem liesAt_own {e : TypeId} {s : Nat} (hc : P.cellsOf e = s) (h0 : s ≠ 0) (count off n : Nat) (hr : off % s = 0) (hn : off / s + n ≤ count) : liesAt P P.depth e count off e n = true := by
  have hd : P.depth = (2 * (P.types.size + Made.depth) + 1) + 1 := rfl
  rw [hd]
  simp only [liesAt, Bool.or_eq_true]
  left
  rw [hd]
  simp [rowAt, hc, h0, hr, hn, sameLayout]

theorem convPtr_ok {η : Env} {K : AHeap} {w : World} (hd : Desc P η K w) {src dst : TypeId} {a : Addr} {x' v : Value} (h : convPtr P K src dst a = some v) (hr : VRel η (.pointer (some a)) x') :
    ∃ v', (convert src dst x').run P w = .ok v' w ∧ VRel η v v' := by
  unfold convPtr at h
  obtain ⟨hg, h1⟩ := guardO_some.1 h
  obtain ⟨e, h2, h3⟩ := bind_some.1 h1
  obtain ⟨s, h4, h5⟩ := bind_some.1 h3
  obtain ⟨d, h6, h7⟩ := bind_some.1 h5
  clear h h1 h3 h5
  simp only [Bool.and_eq_true] at hg
  have hoff := Nat.eq_of_beq_eq_true hg.2
  obtain ⟨vs, ho⟩ := live_obj h2
  cases hr with | ptr hL =>
  rename_i b o L
  simp only at hoff h7 ho
  subst hoff
  obtain ⟨c, fr, c1, c2, c4, c5, c6, c7⟩ := hd.cells hL ho
  have hsh := shape_of c1
  have hlen : ∀ n, (K.read b 0 n).isSome → n ≤ vs.length := fun n hn => by
    obtain ⟨l, hl⟩ := Option.isSome_iff_exists.1 hn
    unfold AHeap.read at hl
    obtain ⟨o', ho', hl⟩ := bind_some.1 hl
    rw [ho] at ho'
    cases ho'
    simp only [AObj.readAt] at hl
    have := (takeN_some hl).2
    simpa using this
  split at h7
  · rename_i hud
    obtain ⟨t, h8, h9⟩ := bind_some.1 h7
    obtain ⟨h10, h11⟩ := guardO_some.1 h9
    cases h11
    simp only [Bool.and_eq_true, decide_eq_true_eq] at h10
    obtain ⟨⟨hs0, rfl⟩, hrd⟩ := h10
    obtain ⟨n, hn, hn0⟩ := size_some hs0
    have hle := hlen 1 hrd
    have hcs : L.shift < c.size := by omega
    cases s <;> simp only [ptrElemD] at h8 <;> try (cases h8; done)
    cases h8
    cases d <;> simp only [isUnsafeD] at hud <;> try (cases hud; done)
    refine ⟨_, ?_, .ptr hL⟩
    have hge : ¬ c.size ≤ L.shift := by omega
    simp [convert, run_underlying' h4, run_underlying' h6, Conv.unsafePointer, Conv.seenAt, viewAt, hsh, cellsIn, run_sizeOf hn, hn0, hge]
  · obtain ⟨t, h8, h9⟩ := bind_some.1 h7
    obtain ⟨h10, h11⟩ := guardO_some.1 h9
    cases h11
    simp only [Bool.and_eq_true, decide_eq_true_eq] at h10
    obtain ⟨⟨hus, hs0, rfl, hnt⟩, hrd⟩ := h10
    obtain ⟨n, hn, hn0⟩ := size_some hs0
    rw [hn] at hrd
    have hle := hlen n hrd
    have hshift := c5.2 hnt
    cases d <;> simp only [ptrElemD] at h8 <;> try (cases h8; done)
    cases h8
    cases s <;> simp only [isUnsafeD] at hus <;> try (cases hus; done)
    refine ⟨_, ?_, .ptr hL⟩
    have hcell := cellsOf_size hn
    have hlies : liesAt P P.depth t (c.size / P.cellsOf t) 0 t 1 = true := liesAt_own hcell hn0 _ _ _ (by simp) (by
      rw [hcell]
      have : 1 ≤ c.size / n := (Nat.le_div_iff_mul_le (by omega)).2 (by omega)
      simpa using this)
    simp [convert, run_underlying' h4, run_underlying' h6, Conv.unsafePointer, Conv.seenAt, viewAt, hsh, run_sizeOf hn, hn0, variablesAt, hlies, hshift]

theorem convert_ok {η : Env} {K K' : AHeap} {w : World} (hd : Desc P η K w) (hw : WF K) {src dst : TypeId} {x x' v : Value} (h : aConvert P x K src dst = some (v, K')) (hf : Fresh η K K') (hr : VRel η x x') :
    Does P η K w (convert src dst x') v K' := by
  cases x <;> simp only [aConvert] at h <;> try (cases h; done)
  case int k n =>
    obtain ⟨h1, h2⟩ := guardO_some.1 h
    obtain ⟨s, hs⟩ := Option.isSome_iff_exists.1 h1
    obtain ⟨d, h3, h4⟩ := bind_some.1 h2
    obtain ⟨v', h5, h6⟩ := map_some.1 h4
    cases h6
    cases hr
    refine ⟨_, w, η, run_convert_int hs h3 h5, Step.refl P hd, ?_⟩
    cases d <;> simp only [convIntTo] at h5 <;> try (cases h5; done)
    all_goals (cases h5; first | exact .int _ _ | exact .string _)
  case string s =>
    obtain ⟨h1, h2⟩ := guardO_some.1 h
    have h1 := of_decide_eq_true h1
    obtain ⟨sd, hs, hsd⟩ := map_some.1 h1
    obtain ⟨d, h3, h4⟩ := bind_some.1 h2
    cases hr
    cases sd <;> simp only [isStrD] at hsd <;> try (cases hsd; done)
    cases d <;> simp only [convStrTo] at h4 <;> try (cases h4; done)
    case string =>
      cases h4
      exact ⟨_, w, η, by simp [convert, run_underlying' hs, run_underlying' h3], Step.refl P hd, .string _⟩
    case slice e =>
      obtain ⟨h5, h6⟩ := guardO_some.1 h4
      simp only [Bool.and_eq_true, decide_eq_true_eq] at h5
      obtain ⟨v', w', η', r1, r2, r3⟩ := strBytes_ok hd hw h5.1 h5.2 h6 hf
      refine ⟨v', w', η', ?_, r2, r3⟩
      rw [← r1]
      simp [convert, run_underlying' hs, run_underlying' h3, run_underlying' (isU8_some h5.1)]
  case slice a len cap =>
    obtain ⟨d, h3, h4⟩ := bind_some.1 h
    unfold convSlice at h4
    obtain ⟨h5, h6⟩ := guardO_some.1 h4
    obtain ⟨e, h7, h8⟩ := bind_some.1 h6
    obtain ⟨h9, h10⟩ := guardO_some.1 h8
    obtain ⟨l, h11, h12⟩ := bind_some.1 h10
    obtain ⟨bs, h13, h14⟩ := map_some.1 h12
    cases h14
    cases d <;> simp only [isStrD] at h5 <;> try (cases h5; done)
    refine ⟨_, w, η, ?_, Step.refl P hd, .string _⟩
    have hbr := bytes_rel (P := P) hd h11 h13 hr
    have hx' : ∃ a' l' c', x' = .slice a' l' c' := by cases hr <;> exact ⟨_, _, _, rfl⟩
    obtain ⟨a', l', c', rfl⟩ := hx'
    rw [run_convert_bytes_string w src dst e a' l' c' (elem_some h7) (isU8_some h9) h3]
    exact hbr
  case pointer a =>
    cases a with
    | none => cases h
    | some a =>
      obtain ⟨v', h1, h2⟩ := map_some.1 h
      cases h2
      obtain ⟨v'', r1, r2⟩ := convPtr_ok (P := P) hd h1 hr
      exact ⟨_, w, η, r1, Step.refl P hd, r2⟩

/-! ### unsafe -/
theorem sliceData_ok {η : Env} {w : World} {x x' v : Value} {ts : Array TypeId} {ty : TypeId} (h : aSliceData x = some v) (hr : VRel η x x') : ∃ v', (Builtin.unsafeSliceData_ ts ty #[x']).run P w = .ok v' w ∧ VRel η v v' := by
  cases x <;> simp only [aSliceData] at h <;> try (cases h; done)
  rename_i a l c
  cases hr with
  | snil => cases h; exact ⟨_, rfl, .pnil⟩
  | sex _ _ hL =>
    obtain ⟨h1, h2⟩ := guardO_some.1 h
    cases h2
    refine ⟨_, ?_, .ptr hL⟩
    have : c ≠ 0 := fun e => by subst e; simp at h1
    exact Lib.run_unsafeSliceData_row w ts ty _ _ _ this
  | slow _ _ c' hL hc hz =>
    obtain ⟨h1, h2⟩ := guardO_some.1 h
    cases h2
    refine ⟨_, ?_, .ptr hL⟩
    have h0 : c ≠ 0 := fun e => by subst e; simp at h1
    have : c' ≠ 0 := by omega
    exact Lib.run_unsafeSliceData_row w ts ty _ _ _ this
  | ssome _ _ hL hz =>
    obtain ⟨h1, h2⟩ := guardO_some.1 h
    simp at h1

theorem natV_ok {η : Env} {v v' : Value} {n : Nat} (h : natV v = some n) (hr : VRel η v v') : ∃ k, v' = .int k (n : Int) ∧ n ≤ 70368744177664 := by
  unfold natV at h
  obtain ⟨i, h1, h2⟩ := bind_some.1 h
  obtain ⟨h3, h4⟩ := bound1_ok h2
  obtain ⟨k, rfl, rfl⟩ := intV_ok h1 hr
  exact ⟨k, by rw [h3], h4⟩

theorem ptsU8_some {ts : List TypeId} (h : ptsU8 P ts = true) : ∃ t rest u, ts = t :: rest ∧ P.underlying t = some (.pointer u) ∧ isU8 P u = true := by
  cases ts with
  | nil => cases h
  | cons t rest =>
    simp only [ptsU8] at h
    split at h
    · rename_i u hu
      obtain ⟨d, h1, h2⟩ := bind_some.1 hu
      cases d <;> simp only [ptrElemD] at h2 <;> try (cases h2; done)
      cases h2
      exact ⟨t, rest, u, rfl, h1, h⟩
    · cases h

theorem loadBytes_list : ∀ (ns : List Int) (b o : Nat) (acc : ByteArray) (w : World), (∀ (j : Nat) x, ns[j]? = some x → w.cell? ⟨b, o + j, none⟩ = some (.int .u8 x)) →
    (loadBytes ⟨b, o, none⟩ acc ns.length).run P w = .ok ⟨acc.data ++ (ns.map fun n => UInt8.ofNat n.toNat).toArray⟩ w
  | [], b, o, acc, w, _ => by simp [loadBytes]
  | n :: ns, b, o, acc, w, h => by
    have h0 : w.cell? ⟨b, o, none⟩ = some (.int .u8 n) := by simpa using h 0 n rfl
    have ih := loadBytes_list ns b (o + 1) (acc.push n.toNat.toUInt8) w (fun j x hx => by
      have := h (j + 1) x (by simpa using hx)
      rw [← this]; congr 2; omega)
    simp only [List.length_cons, loadBytes, Sem.run_bind, run_load, h0, Result.andThen, addr_add]
    rw [ih]
    congr 1
    apply ByteArray.ext
    simp [ByteArray.push, UInt8.ofNat]

theorem string_def (t : TypeId) (rest : List TypeId) (ty : TypeId) (p : Option Addr) (len_ : Value) : Builtin.unsafeString_ (t :: rest).toArray ty #[.pointer p, len_] = (do
    let n ← asInt len_
    if n < 0 then runtimePanic (.error "unsafe.String: len out of range")
    if n > IntKind.i64.max then unsupported (.unsafePointer "String: a length above the largest int")
    match p with
    | none =>
      if n = 0 then pure (.string .empty)
      else runtimePanic (.error "unsafe.String: ptr is nil and len is not zero")
    | some a =>
      if n = 0 then pure (.string .empty)
      else if ← variablesAt a (← elemOf t) n.toNat then do
        let s ← loadBytes a .empty n.toNat
        freeze a n.toNat
        pure (.string s)
      else unsupported (.unsafePointer "String: not so many bytes at ptr")) := rfl

theorem string_ok {η : Env} {K K' : AHeap} {w : World} (hd : Desc P η K w) (hw : WF K) {ts : List TypeId} {ty : TypeId} {p p' n n' v : Value} {a : Option Addr} {m : Nat} (hp : ptrV p = some a) (hm : natV n = some m) (ht : ptsU8 P ts = true)
    (h : strFrom P K a m = some (v, K')) (hpr : VRel η p p') (hnr : VRel η n n') : Does P η K w (Builtin.unsafeString_ ts.toArray ty #[p', n']) v K' := by
  obtain ⟨k, rfl, hmax⟩ := natV_ok hm hnr
  obtain ⟨t, rest, u, rfl, ht1, ht2⟩ := ptsU8_some ht
  have h63 : ¬ ((m : Int) > IntKind.i64.max) := by simp; omega
  have hneg : ¬ ((m : Int) < 0) := by omega
  cases p <;> simp only [ptrV] at hp <;> try (cases hp; done)
  cases hp
  cases m with
  | zero =>
    simp only [strFrom] at h
    cases h
    refine ⟨_, w, η, ?_, Step.refl P hd, .string _⟩
    cases hpr <;> rw [string_def] <;> simp [asInt, asIntOf]
  | succ m =>
    simp only [strFrom] at h
    obtain ⟨ad, h1, h2⟩ := bind_some.1 h
    subst h1
    unfold strAt at h2
    obtain ⟨e, h3, h4⟩ := bind_some.1 h2
    obtain ⟨h5, h6⟩ := guardO_some.1 h4
    obtain ⟨l, h7, h8⟩ := bind_some.1 h6
    obtain ⟨bs, h9, h10⟩ := bind_some.1 h8
    obtain ⟨K1, h11, h12⟩ := map_some.1 h10
    cases h12
    clear h h2 h4 h6 h8 h10
    simp only [Bool.and_eq_true, decide_eq_true_eq] at h5
    obtain ⟨vs, ho⟩ := live_obj h3
    obtain ⟨ns, rfl, rfl⟩ := bytesOf_some h9
    cases hpr with | ptr hL =>
    rename_i b o L
    simp only at h7 h11 ho
    obtain ⟨c, fr, c1, c2, c4, c5, c6, c7⟩ := hd.cells hL ho
    have hsh := shape_of c1
    obtain ⟨l', q1, q2, q3, q4⟩ := load_cells_heap (P := P) hd hL h7
    have hns : ns.length = m + 1 := by
      have := q1.length
      simp at this; omega
    have hcell : ∀ (j : Nat) x, ns[j]? = some x → w.cell? ⟨L.blk, o + L.shift + j, none⟩ = some (.int .u8 x) := fun j x hx => by
      obtain ⟨v', a1, a2⟩ := q4 j (.int .u8 x) (by simp [hx])
      cases a2
      exact a1
    have hlb := loadBytes_list (P := P) ns L.blk (o + L.shift) .empty w hcell
    rw [hns] at hlb
    have hce := cellsOf_size h5.2
    have hbound : o + L.shift + (m + 1) ≤ c.size := by
      obtain ⟨_, hall⟩ := read_some h7
      obtain ⟨_, g1, _⟩ := hall m (by omega)
      simp only [AHeap.cell, ho, Option.bind_some, AObj.cellAt, nth_eq] at g1
      have := (List.getElem?_eq_some_iff.1 g1).1
      omega
    have hlies : liesAt P P.depth e (c.size / P.cellsOf e) (o + L.shift) u (m + 1) = true := by
      have hdp : P.depth = (2 * (P.types.size + Made.depth) + 1) + 1 := rfl
      rw [hdp]
      simp only [liesAt, Bool.or_eq_true]
      left
      rw [hdp]
      have hsl : sameLayout P (2 * (P.types.size + Made.depth) + 1 + 1) e u = true := by
        simp [sameLayout, isU8_some h5.1, isU8_some ht2]
      simp only [rowAt, hce]
      simp [hsl, Nat.mod_one]
      left; omega
    have hfr : ∀ bl, bl ≠ L.blk → (w.freeze ⟨L.blk, o + L.shift, none⟩ (m + 1)).heap[bl]? = w.heap[bl]? := fun bl hb => by
      simp [World.freeze, Array.getElem?_modify, Ne.symm hb]
    have hrun : (Builtin.unsafeString_ (t :: rest).toArray ty #[.pointer (some ⟨L.blk, o + L.shift, none⟩), .int k ((m + 1 : Nat) : Int)]).run P w = .ok (.string ⟨(ns.map fun n => UInt8.ofNat n.toNat).toArray⟩) (w.freeze ⟨L.blk, o + L.shift, none⟩ (m + 1)) := by
      have hva : (variablesAt ⟨L.blk, o + L.shift, none⟩ u (m + 1)).run P w = .ok true w := by
        simp [variablesAt, hsh, hlies]
      have h0 : ¬ (((m + 1 : Nat) : Int) = 0) := by omega
      have hel : (elemOf t).run P w = .ok u w := by simp [elemOf, run_underlying' ht1]
      have hlb' : (loadBytes ⟨L.blk, o + L.shift, none⟩ .empty (m + 1)).run P w = .ok ⟨(ns.map fun n => UInt8.ofNat n.toNat).toArray⟩ w := by rw [hlb]; simp
      rw [string_def]
      simp only [asInt, asIntOf, Sem.run_bind, Sem.run_pure, Result.andThen, hneg, h63, if_false, h0, hel, Int.toNat_natCast, hva, if_true, hlb', run_freeze]
    refine ⟨_, _, η, hrun, step_set hd hw h11 hL ho (by simp) ?_ hfr ?_ ?_ ?_ trivial, .string _⟩
    · simp [World.freeze]
    · simp [World.freeze]
    · simp [World.freeze]
    · simp [World.freeze]

end Go.Ev

/- One operation: the machine at what the evaluator answers. Conditions: none. -/
set_option linter.unusedVariables false
set_option linter.unusedSimpArgs false
set_option linter.unnecessarySimpa false
namespace Go.Ev
variable {P : Program}

def _root_.Go.Next.val? : Next → Option Value
  | .value v => some v
  | .skip => some undef
  | _ => none

/-- What an operation does, as the evaluator tells. -/
def OpDoes (P : Program) (η : Env) (K : AHeap) (w : World) (m : Sem Next) (r : ARes) (K' : AHeap) : Prop := match r with
  | .val v => ∃ nx v' w' η', m.run P w = .ok nx w' ∧ nx.val? = some v' ∧ Step P η K w η' K' w' ∧ VRel η' v v'
  | .enter f args => K' = K ∧ ∃ args', LRel η args args' ∧ m.run P w = (callFunc f args'.toArray).run P w
  | .round l args => K' = K ∧ ∃ L args', η l = some L ∧ LRel η args args' ∧ m.run P w = (Instr.yield L.blk args'.toArray).run P w

theorem does_v {η : Env} {K K' : AHeap} {w : World} {s : Sem Value} {v : Value} (h : Does P η K w s v K') : OpDoes P η K w (do pure (.value (← s))) (.val v) K' := by
  obtain ⟨v', w', η', r1, r2, r3⟩ := h
  exact ⟨.value v', v', w', η', by simp [r1], rfl, r2, r3⟩

theorem does_pure {η : Env} {K : AHeap} {w : World} (hd : Desc P η K w) {s : Sem Value} {v : Value} (h : ∃ v', s.run P w = .ok v' w ∧ VRel η v v') : OpDoes P η K w (do pure (.value (← s))) (.val v) K := by
  obtain ⟨v', r1, r2⟩ := h
  exact does_v ⟨v', w, η, r1, Step.refl P hd, r2⟩

theorem does_u {η : Env} {K K' : AHeap} {w : World} {s : Sem Unit} (h : ∃ w', s.run P w = .ok () w' ∧ Step P η K w η K' w') : OpDoes P η K w (do s; pure .skip) (.val undefV) K' := by
  obtain ⟨w', r1, r2⟩ := h
  exact ⟨.skip, undef, w', η, by simp [r1], rfl, r2, .tuple .nil⟩

/-! ### Operands, each by itself -/
/-- An operand's value, and the machine's. -/
def OpRel (P : Program) (η : Env) (tm : T Value) (a : Act) (x : Operand) : Prop := ∀ v, opv P x tm = some v → VRel η v (a.eval x)

theorem opvs_ok' {η : Env} {tm : T Value} {a : Act} : ∀ {l : List Operand} {vs : List Value}, (∀ x ∈ l, OpRel P η tm a x) → opvs P l tm = some vs → LRel η vs (l.map a.eval)
  | [], vs, _, h => by cases h; exact .nil
  | x :: l, vs, hx, h => by
    simp only [opvs] at h
    obtain ⟨v, h1, h2⟩ := bind_some.1 h
    obtain ⟨us, h3, h4⟩ := map_some.1 h2
    subst h4
    exact .cons (hx x (by simp) v h1) (opvs_ok' (fun y hy => hx y (by simp [hy])) h3)

theorem opps_ok' {η : Env} {tm : T Value} {a : Act} : ∀ {l : List (Nat × Operand)} {vs : List (Nat × Value)}, (∀ p ∈ l, OpRel P η tm a p.2) → opps P l tm = some vs → PRel η vs (l.map fun p => (p.1, a.eval p.2))
  | [], vs, _, h => by cases h; exact .nil
  | (i, x) :: l, vs, hx, h => by
    simp only [opps] at h
    obtain ⟨v, h1, h2⟩ := bind_some.1 h
    obtain ⟨us, h3, h4⟩ := map_some.1 h2
    subst h4
    exact .cons i (hx (i, x) (by simp) v h1) (opps_ok' (fun y hy => hx y (by simp [hy])) h3)

theorem opvo_ok' {η : Env} {tm : T Value} {a : Act} {x : Option Operand} {v : Option Value} (hx : ∀ y, x = some y → OpRel P η tm a y) (h : opvo P x tm = some v) : ORel η v (x.map a.eval) := by
  cases x with
  | none => cases h; trivial
  | some x =>
    obtain ⟨u, h1, h2⟩ := map_some.1 h
    subst h2
    exact hx x rfl u h1

/-! ### Builtins -/
theorem head_some {α : Type} {l : List α} {x : α} (h : l.head? = some x) : ∃ r, l = x :: r := by
  cases l with
  | nil => cases h
  | cons y l => simp at h; subst h; exact ⟨l, rfl⟩

theorem builtin_ok {η : Env} {K K' : AHeap} {w : World} (hd : Desc P η K w) (hw : WF K) {b : Builtin} {ts : List TypeId} {ty : TypeId} {cs : Array Bool} {xs xs' : List Value} {v : Value} (h : aBuiltin P b K ts xs = some (v, K')) (hf : Fresh η K K') (hr : LRel η xs xs') :
    OpDoes P η K w (builtin b ts.toArray ty cs xs'.toArray) (.val v) K' := by
  cases b <;> simp only [aBuiltin] at h <;> try (cases h; done)
  case len =>
    obtain ⟨t, h1, h2⟩ := bind_some.1 h
    obtain ⟨x, h3, h4⟩ := bind_some.1 h2
    obtain ⟨u, h5, h6⟩ := map_some.1 h4
    cases h6
    obtain ⟨ts', rfl⟩ := head_some h1
    obtain ⟨xr, rfl⟩ := head_some h3
    cases hr with | cons hx hr =>
    unfold aLen at h5
    obtain ⟨d, h7, h8⟩ := bind_some.1 h5
    obtain ⟨n, h9, h10⟩ := map_some.1 h8
    subst h10
    obtain ⟨m, h11, h12⟩ := bind_some.1 h9
    cases h12
    exact does_pure hd ⟨_, lenNat_ok hd h7 h11 hx, .int _ _⟩
  case append =>
    exact does_v (append_ok hd hw h hf hr)
  case cap =>
    obtain ⟨t, h1, h2⟩ := bind_some.1 h
    obtain ⟨x, h3, h4⟩ := bind_some.1 h2
    obtain ⟨u, h5, h6⟩ := map_some.1 h4
    cases h6
    obtain ⟨ts', rfl⟩ := head_some h1
    obtain ⟨xr, rfl⟩ := head_some h3
    cases hr with | cons hx hr =>
    exact does_pure hd ⟨_, (cap_ok h5 hx).1, .ground _ (cap_ok (ty := ty) (ts := ts') (xs' := []) (w := w) h5 hx).2⟩
  case min =>
    obtain ⟨h1, h2⟩ := guardO_some.1 h
    obtain ⟨u, h3, h4⟩ := bind_some.1 h2
    obtain ⟨h5, h6⟩ := guardO_some.1 h4
    cases h6
    rw [hr.eq_of_ground (allInt_ground h1)]
    exact does_pure hd ⟨_, by have := pureRun_run h3 w; exact this, .grnd h5⟩
  case max =>
    obtain ⟨h1, h2⟩ := guardO_some.1 h
    obtain ⟨u, h3, h4⟩ := bind_some.1 h2
    obtain ⟨h5, h6⟩ := guardO_some.1 h4
    cases h6
    rw [hr.eq_of_ground (allInt_ground h1)]
    exact does_pure hd ⟨_, by have := pureRun_run h3 w; exact this, .grnd h5⟩
  case copy =>
    obtain ⟨t, h1, h2⟩ := bind_some.1 h
    obtain ⟨ts', rfl⟩ := head_some h1
    split at h2
    · cases hr with | cons hx hr =>
      cases hr with | cons hy hr =>
      cases hr
      exact does_v (copy_ok hd hw h2 hx hy)
    · cases h2
  case clear =>
    obtain ⟨t, h1, h2⟩ := bind_some.1 h
    obtain ⟨x, h3, h4⟩ := bind_some.1 h2
    obtain ⟨u, h5, h6⟩ := map_some.1 h4
    cases h6
    obtain ⟨ts', rfl⟩ := head_some h1
    obtain ⟨xr, rfl⟩ := head_some h3
    cases hr with | cons hx hr =>
    obtain ⟨w', r1, r2⟩ := clear_ok (P := P) (ty := ty) (ts := ts') hd hw h5 hx
    exact does_v ⟨_, w', η, r1, r2, .tuple .nil⟩
  case delete =>
    obtain ⟨t, h1, h2⟩ := bind_some.1 h
    obtain ⟨ts', rfl⟩ := head_some h1
    split at h2
    · cases hr with | cons hx hr =>
      cases hr with | cons hy hr =>
      cases hr
      obtain ⟨K1, h3, h4⟩ := map_some.1 h2
      cases h4
      obtain ⟨w', r1, r2⟩ := delete_ok (P := P) (ty := ty) (ts := ts') hd hw h3 hx hy
      exact does_v ⟨_, w', η, r1, r2, .tuple .nil⟩
    · cases h2
  case unsafeSliceData =>
    split at h
    · cases hr with | cons hx hr =>
      cases hr
      obtain ⟨u, h3, h4⟩ := map_some.1 h
      cases h4
      exact does_pure hd (sliceData_ok h3 hx)
    · cases h
  case unsafeString =>
    split at h
    · cases hr with | cons hx hr =>
      cases hr with | cons hy hr =>
      cases hr
      obtain ⟨h1, h2⟩ := guardO_some.1 h
      obtain ⟨a, h3, h4⟩ := bind_some.1 h2
      obtain ⟨n, h5, h6⟩ := bind_some.1 h4
      exact does_v (string_ok hd hw h3 h5 h1 h6 hx hy)
    · cases h

/-! ### Calls -/
theorem method_ok {w : World} {t : TypeId} {name : String} {f : FuncId} {v : Value} (h : methodT P t name = some f) (n : Nat) : (method (n + 1) t v name).run P w = .ok (f, v) w := by
  unfold methodT at h
  obtain ⟨i, h1, h2⟩ := bind_some.1 h
  obtain ⟨m, h3, h4⟩ := bind_some.1 h2
  unfold methodF at h4
  split at h4
  · rename_i p hp
    obtain ⟨hg, h5⟩ := guardO_some.1 h4
    cases h5
    simp only [Bool.and_eq_true, decide_eq_true_eq] at hg
    obtain ⟨d, hd, hpd⟩ := map_some.1 hg.2
    have hfind : i.methods.find? (fun m => m.name == name) = some m := by simpa [← Array.find?_toList] using h3
    have hpath : m.path.toList = [] := by
      have := hg.1
      simpa [Array.isEmpty] using this
    obtain ⟨f, b⟩ := p
    simp only at hpd ⊢
    subst hpd
    simp only [method, Sem.run_bind, typeInfo, run_program, Result.andThen]
    simp only [h1, Sem.run_pure, hfind, hpath, follow, hp, Sem.run_bind, Result.andThen]
    cases d <;> simp [receiverAt, run_underlying' hd, isPtrD, Place.get]
  · cases h4

theorem callee_ok {η : Env} {K K' : AHeap} {w : World} (hd : Desc P η K w) (hw : WF K) {tm : T Value} {a : Act} {c : Call} (ht : ∀ x ∈ c.operands, OpRel P η tm a x) {ty : TypeId} {args : List Value} {r : ARes}
    (h : evCallee P c.callee tm K c.argTypes.toList args = some (r, K')) (ha : LRel η args (c.args.toList.map a.eval)) (hf : Fresh η K K') :
    OpDoes P η K w (do let d ← resolve a.eval c ty; invoke d.target d.args) r K' := by
  obtain ⟨cl, cargs, cts⟩ := c
  have hargs : (cargs.map a.eval) = (cargs.toList.map a.eval).toArray := Array.ext' (by rw [Array.toList_map])
  simp only at h ha
  generalize cargs.toList.map a.eval = args' at ha hargs
  cases cl with
  | builtin b =>
    simp only [evCallee] at h
    obtain ⟨⟨v, K1⟩, h1, h2⟩ := map_some.1 h
    simp only [asRes, Prod.mk.injEq] at h2
    obtain ⟨rfl, rfl⟩ := h2
    have := builtin_ok (ty := ty) (cs := cargs.map fun | .const _ => true | _ => false) hd hw h1 hf ha
    obtain ⟨nx, v', w', η', r1, r2, r3, r4⟩ := this
    refine ⟨nx, v', w', η', ?_, r2, r3, r4⟩
    rw [← r1]
    simp only [resolve, hargs, Sem.run_bind, Sem.run_pure, Result.andThen, invoke, Array.toArray_toList]
    rfl
  | value f =>
    simp only [evCallee] at h
    obtain ⟨v, h1, h2⟩ := bind_some.1 h
    obtain ⟨q, h3, h4⟩ := map_some.1 h2
    simp only [Prod.mk.injEq] at h4
    obtain ⟨rfl, rfl⟩ := h4
    have hv := ht _ (by simp [Call.operands]) v h1
    generalize hfv : a.eval f = fv at hv
    cases hv <;> simp only [callV] at h3 <;> try (cases h3; done)
    case func g b b' d d' hb hdd =>
      cases h3
      refine ⟨rfl, b' ++ args' ++ d', (hb.append ha).append hdd, ?_⟩
      simp only [resolve, hargs, Deferred.ofValue, hfv, Sem.run_bind, Sem.run_pure, Result.andThen, invoke]
      congr 2
      simp
    case yield l L hL =>
      obtain ⟨_, h5⟩ := guardO_some.1 h3
      cases h5
      refine ⟨rfl, L, args', hL, ha, ?_⟩
      simp only [resolve, hargs, Deferred.ofValue, hfv, Sem.run_bind, Sem.run_pure, Result.andThen, invoke]
      congr 2
      simp
  | invoke rc name =>
    simp only [evCallee] at h
    obtain ⟨v, h1, h2⟩ := bind_some.1 h
    obtain ⟨q, h3, h4⟩ := map_some.1 h2
    simp only [Prod.mk.injEq] at h4
    obtain ⟨rfl, rfl⟩ := h4
    have hv := ht _ (by simp [Call.operands]) v h1
    generalize hfv : a.eval rc = fv at hv
    cases hv <;> simp only [invokeV] at h3 <;> try (cases h3; done)
    case iface t u u' hu =>
      obtain ⟨f, h5, h6⟩ := map_some.1 h3
      subst h6
      refine ⟨rfl, u' :: args', .cons hu ha, ?_⟩
      have hm := method_ok (w := w) (v := u') h5 (P.types.size + Made.depth - 1)
      have hpos : P.types.size + Made.depth - 1 + 1 = P.types.size + Made.depth := by
        have : 0 < Made.depth := by decide
        omega
      rw [hpos] at hm
      have hext : ((#[Value.iface t u'] ++ args'.toArray).extract 1 (#[Value.iface t u'] ++ args'.toArray).size) = args'.toArray := by
        apply Array.ext'
        simp [List.extract_eq_take_drop]
      have h0 : (#[Value.iface t u'] ++ args'.toArray)[0]? = some (.iface t u') := by simp
      simp only [resolve, hargs, hfv, Sem.run_bind, Sem.run_pure, Result.andThen, invoke, h0, hext, callMethod, run_program, hm]
      congr 2
      simp

/-! ### One operation -/
theorem op_ok {η : Env} {K K' : AHeap} {w : World} (hd : Desc P η K w) (hw : WF K) {tm : T Value} {a : Act} {o : Oper} (ht : ∀ x ∈ o.op.operands, OpRel P η tm a x) {r : ARes} (h : evOp P o.op tm K = some (r, K')) (hf : Fresh η K K') :
    OpDoes P η K w (execOp a.eval o) r K' := by
  obtain ⟨odst, op, oty, opos, oafter, oguard⟩ := o
  simp only at h ht
  have mv : ∀ {v : Value} {x : Operand}, x ∈ op.operands → opv P x tm = some v → VRel η v (a.eval x) := fun {v x} hx h => ht x hx v h
  have pureV : ∀ {v v' : Value}, VRel η v v' → OpDoes P η K w (pure (.value v')) (.val v) K := fun {v v'} hv => ⟨.value v', v', w, η, rfl, rfl, Step.refl P hd, hv⟩
  cases op <;> simp only [evOp] at h <;> try (cases h; done)
  case move x =>
    obtain ⟨v, h1, rfl, rfl⟩ := withK_some h
    exact pureV (mv (by simp [Op.operands]) h1)
  case assign x =>
    obtain ⟨v, h1, rfl, rfl⟩ := withK_some h
    exact pureV (mv (by simp [Op.operands]) h1)
  case pick c x y =>
    obtain ⟨b, h1, h2⟩ := bind_some.1 h
    obtain ⟨cv, h3, h4⟩ := bind_some.1 h1
    obtain ⟨u, h5, h6⟩ := bind_some.1 h2
    obtain ⟨v, h7, h8⟩ := map_some.1 h6
    cases h8
    have hb := boolV_ok h4 (mv (by simp [Op.operands]) h3)
    refine ⟨.value (if b then a.eval x else a.eval y), _, w, η, ?_, rfl, Step.refl P hd, ?_⟩
    · simp [execOp, hb, asBool]
    · cases b
      · exact mv (by simp [Op.operands]) h7
      · exact mv (by simp [Op.operands]) h5
  case alloc t =>
    obtain ⟨z, h1, h2⟩ := bind_some.1 h
    obtain ⟨v, h3, rfl⟩ := asRes_some h2
    obtain ⟨ad, w', η', r1, r2, r3⟩ := newVar_ok hd hw h3 hf (VRel.ground z (zero_some h1).1)
    exact does_v ⟨.pointer (some ad), w', η', by simp [Instr.alloc, run_zero h1, r1], r2, r3⟩
  case box t x =>
    obtain ⟨u, h1, h2⟩ := bind_some.1 h
    obtain ⟨v, h3, rfl⟩ := asRes_some h2
    obtain ⟨ad, w', η', r1, r2, r3⟩ := newVar_ok hd hw h3 hf (mv (by simp [Op.operands]) h1)
    exact does_v ⟨.pointer (some ad), w', η', by simp [Instr.box, r1], r2, r3⟩
  case build t ps =>
    obtain ⟨vs, h1, h2⟩ := bind_some.1 h
    obtain ⟨v, h3, rfl, rfl⟩ := withK_some h2
    have := does_pure hd (build_ok (w := w) h3 (opps_ok' (fun p hp => ht p.2 (by simp only [Op.operands, List.mem_toArray, List.mem_map]; exact ⟨p, hp, rfl⟩)) h1))
    have e : (ps.map fun p => (p.1, a.eval p.2)) = (ps.toList.map fun p => (p.1, a.eval p.2)).toArray := Array.ext' (by rw [Array.toList_map])
    rw [← e] at this
    exact this
  case buildSlice t len ps =>
    obtain ⟨vs, h1, h2⟩ := bind_some.1 h
    obtain ⟨v, h3, rfl⟩ := asRes_some h2
    have := does_v (buildSlice_ok hd hw h3 hf (opps_ok' (fun p hp => ht p.2 (by simp only [Op.operands, List.mem_toArray, List.mem_map]; exact ⟨p, hp, rfl⟩)) h1))
    have e : (ps.map fun p => (p.1, a.eval p.2)) = (ps.toList.map fun p => (p.1, a.eval p.2)).toArray := Array.ext' (by rw [Array.toList_map])
    rw [← e] at this
    exact this
  case insert t m k v =>
    obtain ⟨m', h1, h2⟩ := bind_some.1 h
    obtain ⟨k', h3, h4⟩ := bind_some.1 h2
    obtain ⟨v', h5, h6⟩ := bind_some.1 h4
    obtain ⟨h7, rfl⟩ := skipK_some h6
    exact does_u (mapUpdate_ok hd hw h7 (mv (by simp [Op.operands]) h1) (mv (by simp [Op.operands]) h3) (mv (by simp [Op.operands]) h5))
  case mapUpdate t m k v =>
    obtain ⟨m', h1, h2⟩ := bind_some.1 h
    obtain ⟨k', h3, h4⟩ := bind_some.1 h2
    obtain ⟨v', h5, h6⟩ := bind_some.1 h4
    obtain ⟨h7, rfl⟩ := skipK_some h6
    exact does_u (mapUpdate_ok hd hw h7 (mv (by simp [Op.operands]) h1) (mv (by simp [Op.operands]) h3) (mv (by simp [Op.operands]) h5))
  case load t x =>
    obtain ⟨p, h1, h2⟩ := bind_some.1 h
    obtain ⟨u, h3, h4⟩ := bind_some.1 h1
    obtain ⟨v, h5, rfl, rfl⟩ := withK_some h2
    obtain ⟨L, hL, _, hx⟩ := addrV_ok h4 (mv (by simp [Op.operands]) h3)
    obtain ⟨v', r1, r2⟩ := loadVar_ok (P := P) hd hL h5
    exact does_pure hd ⟨v', by simp [Instr.loadAt, Instr.sureAddr, hx, r1], r2⟩
  case store t x v =>
    obtain ⟨p, h1, h2⟩ := bind_some.1 h
    obtain ⟨u, h3, h4⟩ := bind_some.1 h1
    obtain ⟨v', h5, h6⟩ := bind_some.1 h2
    obtain ⟨h7, h8⟩ := guardO_some.1 h6
    obtain ⟨h9, rfl⟩ := skipK_some h8
    obtain ⟨L, hL, _, hx⟩ := addrV_ok h4 (mv (by simp [Op.operands]) h3)
    have hv := mv (by simp [Op.operands]) h5
    obtain ⟨w', r1, r2⟩ := write_step (P := P) hd hw hL h9 hv.cells
    have hsz := of_decide_eq_true h7
    have hlen : (a.eval v).cells.size = v'.cells.size := by have := hv.cells.length; simpa using this
    exact does_u ⟨w', by
      simp [Instr.storeAt, Instr.sureAddr, hx, storeVar, run_sizeOf hsz, hlen, r1], r2⟩
  case nilCheck x =>
    obtain ⟨v, h1, h2⟩ := bind_some.1 h
    obtain ⟨h3, h4⟩ := guardO_some.1 h2
    cases h4
    have hv := mv (by simp [Op.operands]) h1
    have hk := nilCheck_ok h3 hv
    refine ⟨.value (a.eval x), a.eval x, w, η, ?_, rfl, Step.refl P hd, hv⟩
    simp only [execOp]
    generalize a.eval x = y at hk
    cases y <;> simp only [nilCk] at hk <;> try (cases hk; done)
    all_goals first | rfl | skip
    · rename_i ad; cases ad <;> first | (cases hk; done) | rfl
    · rename_i fn _ _; cases fn <;> first | (cases hk; done) | rfl
  case binOp bo t x y _ =>
    obtain ⟨u, h1, h2⟩ := bind_some.1 h
    obtain ⟨u', h3, h4⟩ := bind_some.1 h2
    obtain ⟨v, h5, rfl, rfl⟩ := withK_some h4
    exact does_pure hd (bin_ok hd h5 (mv (by simp [Op.operands]) h1) (mv (by simp [Op.operands]) h3))
  case unOp uo t x =>
    obtain ⟨v, h1, h2⟩ := bind_some.1 h
    obtain ⟨h3, h4⟩ := guardO_some.1 h2
    obtain ⟨u, h5, h6⟩ := bind_some.1 h4
    obtain ⟨h7, h8⟩ := guardO_some.1 h6
    cases h8
    have hx := (mv (by simp [Op.operands]) h1).eq_of_ground (grnd_ground h3)
    exact does_pure hd ⟨u, by rw [hx]; exact pureRun_run h5 w, .grnd h7⟩
  case convert s d x =>
    obtain ⟨v, h1, h2⟩ := bind_some.1 h
    obtain ⟨u, h3, rfl⟩ := asRes_some h2
    exact does_v (convert_ok hd hw h3 hf (mv (by simp [Op.operands]) h1))
  case makeInterface t x =>
    obtain ⟨v, h1, h2⟩ := bind_some.1 h
    obtain ⟨h3, h4⟩ := guardO_some.1 h2
    cases h4
    exact does_pure hd ⟨_, makeInterface_ok (of_decide_eq_true h3), .iface t (mv (by simp [Op.operands]) h1)⟩
  case makeFunc fn first captured =>
    obtain ⟨h1, h2⟩ := guardO_some.1 h
    obtain ⟨as, h3, h4⟩ := bind_some.1 h2
    obtain ⟨bs, h5, h6⟩ := map_some.1 h4
    cases h6
    cases fn <;> simp only [fnOk] at h1 <;> try (cases h1; done)
    rename_i f
    have e1 : (first.map a.eval) = (first.toList.map a.eval).toArray := Array.ext' (by rw [Array.toList_map])
    have e2 : (captured.map a.eval) = (captured.toList.map a.eval).toArray := Array.ext' (by rw [Array.toList_map])
    refine does_pure hd ⟨.func (.func f) (first.toList.map a.eval).toArray (captured.toList.map a.eval).toArray, ?_, .func f (opvs_ok' (fun y hy => ht y (by simp only [Op.operands, Array.mem_append]; exact .inl (Array.mem_toList_iff.1 hy))) h3) (opvs_ok' (fun y hy => ht y (by simp only [Op.operands, Array.mem_append]; exact .inr (Array.mem_toList_iff.1 hy))) h5)⟩
    simp only [Instr.makeFunc, e1, e2, Sem.run_pure]
  case makeMap t x =>
    obtain ⟨r', h1, h2⟩ := bind_some.1 h
    obtain ⟨h3, h4⟩ := guardO_some.1 h2
    obtain ⟨⟨n, K1⟩, h5, h6⟩ := map_some.1 h4
    simp only [Prod.mk.injEq] at h6
    obtain ⟨rfl, rfl⟩ := h6
    exact does_v (makeMap_ok hd hw h3 h5 hf (opvo_ok' (fun y hy => ht y (by subst hy; simp [Op.operands])) h1))
  case makeSlice t l c =>
    obtain ⟨lv, h1, h2⟩ := bind_some.1 h
    obtain ⟨cv, h3, h4⟩ := bind_some.1 h2
    obtain ⟨v, h5, rfl⟩ := asRes_some h4
    exact does_v (makeSlice_ok hd hw h5 hf (mv (by simp [Op.operands]) h1) (mv (by simp [Op.operands]) h3))
  case slice t x lo hi mx =>
    obtain ⟨v, h1, h2⟩ := bind_some.1 h
    obtain ⟨l, h3, h4⟩ := bind_some.1 h2
    obtain ⟨hh, h5, h6⟩ := bind_some.1 h4
    obtain ⟨m, h7, h8⟩ := bind_some.1 h6
    obtain ⟨u, h9, rfl, rfl⟩ := withK_some h8
    exact does_pure hd (sliceOp_ok h9 (mv (by simp [Op.operands]) h1) (opvo_ok' (fun y hy => ht y (by subst hy; simp [Op.operands])) h3) (opvo_ok' (fun y hy => ht y (by subst hy; simp [Op.operands])) h5) (opvo_ok' (fun y hy => ht y (by subst hy; simp [Op.operands])) h7))
  case fieldAddr s x f =>
    obtain ⟨v, h1, h2⟩ := bind_some.1 h
    obtain ⟨u, h9, rfl, rfl⟩ := withK_some h2
    exact does_pure hd (fieldAddr_ok h9 (mv (by simp [Op.operands]) h1))
  case field t x f =>
    obtain ⟨v, h1, h2⟩ := bind_some.1 h
    obtain ⟨u, h9, rfl, rfl⟩ := withK_some h2
    exact does_pure hd (field_ok h9 (mv (by simp [Op.operands]) h1))
  case indexAddr t x i =>
    obtain ⟨v, h1, h2⟩ := bind_some.1 h
    obtain ⟨iv, h3, h4⟩ := bind_some.1 h2
    obtain ⟨u, h9, rfl, rfl⟩ := withK_some h4
    exact does_pure hd (indexAddr_ok h9 (mv (by simp [Op.operands]) h1) (mv (by simp [Op.operands]) h3))
  case index t x i =>
    obtain ⟨v, h1, h2⟩ := bind_some.1 h
    obtain ⟨iv, h3, h4⟩ := bind_some.1 h2
    obtain ⟨u, h9, rfl, rfl⟩ := withK_some h4
    exact does_pure hd (index_ok h9 (mv (by simp [Op.operands]) h1) (mv (by simp [Op.operands]) h3))
  case lookup t x i ok =>
    obtain ⟨v, h1, h2⟩ := bind_some.1 h
    obtain ⟨iv, h3, h4⟩ := bind_some.1 h2
    obtain ⟨u, h9, rfl, rfl⟩ := withK_some h4
    exact does_pure hd (lookup_ok hd h9 (mv (by simp [Op.operands]) h3) (mv (by simp [Op.operands]) h1))
  case range t x =>
    obtain ⟨v, h1, h2⟩ := bind_some.1 h
    obtain ⟨u, h3, rfl⟩ := asRes_some h2
    exact does_v (range_ok hd hw h3 hf (mv (by simp [Op.operands]) h1))
  case next it isString =>
    obtain ⟨v, h1, h2⟩ := bind_some.1 h
    obtain ⟨u, h3, rfl⟩ := asRes_some h2
    exact does_v (next_ok hd hw h3 (mv (by simp [Op.operands]) h1))
  case entry it =>
    obtain ⟨v, h1, h2⟩ := bind_some.1 h
    obtain ⟨u, h3, rfl, rfl⟩ := withK_some h2
    exact does_pure hd (entry_ok hd h3 (mv (by simp [Op.operands]) h1))
  case typeAssert x xt t ok =>
    obtain ⟨v, h1, h2⟩ := bind_some.1 h
    obtain ⟨h3, h4⟩ := guardO_some.1 h2
    obtain ⟨u, h5, rfl, rfl⟩ := withK_some h4
    exact does_pure hd (assert_ok (of_decide_eq_true h3) h5 (mv (by simp [Op.operands]) h1))
  case extract x ix =>
    obtain ⟨v, h1, h2⟩ := bind_some.1 h
    split at h2
    · obtain ⟨u, h5, rfl, rfl⟩ := withK_some h2
      exact does_pure hd (extract_ok rfl h5 (mv (by simp [Op.operands]) h1))
    · cases h2
  case call c =>
    obtain ⟨args, h1, h2⟩ := bind_some.1 h
    exact callee_ok hd hw ht h2 (opvs_ok' (fun y hy => ht y (by simp only [Op.operands, Call.operands, Array.mem_append]; exact .inr (Array.mem_toList_iff.1 hy))) h1) hf

end Go.Ev

/- Operations of the kinds 0 and 1: they read nothing of memory. Conditions: none. -/
set_option linter.unusedVariables false
set_option linter.unusedSimpArgs false
set_option linter.unnecessarySimpa false
namespace Go.Ev
variable {P : Program}

theorem guardO_map {α β : Type} (b : Bool) (k : Option α) (f : α → β) : (guardO b k).map f = guardO b (k.map f) := by cases b <;> rfl
theorem omap_bind {α β γ : Type} (o : Option α) (f : α → Option β) (g : β → γ) : (o.bind f).map g = o.bind fun a => (f a).map g := by cases o <;> rfl

theorem kind0 {op : Op} {tm : T Value} (hk : kindOf op = 0) (K K0 : AHeap) : evOp P op tm K0 = (evOp P op tm K).map fun p => (p.1, K0) := by
  cases op <;> simp only [kindOf] at hk <;> try (cases hk; done)
  case extract x ix =>
    simp only [evOp, omap_bind]
    congr 1
    funext v
    cases v <;> first | rfl | (simp only [Option.map_map]; rfl)
  case call c =>
    obtain ⟨cl, ca, ct⟩ := c
    cases cl with
    | builtin b => cases b <;> simp at hk
    | value f => simp at hk
    | invoke x n => simp at hk
  all_goals first
    | (split at hk; split at hk; all_goals (cases hk; done))
    | (simp only [evOp, omap_bind, Option.map_map, guardO_map, Function.comp_def, withK, Option.map_some]; done)
    | (simp only [evOp, omap_bind, Option.map_map, guardO_map, Function.comp_def, withK, Option.map_some]; rfl)

theorem kind0_same {op : Op} {tm : T Value} {K K' : AHeap} {r : ARes} (hk : kindOf op = 0) (h : evOp P op tm K = some (r, K')) : K' = K := by
  have := kind0 (P := P) (tm := tm) hk K K
  rw [h] at this
  simp at this
  exact this

def IsVal (o : Option (ARes × AHeap)) : Prop := ∀ p, o = some p → ∃ v, p.1 = .val v

theorem IsVal.bind {α : Type} {o : Option α} {f : α → Option (ARes × AHeap)} (h : ∀ a, IsVal (f a)) : IsVal (o.bind f) := fun p hp => by
  obtain ⟨a, _, h2⟩ := bind_some.1 hp
  exact h a p h2
theorem IsVal.guard {b : Bool} {o : Option (ARes × AHeap)} (h : IsVal o) : IsVal (guardO b o) := fun p hp => h p (guardO_some.1 hp).2
theorem IsVal.map {α : Type} {o : Option α} {f : α → ARes × AHeap} (h : ∀ a, ∃ v, (f a).1 = .val v) : IsVal (o.map f) := fun p hp => by
  obtain ⟨a, _, h2⟩ := map_some.1 hp
  subst h2; exact h a
theorem IsVal.some {v : Value} {K : AHeap} : IsVal (some (.val v, K)) := fun p hp => by cases hp; exact ⟨v, rfl⟩
theorem IsVal.none : IsVal none := fun p hp => by cases hp

theorem val_of_kind {op : Op} {tm : T Value} {K K' : AHeap} {r : ARes} (hk : kindOf op ≤ 3) (h : evOp P op tm K = some (r, K')) : ∃ v, r = .val v := by
  have key : IsVal (evOp P op tm K) := by
    cases op <;> simp only [evOp]
    case call c =>
      obtain ⟨cl, ca, ct⟩ := c
      cases cl with
      | builtin b => exact .bind fun _ => .map fun _ => ⟨_, rfl⟩
      | value f => simp [kindOf] at hk
      | invoke x n => simp [kindOf] at hk
    case extract x ix =>
      refine .bind fun v => ?_
      cases v <;> first | exact .none | exact .map fun _ => ⟨_, rfl⟩
    all_goals
      repeat (first
        | exact .none
        | exact .map fun _ => ⟨_, rfl⟩
        | exact .some
        | refine .bind fun _ => ?_
        | refine .guard ?_)
  exact key _ h

/-! ### Kind 1 -/
/-- Two heaps, alike from a name on. -/
def Alike (K K0 : AHeap) : Prop := K0.next = K.next ∧ ∀ n, K.next ≤ n → K0.obj n = K.obj n

/-- It makes memory alone: whatever lies below. -/
def Makes (K K0 : AHeap) (o o0 : Option (ARes × AHeap)) : Prop := ∀ r K', o = some (r, K') → ∃ K0', o0 = some (r, K0') ∧ K0'.next = K'.next ∧ (∀ n, K.next ≤ n → K0'.obj n = K'.obj n) ∧ ∀ n, n < K.next → K0'.obj n = K0.obj n

theorem Makes.bind {K K0 : AHeap} {α : Type} {o : Option α} {f g : α → Option (ARes × AHeap)} (h : ∀ a, Makes K K0 (f a) (g a)) : Makes K K0 (o.bind f) (o.bind g) := fun r K' hp => by
  obtain ⟨a, h1, h2⟩ := bind_some.1 hp
  obtain ⟨K0', h3, h4⟩ := h a r K' h2
  exact ⟨K0', bind_some.2 ⟨a, h1, h3⟩, h4⟩
theorem Makes.guard {K K0 : AHeap} {b : Bool} {o o0 : Option (ARes × AHeap)} (h : Makes K K0 o o0) : Makes K K0 (guardO b o) (guardO b o0) := fun r K' hp => by
  obtain ⟨h1, h2⟩ := guardO_some.1 hp
  obtain ⟨K0', h3, h4⟩ := h r K' h2
  exact ⟨K0', guardO_some.2 ⟨h1, h3⟩, h4⟩
theorem Makes.mk {K K0 : AHeap} (hl : Alike K K0) {o : AObj} {f : Nat → ARes} : Makes K K0 ((K.mk? o).map fun p => (f p.1, p.2)) ((K0.mk? o).map fun p => (f p.1, p.2)) := fun r K' hp => by
  obtain ⟨⟨n, K1⟩, h1, h2⟩ := map_some.1 hp
  cases h2
  obtain ⟨rfl, _, hn, hlow, hobj⟩ := mk_spec h1
  have hm : ∃ K01, K0.mk? o = some (K0.next, K01) := by
    unfold AHeap.mk?
    exact ⟨_, rfl⟩
  obtain ⟨K01, h3⟩ := hm
  obtain ⟨_, _, hn0, _, hobj0⟩ := mk_spec h3
  refine ⟨K01, by rw [h3, hl.1]; rfl, by rw [hn0, hn, hl.1], fun n hge => ?_, fun n hlt' => ?_⟩
  · rw [hobj0, hobj, hl.1]
    split
    · rfl
    · exact hl.2 n hge
  · rw [hobj0, if_neg (by rw [hl.1]; omega)]

theorem kind1 {op : Op} {tm : T Value} (hk : kindOf op = 1) {K K0 : AHeap} (hl : Alike K K0) : Makes K K0 (evOp P op tm K) (evOp P op tm K0) := by
  cases op <;> simp only [kindOf] at hk <;> try (cases hk; done)
  case alloc t =>
    simp only [evOp, aNewVar, Option.map_map]
    exact .bind fun z => .mk (f := fun n => .val (.pointer (some ⟨n, 0, none⟩))) hl
  case box t x =>
    simp only [evOp, aNewVar, Option.map_map]
    exact .bind fun z => .mk (f := fun n => .val (.pointer (some ⟨n, 0, none⟩))) hl
  case buildSlice t len ps =>
    simp only [evOp, aBuildSlice, omap_bind, guardO_map, Option.map_map]
    exact .bind fun _ => .bind fun _ => .bind fun _ => .guard (.bind fun _ => .bind fun _ => .mk (f := fun n => .val (.slice (some ⟨n, 0, none⟩) len len)) hl)
  case makeMap t r =>
    simp only [evOp]
    exact .bind fun _ => .guard (.mk (f := fun n => .val (.map (some n))) hl)
  case makeSlice t l c =>
    simp only [evOp, aMakeSlice, omap_bind, guardO_map, Option.map_map]
    exact .bind fun _ => .bind fun _ => .bind fun _ => .bind fun ln => .bind fun cn => .bind fun _ => .guard (.bind fun _ => .mk (f := fun n => .val (.slice (some ⟨n, 0, none⟩) ln cn)) hl)
  case call c =>
    obtain ⟨cl, ca, ct⟩ := c
    cases cl with
    | builtin b => cases b <;> simp at hk
    | value f => simp at hk
    | invoke x n => simp at hk

/-- An operation of the kinds 0 and 1, over whatever heap of as many names. -/
theorem simple_ok {op : Op} {tm : T Value} (hk : kindOf op ≤ 1) {K K0 K' : AHeap} {r : ARes} (hl : Alike K K0) (h : evOp P op tm K = some (r, K')) :
    ∃ K0', evOp P op tm K0 = some (r, K0') ∧ K0'.next = K'.next ∧ (∀ n, K.next ≤ n → K0'.obj n = K'.obj n) ∧ ∀ n, n < K.next → K0'.obj n = K0.obj n := by
  rcases Nat.lt_or_ge (kindOf op) 1 with h0 | h0
  · have h0 : kindOf op = 0 := by omega
    have e := kind0_same h0 h
    subst e
    refine ⟨K0, ?_, hl.1, hl.2, fun _ _ => rfl⟩
    rw [kind0 (P := P) (tm := tm) h0 K' K0, h]
    rfl
  · exact kind1 (by omega) hl r K' h

end Go.Ev

/- Calls and rounds: the machine at what the evaluator answers, once its code is. Conditions: none. -/
set_option linter.unusedVariables false
set_option linter.unusedSimpArgs false
set_option linter.unnecessarySimpa false
namespace Go.Ev
variable {P : Program}

/-! ### The fence: all is let in -/
def FW (rb : Option Nat) : Fence := { fn := fun _ => True, depth := none, alive := false, round := rb }

theorem fenced_FW (rb : Option Nat) (m : Machine) : m.fenced P (FW rb) := fun g _ => ⟨fun h => by simp [FW] at h, .inl trivial, fun _ _ => trivial, fun d h => by simp [FW] at h⟩
theorem room_FW (rb : Option Nat) (n : Nat) : (FW rb).room n := fun d h => by simp [FW] at h

theorem comesIn_FW {ra rb : Option Nat} {m m' : Machine} {e : Ending} (h : ComesIn (Machine.fenced P (FW ra)) P m m' e) : ComesIn (Machine.fenced P (FW rb)) P m m' e := by
  cases e with
  | returned v => exact StepsIn.mono (fun m _ => fenced_FW rb m) h
  | panicked c => exact StepsIn.mono (fun m _ => fenced_FW rb m) h
  | outgrown => exact h

theorem callsIn_FW {ra rb : Option Nat} {n n' : Nat} {f : FuncId} {args : Array Value} {w : World} {R : Ending → World → Prop} (h : CallsIn (FW ra) n P f args w R) : CallsIn (FW rb) n' P f args w R :=
  ⟨trivial, fun cs _ => let ⟨e, w', fr, r, s, x⟩ := h.2 cs (room_FW _ _); ⟨e, w', fr, r, comesIn_FW s, x⟩⟩

theorem calls_FW {rb : Option Nat} {n : Nat} {f : FuncId} {args : Array Value} {w : World} {R : Ending → World → Prop} (h : CallsIn (FW rb) n P f args w R) : Calls P f args w R := h.calls (room_FW rb)

theorem roundIn_FW {ra rb : Option Nat} {n n' : Nat} {l : Nat} {f : FuncId} {tmps : Array Value} {assign body : Code} {w : World} {R : Ending → World → Prop} (h : RoundIn (FW ra) n P l f tmps assign body w R) : RoundIn (FW rb) n' P l f tmps assign body w R :=
  ⟨trivial, fun c cs _ => let ⟨e, w', r, s⟩ := h.2 c cs (room_FW _ _); ⟨e, w', r, comesIn_FW s⟩⟩

/-! ### What is to be shown -/
/-- How a call (or a round) ends. -/
def Ends (P : Program) (η : Env) (K : AHeap) (w : World) (v : Value) (K' : AHeap) : Ending → World → Prop
  | .returned v', w' => ∃ η', Step P η K w η' K' w' ∧ VRel η' v v'
  | .panicked _, _ => False
  | .outgrown, _ => False

/-- What an operation comes to, its call done. -/
def NextOk (P : Program) (η : Env) (K : AHeap) (w : World) (res : Result Next) (v : Value) (K' : AHeap) : Prop :=
  (∃ nx v' w' η', res = .ok nx w' ∧ nx.val? = some v' ∧ Step P η K w η' K' w' ∧ VRel η' v v') ∨
  (∃ f args, res = .ok (.enter f args) w ∧ CallsIn (FW none) 0 P f args w (Ends P η K w v K')) ∨
  (∃ l f tmps assign body, res = .ok (.round l f tmps assign body) w ∧ RoundIn (FW none) 0 P l f tmps assign body w (Ends P η K w v K'))

/-- One operation, walked. -/
theorem wp_of_next {η : Env} {K K' : AHeap} {w : World} {v : Value} {rb : Option Nat} {n : Nat} {o : Oper} {a : Act} {next : Act → World → Prop} {Q : Exit → Act → World → Prop} (hdf : ∀ c, o.op ≠ .defer c)
    (h : NextOk P η K w ((execOp a.eval o).run P w) v K') (hn : ∀ v' w' η', Step P η K w η' K' w' → VRel η' v v' → next (a.put o.dst v') w') : o.wpIn (FW rb) n P a w next Q := by
  refine ⟨fun _ _ => trivial, ?_⟩
  rw [Oper.semAt_eq _ _ _ hdf]
  have ends : ∀ e w', Ends P η K w v K' e w' → (match e, w' with
      | .returned v, w'' => next (a.put o.dst v) w''
      | .panicked chain, w'' => Q (.panic chain) a w''
      | .outgrown, _ => LetsOut Q) := fun e w' he => by
    cases e with
    | returned v' => obtain ⟨η', h1, h2⟩ := he; exact hn v' w' η' h1 h2
    | panicked c => exact he.elim
    | outgrown => exact he.elim
  rcases h with ⟨nx, v', w', η', h1, h2, h3, h4⟩ | ⟨f, args, h1, h2⟩ | ⟨l, f, tmps, assign, body, h1, h2⟩
  · rw [h1]
    cases nx <;> simp only [Next.val?] at h2 <;> try (cases h2; done)
    all_goals
      cases h2
      exact hn _ w' η' h3 h4
  · rw [h1, Oper.uponIn_enter]
    exact ⟨fun hd => by simp [FW] at hd, (callsIn_FW h2).mono ends⟩
  · rw [h1, Oper.uponIn_round]
    exact ⟨fun hd => by simp [FW] at hd, (roundIn_FW h2).mono ends⟩

def exitOf : AExit → Exit
  | .normal => .normal
  | .exit id => .exit id
  | .ret => .ret

inductive MRel (η : Env) : List Nat → List Deferred → Prop
  | nil : MRel η [] []
  | cons {n : Nat} {L : Loc} {l : List Nat} {ds : List Deferred} (h : η n = some L) (t : MRel η l ds) : MRel η (n :: l) ({ target := .collected L.blk, args := #[] } :: ds)

theorem MRel.ext {η η' : Env} (hx : Ext η η') : ∀ {l : List Nat} {ds : List Deferred}, MRel η l ds → MRel η' l ds
  | _, _, .nil => .nil
  | _, _, .cons h t => .cons (hx _ _ h) (t.ext hx)

def Post (P : Program) (η : Env) (K : AHeap) (w : World) (nt : Nat) (e : AExit) (s' : St) (Q : Exit → Act → World → Prop) : Prop :=
  ∀ η' a' w', Step P η K w η' s'.K w' → TRel η' nt s'.tm a'.tmps → MRel η' s'.marks a'.defers → Q (exitOf e) a' w'

def Rnd (η : Env) (rnd rb : Option Nat) : Prop := match rnd with
  | none => rb = none
  | some l => ∃ L, η l = some L ∧ rb = some L.blk

theorem Rnd.ext {η η' : Env} (hx : Ext η η') {rnd rb : Option Nat} (h : Rnd η rnd rb) : Rnd η' rnd rb := by
  cases rnd with
  | none => exact h
  | some l => obtain ⟨L, a, b⟩ := h; exact ⟨L, hx _ _ a, b⟩

def WpL (P : Program) (rb : Option Nat) (n : Nat) (c : Code) (Q : Exit → Act → World → Prop) (a : Act) (w : World) : Prop := match c with
  | .loop b => Code.roundsIn (FW rb) 0 P b Q n a w
  | c => c.wpIn (FW rb) 0 P Q a w

theorem WpL.wp {rb : Option Nat} {n : Nat} {c : Code} {Q : Exit → Act → World → Prop} {a : Act} {w : World} (h : WpL P rb n c Q a w) : c.wpIn (FW rb) 0 P Q a w := by
  cases c <;> first | exact h | exact wpIn_loop_rounds n h

/-- The evaluator of code tells right. -/
def IhOk (P : Program) (n : Nat) (g : Ih) : Prop := ∀ rnd nt c s e s', g rnd nt c s = some (e, s') → ∀ η w a rb, Desc P η s.K w → WF s.K → TRel η nt s.tm a.tmps → MRel η s.marks a.defers → Fresh η s.K s'.K → Rnd η rnd rb →
  ∀ Q, Post P η s.K w nt e s' Q → WpL P rb n c Q a w

/-- What is told of a function (one without a body; one with a body) is so. -/
def XOk (P : Program) (X : Xt) : Prop := ∀ f args K v K', X f args K = some (v, K') → ∀ fn, P.funcs[f]? = some fn → ∀ η w args', Desc P η K w → WF K → Fresh η K K' → LRel η args args' →
  (fn.body = none → ∃ v' w' η', (callFunc f args'.toArray).run P w = .ok (.value v') w' ∧ Step P η K w η' K' w' ∧ VRel η' v v') ∧
  (fn.body.isSome → CallsIn (FW none) 0 P f args'.toArray w (Ends P η K w v K'))

/-- No function with a body is named as the one that the machine answers itself. -/
def NoNum (P : Program) : Prop := ∀ (f : FuncId) fn, P.funcs[f]? = some fn → fn.body.isSome → (fn.name == "runtime.NumGoroutine") = false

/-! ### A body -/
theorem initTm_get : ∀ (l : List Value) (i : Nat) (t : T Value) (j : Nat), i + l.length < 2 ^ 64 → (initTm l i t).get j = if i ≤ j ∧ j < i + l.length then l[j - i]? else t.get j
  | [], i, t, j, _ => by simp [initTm]; omega
  | v :: l, i, t, j, h => by
    simp only [initTm]
    rw [initTm_get l (i + 1) (t.put i v) j (by simp at h; omega), T.get_put _ _ _ _ (by simp at h; omega)]
    by_cases hj : j = i
    · subst hj
      rw [if_neg (by omega), if_pos rfl, if_pos (by simp)]
      simp
    · by_cases hin : i + 1 ≤ j ∧ j < i + 1 + l.length
      · rw [if_pos hin, if_pos (by simp; omega)]
        have : j - i = (j - (i + 1)) + 1 := by omega
        rw [this]; simp
      · rw [if_neg hin, if_neg hj, if_neg (by simp; omega)]

theorem init_rel {η : Env} {nt : Nat} {args args' : List Value} (hr : LRel η args args') (hle : args.length ≤ nt) (hnt : nt < cap40) : TRel η nt (initTm args 0 .e) (args'.toArray ++ Array.replicate (nt - args'.toArray.size) undef) := by
  have hl := hr.length
  refine ⟨by simp; omega, fun t v ht => ?_⟩
  have hlt : args.length < 2 ^ 64 := Nat.lt_of_le_of_lt hle (Nat.lt_trans hnt cap40_lt)
  rw [initTm_get args 0 .e t (by omega)] at ht
  split at ht
  · rename_i hin
    simp only [Nat.sub_zero] at ht
    obtain ⟨v', a, r⟩ := hr.nth ht
    refine ⟨v', ?_, r⟩
    rw [Array.getElem?_append_left (by simp; omega)]
    simpa using a
  · simp [T.get] at ht

def resSem (tmps : Array Value) : ResultVar → Sem Value
  | .tmp t => pure (tmps.getD t undef)
  | .cell a t => do loadVar t (← asAddr (tmps.getD a undef))

theorem aResult_ok {η : Env} {K : AHeap} {w : World} (hd : Desc P η K w) {nt : Nat} {tm : T Value} {tmps : Array Value} (ht : TRel η nt tm tmps) {r : ResultVar} {v : Value} (h : aResult P r tm K = some v) :
    ∃ v', (resSem tmps r).run P w = .ok v' w ∧ VRel η v v' := by
  cases r with
  | tmp t =>
    obtain ⟨v', a, r⟩ := ht.2 t v h
    exact ⟨v', by simp [resSem, Array.getD_eq_getD_getElem?, a], r⟩
  | cell t ty =>
    simp only [aResult] at h
    obtain ⟨p, h1, h2⟩ := bind_some.1 h
    obtain ⟨u, h3, h4⟩ := bind_some.1 h1
    obtain ⟨u', a, r⟩ := ht.2 t u h3
    obtain ⟨L, hL, rfl, rfl⟩ := addrV_ok h4 r
    obtain ⟨v', r1, r2⟩ := loadVar_ok (P := P) hd hL h2
    exact ⟨v', by simp [resSem, Array.getD_eq_getD_getElem?, a, asAddr, r1], r2⟩

theorem aResults_ok {η : Env} {K : AHeap} {w : World} (hd : Desc P η K w) {nt : Nat} {tm : T Value} {tmps : Array Value} (ht : TRel η nt tm tmps) : ∀ {l : List ResultVar} {vs : List Value}, aResults P l tm K = some vs →
    ∃ vs', (l.mapM (resSem tmps)).run P w = .ok vs' w ∧ LRel η vs vs'
  | [], vs, h => by cases h; exact ⟨[], by simp, .nil⟩
  | r :: l, vs, h => by
    simp only [aResults] at h
    obtain ⟨v, h1, h2⟩ := bind_some.1 h
    obtain ⟨us, h3, h4⟩ := map_some.1 h2
    subst h4
    obtain ⟨v', r1, r2⟩ := aResult_ok hd ht h1
    obtain ⟨us', r3, r4⟩ := aResults_ok hd ht h3
    refine ⟨v' :: us', ?_, .cons r2 r4⟩
    simp only [List.mapM_cons, Sem.run_bind]
    rw [r1]
    simp only [Result.andThen]
    rw [r3]
    rfl

theorem tupled_ok {η : Env} {vs vs' : List Value} (h : LRel η vs vs') : VRel η (tupled vs) (if h : vs'.toArray.size = 1 then vs'.toArray[0] else .tuple vs'.toArray) := by
  have hl := h.length
  cases h with
  | nil => exact .tuple .nil
  | cons hv ht =>
    cases ht with
    | nil => simpa [tupled] using hv
    | cons hv2 ht2 =>
      rw [dif_neg (by simp)]
      exact .tuple (.cons hv (.cons hv2 ht2))

theorem results_ok {η : Env} {K : AHeap} {w : World} (hd : Desc P η K w) {nt : Nat} {tm : T Value} {tmps : Array Value} (ht : TRel η nt tm tmps) {fn : Func} {vs : List Value} (h : aResults P fn.results.toList tm K = some vs) :
    ∃ v', (results fn tmps).run P w = .ok v' w ∧ VRel η (tupled vs) v' := by
  obtain ⟨vs', r1, r2⟩ := aResults_ok hd ht h
  refine ⟨_, ?_, tupled_ok r2⟩
  have e : results fn tmps = (do
      let vs ← fn.results.mapM (resSem tmps)
      pure (if h : vs.size = 1 then vs[0] else .tuple vs)) := rfl
  rw [e, Array.mapM_eq_mapM_toList]
  simp only [Sem.run_bind, Sem.run_map]
  rw [r1]
  rfl

end Go.Ev

/- Calls, rounds, operations: the machine at what the evaluator answers, once its code is. Conditions: none. -/
set_option linter.unusedVariables false
set_option linter.unusedSimpArgs false
set_option linter.unnecessarySimpa false
namespace Go.Ev
variable {P : Program}

theorem Fresh.part {η : Env} {K K1 K2 : AHeap} (h : Fresh η K K2) (h1 : K1.next ≤ K2.next) : Fresh η K K1 := fun n L hn => by
  rcases h n L hn with h2 | h2
  · exact .inl h2
  · exact .inr (by omega)

/-- The names of a first part are no names of the second. -/
theorem Fresh.rest {η η1 : Env} {K K1 K2 : AHeap} {w w1 : World} (h : Fresh η K K2) (hs : Step P η K w η1 K1 w1) (h0 : K.next ≤ K1.next) : Fresh η1 K1 K2 := fun n L hn => by
  rcases hs.dom n L hn with h2 | ⟨h2, h3⟩
  · rcases h n L h2 with h4 | h4
    · exact .inl (by omega)
    · exact .inr h4
  · exact .inl h3

theorem defs_obj {K : AHeap} {n : Nat} {o : AObj} (ho : K.obj n = some o) (hd : isDefs o = true) : K.obj n = some .defs := by
  cases o <;> simp [isDefs] at hd
  exact ho

theorem shut_ok {F : Fence} {k : Nat} {fn : Func} {tmps : Array Value} {R : Ending → World → Prop} : ∀ {l : List Nat} {ds : List Deferred} {η : Env} {K K' : AHeap} {w : World}, shut l K = some K' → Desc P η K w → WF K → MRel η l ds →
    (∀ w', Step P η K w η K' w' → LeavesIn F k P fn tmps R [] .returning w') → LeavesInM F k P fn tmps R ds .returning w
  | [], _, η, K, K', w, h, hd, hw, hm, hk => by
    cases hm
    cases h
    exact hk w (Step.refl P hd)
  | n :: l, _, η, K, K', w, h, hd, hw, hm, hk => by
    cases hm with | cons hL hm =>
    rename_i L ds
    simp only [shut] at h
    obtain ⟨o, ho, h1⟩ := bind_some.1 h
    obtain ⟨hdf, h2⟩ := guardO_some.1 h1
    obtain ⟨K1, h3, h4⟩ := bind_some.1 h2
    have ho := defs_obj ho hdf
    have hob : w.heap[L.blk]? = some (.deferred (some [])) := hd.obj n L _ hL ho
    obtain ⟨w1, r1, r2⟩ := setObj_step (P := P) (ob := .deferred none) hd hw hL ho (by simp) h3 hob (by simp) (fun _ _ => trivial)
    have k1 := set_kle h3 hw ho (by simp)
    have k2 := shut_kle h4 k1.wf
    have hn1 := (set_spec h3).2.1
    have hn2 : K'.next = K1.next := by
      have : ∀ {l : List Nat} {A B : AHeap}, shut l A = some B → B.next = A.next := by
        intro l
        induction l with
        | nil => intro A B h; cases h; rfl
        | cons m l ih =>
          intro A B h
          simp only [shut] at h
          obtain ⟨_, _, h1⟩ := bind_some.1 h
          obtain ⟨_, h2⟩ := guardO_some.1 h1
          obtain ⟨C, h3, h4⟩ := bind_some.1 h2
          rw [ih h4, (set_spec h3).2.1]
      exact this h4
    refine ⟨by simp, .inl ⟨L.blk, w1, rfl, ?_, shut_ok h4 r2.desc k1.wf hm fun w' hs => hk w' (r2.trans P hs k1 k2 fun m Lm _ => by omega)⟩⟩
    simp only [Instr.takeDeferred, Sem.run_bind, run_getObj hob (by simp), Result.andThen, r1, Sem.run_pure]

section
variable {X : Xt} {n : Nat} {ih : Ih}

theorem call_ok (hX : XOk P X) (hXk : XKle X) (hih : IhOk P n ih) (hik : IhKle ih) (hng : NoNum P) {f : FuncId} {args args' : List Value} {η : Env} {K K' : AHeap} {w : World} {v : Value} (h : evCall P X ih f args K = some (v, K'))
    (hd : Desc P η K w) (hw : WF K) (hf : Fresh η K K') (hr : LRel η args args') : NextOk P η K w ((callFunc f args'.toArray).run P w) v K' := by
  have hwk := evCall_kle hXk hik h hw
  unfold evCall at h
  obtain ⟨fn, hfn, h1⟩ := bind_some.1 h
  unfold evFunc at h1
  split at h1
  · rename_i hb
    obtain ⟨v', w', η', r1, r2, r3⟩ := (hX _ _ _ _ _ h1 fn hfn η w args' hd hw hf hr).1 hb
    exact .inl ⟨_, v', w', η', r1, rfl, r2, r3⟩
  rename_i c hb
  split at h1
  · rename_i hx
    cases h1
    refine .inr (.inl ⟨f, args'.toArray, ?_, (hX _ _ _ _ _ hx fn hfn η w args' hd hw hf hr).2 (by rw [hb]; rfl)⟩)
    have hname := hng f fn hfn (by rw [hb]; rfl)
    simp only [callFunc, Sem.run_bind, run_program, Result.andThen, hfn, hname, Bool.false_eq_true, if_false, hb, Option.isNone_some, Sem.run_pure]
  · unfold evBody at h1
    obtain ⟨hg, h2⟩ := guardO_some.1 h1
    obtain ⟨⟨e, s⟩, h3, h4⟩ := bind_some.1 h2
    simp only [Bool.and_eq_true] at hg
    have hle := Nat.le_of_ble_eq_true hg.1
    have hnt := blt_tt.1 hg.2
    have k1 := hik _ _ _ _ _ _ h3 hw
    refine .inr (.inl ⟨f, args'.toArray, ?_, ?_⟩)
    · have hname := hng f fn hfn (by rw [hb]; rfl)
      simp only [callFunc, Sem.run_bind, run_program, Result.andThen, hfn, hname, Bool.false_eq_true, if_false, hb, Option.isNone_some, Sem.run_pure]
    · refine callsIn_of_wp_marks hfn hb trivial (hih _ _ _ _ _ _ h3 η w { tmps := args'.toArray ++ Array.replicate (fn.ntmps - args'.toArray.size) undef, defers := [] } none hd hw (init_rel hr hle hnt) .nil ?_ rfl _ ?_).wp rfl
      · have key : s.K.next ≤ K'.next := by
          have hc : closeCall P fn s = some (v, K') := by cases e <;> simp only [leave] at h4 <;> first | exact h4 | cases h4
          unfold closeCall at hc
          obtain ⟨K2, h5, h6⟩ := bind_some.1 hc
          obtain ⟨vs, _, h7⟩ := bind_some.1 h6
          cases h7
          exact (shut_kle h5 k1.wf).next
        exact hf.part key
      · have hc : closeCall P fn s = some (v, K') := by cases e <;> simp only [leave] at h4 <;> first | exact h4 | cases h4
        have key : ∀ (η' : Env) (a' : Act) (w' : World), Step P η K w η' s.K w' → TRel η' fn.ntmps s.tm a'.tmps → MRel η' s.marks a'.defers → LeavesInM (FW none) 0 P fn a'.tmps (Ends P η K w v K') a'.defers .returning w' := by
          intro η' a' w' hs ht hm
          unfold closeCall at hc
          obtain ⟨K2, h5, h6⟩ := bind_some.1 hc
          obtain ⟨vs, h7, h8⟩ := bind_some.1 h6
          cases h8
          refine shut_ok h5 hs.desc k1.wf hm fun w2 hs2 => ?_
          obtain ⟨v', r1, r2⟩ := results_ok (P := P) hs2.desc ht h7
          exact ⟨v', r1, η', hs.trans P hs2 k1 (shut_kle h5 k1.wf) hf, r2⟩
        intro η' a' w' hs ht hm
        cases e <;> simp only [leave] at h4
        · exact key η' a' w' hs ht hm
        · cases h4
        · exact key η' a' w' hs ht hm

/-! ### Rounds -/
theorem putAll_ok {η : Env} {nt : Nat} : ∀ {ts : List Tmp} {vs vs' : List Value} {tm tm' : T Value} {arr : Array Value}, putAll nt ts vs tm = some tm' → TRel η nt tm arr → LRel η vs vs' →
    vs'.length = ts.length ∧ TRel η nt tm' ((ts.zip vs').foldl (fun tmps p => tmps.setIfInBounds p.1 p.2) arr)
  | [], [], vs', tm, tm', arr, h, ht, hr => by cases hr; cases h; exact ⟨rfl, ht⟩
  | [], _ :: _, vs', tm, tm', arr, h, ht, hr => by cases h
  | t :: ts, [], vs', tm, tm', arr, h, ht, hr => by cases h
  | t :: ts, v :: vs, vs', tm, tm', arr, h, ht, hr => by
    cases hr with | cons hv hr =>
    rename_i v' vs'
    simp only [putAll] at h
    obtain ⟨tm1, h1, h2⟩ := bind_some.1 h
    unfold put at h1
    obtain ⟨hg, h3⟩ := guardO_some.1 h1
    cases h3
    simp only [Bool.and_eq_true] at hg
    have hlt := blt_tt.1 hg.1
    have hlt2 := blt_tt.1 hg.2
    have ht1 : TRel η nt (tm.put t v) (arr.setIfInBounds t v') := ⟨by simp [ht.1], fun u x hx => by
      rw [T.get_put _ _ _ _ (Nat.lt_trans hlt2 cap40_lt)] at hx
      split at hx
      · rename_i he; subst he; cases hx
        exact ⟨v', by simp [ht.1, hlt], hv⟩
      · rename_i he
        obtain ⟨x', a, r⟩ := ht.2 u x hx
        exact ⟨x', by simp [Ne.symm he, a], r⟩⟩
    obtain ⟨a, b⟩ := putAll_ok h2 ht1 hr
    exact ⟨by simp [a], by simpa using b⟩

/-- The record of a range over a function, in the machine. -/
theorem loop_obj {η : Env} {K : AHeap} {w : World} (hd : Desc P η K w) {l : Nat} {L : Loc} {r : LoopState × Option Code × Lp} (hL : η l = some L) (h : K.lp l = some r) :
    ∃ lp : Loop, w.heap[L.blk]? = some (.loop lp) ∧ lp.state = r.1 ∧ lp.pending = r.2.1 ∧ lp.params = r.2.2.params.toArray ∧ lp.assign = r.2.2.assign ∧ lp.body = r.2.2.body ∧
      TRel η r.2.2.nt r.2.2.tm lp.tmps ∧ ∃ Ld, η r.2.2.defers = some Ld ∧ lp.defers = Ld.blk := hd.obj l L _ hL (lp_obj h)

/-- The record's state and jump are written. -/
theorem loop_set {η : Env} {K K' : AHeap} {w : World} (hd : Desc P η K w) (hw : WF K) {l : Nat} {L : Loc} {r : LoopState × Option Code × Lp} (hL : η l = some L) (h : K.lp l = some r) {st : LoopState} {p : Option Code}
    (hs : K.set? l (r.2.2.obj st p) = some K') {lp : Loop} (hlp : w.heap[L.blk]? = some (.loop lp)) : ∃ w', w' = w.putObj L.blk (.loop { lp with state := st, pending := p }) ∧ Step P η K w η K' w' := by
  obtain ⟨lp', e1, e2, e3, e4, e5, e6, e7, Ld, e8, e9⟩ := loop_obj hd hL h
  rw [hlp] at e1; cases e1
  obtain ⟨w', r1, r2⟩ := setObj_step (P := P) (ob := .loop { lp with state := st, pending := p }) hd hw hL (lp_obj h) (lp_ne_dead _ _ _) hs hlp (by simp) (fun w' hw' => ⟨_, hw', rfl, rfl, e4, e5, e6, e7, Ld, e8, e9⟩)
  refine ⟨w', ?_, r2⟩
  rw [run_setObj_loop _ hlp] at r1
  cases r1; rfl

theorem round_ok (hih : IhOk P n ih) (hik : IhKle ih) {l : Nat} {args args' : List Value} {η : Env} {K K' : AHeap} {w : World} {v : Value} {L : Loc} (h : evRound ih l args K = some (v, K'))
    (hL : η l = some L) (hd : Desc P η K w) (hw : WF K) (hf : Fresh η K K') (hr : LRel η args args') : NextOk P η K w ((Instr.yield L.blk args'.toArray).run P w) v K' := by
  have hkw := evRound_kle hik h hw
  unfold evRound at h
  obtain ⟨r, h1, h2⟩ := bind_some.1 h
  obtain ⟨hg, h3⟩ := guardO_some.1 h2
  obtain ⟨tm, h4, h5⟩ := bind_some.1 h3
  obtain ⟨⟨e, s⟩, h6, h7⟩ := bind_some.1 h5
  clear h h2 h3 h5
  cases e <;> simp only [roundBody] at h7 <;> try (cases h7; done)
  obtain ⟨r2, h8, h9⟩ := bind_some.1 h7
  obtain ⟨hg2, h10⟩ := guardO_some.1 h9
  obtain ⟨K2, h11, h12⟩ := bind_some.1 h10
  obtain ⟨⟨e2, s2⟩, h13, h14⟩ := bind_some.1 h12
  unfold roundEnd at h14
  obtain ⟨r3, h15, h16⟩ := bind_some.1 h14
  obtain ⟨hg3, h17⟩ := guardO_some.1 h16
  clear h7 h9 h10 h12 h14 h16
  obtain ⟨lp, e1, e2', e3, e4, e5, e6, e7, Ld, e8, e9⟩ := loop_obj hd hL h1
  obtain ⟨q1, q2⟩ := putAll_ok h4 e7 hr
  have k1 := hik _ _ _ _ _ _ h6 hw
  have k2 := set_kle h11 k1.wf (lp_obj h8) (lp_ne_dead _ _ _)
  have k3 := hik _ _ _ _ _ _ h13 k2.wf
  have hend : ∃ st p b K4, s2.K.set? l (r3.2.2.obj st p) = some K4 ∧ K4 = K' ∧ v = .bool b ∧ st = (if p.isNone then .ready else .done) ∧ b = p.isNone ∧ (match e2 with | .normal => none | .ret => some .ret | .exit id => some (.exit id) : Option Code) = p := by
    cases e2 <;> simp only [endRound] at h17 <;> obtain ⟨K4, h18, h19⟩ := map_some.1 h17 <;> cases h19
    · exact ⟨_, _, _, K', h18, rfl, rfl, rfl, rfl, rfl⟩
    · exact ⟨_, _, _, K', h18, rfl, rfl, rfl, rfl, rfl⟩
    · exact ⟨_, _, _, K', h18, rfl, rfl, rfl, rfl, rfl⟩
  obtain ⟨st, p, b, K4, hs4, rfl, rfl, hst, hbp, hep⟩ := hend
  have k4 := set_kle hs4 k3.wf (lp_obj h15) (lp_ne_dead _ _ _)
  refine .inr (.inr ⟨L.blk, lp.fn, _, lp.assign, lp.body, run_yield e1 (by rw [e4]; simp [q1]), ?_⟩)
  have htmps : (lp.params.zip args'.toArray).foldl (fun tmps (x : Tmp × Value) => tmps.setIfInBounds x.1 x.2) lp.tmps = (r.2.2.params.zip args').foldl (fun tmps p => tmps.setIfInBounds p.1 p.2) lp.tmps := by
    rw [e4]; simp
  rw [e5, e6]
  refine roundIn_of_wpIn trivial ?_
  have hfr1 : Fresh η K s.K := hf.part (Nat.le_trans k2.next (Nat.le_trans k3.next k4.next))
  refine (hih _ _ _ _ _ _ h6 η w { tmps := _, defers := [] } (some L.blk) hd hw (by
      have := q2
      rw [← htmps] at this
      exact this) .nil hfr1 ⟨L, hL, rfl⟩ _ ?_).wp
  intro η1 a1 w1 hs1 ht1 hm1
  have hL1 := hs1.ext l L hL
  obtain ⟨lp1, f1, f2, f3, f4, f5, f6, f7, _⟩ := loop_obj hs1.desc hL1 h8
  simp only [Bool.and_eq_true] at hg2
  have hready : lp1.state = .ready := by
    rw [f2]
    have := hg2.1
    unfold isReady at this
    split at this
    · assumption
    · cases this
  have hpend : lp1.pending = none := by rw [f3]; simpa using hg2.2
  obtain ⟨w2, hw2, hs2⟩ := loop_set hs1.desc k1.wf hL1 h8 h11 f1
  refine ⟨w2, by rw [run_beginRound f1 hready, hw2]; congr 3; rw [← hpend], ?_⟩
  have hs12 := hs1.trans P hs2 k1 k2 (hf.part (Nat.le_trans k3.next k4.next))
  have hf2 : Fresh η1 K2 s2.K := (hf.rest hs12 (k1.trans k2).next).part k4.next
  refine (hih _ _ _ _ _ _ h13 η1 w2 a1 (some L.blk) hs2.desc k2.wf ht1 hm1 hf2 ⟨L, hL1, rfl⟩ _ ?_).wp
  · intro η3 a3 w3 hs3 ht3 hm3
    have hL3 := hs3.ext l L hL1
    obtain ⟨lp3, g1, g2, g3, g4, g5, g6, g7, _⟩ := loop_obj hs3.desc hL3 h15
    obtain ⟨w4, hw4, hs4'⟩ := loop_set hs3.desc k3.wf hL3 h15 hs4 g1
    have hall : Step P η K w η3 K4 w4 := (hs12.trans P hs3 (k1.trans k2) k3 (hf.part k4.next)).trans P hs4' ((k1.trans k2).trans k3) k4 hf
    have hend : (Instr.endRound L.blk p).run P w3 = .ok (.bool b) w4 := by
      rw [run_endRound p g1, hw4, hbp, hst]
    have fin : ∃ v' w', (Instr.endRound L.blk p).run P w3 = .ok v' w' ∧ Ends P η K w (.bool b) K4 (.returned v') w' := ⟨_, w4, hend, η3, hall, .bool _⟩
    cases e2 <;> subst hep <;> exact fin

/-! ### One operation, its call done -/
theorem oper_ok (hX : XOk P X) (hXk : XKle X) (hih : IhOk P n ih) (hik : IhKle ih) (hng : NoNum P) {η : Env} {K K' : AHeap} {w : World} {v : Value} {tm : T Value} {a : Act} {o : Oper} (h : evOper P X ih tm K o.op = some (v, K'))
    (hd : Desc P η K w) (hw : WF K) (ht : ∀ x ∈ o.op.operands, OpRel P η tm a x) (hf : Fresh η K K') : NextOk P η K w ((execOp a.eval o).run P w) v K' := by
  unfold evOper at h
  obtain ⟨⟨r, K1⟩, h1, h2⟩ := bind_some.1 h
  have k1 := evOp_kle h1 hw
  cases r with
  | val u =>
    simp only [evRes] at h2
    cases h2
    obtain ⟨nx, v', w', η', r1, r2, r3, r4⟩ := op_ok hd hw ht h1 hf
    exact .inl ⟨nx, v', w', η', r1, r2, r3, r4⟩
  | enter f args =>
    simp only [evRes] at h2
    have k2 := evCall_kle hXk hik h2 k1.wf
    obtain ⟨rfl, args', r1, r2⟩ := op_ok hd hw ht h1 (hf.part k2.next)
    rw [r2]
    exact call_ok hX hXk hih hik hng h2 hd hw hf r1
  | round l args =>
    simp only [evRes] at h2
    have k2 := evRound_kle hik h2 k1.wf
    obtain ⟨rfl, L, args', hL, r1, r2⟩ := op_ok hd hw ht h1 (hf.part k2.next)
    rw [r2]
    exact round_ok hih hik h2 hL hd hw hf r1

end
end Go.Ev

/- A region's operations, one by one, and in whatever order the region draws: what is kept. Conditions: none. -/
set_option linter.unusedVariables false
set_option linter.unusedSimpArgs false
set_option linter.unnecessarySimpa false
namespace Go.Ev
variable {P : Program}

/-! ### One ready operation -/
def seenBool : Option Value → Option Bool
  | some (.bool b) => some b
  | _ => none

theorem yielded_eq (ops : Array Oper) (tmps : Array Value) (j : Nat) : yielded ops tmps j = seenBool (((ops[j]?).bind (·.dst)).bind (tmps[·]?)) := by
  unfold yielded
  cases ((ops[j]?).bind (·.dst)).bind (tmps[·]?) with
  | none => rfl
  | some v => cases v <;> rfl

theorem isWanted_ok {η : Env} {v v' : Value} {want b : Bool} (h : isWanted v want = some b) (hr : VRel η v v') : (seenBool (some v') == some want) = b := by
  cases v <;> simp only [isWanted] at h <;> try (cases h; done)
  · cases hr; cases h; simp [seenBool]
  · cases hr; cases h; simp [seenBool]

/-- The temporary of a guard, in the machine. -/
def GuardRel (η : Env) (tm : T Value) (a : Act) (g : Option (Option Tmp × Bool)) : Prop := ∀ d want, g = some (some d, want) → ∀ v, tm.get d = some v → ∃ v', a.tmps[d]? = some v' ∧ VRel η v v'

theorem wanted_ok {η : Env} {tm : T Value} {a : Act} {ops : Array Oper} {o : Oper} {b : Bool} (h : aWanted (guardOf ops.toList o) tm = some b) (hg : GuardRel η tm a (guardOf ops.toList o)) : Region.wanted o (yielded ops a.tmps) = b := by
  unfold Region.wanted
  cases ho : o.guard with
  | none =>
    simp only [guardOf, ho, aWanted] at h
    cases h; rfl
  | some jw =>
    obtain ⟨j, want⟩ := jw
    simp only [guardOf, ho, aWanted] at h
    obtain ⟨v, h1, h2⟩ := bind_some.1 h
    obtain ⟨d, h3, h4⟩ := bind_some.1 h1
    obtain ⟨v', r1, r2⟩ := hg d want (by simp only [guardOf, ho, h3]) v h4
    have hj : ((ops[j]?).bind (·.dst)).bind (a.tmps[·]?) = some v' := by
      have : (ops[j]?).bind (·.dst) = some d := by simpa using h3
      rw [this]; exact r1
    simp only [yielded_eq, hj]
    exact isWanted_ok h2 r2

section
variable {X : Xt} {n : Nat} {ih : Ih}

theorem noDefer {tm : T Value} {K K' : AHeap} {op : Op} {v : Value} (h : evOper P X ih tm K op = some (v, K')) : ∀ c, op ≠ .defer c := by
  rintro c rfl
  simp [evOper, evOp] at h

/-- One operation of a region, walked. -/
theorem pop_wp (hX : XOk P X) (hXk : XKle X) (hih : IhOk P n ih) (hik : IhKle ih) (hng : NoNum P) {rb : Option Nat} {ops : Array Oper} {i : Nat} {o : Oper} (hi : ops[i]? = some o) {tm : T Value} {Kx Kx' : AHeap} {v : Value} {b : Bool} (hb : aWanted (guardOf ops.toList o) tm = some b)
    (h1 : b = true → evOper P X ih tm Kx o.op = some (v, Kx')) (h0 : b = false → v = undefV ∧ Kx' = Kx) {η : Env} {w : World} {a : Act} (hd : Desc P η Kx w) (hw : WF Kx) (hf : Fresh η Kx Kx')
    (ht : ∀ x ∈ o.op.operands, OpRel P η tm a x) (hg : GuardRel η tm a (guardOf ops.toList o)) {next : Act → World → Prop} {Q : Exit → Act → World → Prop}
    (hn : ∀ v' w' η', Step P η Kx w η' Kx' w' → VRel η' v v' → next (a.put o.dst v') w') : wpOpIn (FW rb) 0 P ops Q i next a w := by
  have hwd := wanted_ok hb hg
  unfold wpOpIn
  rw [hi]
  simp only [hwd]
  cases b with
  | true =>
    have h2 := h1 rfl
    exact wp_of_next (noDefer h2) (oper_ok hX hXk hih hik hng h2 hd hw ht hf) hn
  | false =>
    obtain ⟨rfl, rfl⟩ := h0 rfl
    exact ⟨fun _ _ => trivial, hn undef w η (Step.refl P hd) (.tuple .nil)⟩

/-! ### A run of ready operations, index by index -/
structure Trace (P : Program) (X : Xt) (ih : Ih) (nt : Nat) (ps : List POp) (tms : Nat → T Value) (Ks : Nat → AHeap) (vs : Nat → Value) : Prop where
  ev : ∀ k p, ps[k]? = some p → evPOp P X ih (tms k) (Ks k) p = some (vs k, Ks (k + 1))
  put : ∀ k p, ps[k]? = some p → Ev.put nt (tms k) p.dst (vs k) = some (tms (k + 1))

theorem trace_of : ∀ {nt : Nat} {ps : List POp} {tm tm' : T Value} {K K' : AHeap}, evOps P X ih nt ps tm K = some (tm', K') →
    ∃ tms Ks vs, Trace P X ih nt ps tms Ks vs ∧ tms 0 = tm ∧ Ks 0 = K ∧ tms ps.length = tm' ∧ Ks ps.length = K'
  | nt, [], tm, tm', K, K', h => by
    cases h
    exact ⟨fun _ => tm, fun _ => K, fun _ => undefV, ⟨fun k p h => by simp at h, fun k p h => by simp at h⟩, rfl, rfl, rfl, rfl⟩
  | nt, o :: ps, tm, tm', K, K', h => by
    simp only [evOps] at h
    obtain ⟨⟨v, K1⟩, h1, h2⟩ := bind_some.1 h
    obtain ⟨tm1, h3, h4⟩ := bind_some.1 h2
    obtain ⟨tms, Ks, vs, ht, e1, e2, e3, e4⟩ := trace_of h4
    refine ⟨fun k => match k with | 0 => tm | k + 1 => tms k, fun k => match k with | 0 => K | k + 1 => Ks k, fun k => match k with | 0 => v | k + 1 => vs k, ⟨fun k p hp => ?_, fun k p hp => ?_⟩, rfl, rfl, e3, e4⟩
    · cases k with
      | zero => simp at hp; subst hp; simp only [e2]; exact h1
      | succ k => exact ht.ev k p (by simpa using hp)
    · cases k with
      | zero => simp at hp; subst hp; simp only [e1]; exact h3
      | succ k => exact ht.put k p (by simpa using hp)

theorem put_get {nt : Nat} {tm tm' : T Value} {dst : Option Tmp} {v : Value} (h : Ev.put nt tm dst v = some tm') : (∀ t, tm'.get t = if dst = some t then some v else tm.get t) ∧ ∀ d, dst = some d → d < nt := by
  cases dst with
  | none => cases h; exact ⟨fun t => by simp, fun d hd => by cases hd⟩
  | some d =>
    obtain ⟨hg, h1⟩ := guardO_some.1 h
    cases h1
    simp only [Bool.and_eq_true] at hg
    have h1 := blt_tt.1 hg.1
    have h2 := blt_tt.1 hg.2
    refine ⟨fun t => ?_, fun d' hd => by cases hd; exact h1⟩
    rw [T.get_put _ _ _ _ (Nat.lt_trans h2 cap40_lt)]
    by_cases e : t = d
    · subst e; simp
    · rw [if_neg e, if_neg (by simpa using Ne.symm e)]

theorem act_put_get {a : Act} {dst : Option Tmp} {v : Value} (hlt : ∀ d, dst = some d → d < a.tmps.size) (t : Tmp) : (a.put dst v).tmps[t]? = if dst = some t then some v else a.tmps[t]? := by
  cases dst with
  | none => simp [Act.put]
  | some d =>
    have := hlt d rfl
    by_cases e : d = t
    · subst e; simp [Act.put, this]
    · simp [Act.put, e]

theorem act_put_size (a : Act) (dst : Option Tmp) (v : Value) : (a.put dst v).tmps.size = a.tmps.size := by cases dst <;> simp [Act.put]
theorem act_put_defers' (a : Act) (dst : Option Tmp) (v : Value) : (a.put dst v).defers = a.defers := by cases dst <;> simp [Act.put]

theorem pops_get (L : List Oper) (cl : Nat → Bool) (k : Nat) : (pops L cl)[k]? = (L[k]?).map fun o => { op := o.op, dst := o.dst, clean := cl k, guard := guardOf L o } := by
  simp only [pops, List.getElem?_map, List.getElem?_zipIdx]
  cases L[k]? <;> simp

theorem opRel_of {η : Env} {K : AHeap} {w : World} (hd : DescO P η K.obj w) {tm : T Value} {a : Act} {x : Operand} (h : ∀ t, x = .tmp t → ∀ v, tm.get t = some v → ∃ v', a.tmps[t]? = some v' ∧ VRel η v v') : OpRel P η tm a x := fun v hv => by
  cases x with
  | tmp t =>
    obtain ⟨v', h1, r⟩ := h t rfl v hv
    simp only [Act.eval, Array.getD_eq_getD_getElem?, h1, Option.getD_some]
    exact r
  | const u => exact opv_ok (nt := a.tmps.size) (tm := .e) hd ⟨rfl, fun t v h => by simp [T.get] at h⟩ hv
  | global g => exact opv_ok (nt := a.tmps.size) (tm := .e) hd ⟨rfl, fun t v h => by simp [T.get] at h⟩ hv
  | func f => exact opv_ok (nt := a.tmps.size) (tm := .e) hd ⟨rfl, fun t v h => by simp [T.get] at h⟩ hv

/-! ### In the order of the text -/
theorem seq_ok (hX : XOk P X) (hXk : XKle X) (hih : IhOk P n ih) (hik : IhKle ih) (hng : NoNum P) {rb : Option Nat} {ops : Array Oper} {nt : Nat} {Q : Exit → Act → World → Prop} {tms : Nat → T Value} {Ks : Nat → AHeap} {vs : Nat → Value}
    (htr : Trace P X ih nt (pops ops.toList fun _ => false) tms Ks vs) (hw0 : WF (Ks 0)) {η0 : Env} {w0 : World} {a0 : Act} (hf0 : Fresh η0 (Ks 0) (Ks ops.size))
    (hQ : ∀ η' a' w', Step P η0 (Ks 0) w0 η' (Ks ops.size) w' → TRel η' nt (tms ops.size) a'.tmps → a'.defers = a0.defers → Q .normal a' w') :
    ∀ d k, k + d = ops.size → ∀ η a w, Step P η0 (Ks 0) w0 η (Ks k) w → Kle (Ks 0) (Ks k) → TRel η nt (tms k) a.tmps → a.defers = a0.defers → wpOpsIn (FW rb) 0 P ops Q (List.range' k d) a w := by
  have hps : ∀ (k : Nat) (o : Oper), ops[k]? = some o → (pops ops.toList fun _ => false)[k]? = some ({ op := o.op, dst := o.dst, clean := false, guard := guardOf ops.toList o } : POp) := fun k o ho => by
    rw [pops_get]; simp [ho]
  have hkle : ∀ k, k < ops.size → WF (Ks k) → Kle (Ks k) (Ks (k + 1)) := fun k hk hw => by
    have ho : ops[k]? = some ops[k] := by simp [hk]
    exact evPOp_kle hXk hik (htr.ev k _ (hps k _ ho)) hw
  intro d
  induction d with
  | zero =>
    intro k hk η a w hs _ ht hdf
    have : k = ops.size := by omega
    subst this
    exact hQ η a w hs ht hdf
  | succ d ihd =>
    intro k hk η a w hs hk0 ht hdf
    have hlt : k < ops.size := by omega
    have ho : ops[k]? = some ops[k] := by simp [hlt]
    have hev := htr.ev k _ (hps k _ ho)
    have hput := htr.put k _ (hps k _ ho)
    unfold evPOp at hev
    obtain ⟨b, hb, hev1⟩ := bind_some.1 hev
    simp only at hb
    have hk1 := hkle k hlt hk0.wf
    have hrest : Kle (Ks (k + 1)) (Ks ops.size) := by
      have key : ∀ e j, j + e = ops.size → WF (Ks j) → Kle (Ks j) (Ks ops.size) := by
        intro e
        induction e with
        | zero => intro j hj hw; have : j = ops.size := by omega
                  subst this; exact Kle.refl hw
        | succ e ihe => intro j hj hw
                        have h1 := hkle j (by omega) hw
                        exact h1.trans (ihe (j + 1) (by omega) h1.wf)
      exact key d (k + 1) (by omega) hk1.wf
    rw [show List.range' k (d + 1) = k :: List.range' (k + 1) d from rfl, wpOpsIn_cons]
    have hfk : Fresh η (Ks k) (Ks (k + 1)) := (hf0.rest hs hk0.next).part hrest.next
    refine pop_wp (v := vs k) hX hXk hih hik hng ho hb (fun hbt => ?_) (fun hbf => ?_) hs.desc hk0.wf hfk (fun x hx => opRel_of hs.desc fun t ht' v hv => ht.2 t v hv) (fun d want _ v hv => ht.2 d v hv) ?_
    · subst hbt
      simp only [evOper1] at hev1
      exact hev1
    · subst hbf
      simp only [Option.some.injEq, Prod.mk.injEq] at hev1
      exact ⟨hev1.1.symm, hev1.2.symm⟩
    · intro v' w' η' hs' hv'
      obtain ⟨hg1, hg2⟩ := put_get hput
      refine ihd (k + 1) (by omega) η' _ w' (hs.trans P hs' hk0 hk1 (hf0.part hrest.next)) (hk0.trans hk1) ⟨by rw [act_put_size]; exact ht.1, fun t u hu => ?_⟩ (by rw [act_put_defers']; exact hdf)
      rw [act_put_get (fun d hd => by rw [ht.1]; exact hg2 d hd)]
      rw [hg1] at hu
      split
      · rename_i he
        rw [if_pos he] at hu
        cases hu
        exact ⟨v', rfl, hv'⟩
      · rename_i he
        rw [if_neg he] at hu
        obtain ⟨u', r1, r2⟩ := ht.2 t u hu
        exact ⟨u', r1, r2.ext hs'.ext⟩

end
end Go.Ev

/- A region that draws its order: what its plan tells of its operations; one operation over what is told of each name. Conditions: none. -/
set_option linter.unusedVariables false
set_option linter.unusedSimpArgs false
set_option linter.unnecessarySimpa false
namespace Go.Ev
variable {P : Program}

/-! ### Who stands before whom -/
def rowOf (o : Oper) (acc : List (List Nat)) : List Nat := (o.after.toList.filter (Region.binds .any)).flatMap fun e => e.on :: acc.getD e.on []

theorem befores_cons (o : Oper) (rest : List Oper) (acc : List (List Nat)) : befores (o :: rest) acc = befores rest (acc ++ [rowOf o acc]) := rfl

theorem befores_spec : ∀ (l : List Oper) (acc : List (List Nat)), (befores l acc).length = acc.length + l.length ∧ (∀ j, j < acc.length → (befores l acc).getD j [] = acc.getD j []) ∧
    ∀ (t : Nat) o, l[t]? = some o → ∀ i, i ∈ (befores l acc).getD (acc.length + t) [] → ∃ e ∈ o.after.toList, Region.binds .any e = true ∧ (i = e.on ∨ i ∈ (befores l acc).getD e.on [])
  | [], acc => ⟨by simp [befores], fun j _ => rfl, fun t o h => by simp at h⟩
  | o :: rest, acc => by
    obtain ⟨h1, h2, h3⟩ := befores_spec rest (acc ++ [rowOf o acc])
    rw [befores_cons]
    refine ⟨by rw [h1]; simp; omega, fun j hj => ?_, fun t o' ho i hi => ?_⟩
    · rw [h2 j (by simp; omega)]
      simp [List.getD_eq_getElem?_getD, List.getElem?_append_left hj]
    · cases t with
      | zero =>
        simp at ho; subst ho
        simp only [Nat.add_zero] at hi
        rw [h2 acc.length (by simp)] at hi
        simp only [List.getD_eq_getElem?_getD, List.getElem?_append_right (Nat.le_refl _), Nat.sub_self, List.getElem?_cons_zero, Option.getD_some] at hi
        unfold rowOf at hi
        obtain ⟨e, he, hie⟩ := List.mem_flatMap.1 hi
        obtain ⟨he1, he2⟩ := List.mem_filter.1 he
        refine ⟨e, he1, he2, ?_⟩
        rcases List.mem_cons.1 hie with rfl | hie
        · exact .inl rfl
        · right
          by_cases hlt : e.on < acc.length
          · rw [h2 e.on (by simp; omega)]
            simpa [List.getD_eq_getElem?_getD, List.getElem?_append_left hlt] using hie
          · simp [List.getD_eq_getElem?_getD, List.getElem?_eq_none (show acc.length ≤ e.on by omega)] at hie
      | succ t =>
        refine h3 t o' (by simpa using ho) i ?_
        have : (acc ++ [rowOf o acc]).length + t = acc.length + (t + 1) := by simp; omega
        rw [this]; exact hi

theorem zipIdx_all {α : Type} {l : List α} {p : α × Nat → Bool} (h : l.zipIdx.all p = true) {i : Nat} {x : α} (hx : l[i]? = some x) : p (x, i) = true := by
  rw [List.all_eq_true] at h
  refine h (x, i) ?_
  rw [List.mem_iff_getElem?]
  exact ⟨i, by simp [List.getElem?_zipIdx, hx]⟩

theorem zipIdx_any {α : Type} {l : List α} {p : α × Nat → Bool} (h : l.zipIdx.any p = false) {i : Nat} {x : α} (hx : l[i]? = some x) : p (x, i) = false := by
  rw [List.any_eq_false] at h
  have := h (x, i) (by
    rw [List.mem_iff_getElem?]
    exact ⟨i, by simp [List.getElem?_zipIdx, hx]⟩)
  simpa using this

section
variable {ops : List Oper} (hE : edgesOk ops = true) (hP : pairsOk ops (befores ops []) = true)

theorem edge_lt {ops : List Oper} (hE : edgesOk ops = true) {j : Nat} {o : Oper} (ho : ops[j]? = some o) {e : Edge} (he : e ∈ o.after.toList) (hb : Region.binds .any e = true) : e.on < j := by
  have := zipIdx_all hE ho
  have h0 := (Bool.and_eq_true_iff.1 this).1
  rw [List.all_eq_true] at h0
  have h := h0 e he
  rw [hb] at h
  simpa using h

theorem before_lt {ops : List Oper} (hE : edgesOk ops = true) : ∀ (j i : Nat), i ∈ (befores ops []).getD j [] → i < j := by
  intro j
  induction j using Nat.strongRecOn with
  | _ j ih =>
    intro i hi
    obtain ⟨h1, _, h3⟩ := befores_spec ops []
    by_cases hj : j < ops.length
    · have ho : ops[j]? = some ops[j] := by simp [hj]
      obtain ⟨e, he, hb, hie⟩ := h3 j ops[j] ho i (by simpa using hi)
      have hlt := edge_lt hE ho he hb
      rcases hie with rfl | hie
      · exact hlt
      · exact Nat.lt_trans (ih e.on hlt i hie) hlt
    · rw [List.getD_eq_getElem?_getD, List.getElem?_eq_none (by rw [h1]; simp; omega)] at hi
      simp at hi

theorem before_edge {ops : List Oper} {j : Nat} {o : Oper} (ho : ops[j]? = some o) {i : Nat} (hi : i ∈ (befores ops []).getD j []) : ∃ e ∈ o.after.toList, Region.binds .any e = true ∧ (i = e.on ∨ i ∈ (befores ops []).getD e.on []) := by
  obtain ⟨_, _, h3⟩ := befores_spec ops []
  exact h3 j o ho i (by simpa using hi)

theorem apart_of {ops : List Oper} (hP : pairsOk ops (befores ops []) = true) {i j : Nat} {a b : Oper} (ha : ops[i]? = some a) (hb : ops[j]? = some b) (hlt : i < j) (hn : i ∉ (befores ops []).getD j []) : apart ops a b = true := by
  unfold pairsOk at hP
  rw [List.all_eq_true] at hP
  have hj : j < ops.length := (List.getElem?_eq_some_iff.1 hb).1
  have h1 := hP j (List.mem_range.2 hj)
  rw [List.all_eq_true] at h1
  have h2 := h1 i (List.mem_range.2 hlt)
  unfold pairOk at h2
  rw [ha, hb] at h2
  rcases Bool.or_eq_true_iff.1 h2 with h3 | h3
  · exact absurd (by simpa using h3) hn
  · exact h3

theorem apart_tmps {ops : List Oper} {a b : Oper} (h : apart ops a b = true) : (∀ d, a.dst = some d → d ∉ tmpsOf ops b) ∧ (∀ d, b.dst = some d → d ∉ tmpsOf ops a) := by
  unfold apart at h
  simp only [Bool.and_eq_true] at h
  refine ⟨fun d hd => ?_, fun d hd => ?_⟩
  · have := h.1.1; rw [hd] at this; simpa [noTmp] using this
  · have := h.1.2; rw [hd] at this; simpa [noTmp] using this

theorem apart_kind {ops : List Oper} {a b : Oper} (h : apart ops a b = true) : ¬ (2 ≤ kindOf a.op ∧ 2 ≤ kindOf b.op ∧ (kindOf a.op = 3 ∨ kindOf b.op = 3)) := by
  unfold apart at h
  simp only [Bool.and_eq_true] at h
  have h3 := h.2
  rintro ⟨h4, h5, h6⟩
  rw [show decide (2 ≤ kindOf a.op) = true from decide_eq_true h4, show decide (2 ≤ kindOf b.op) = true from decide_eq_true h5] at h3
  rcases h6 with h6 | h6 <;> rw [h6] at h3 <;> simp at h3

theorem kind_le (op : Op) : kindOf op ≤ 4 := by
  cases op <;> simp only [kindOf] <;> try omega
  rename_i c
  obtain ⟨cl, ca, ct⟩ := c
  cases cl with
  | builtin b => cases b <;> simp
  | value f => simp
  | invoke x n => simp

/-- A dirty operation and one that may come before it or behind it: that one reads nothing of memory. -/
theorem dirty_beside {ops : List Oper} (hP : pairsOk ops (befores ops []) = true) {i j : Nat} {a b : Oper} (ha : ops[i]? = some a) (hb : ops[j]? = some b) (hne : i ≠ j) (hd : cleanFlag ops (befores ops []) i = false)
    (h1 : i ∉ (befores ops []).getD j []) (h2 : j ∉ (befores ops []).getD i []) : kindOf b.op ≤ 1 := by
  unfold cleanFlag at hd
  rw [ha] at hd
  simp only [Bool.or_eq_false_iff] at hd
  have hk : ¬ kindOf a.op ≤ 2 := fun e => by have := Nat.ble_eq_true_of_le e; rw [this] at hd; cases hd.1
  have hk4 := kind_le a.op
  by_cases h3 : kindOf a.op = 3
  · have hap : ¬ (2 ≤ kindOf a.op ∧ 2 ≤ kindOf b.op ∧ (kindOf a.op = 3 ∨ kindOf b.op = 3)) := by
      rcases Nat.lt_or_ge i j with hlt | hge
      · exact apart_kind (apart_of hP ha hb hlt h1)
      · have := apart_kind (apart_of hP hb ha (by omega) h2)
        rintro ⟨x, y, z⟩
        exact this ⟨y, x, z.symm⟩
    by_cases hb2 : kindOf b.op ≤ 1
    · exact hb2
    · exact absurd ⟨by omega, by omega, .inl h3⟩ hap
  · have h4 : kindOf a.op = 4 := by omega
    have has := hd.2
    unfold asksClean at has
    rw [ha] at has
    simp only [h4, beq_self_eq_true, Bool.true_and] at has
    have := zipIdx_any has hb
    simp only [Bool.and_eq_false_iff, bne_eq_false_iff_eq, decide_eq_false_iff_not, Bool.not_eq_false'] at this
    rcases this with ((h5 | h5) | h5) | h5
    · exact absurd h5.symm hne
    · omega
    · exact absurd (by simpa using h5) h1
    · exact absurd (by simpa using h5) h2
end

/-! ### One operation, over what is told of each name -/
theorem exec_desc {η η' : Env} {ob ob' : Nat → Option AObj} {w w' : World} {Kx Kx' : AHeap} (hd : DescO P η ob w) (hv : ∀ n L, η n = some L → Kx.obj n = none ∨ Kx.obj n = ob n) (hs : Step P η Kx w η' Kx' w') (hk : Kle Kx Kx') (hf : Fresh η Kx Kx')
    (hnew : ∀ n, Kx.next ≤ n → n < Kx'.next → ob' n = Kx'.obj n) (hold : ∀ n L, η n = some L → ¬ (Kx.next ≤ n ∧ n < Kx'.next) → (Kx.obj n = none ∧ ob' n = ob n) ∨ ob' n = Kx'.obj n) : DescO P η' ob' w' := by
  -- a name is told of by the operation; or it is foreign to it
  have cls : ∀ n L, η' n = some L → ob' n = Kx'.obj n ∨ (η n = some L ∧ Kx.obj n = none ∧ ob' n = ob n) := fun n L hn => by
    rcases hs.dom n L hn with h1 | h1
    · by_cases hr : Kx.next ≤ n ∧ n < Kx'.next
      · exact .inl (hnew n hr.1 hr.2)
      · rcases hold n L h1 hr with h2 | h2
        · exact .inr ⟨h1, h2.1, h2.2⟩
        · exact .inl h2
    · exact .inl (hnew n h1.1 h1.2)
  have mixed : ∀ p q Lp Lq, η' p = some Lp → ob' p = Kx'.obj p → η q = some Lq → Kx.obj q = none → ob' q = ob q → Lp.blk = Lq.blk → p ≠ q → Off (ob' p) ∨ Off (ob' q) := by
    intro p q Lp Lq hp hop hq hxq hoq hb hne
    rw [hop, hoq]
    cases hp0 : η p with
    | some L0 =>
      have e := hs.ext p L0 hp0
      rw [hp] at e; cases e
      rcases hd.inj p q Lp Lq hp0 hq hb hne with h1 | h1
      · left
        have hoff : Off (Kx.obj p) := by
          rcases hv p Lp hp0 with h2 | h2
          · rw [h2]; exact Off.none
          · rw [h2]; exact h1
        rcases hf p Lp hp0 with h3 | h3
        · rcases hoff.cases with h4 | h4
          · rw [hk.none p h3 h4]; exact Off.none
          · rw [hk.dead p h3 h4]; exact Off.dead
        · rw [hk.wf p h3]; exact Off.none
      · exact .inr h1
    | none =>
      rcases hs.new p Lp hp0 hp with h1 | ⟨m, Lm, o, hm, hmb, hmo, hmd⟩
      · have := hd.inb q Lq hq; omega
      · right
        have hmq : m ≠ q := by rintro rfl; rw [hxq] at hmo; cases hmo
        rcases hd.inj m q Lm Lq hm hq (hmb.trans hb) hmq with h2 | h2
        · rcases hv m Lm hm with h3 | h3
          · rw [h3] at hmo; cases hmo
          · rw [h3] at hmo; exact absurd (h2 o hmo) hmd
        · exact h2
  refine ⟨hs.desc.glob, hs.desc.inb, fun p q Lp Lq hp hq hb hne => ?_, fun p L o hp ho => ?_⟩
  · rcases cls p Lp hp with h1 | ⟨h1, h2, h3⟩
    · rcases cls q Lq hq with g1 | ⟨g1, g2, g3⟩
      · rw [h1, g1]; exact hs.desc.inj p q Lp Lq hp hq hb hne
      · exact mixed p q Lp Lq hp h1 g1 g2 g3 hb hne
    · rcases cls q Lq hq with g1 | ⟨g1, g2, g3⟩
      · exact (mixed q p Lq Lp hq g1 h1 h2 h3 hb.symm (Ne.symm hne)).symm
      · rw [h3, g3]; exact hd.inj p q Lp Lq h1 g1 hb hne
  · rcases cls p L hp with h1 | ⟨h1, h2, h3⟩
    · rw [h1] at ho; exact hs.desc.obj p L o hp ho
    · rw [h3] at ho
      by_cases hdead : o = .dead
      · subst hdead; trivial
      · refine ((hd.obj p L o h1 ho).ext P hs.ext).block P (hs.frm L.blk (hd.inb p L h1) fun q Lq hq hb => ?_)
        rcases hv q Lq hq with h4 | h4
        · exact .inl h4
        · by_cases hpq : q = p
          · subst hpq; exact .inl h2
          · rcases hd.inj q p Lq L hq h1 hb hpq with h5 | h5
            · rw [h4]
              rcases h5.cases with h6 | h6
              · exact .inl h6
              · exact .inr (.inl h6)
            · exact absurd (h5 o ho) hdead

end Go.Ev

/- A region that draws its order, whatever order it draws. Conditions: none. -/
set_option linter.unusedVariables false
set_option linter.unusedSimpArgs false
set_option linter.unnecessarySimpa false
namespace Go.Ev
variable {P : Program}

section
variable {X : Xt} {n : Nat} {ih : Ih}

theorem oper1_at {p : POp} {tm : T Value} {K K1 : AHeap} {v : Value} (h : evOper1 P X ih tm K p = some (v, K1)) :
    ∃ Kc K2, evOper P X ih tm Kc p.op = some (v, K2) ∧ Kc.next = K.next ∧ (∀ n, Kc.obj n = K.obj n) ∧ K2.next = K1.next ∧ (∀ n, K2.obj n = K1.obj n) ∧ K1.low ≤ K2.low := by
  unfold evOper1 at h
  split at h
  · exact ⟨K, K1, h, rfl, fun _ => rfl, rfl, fun _ => rfl, Nat.le_refl _⟩
  · obtain ⟨⟨u, K2⟩, h1, h2⟩ := bind_some.1 h
    unfold cleanly at h2
    obtain ⟨_, h3⟩ := guardO_some.1 h2
    cases h3
    exact ⟨_, K2, h1, rfl, fun _ => rfl, rfl, fun _ => rfl, Nat.min_le_right _ _⟩

def blankK (K : AHeap) : AHeap := { t := .e, next := K.next, low := K.next }
theorem blankK_obj (K : AHeap) (n : Nat) : (blankK K).obj n = none := rfl
theorem blankK_wf (K : AHeap) : WF (blankK K) := fun _ _ => rfl

/-- Where an operation of a drawn region is run. -/
theorem pop_at (hXk : XKle X) (hik : IhKle ih) {p : POp} {tm : T Value} {K K1 : AHeap} {v : Value} (h : evPOp P X ih tm K p = some (v, K1)) (hw : WF K) :
    ∃ Kx Kx' b, aWanted p.guard tm = some b ∧ (b = true → evOper P X ih tm Kx p.op = some (v, Kx')) ∧ (b = false → v = undefV ∧ Kx' = Kx) ∧ WF Kx ∧ Kle Kx Kx' ∧ Kx.next = K.next ∧ Kx'.next = K1.next ∧
      (kindOf p.op ≤ 1 → ∀ n, Kx.obj n = none) ∧ (2 ≤ kindOf p.op → (∀ n, Kx.obj n = K.obj n) ∧ (∀ n, Kx'.obj n = K1.obj n) ∧ K1.low ≤ Kx'.low) ∧ ∀ n, K.next ≤ n → Kx'.obj n = K1.obj n := by
  unfold evPOp at h
  obtain ⟨b, hb, h1⟩ := bind_some.1 h
  cases b with
  | false =>
    simp only [Option.some.injEq, Prod.mk.injEq] at h1
    obtain ⟨rfl, rfl⟩ := h1
    by_cases hk : kindOf p.op ≤ 1
    · exact ⟨blankK K, blankK K, false, hb, fun e => (by cases e), fun _ => ⟨rfl, rfl⟩, blankK_wf K, Kle.refl (blankK_wf K), rfl, rfl, fun _ n => rfl, fun h2 => absurd hk (by omega), fun n hn => (hw n hn).symm⟩
    · exact ⟨K, K, false, hb, fun e => (by cases e), fun _ => ⟨rfl, rfl⟩, hw, Kle.refl hw, rfl, rfl, fun h2 => absurd h2 hk, fun _ => ⟨fun _ => rfl, fun _ => rfl, Nat.le_refl _⟩, fun n hn => rfl⟩
  | true =>
    simp only at h1
    obtain ⟨Kc, K2, h2, h3, h4, h5, h6, h7⟩ := oper1_at h1
    have hwc : WF Kc := fun n hn => by rw [h4]; exact hw n (by omega)
    by_cases hk : kindOf p.op ≤ 1
    · unfold evOper at h2
      obtain ⟨⟨r, K3⟩, h8, h9⟩ := bind_some.1 h2
      obtain ⟨u, rfl⟩ := val_of_kind (by omega) h8
      simp only [evRes] at h9
      cases h9
      obtain ⟨K0', g1, g2, g3, g4⟩ := simple_ok (K0 := blankK K) hk ⟨by rw [h3]; rfl, fun n hn => (hwc n hn).symm⟩ h8
      refine ⟨blankK K, K0', true, hb, fun _ => ?_, fun e => (by cases e), blankK_wf K, evOp_kle g1 (blankK_wf K), rfl, by rw [g2, h5], fun _ n => rfl, fun h2 => absurd hk (by omega), fun n hn => by rw [g3 n (by omega), h6]⟩
      simp only [evOper, g1, Option.bind_some, evRes]
    · exact ⟨Kc, K2, true, hb, fun _ => h2, fun e => (by cases e), hwc, evOper_kle hXk hik h2 hwc, h3, h5, fun h8 => absurd h8 hk, fun _ => ⟨h4, h6, h7⟩, fun n hn => h6 n⟩

/-! ### The invariant -/
structure Rg where
  ops : Array Oper
  tms : Nat → T Value
  Ks : Nat → AHeap
  η0 : Env
  w0 : World
  a0 : Act
  nt : Nat

def Rg.bs (G : Rg) : List (List Nat) := befores G.ops.toList []
def Rg.m (G : Rg) : Nat := G.ops.size
def Rg.D (G : Rg) (i : Nat) : Prop := cleanFlag G.ops.toList G.bs i = false

def lst (listed : Array Bool) (i : Nat) : Prop := listed.getD i false = true

structure Inv (P : Program) (G : Rg) (listed : Array Bool) (η : Env) (a : Act) (w : World) (ob : Nat → Option AObj) : Prop where
  size : listed.size = G.m
  closed : ∀ j, lst listed j → ∀ i, i ∈ G.bs.getD j [] → lst listed i
  desc : DescO P η ob w
  ext : Ext G.η0 η
  dom : ∀ n L, η n = some L → G.η0 n = some L ∨ ∃ c, c < G.m ∧ lst listed c ∧ (G.Ks c).next ≤ n ∧ n < (G.Ks (c + 1)).next
  new : ∀ n L, G.η0 n = none → η n = some L → G.w0.heap.size ≤ L.blk ∨ ∃ p Lp o, G.η0 p = some Lp ∧ Lp.blk = L.blk ∧ (G.Ks 0).obj p = some o ∧ o ≠ .dead
  wsize : G.w0.heap.size ≤ w.heap.size
  frm : ∀ b, b < G.w0.heap.size → (∀ n L, G.η0 n = some L → L.blk = b → (G.Ks 0).obj n = none ∨ (G.Ks 0).obj n = some .dead ∨ n < (G.Ks G.m).low) → w.heap[b]? = G.w0.heap[b]?
  kept : ∀ d, d < G.m → lst listed d → G.D d → ∀ n, n < (G.Ks d).next → η n = none → (G.Ks (d + 1)).obj n = (G.Ks d).obj n
  view : ∀ n L, η n = some L → ∀ k, k ≤ G.m → n < (G.Ks k).next → (∀ i, i < G.m → G.D i → n < (G.Ks i).next → (lst listed i ↔ i < k)) → ob n = (G.Ks k).obj n
  tsize : a.tmps.size = G.nt
  tmps : ∀ t k, k ≤ G.m → (∀ (i : Nat) o, G.ops[i]? = some o → o.dst = some t → (lst listed i ↔ i < k)) → ∀ v, (G.tms k).get t = some v → ∃ v', a.tmps[t]? = some v' ∧ VRel η v v'
  defers : a.defers = G.a0.defers
  tape : w.tape = G.w0.tape
  os : w.os = G.w0.os
  output : w.output = G.w0.output

/-- What the evaluator's run of the region gives. -/
structure Rok (P : Program) (X : Xt) (ih : Ih) (G : Rg) (vs : Nat → Value) : Prop where
  tr : Trace P X ih G.nt (pops G.ops.toList (cleanFlag G.ops.toList G.bs)) G.tms G.Ks vs
  wf0 : WF (G.Ks 0)
  fresh : Fresh G.η0 (G.Ks 0) (G.Ks G.m)
  edges : edgesOk G.ops.toList = true
  pairs : pairsOk G.ops.toList G.bs = true

variable {G : Rg} {vs : Nat → Value}

theorem Rok.pop (R : Rok P X ih G vs) {k : Nat} {o : Oper} (ho : G.ops[k]? = some o) : evPOp P X ih (G.tms k) (G.Ks k) { op := o.op, dst := o.dst, clean := cleanFlag G.ops.toList G.bs k, guard := guardOf G.ops.toList o } = some (vs k, G.Ks (k + 1)) ∧ Ev.put G.nt (G.tms k) o.dst (vs k) = some (G.tms (k + 1)) := by
  have hp : (pops G.ops.toList (cleanFlag G.ops.toList G.bs))[k]? = some { op := o.op, dst := o.dst, clean := cleanFlag G.ops.toList G.bs k, guard := guardOf G.ops.toList o } := by rw [pops_get]; simp [ho]
  exact ⟨R.tr.ev k _ hp, R.tr.put k _ hp⟩

theorem Rok.op (R : Rok P X ih G vs) {k : Nat} (hk : k < G.m) : ∃ o, G.ops[k]? = some o := by
  have hk' : k < G.ops.size := hk
  exact ⟨G.ops[k], by simp [hk']⟩

theorem Rok.kle1 (hXk : XKle X) (hik : IhKle ih) (R : Rok P X ih G vs) {k : Nat} (hk : k < G.m) (hw : WF (G.Ks k)) : Kle (G.Ks k) (G.Ks (k + 1)) := by
  obtain ⟨o, ho⟩ := R.op hk
  exact evPOp_kle hXk hik (R.pop ho).1 hw

theorem Rok.kle (hXk : XKle X) (hik : IhKle ih) (R : Rok P X ih G vs) : ∀ d k, k + d ≤ G.m → WF (G.Ks k) → Kle (G.Ks k) (G.Ks (k + d))
  | 0, k, _, hw => Kle.refl hw
  | d + 1, k, hk, hw => by
    have h1 := R.kle1 hXk hik (show k < G.m by omega) hw
    have h2 := Rok.kle hXk hik R d (k + 1) (by omega) h1.wf
    have e : k + 1 + d = k + (d + 1) := by omega
    rw [e] at h2
    exact h1.trans h2

theorem Rok.wf (hXk : XKle X) (hik : IhKle ih) (R : Rok P X ih G vs) {k : Nat} (hk : k ≤ G.m) : WF (G.Ks k) := by
  have := (R.kle hXk hik k 0 (by omega) R.wf0).wf
  simpa using this

theorem Rok.le (hXk : XKle X) (hik : IhKle ih) (R : Rok P X ih G vs) {i j : Nat} (hij : i ≤ j) (hj : j ≤ G.m) : Kle (G.Ks i) (G.Ks j) := by
  have := R.kle hXk hik (j - i) i (by omega) (R.wf hXk hik (by omega))
  have e : i + (j - i) = j := by omega
  rwa [e] at this

/-- A clean operation turns no name that was there. -/
theorem Rok.clean (hXk : XKle X) (hik : IhKle ih) (R : Rok P X ih G vs) {k : Nat} (hk : k < G.m) (hc : ¬ G.D k) {n : Nat} (hn : n < (G.Ks k).next) : (G.Ks (k + 1)).obj n = (G.Ks k).obj n := by
  obtain ⟨o, ho⟩ := R.op hk
  have h1 := (R.pop ho).1
  unfold evPOp at h1
  obtain ⟨b, _, h2⟩ := bind_some.1 h1
  cases b with
  | false => simp only [Option.some.injEq, Prod.mk.injEq] at h2; rw [← h2.2]
  | true =>
    simp only at h2
    refine (evOper1_kle hXk hik h2 (R.wf hXk hik (by omega))).2 ?_ n hn
    cases hcf : cleanFlag G.ops.toList G.bs k with
    | true => rfl
    | false => exact absurd hcf hc

theorem Rok.chain (hXk : XKle X) (hik : IhKle ih) (R : Rok P X ih G vs) {n : Nat} : ∀ d x, x + d ≤ G.m → n < (G.Ks x).next → (∀ i, x ≤ i → i < x + d → G.D i → (G.Ks (i + 1)).obj n = (G.Ks i).obj n) → (G.Ks (x + d)).obj n = (G.Ks x).obj n
  | 0, x, _, _, _ => rfl
  | d + 1, x, hx, hn, h => by
    have h1 : (G.Ks (x + 1)).obj n = (G.Ks x).obj n := by
      by_cases hd : G.D x
      · exact h x (by omega) (by omega) hd
      · exact R.clean hXk hik (by omega) hd hn
    have e : x + 1 + d = x + (d + 1) := by omega
    have h2 := Rok.chain hXk hik R d (x + 1) (by omega) (Nat.lt_of_lt_of_le hn (R.le hXk hik (Nat.le_succ x) (by omega)).next) (fun i h3 h4 hd => h i (by omega) (by omega) hd)
    rw [e] at h2
    rw [h2, h1]

/-- From one time to a later one: nothing between them turns the name. -/
theorem Rok.same (hXk : XKle X) (hik : IhKle ih) (R : Rok P X ih G vs) {n x y : Nat} (hxy : x ≤ y) (hy : y ≤ G.m) (hn : n < (G.Ks x).next) (h : ∀ i, x ≤ i → i < y → G.D i → (G.Ks (i + 1)).obj n = (G.Ks i).obj n) : (G.Ks y).obj n = (G.Ks x).obj n := by
  have := R.chain hXk hik (n := n) (y - x) x (by omega) hn (fun i h1 h2 => h i h1 (by omega))
  have e : x + (y - x) = y := by omega
  rwa [e] at this

theorem lst_set {listed : Array Bool} {j i : Nat} (hj : j < listed.size) : lst (listed.setIfInBounds j true) i ↔ i = j ∨ lst listed i := by
  unfold lst
  simp only [Array.getD_eq_getD_getElem?, Array.getElem?_setIfInBounds]
  by_cases e : j = i
  · subst e; simp [hj]
  · simp [e, Ne.symm e]

end
end Go.Ev

/- A region that draws its order: one more operation; and the region whole. Conditions: none. -/
set_option linter.unusedVariables false
set_option linter.unusedSimpArgs false
set_option linter.unnecessarySimpa false
namespace Go.Ev
variable {P : Program}

section
variable {X : Xt} {n : Nat} {ih : Ih} {G : Rg} {vs : Nat → Value}

theorem Rok.tsame (R : Rok P X ih G vs) {t : Tmp} : ∀ d x, x + d ≤ G.m → (∀ (i : Nat) o, G.ops[i]? = some o → x ≤ i → i < x + d → o.dst ≠ some t) → (G.tms (x + d)).get t = (G.tms x).get t
  | 0, x, _, _ => rfl
  | d + 1, x, hx, h => by
    obtain ⟨o, ho⟩ := R.op (show x < G.m by omega)
    have h1 := (put_get (R.pop ho).2).1 t
    rw [if_neg (h x o ho (Nat.le_refl _) (by omega))] at h1
    have h2 := Rok.tsame R d (x + 1) (by omega) (fun i o' ho' h3 h4 => h i o' ho' (by omega) (by omega))
    have e : x + 1 + d = x + (d + 1) := by omega
    rw [e] at h2
    rw [h2, h1]

/-- A ready operation's befores have been; and who is in doubt beside it reads nothing, if it is dirty. -/
theorem Inv.befores {listed : Array Bool} {η : Env} {a : Act} {w : World} {ob : Nat → Option AObj} (I : Inv P G listed η a w ob) {j : Nat} (hr : j ∈ Region.ready .any G.ops listed) : ¬ lst listed j ∧ j < listed.size ∧ ∀ i, i ∈ G.bs.getD j [] → lst listed i := by
  obtain ⟨h1, o, ho, h2⟩ := mem_ready.1 hr
  have hlt : j < listed.size := by
    by_cases h : j < listed.size
    · exact h
    · simp [Array.getD_eq_getD_getElem?, Array.getElem?_eq_none (Nat.le_of_not_lt h)] at h1
  refine ⟨fun h3 => ?_, hlt, fun i hi => ?_⟩
  · unfold lst at h3
    simp only [Array.getD_eq_getD_getElem?, Array.getElem?_eq_getElem hlt, Option.getD_some] at h1 h3
    rw [h1] at h3; cases h3
  · obtain ⟨e, he, hb, hie⟩ := before_edge (ops := G.ops.toList) (by simpa using ho) hi
    have hl := h2 e (by simpa using he) hb
    rcases hie with rfl | hie
    · exact hl
    · exact I.closed e.on hl i hie

theorem Inv.step (hX : XOk P X) (hXk : XKle X) (hih : IhOk P n ih) (hik : IhKle ih) (hng : NoNum P) (R : Rok P X ih G vs) {listed : Array Bool} {η : Env} {a : Act} {w : World} {ob : Nat → Option AObj} (I : Inv P G listed η a w ob)
    {j : Nat} (hr : j ∈ Region.ready .any G.ops listed) {rb : Option Nat} {Q : Exit → Act → World → Prop} :
    wpOpIn (FW rb) 0 P G.ops Q j (fun a' w' => ∃ η' ob', Inv P G (listed.setIfInBounds j true) η' a' w' ob') a w := by
  obtain ⟨hnj, hjl, hbef⟩ := I.befores hr
  obtain ⟨_, o, ho, _⟩ := mem_ready.1 hr
  have hjm : j < G.m := by rw [← I.size]; exact hjl
  have hoL : G.ops.toList[j]? = some o := by simpa using ho
  obtain ⟨hev, hput⟩ := R.pop ho
  have hwj := R.wf hXk hik (Nat.le_of_lt hjm)
  obtain ⟨Kx, Kx', b, hb, h1, h0, hwx, hkx, hnx, hnx', hlow, hhigh, hge⟩ := pop_at hXk hik hev hwj
  simp only at hlow hhigh h1 hb
  -- who is not listed and stands before it in the text, or is listed and stands behind it: apart from it
  have un : ∀ i oi, G.ops[i]? = some oi → i < j → ¬ lst listed i → i ∉ G.bs.getD j [] := fun i oi _ _ hni hm => hni (hbef i hm)
  have un2 : ∀ i, lst listed i → j ∉ G.bs.getD i [] := fun i hi hm => hnj (I.closed i hi j hm)
  have lo : ∀ i k, i ∈ G.bs.getD k [] → i < k := fun i k h => before_lt R.edges k i h
  have imL : ∀ i, i < G.m → ∃ oi, G.ops[i]? = some oi ∧ G.ops.toList[i]? = some oi := fun i hi => by
    obtain ⟨oi, h⟩ := R.op hi
    exact ⟨oi, h, by simpa using h⟩
  -- the temporaries that it looks at, or writes
  have wr : ∀ i oi t, G.ops[i]? = some oi → i ≠ j → oi.dst = some t → t ∈ tmpsOf G.ops.toList o → (lst listed i ↔ i < j) := by
    intro i oi t hi hne hd ht
    rcases Nat.lt_or_ge i j with hlt | hge
    · refine ⟨fun _ => hlt, fun _ => Classical.byContradiction fun hni => ?_⟩
      exact (apart_tmps (apart_of R.pairs (by simpa using hi) hoL hlt (un i oi hi hlt hni))).1 t hd ht
    · refine ⟨fun hl => ?_, fun h => by omega⟩
      exact absurd ht ((apart_tmps (apart_of R.pairs hoL (by simpa using hi) (by omega) (un2 i hl))).2 t hd)
  have look : ∀ t, t ∈ looks G.ops.toList o → ∀ v, (G.tms j).get t = some v → ∃ v', a.tmps[t]? = some v' ∧ VRel η v v' := fun t ht v hv =>
    I.tmps t j (by omega) (fun i oi hi hd => by
      by_cases e : i = j
      · subst e; exact ⟨fun h => absurd h hnj, fun h => by omega⟩
      · exact wr i oi t hi e hd (List.mem_append_right _ ht)) v hv
  -- the heap that it sees
  have dirtyOrd : 2 ≤ kindOf o.op → ∀ i, i < G.m → G.D i → i ≠ j → (lst listed i ↔ i < j) := by
    intro hk i hi hd hne
    obtain ⟨oi, hoi, hoiL⟩ := imL i hi
    rcases Nat.lt_or_ge i j with hlt | hge
    · refine ⟨fun _ => hlt, fun _ => Classical.byContradiction fun hni => ?_⟩
      have := dirty_beside R.pairs hoiL hoL hne hd (un i oi hoi hlt hni) (fun h => by have := lo j i h; omega)
      omega
    · refine ⟨fun hl => ?_, fun h => by omega⟩
      have := dirty_beside R.pairs hoiL hoL hne hd (fun h => by have := lo i j h; omega) (un2 i hl)
      omega
  have seen : 2 ≤ kindOf o.op → ∀ m L, η m = some L → m < (G.Ks j).next → ob m = (G.Ks j).obj m := fun hk m L hm hlt =>
    I.view m L hm j (by omega) hlt fun i hi hd _ => by
      by_cases e : i = j
      · subst e; exact ⟨fun h => absurd h hnj, fun h => by omega⟩
      · exact dirtyOrd hk i hi hd e
  have hDk : G.D j → 2 ≤ kindOf o.op := fun hd => by
    unfold Rg.D cleanFlag at hd
    rw [hoL] at hd
    simp only [Bool.or_eq_false_iff] at hd
    by_cases h : kindOf o.op ≤ 2
    · have := Nat.ble_eq_true_of_le h; rw [this] at hd; cases hd.1
    · omega
  have hle1 := R.le hXk hik (Nat.le_succ j) hjm
  have hle0 := R.le hXk hik (Nat.zero_le j) (Nat.le_of_lt hjm)
  have hlem := R.le hXk hik (show j + 1 ≤ G.m from hjm) (Nat.le_refl _)
  have hfx : Fresh η Kx Kx' := fun m L hm => by
    rw [hnx, hnx']
    rcases I.dom m L hm with h2 | ⟨c, hc, hcl, h2, h3⟩
    · rcases R.fresh m L h2 with h4 | h4
      · left; have := hle0.next; omega
      · right; have := hlem.next; omega
    · rcases Nat.lt_trichotomy c j with h4 | h4 | h4
      · left; have := (R.le hXk hik (show c + 1 ≤ j from h4) (Nat.le_of_lt hjm)).next; omega
      · subst h4; exact absurd hcl hnj
      · right; have := (R.le hXk hik (show j + 1 ≤ c from h4) (Nat.le_of_lt hc)).next; omega
  have hv : ∀ m L, η m = some L → Kx.obj m = none ∨ Kx.obj m = ob m := fun m L hm => by
    by_cases hk : kindOf o.op ≤ 1
    · exact .inl (hlow hk m)
    · by_cases hlt : m < (G.Ks j).next
      · right; rw [(hhigh (by omega)).1 m, seen (by omega) m L hm hlt]
      · left; exact hwx m (by omega)
  have hdx : DescO P η Kx.obj w := by
    refine ⟨I.desc.glob, I.desc.inb, fun p q Lp Lq hp hq hbk hne => ?_, fun p L x hp hx => ?_⟩
    · rcases hv p Lp hp with h2 | h2
      · rw [h2]; exact .inl Off.none
      · rcases hv q Lq hq with h3 | h3
        · rw [h3]; exact .inr Off.none
        · rw [h2, h3]; exact I.desc.inj p q Lp Lq hp hq hbk hne
    · rcases hv p L hp with h2 | h2
      · rw [h2] at hx; cases hx
      · rw [h2] at hx; exact I.desc.obj p L x hp hx
  refine pop_wp (v := vs j) hX hXk hih hik hng ho hb h1 h0 hdx hwx hfx (fun x hx => opRel_of hdx fun t ht v hv => look t ?_ v hv) (fun d want hg v hv => look d ?_ v hv) ?_
  · subst ht
    unfold looks
    refine List.mem_append_left _ (List.mem_flatMap.2 ⟨.tmp t, by simpa using hx, by simp [tmpOf]⟩)
  · unfold looks guardTmp
    refine List.mem_append_right _ ?_
    unfold guardOf at hg
    cases hgo : o.guard with
    | none => rw [hgo] at hg; cases hg
    | some jw =>
      rw [hgo] at hg
      simp only [Option.some.injEq, Prod.mk.injEq] at hg
      simp only [hg.1, Option.toList_some, List.mem_singleton]
  · intro v' w' η' hs hvr
    have lset : ∀ i, lst (listed.setIfInBounds j true) i ↔ i = j ∨ lst listed i := fun i => lst_set hjl
    have hnotIn : ∀ m L, η m = some L → ¬ ((G.Ks j).next ≤ m ∧ m < (G.Ks (j + 1)).next) := fun m L hm => by
      rcases hfx m L hm with h2 | h2 <;> omega
    let ob' : Nat → Option AObj := open Classical in fun m => if (G.Ks j).next ≤ m ∧ m < (G.Ks (j + 1)).next then (G.Ks (j + 1)).obj m else if G.D j ∧ m < (G.Ks j).next then (G.Ks (j + 1)).obj m else ob m
    have ob1 : ∀ m, (G.Ks j).next ≤ m → m < (G.Ks (j + 1)).next → ob' m = (G.Ks (j + 1)).obj m := fun m h2 h3 => if_pos ⟨h2, h3⟩
    have ob2 : ∀ m, ¬ ((G.Ks j).next ≤ m ∧ m < (G.Ks (j + 1)).next) → G.D j → m < (G.Ks j).next → ob' m = (G.Ks (j + 1)).obj m := fun m h2 h3 h4 => (if_neg h2).trans (if_pos ⟨h3, h4⟩)
    have ob3 : ∀ m, ¬ ((G.Ks j).next ≤ m ∧ m < (G.Ks (j + 1)).next) → ¬ (G.D j ∧ m < (G.Ks j).next) → ob' m = ob m := fun m h2 h3 => (if_neg h2).trans (if_neg h3)
    have hdesc : DescO P η' ob' w' := by
      refine exec_desc I.desc hv hs hkx hfx (fun m h2 h3 => ?_) (fun m L hm h2 => ?_)
      · rw [ob1 m (by omega) (by omega), hge m (by omega)]
      · rw [hnx, hnx'] at h2
        by_cases hlt : m < (G.Ks j).next
        · by_cases hk : kindOf o.op ≤ 1
          · exact .inl ⟨hlow hk m, ob3 m h2 fun h3 => by have := hDk h3.1; omega⟩
          · right
            rw [(hhigh (by omega)).2.1 m]
            by_cases hd : G.D j
            · exact ob2 m h2 hd hlt
            · rw [ob3 m h2 fun h3 => hd h3.1, seen (by omega) m L hm hlt, R.clean hXk hik hjm hd hlt]
        · exact .inl ⟨hwx m (by omega), ob3 m h2 fun h3 => hlt h3.2⟩
    have hlm := R.le hXk hik (Nat.le_of_lt hjm) (Nat.le_refl G.m)
    have hw0 := R.wf0
    -- an old name of the region that is live in the heap that is seen was live from the start
    have live0 : ∀ p Lp x, G.η0 p = some Lp → Kx.obj p = some x → x ≠ .dead → ∃ y, (G.Ks 0).obj p = some y ∧ y ≠ .dead := by
      intro p Lp x hp hx hxd
      have hk : 2 ≤ kindOf o.op := Classical.byContradiction fun h => by rw [hlow (by omega) p] at hx; cases hx
      rw [(hhigh hk).1 p] at hx
      rcases R.fresh p Lp hp with h2 | h2
      · cases h3 : (G.Ks 0).obj p with
        | none => rw [hle0.none p h2 h3] at hx; cases hx
        | some y =>
          refine ⟨y, rfl, fun e => ?_⟩
          subst e
          rw [hle0.dead p h2 h3] at hx; cases hx; exact hxd rfl
      · rw [hwj p (Nat.le_trans hlm.next h2)] at hx; cases hx
    refine ⟨η', ob', ⟨by simp [I.size], fun i hi p hp => ?_, hdesc, I.ext.trans hs.ext, fun m L hm => ?_, fun m L hm0 hm => ?_, Nat.le_trans I.wsize hs.size, fun bb hbb H => ?_, fun d hd hdl hdd m hm hmn => ?_, fun m L hm k hk hmk H => ?_, by rw [act_put_size]; exact I.tsize, fun t k hk H v hvt => ?_,
      by rw [act_put_defers']; exact I.defers, hs.tape.trans I.tape, hs.os.trans I.os, hs.output.trans I.output⟩⟩
    · rw [lset] at hi ⊢
      rcases hi with rfl | hi
      · exact .inr (hbef p hp)
      · exact .inr (I.closed i hi p hp)
    · rcases hs.dom m L hm with h2 | ⟨h2, h3⟩
      · rcases I.dom m L h2 with h4 | ⟨c, h4, h5, h6⟩
        · exact .inl h4
        · exact .inr ⟨c, h4, (lset c).2 (.inr h5), h6⟩
      · exact .inr ⟨j, hjm, (lset j).2 (.inl rfl), by omega, by omega⟩
    · cases hη : η m with
      | some L0 =>
        have e := hs.ext m L0 hη
        rw [hm] at e; cases e
        exact I.new m L hm0 hη
      | none =>
        rcases hs.new m L hη hm with h2 | ⟨p, Lp, x, h2, h3, h4, h5⟩
        · exact .inl (Nat.le_trans I.wsize h2)
        · cases hp0 : G.η0 p with
          | some L1 =>
            have e := I.ext p L1 hp0
            rw [h2] at e; cases e
            obtain ⟨y, h6, h7⟩ := live0 p Lp x hp0 h4 h5
            exact .inr ⟨p, Lp, y, hp0, h3, h6, h7⟩
          | none => rw [← h3]; exact I.new p Lp hp0 h2
    · rw [← I.frm bb hbb H]
      refine hs.frm bb (Nat.lt_of_lt_of_le hbb I.wsize) fun q Lq hq hqb => ?_
      by_cases hk : kindOf o.op ≤ 1
      · exact .inl (hlow hk q)
      have hk : 2 ≤ kindOf o.op := by omega
      obtain ⟨e1, e2, e3⟩ := hhigh hk
      cases hq0 : G.η0 q with
      | some L0 =>
        have e := I.ext q L0 hq0
        rw [hq] at e; cases e
        rcases H q Lq hq0 hqb with h2 | h2 | h2
        · rw [e1 q]
          rcases R.fresh q Lq hq0 with h3 | h3
          · exact .inl (hle0.none q h3 h2)
          · exact .inl (hwj q (Nat.le_trans hlm.next h3))
        · rw [e1 q]
          exact .inr (.inl (hle0.dead q (wf_lt hw0 h2) h2))
        · exact .inr (.inr (Nat.lt_of_lt_of_le h2 (Nat.le_trans hlem.low e3)))
      | none =>
        rcases I.new q Lq hq0 hq with h2 | ⟨p, Lp, x, h2, h3, h4, h5⟩
        · omega
        · rcases H p Lp h2 (h3.trans hqb) with h6 | h6 | h6
          · rw [h6] at h4; cases h4
          · rw [h6] at h4; cases h4; exact absurd rfl h5
          · have hpn := wf_lt hw0 h4
            have hkeep : (G.Ks j).obj p = some x := by rw [hle0.keep p hpn (Nat.lt_of_lt_of_le h6 hlm.low)]; exact h4
            have hpη := I.ext p Lp h2
            have hobp : ob p = some x := by rw [seen hk p Lp hpη (Nat.lt_of_lt_of_le hpn hle0.next)]; exact hkeep
            have hne : p ≠ q := by rintro rfl; rw [hq0] at h2; cases h2
            rcases I.desc.inj p q Lp Lq hpη hq h3 hne with h7 | h7
            · exact absurd (h7 x hobp) h5
            · rcases hv q Lq hq with h8 | h8
              · exact .inl h8
              · rw [h8]
                rcases h7.cases with h9 | h9
                · exact .inl h9
                · exact .inr (.inl h9)
    · have hmη : η m = none := by
        cases hη : η m with
        | none => rfl
        | some L0 => rw [hs.ext m L0 hη] at hmn; cases hmn
      rcases (lset d).1 hdl with rfl | hdl
      · have hk := hDk hdd
        obtain ⟨e1, e2, _⟩ := hhigh hk
        rw [← e2 m, ← e1 m]
        exact hs.untouched m (by omega) hmη
      · exact I.kept d hd hdl hdd m hm hmη
    · by_cases hin : (G.Ks j).next ≤ m ∧ m < (G.Ks (j + 1)).next
      · have hjk : j + 1 ≤ k := Nat.succ_le_of_lt (Classical.byContradiction fun h => by
          have := (R.le hXk hik (show k ≤ j by omega) (Nat.le_of_lt hjm)).next; omega)
        have hmη : η m = none := by
          cases hη : η m with
          | none => rfl
          | some L0 => exact absurd hin (hnotIn m L0 hη)
        rw [ob1 m hin.1 hin.2]
        refine (R.same hXk hik hjk hk hin.2 fun i h2 h3 hd => ?_).symm
        have hmi : m < (G.Ks i).next := Nat.lt_of_lt_of_le hin.2 (R.le hXk hik h2 (by omega)).next
        have hl := (H i (by omega) hd hmi).2 h3
        rcases (lset i).1 hl with h4 | h4
        · omega
        · exact I.kept i (by omega) h4 hd m hmi hmη
      · have hmη : η m = some L := by
          rcases hs.dom m L hm with h2 | h2
          · exact h2
          · exact absurd (by rw [hnx, hnx'] at h2; exact h2) hin
        by_cases hdj : G.D j ∧ m < (G.Ks j).next
        · have hjk : j < k := (H j hjm hdj.1 hdj.2).1 ((lset j).2 (.inl rfl))
          rw [ob2 m hin hdj.1 hdj.2]
          refine (R.same hXk hik (show j + 1 ≤ k from hjk) hk (Nat.lt_of_lt_of_le hdj.2 hle1.next) fun i h2 h3 hd => ?_).symm
          have hmi : m < (G.Ks i).next := Nat.lt_of_lt_of_le hdj.2 (R.le hXk hik (show j ≤ i by omega) (by omega)).next
          have hl := (H i (by omega) hd hmi).2 h3
          rcases (lset i).1 hl with h4 | h4
          · omega
          · have := (dirtyOrd (hDk hdj.1) i (by omega) hd (by omega)).1 h4
            omega
        · rw [ob3 m hin hdj]
          refine I.view m L hmη k hk hmk fun i hi hd hmi => ?_
          have h2 := H i hi hd hmi
          rw [lset] at h2
          have hne : i ≠ j := by rintro rfl; exact hdj ⟨hd, hmi⟩
          exact ⟨fun h3 => h2.1 (.inr h3), fun h3 => (h2.2 h3).resolve_left hne⟩
    · obtain ⟨hg1, hg2⟩ := put_get hput
      rw [act_put_get (fun d hd => by rw [I.tsize]; exact hg2 d hd)]
      split
      · rename_i hd
        have hjk : j < k := (H j o ho hd).1 ((lset j).2 (.inl rfl))
        have h2 := R.tsame (t := t) (k - (j + 1)) (j + 1) (by omega) (fun i oi hoi h3 h4 hdi => by
          have hl := (H i oi hoi hdi).2 (by omega)
          rcases (lset i).1 hl with h5 | h5
          · omega
          · have := (wr i oi t hoi (by omega) hdi (List.mem_append_left _ (by simp [hd]))).1 h5
            omega)
        have e : j + 1 + (k - (j + 1)) = k := by omega
        rw [e, hg1 t, if_pos hd] at h2
        rw [h2] at hvt; cases hvt
        exact ⟨v', rfl, hvr⟩
      · rename_i hd
        obtain ⟨u, h3, h4⟩ := I.tmps t k hk (fun i oi hoi hdi => by
          have h2 := H i oi hoi hdi
          rw [lset] at h2
          have hne : i ≠ j := by rintro rfl; rw [ho] at hoi; cases hoi; exact hd hdi
          exact ⟨fun h3 => h2.1 (.inr h3), fun h3 => (h2.2 h3).resolve_left hne⟩) v hvt
        exact ⟨u, h3, h4.ext hs.ext⟩

end
end Go.Ev

/- Regions whole. Conditions: none. -/
set_option linter.unusedVariables false
set_option linter.unusedSimpArgs false
set_option linter.unnecessarySimpa false
namespace Go.Ev
variable {P : Program}

section
variable {X : Xt} {n : Nat} {ih : Ih} {G : Rg} {vs : Nat → Value}

theorem Inv.done (hXk : XKle X) (hik : IhKle ih) (R : Rok P X ih G vs) {listed : Array Bool} {η : Env} {a : Act} {w : World} {ob : Nat → Option AObj} (I : Inv P G listed η a w ob) (hall : ∀ i, i < G.m → lst listed i) :
    Step P G.η0 (G.Ks 0) G.w0 η (G.Ks G.m) w ∧ TRel η G.nt (G.tms G.m) a.tmps := by
  have hwm := R.wf hXk hik (Nat.le_refl G.m)
  have view : ∀ m L, η m = some L → m < (G.Ks G.m).next → ob m = (G.Ks G.m).obj m := fun m L hm hlt => I.view m L hm G.m (Nat.le_refl _) hlt fun i hi _ _ => ⟨fun _ => hi, fun _ => hall i hi⟩
  have off : ∀ m L, η m = some L → Off (ob m) → Off ((G.Ks G.m).obj m) := fun m L hm ho => by
    by_cases hlt : m < (G.Ks G.m).next
    · rw [← view m L hm hlt]; exact ho
    · rw [hwm m (by omega)]; exact Off.none
  refine ⟨⟨I.ext, fun m L hm => ?_, I.new, ⟨I.desc.glob, I.desc.inb, fun p q Lp Lq hp hq hb hne => ?_, fun m L x hm hx => ?_⟩, I.wsize, I.frm, fun m hm hm0 => ?_, I.tape, I.os, I.output⟩, I.tsize, fun t v hv => ?_⟩
  · rcases I.dom m L hm with h1 | ⟨c, h1, _, h2, h3⟩
    · exact .inl h1
    · refine .inr ⟨Nat.le_trans (R.le hXk hik (Nat.zero_le c) (Nat.le_of_lt h1)).next h2, Nat.lt_of_lt_of_le h3 (R.le hXk hik (show c + 1 ≤ G.m from h1) (Nat.le_refl _)).next⟩
  · rcases I.desc.inj p q Lp Lq hp hq hb hne with h1 | h1
    · exact .inl (off p Lp hp h1)
    · exact .inr (off q Lq hq h1)
  · have hlt : m < (G.Ks G.m).next := wf_lt hwm hx
    exact I.desc.obj m L x hm (by rw [view m L hm hlt]; exact hx)
  · have hmη : η m = none := by
      cases hη : η m with
      | none => rfl
      | some L =>
        rcases I.dom m L hη with h1 | ⟨c, h1, _, h2, _⟩
        · rw [hm0] at h1; cases h1
        · have := (R.le hXk hik (Nat.zero_le c) (Nat.le_of_lt h1)).next; omega
    exact R.same hXk hik (Nat.zero_le _) (Nat.le_refl _) hm fun i h1 h2 hd => I.kept i h2 (hall i h2) hd m (Nat.lt_of_lt_of_le hm (R.le hXk hik h1 (Nat.le_of_lt h2)).next) hmη
  · exact I.tmps t G.m (Nat.le_refl _) (fun i o hi _ => by
      have hlt : i < G.m := (Array.getElem?_eq_some_iff.1 hi).1
      exact ⟨fun _ => hlt, fun _ => hall i hlt⟩) v hv

/-- None is ready: all are listed. -/
theorem all_listed (R : Rok P X ih G vs) {listed : Array Bool} (hs : listed.size = G.m) (hr : Region.ready .any G.ops listed = []) : ∀ i, i < G.m → lst listed i := by
  intro i
  induction i using Nat.strongRecOn with
  | _ i ihi =>
    intro hi
    refine Classical.byContradiction fun hn => ?_
    obtain ⟨o, ho⟩ := R.op hi
    have : i ∈ Region.ready .any G.ops listed := by
      refine mem_ready.2 ⟨?_, o, ho, fun e he hb => ?_⟩
      · unfold lst at hn
        have hlt : i < listed.size := by omega
        simp only [Array.getD_eq_getD_getElem?, Array.getElem?_eq_getElem hlt, Option.getD_some] at hn ⊢
        simpa using hn
      · have hlt := edge_lt R.edges (j := i) (o := o) (by simpa using ho) (by simpa using he) hb
        exact ihi e.on hlt (by omega)
    rw [hr] at this
    cases this

theorem count_set {listed : Array Bool} {j : Nat} (hj : j < listed.size) (hn : ¬ lst listed j) : (listed.setIfInBounds j true).toList.count false + 1 = listed.toList.count false := by
  have hf : listed.toList[j]'(by simpa using hj) = false := by
    unfold lst at hn
    simp only [Array.getD_eq_getD_getElem?, Array.getElem?_eq_getElem hj, Option.getD_some] at hn
    simpa using hn
  have hmem : false ∈ listed.toList := by rw [← hf]; exact List.getElem_mem _
  have hpos : 0 < listed.toList.count false := List.count_pos_iff.2 hmem
  rw [Array.toList_setIfInBounds, List.count_set (by simpa using hj)]
  rw [hf, if_pos (by rfl), if_neg (by decide)]
  omega

theorem draw_ok (hX : XOk P X) (hXk : XKle X) (hih : IhOk P n ih) (hik : IhKle ih) (hng : NoNum P) (R : Rok P X ih G vs) {rb : Option Nat} {Q : Exit → Act → World → Prop}
    (hQ : ∀ η' a' w', Step P G.η0 (G.Ks 0) G.w0 η' (G.Ks G.m) w' → TRel η' G.nt (G.tms G.m) a'.tmps → a'.defers = G.a0.defers → Q .normal a' w') :
    ∀ fuel listed η a w ob, Inv P G listed η a w ob → listed.toList.count false ≤ fuel → wpAnyIn (FW rb) 0 P .any G.ops Q fuel listed a w := by
  have fin : ∀ listed η a w ob, Inv P G listed η a w ob → (∀ i, i < G.m → lst listed i) → Q .normal a w := fun listed η a w ob I hall => by
    obtain ⟨h1, h2⟩ := I.done hXk hik R hall
    exact hQ η a w h1 h2 I.defers
  intro fuel
  induction fuel with
  | zero =>
    intro listed η a w ob I hc
    have hall : ∀ i, i < G.m → lst listed i := fun i hi => by
      refine Classical.byContradiction fun hn => ?_
      have := count_set (listed := listed) (j := i) (by rw [I.size]; exact hi) hn
      omega
    refine ⟨?_, fin listed η a w ob I hall⟩
    cases hr : Region.ready .any G.ops listed with
    | nil => rfl
    | cons j l =>
      have hj : j ∈ Region.ready .any G.ops listed := by rw [hr]; simp
      obtain ⟨h1, h2, _⟩ := I.befores hj
      exact absurd (hall j (by rw [← I.size]; exact h2)) h1
  | succ fuel ihf =>
    intro listed η a w ob I hc
    refine ⟨fun hr => fin listed η a w ob I (all_listed R I.size hr), fun j hj => ?_⟩
    obtain ⟨h1, h2, _⟩ := I.befores hj
    refine wpOpIn_mono (fun a' w' h => ?_) (I.step hX hXk hih hik hng R hj)
    obtain ⟨η', ob', I'⟩ := h
    exact ihf _ η' a' w' ob' I' (by have := count_set h2 h1; omega)

theorem Inv.init (hXk : XKle X) (hik : IhKle ih) (R : Rok P X ih G vs) {w : World} (hh : w.heap = G.w0.heap) (ht : w.tape = G.w0.tape) (hos : w.os = G.w0.os) (hout : w.output = G.w0.output) (hd : Desc P G.η0 (G.Ks 0) G.w0) (htm : TRel G.η0 G.nt (G.tms 0) G.a0.tmps) :
    Inv P G (Array.replicate G.m false) G.η0 G.a0 w (G.Ks 0).obj := by
  have hno : ∀ i, ¬ lst (Array.replicate G.m false) i := fun i h => by
    unfold lst at h
    rw [Array.getD_eq_getD_getElem?, Array.getElem?_replicate] at h
    split at h <;> simp at h
  refine ⟨by simp, fun j hj => absurd hj (hno j), ⟨hd.glob, fun m L hm => by rw [hh]; exact hd.inb m L hm, hd.inj, fun m L x hm hx => (hd.obj m L x hm hx).block P (by rw [hh])⟩, Ext.refl _, fun m L hm => .inl hm, fun m L h1 h2 => (by rw [h1] at h2; cases h2), by rw [hh]; exact Nat.le_refl _, fun b _ _ => by rw [hh],
    fun d _ hl => absurd hl (hno d), fun m L hm k hk hmk H => ?_, htm.1, fun t k hk H v hv => ?_, rfl, ht, hos, hout⟩
  · have hm0 : m < (G.Ks 0).next := by
      rcases R.fresh m L hm with h1 | h1
      · exact h1
      · have := (R.le hXk hik hk (Nat.le_refl G.m)).next; omega
    refine (R.same hXk hik (Nat.zero_le k) hk hm0 fun i _ h2 hd' => ?_).symm
    exact absurd ((H i (by omega) hd' (Nat.lt_of_lt_of_le hm0 (R.le hXk hik (Nat.zero_le i) (by omega)).next)).2 h2) (hno i)
  · have h1 := R.tsame (t := t) k 0 (by omega) (fun i o ho _ h2 hd' => absurd ((H i o ho hd').2 (by omega)) (hno i))
    rw [Nat.zero_add] at h1
    rw [h1] at hv
    exact htm.2 t v hv
end

section
variable {X : Xt} {n : Nat} {ih : Ih}

theorem region_ok (hX : XOk P X) (hXk : XKle X) (hih : IhOk P n ih) (hik : IhKle ih) (hng : NoNum P) (hmo : P.follows .mixedOrders = true) {rb : Option Nat} {nt id : Nat} {ops : Array Oper} {draw : Bool} {s s' : St} {e : AExit} (h : evRegion P X ih nt ops.toList draw s = some (e, s'))
    {η : Env} {w : World} {a : Act} (hd : Desc P η s.K w) (hw : WF s.K) (ht : TRel η nt s.tm a.tmps) (hm : MRel η s.marks a.defers) (hf : Fresh η s.K s'.K) {Q : Exit → Act → World → Prop} (hQ : Post P η s.K w nt e s' Q) : (Code.region id ops draw).wpIn (FW rb) 0 P Q a w := by
  obtain ⟨stm, sK, sm⟩ := s
  simp only at hd hw ht hm hf hQ
  unfold evRegion at h
  obtain ⟨ps, h1, h2⟩ := bind_some.1 h
  obtain ⟨⟨tm', K'⟩, h3, h4⟩ := map_some.1 h2
  cases h4
  simp only at h3 hf hQ
  obtain ⟨tms, Ks, vs, htr, e1, e2, e3, e4⟩ := trace_of h3
  cases draw with
  | false =>
    simp only [plan] at h1
    cases h1
    have hlen : (pops ops.toList fun _ => false).length = ops.size := by simp [pops]
    rw [hlen] at e3 e4
    subst e1 e2 e3 e4
    refine wpIn_region ?_
    have := seq_ok (rb := rb) (Q := Q) (a0 := a) (w0 := w) (η0 := η) hX hXk hih hik hng htr hw hf (fun η' a' w' hs ht' hdf => hQ η' a' w' hs ht' (by rw [hdf]; exact hm.ext hs.ext)) ops.size 0 (by omega) η a w (Step.refl P hd) (Kle.refl hw) ht rfl
    rw [List.range_eq_range']
    exact this
  | true =>
    simp only [plan] at h1
    obtain ⟨hg, h5⟩ := guardO_some.1 h1
    cases h5
    simp only [Bool.and_eq_true] at hg
    have hlen : (pops ops.toList (cleanFlag ops.toList (befores ops.toList []))).length = ops.size := by simp [pops]
    rw [hlen] at e3 e4
    subst e1 e2 e3 e4
    let G : Rg := { ops := ops, tms := tms, Ks := Ks, η0 := η, w0 := w, a0 := a, nt := nt }
    have R : Rok P X ih G vs := ⟨htr, hw, hf, hg.1, hg.2⟩
    refine wpIn_region_any hmo ?_
    refine draw_ok (G := G) hX hXk hih hik hng R (fun η' a' w' hs ht' hdf => hQ η' a' w' hs ht' (by rw [hdf]; exact hm.ext hs.ext)) ops.size (Array.replicate ops.size false) η a { w with drawn := w.drawn + 1 } (Ks 0).obj
      (Inv.init hXk hik R rfl rfl rfl rfl hd ht) ?_
    have := List.count_le_length (a := false) (l := (Array.replicate ops.size false).toList)
    simpa using this

end
end Go.Ev

/- Code, whole: the machine at what the evaluator answers. Conditions: none. -/
set_option linter.unusedVariables false
set_option linter.unusedSimpArgs false
set_option linter.unnecessarySimpa false
namespace Go.Ev
variable {P : Program}

/-! ### Scopes -/
theorem stepR_scope {b : Frame} {a : Act} {k : List Item} {cs : List Frame} {w : World} {c : Code} : step P (lone (b.atR a (.code (.scope c) :: k)) cs w) = .next (lone (b.atR a (.code c :: .inScope c :: k)) cs w) :=
  step_lone_go (by simp [stepG, stepG.exec, Frame.atR])
theorem stepR_inScope {b : Frame} {a : Act} {k : List Item} {cs : List Frame} {w : World} {c : Code} : step P (lone (b.atR a (.inScope c :: k)) cs w) = .next (lone (b.atR a k) cs w) :=
  step_lone_go (by simp [stepG, stepG.exec, Frame.atR])

theorem wpIn_scope {F : Fence} {n : Nat} {Q : Exit → Act → World → Prop} {a : Act} {w : World} {c : Code} (h : c.wpIn F n P (Exit.noGoto Q) a w) : (Code.scope c).wpIn F n P Q a w := by
  intro b k cs hro hb hr
  have h0 : (lone (b.atR a (.code (.scope c) :: k)) cs w).fenced P F := fenced_calm hb hr rfl
  obtain ⟨e, a₁, w₁, hq, harr⟩ := h b (.inScope c :: k) cs hro hb hr
  cases e with
  | normal => exact ⟨.normal, a₁, w₁, hq, .head h0 stepR_scope (StepsIn.trans harr (.one (fenced_calm hb hr rfl) stepR_inScope))⟩
  | exit id =>
    have hx : exitTo id (.inScope c :: k) = exitTo id k := by simp [exitTo]
    exact ⟨.exit id, a₁, w₁, hq, fun k' hk => .head h0 stepR_scope (harr.1 k' (by rw [hx]; exact hk)),
      fun hr' hk => let ⟨k₁, h1, h2⟩ := harr.2 hr' (by rw [hx]; exact hk); ⟨k₁, h1, .head h0 stepR_scope h2⟩⟩
  | goto l => exact hq.elim
  | ret => exact ⟨_, a₁, w₁, hq, .of_steps (.one h0 stepR_scope) harr⟩
  | panic ch => exact ⟨_, a₁, w₁, hq, .of_steps (.one h0 stepR_scope) harr⟩
  | outgrown => exact ⟨_, a₁, w₁, hq, .of_steps (.one h0 stepR_scope) harr⟩

section
variable {X : Xt} {n : Nat} {ih : Ih}

/-! ### A range over a function -/
theorem call_enter (hX : XOk P X) (hXk : XKle X) (hih : IhOk P n ih) (hik : IhKle ih) (hng : NoNum P) {f : FuncId} {args args' : List Value} {η : Env} {K K' : AHeap} {w : World} {v : Value} (hb : hasBody P f = true) (h : evCall P X ih f args K = some (v, K'))
    (hd : Desc P η K w) (hw : WF K) (hf : Fresh η K K') (hr : LRel η args args') : (callFunc f args'.toArray).run P w = .ok (.enter f args'.toArray) w ∧ CallsIn (FW none) 0 P f args'.toArray w (Ends P η K w v K') := by
  have hrun : (callFunc f args'.toArray).run P w = .ok (.enter f args'.toArray) w := by
    unfold hasBody at hb
    split at hb
    · rename_i fn hfn
      have hname := hng f fn hfn hb
      obtain ⟨c, hc⟩ := Option.isSome_iff_exists.1 hb
      simp only [callFunc, Sem.run_bind, run_program, Result.andThen, hfn, hname, Bool.false_eq_true, if_false, hc, Option.isNone_some, Sem.run_pure]
    · cases hb
  refine ⟨hrun, ?_⟩
  rcases call_ok hX hXk hih hik hng h hd hw hf hr with ⟨nx, v', w', η', h1, h2, _⟩ | ⟨g, as, h1, h2⟩ | ⟨l, g, tmps, as, body, h1, _⟩
  · rw [hrun] at h1; cases h1; cases h2
  · rw [hrun] at h1; cases h1; exact h2
  · rw [hrun] at h1; cases h1

/-- The record of a range over a function is laid. -/
theorem lay_loop {η : Env} {K K' : AHeap} {w : World} (hd : Desc P η K w) (hw : WF K) (hf : Fresh η K K') {nt l dn : Nat} {tm : T Value} {tmps : Array Value} {ps : List Tmp} {assign body : Code} {fn : FuncId} {Ld : Loc}
    (h : K.mk? (.loop .ready none tm nt ps assign body dn) = some (l, K')) (ht : TRel η nt tm tmps) (hdn : η dn = some Ld) :
    Step P η K w (upd η l ⟨w.heap.size, 0, 0⟩) K' (w.alloc (.loop { state := .ready, pending := none, fn, tmps, params := ps.toArray, assign, body, defers := Ld.blk })) := by
  have hn := mk_spec h
  have h0 : η l = none := fresh_next hf (by omega) (by omega)
  exact (step_mk (L := ⟨w.heap.size, 0, 0⟩) (w' := w.alloc (.loop { state := .ready, pending := none, fn, tmps, params := ps.toArray, assign, body, defers := Ld.blk })) (ob := .loop { state := .ready, pending := none, fn, tmps, params := ps.toArray, assign, body, defers := Ld.blk }) hd hw h hf rfl rfl rfl rfl rfl
    ⟨{ state := .ready, pending := none, fn, tmps, params := ps.toArray, assign, body, defers := Ld.blk }, World.alloc_heap_new _ _, rfl, rfl, rfl, rfl, rfl, ht.ext (upd_ext h0), Ld, upd_ext h0 _ _ hdn, rfl⟩).1

theorem lay_defs {η : Env} {K K' : AHeap} {w : World} (hd : Desc P η K w) (hw : WF K) (hf : Fresh η K K') {l : Nat} (h : K.mk? .defs = some (l, K')) : Step P η K w (upd η l ⟨w.heap.size, 0, 0⟩) K' (w.alloc (.deferred (some []))) :=
  (step_mk (L := ⟨w.heap.size, 0, 0⟩) (w' := w.alloc (.deferred (some []))) (ob := .deferred (some [])) hd hw h hf rfl rfl rfl rfl rfl (World.alloc_heap_new w (.deferred (some [])))).1

theorem range_code_ok (hX : XOk P X) (hXk : XKle X) (hih : IhOk P n ih) (hik : IhKle ih) (hng : NoNum P) {rnd rb : Option Nat} {nt : Nat} {f : Operand} {ps : Array Tmp} {assign body : Code} {s s' : St} {e : AExit} (h : evRange P X ih rnd nt f ps.toList assign body s = some (e, s'))
    {η : Env} {w : World} {a : Act} (hd : Desc P η s.K w) (hw : WF s.K) (ht : TRel η nt s.tm a.tmps) (hm : MRel η s.marks a.defers) (hf : Fresh η s.K s'.K) (hrb : Rnd η rnd rb) {Q : Exit → Act → World → Prop} (hQ : Post P η s.K w nt e s' Q) :
    (Code.rangeFunc f ps assign body).wpIn (FW rb) 0 P Q a w := by
  unfold evRange at h
  obtain ⟨⟨dn, K1, marks⟩, h1, h2⟩ := bind_some.1 h
  obtain ⟨⟨l, K2⟩, h3, h4⟩ := bind_some.1 h2
  obtain ⟨⟨g, args⟩, h5, h6⟩ := bind_some.1 h4
  obtain ⟨fv, h7, h8⟩ := bind_some.1 h5
  obtain ⟨hbody, h9⟩ := guardO_some.1 h6
  obtain ⟨⟨rv, K3⟩, h10, h11⟩ := bind_some.1 h9
  unfold rangeEnd at h11
  obtain ⟨r, h12, h13⟩ := bind_some.1 h11
  obtain ⟨hbusy, h14⟩ := guardO_some.1 h13
  obtain ⟨K4, h15, h16⟩ := bind_some.1 h14
  obtain ⟨e', h17, h18⟩ := map_some.1 h16
  clear h h2 h4 h5 h6 h9 h11 h13 h14 h16
  cases h18
  simp only at h3 h8 h10 h12 h15 hbody hf hQ
  -- what is laid first
  have first : ∃ mark w1 η1 Ld, (∀ (fn : FuncId) (o : Nat → Loop), (∀ d, (o d).defers = d) → True) ∧ Step P η s.K w η1 K1 w1 ∧ Kle s.K K1 ∧ η1 dn = some Ld ∧ MRel η1 marks (mark ++ a.defers) ∧
      (∀ fn : FuncId, (Instr.enterLoop fn a.tmps ps assign body (FW rb).round).run P w =
        .ok (w1.heap.size, mark) (w1.alloc (.loop { state := .ready, pending := none, fn, tmps := a.tmps, params := ps, assign, body, defers := Ld.blk }))) := by
    have hrest : K1.next ≤ K4.next → Fresh η s.K K1 := fun h => hf.part h
    have hle : ∀ hw1 : WF K1, K1.next ≤ K4.next := fun hw1 => by
      have k2 := mk_kle h3 hw1
      have k3 := evCall_kle hXk hik h10 k2.wf
      have k4 := set_kle h15 k3.wf (lp_obj h12) (lp_ne_dead _ _ _)
      exact Nat.le_trans k2.next (Nat.le_trans k3.next k4.next)
    cases rnd with
    | none =>
      obtain ⟨⟨d0, K0⟩, g1, g2⟩ := map_some.1 h1
      cases g2
      have k1 := mk_kle g1 hw
      have hs := lay_defs hd hw (hrest (hle k1.wf)) g1
      refine ⟨[{ target := .collected w.heap.size, args := #[] }], _, _, ⟨w.heap.size, 0, 0⟩, fun _ _ _ => trivial, hs, k1, upd_same _ _ _, .cons (L := ⟨w.heap.size, 0, 0⟩) (upd_same _ _ _) (hm.ext hs.ext), fun fn => ?_⟩
      have : rb = none := hrb
      subst this
      rw [show (FW none).round = none from rfl, run_enterLoop_outer, World.size_alloc]
    | some l0 =>
      obtain ⟨r0, g1, g2⟩ := map_some.1 h1
      cases g2
      obtain ⟨L0, hL0, rfl⟩ := hrb
      obtain ⟨lp, q1, q2, q3, q4, q5, q6, q7, Ld, q8, q9⟩ := loop_obj hd hL0 g1
      refine ⟨[], w, η, Ld, fun _ _ _ => trivial, Step.refl P hd, Kle.refl hw, q8, hm, fun fn => ?_⟩
      rw [show (FW (some L0.blk)).round = some L0.blk from rfl]
      simp only [Instr.enterLoop, Sem.run_bind, run_getLoop q1, Result.andThen, Sem.run_pure, run_newObj_alloc, q9]
  obtain ⟨mark, w1, η1, Ld, _, hs1, k1, hdn, hm1, henter⟩ := first
  have k2 := mk_kle h3 k1.wf
  have k3 := evCall_kle hXk hik h10 k2.wf
  have k4 := set_kle h15 k3.wf (lp_obj h12) (lp_ne_dead _ _ _)
  have hn2 := mk_spec h3
  have hf1 : Fresh η1 K1 K4 := hf.rest hs1 k1.next
  have hfl : Fresh η1 K1 K2 := hf1.part (Nat.le_trans k3.next k4.next)
  refine wpIn_rangeFunc fun fn _ => ?_
  have hs2 := lay_loop (P := P) (fn := fn) hs1.desc k1.wf hfl h3 (ht.ext hs1.ext) hdn
  rw [Array.toArray_toList] at hs2
  have hs12 := hs1.trans P hs2 k1 k2 (hf.part (Nat.le_trans k3.next k4.next))
  have hfv := opv_ok hd ht h7
  generalize hfe : a.eval f = fv' at hfv
  cases hfv <;> simp only [rangeCallee] at h8 <;> try (cases h8; done)
  rename_i as as' bs bs' has hbs
  cases h8
  have hL2 : upd η1 l ⟨w1.heap.size, 0, 0⟩ l = some ⟨w1.heap.size, 0, 0⟩ := upd_same _ _ _
  have hargs : LRel (upd η1 l ⟨w1.heap.size, 0, 0⟩) (as ++ [.func (.yield l) #[] #[]] ++ bs) (as' ++ [.func (.yield w1.heap.size) #[] #[]] ++ bs') :=
    ((has.ext hs12.ext).append (.cons (.yield hL2) .nil)).append (hbs.ext hs12.ext)
  obtain ⟨hrun, hcalls⟩ := call_enter hX hXk hih hik hng hbody h10 hs2.desc k2.wf ((hf1.rest hs2 k2.next).part k4.next) hargs
  let W : World := w1.alloc (.loop { state := .ready, pending := none, fn, tmps := a.tmps, params := ps, assign, body, defers := Ld.blk })
  refine ⟨w1.heap.size, mark, W, { target := .fn (.func g) ⟨bs'⟩, args := (⟨as'⟩ : Array Value) ++ #[.func (.yield w1.heap.size) #[] #[]] }, W, g, (as' ++ [Value.func (.yield w1.heap.size) #[] #[]] ++ bs').toArray, W, henter fn, ?_, fun _ _ => trivial, ?_, fun h => by simp [FW] at h, ?_⟩
  · have e : Array.map a.eval #[Operand.const (Value.func (Fn.yield w1.heap.size) #[] #[])] = #[Value.func (Fn.yield w1.heap.size) #[] #[]] := by simp [Act.eval]
    simp only [resolve, rangeCall, hfe, Deferred.ofValue, Sem.run_pure, e]
  · have e : ((⟨as'⟩ : Array Value) ++ #[.func (.yield w1.heap.size) #[] #[]] ++ (⟨bs'⟩ : Array Value)) = (as' ++ [Value.func (.yield w1.heap.size) #[] #[]] ++ bs').toArray := by simp
    simp only [invoke]
    rw [e]
    exact hrun
  · refine (callsIn_FW hcalls).mono fun en w3 hen => ?_
    cases en with
    | panicked c => exact hen.elim
    | outgrown => exact hen.elim
    | returned v' =>
      obtain ⟨η3, hs3, _⟩ := hen
      have hs123 := hs12.trans P hs3 (k1.trans k2) k3 (hf.part k4.next)
      have hL3 := hs3.ext l _ hL2
      obtain ⟨lp, q1, q2, q3, q4, q5, q6, q7, Ld', q8, q9⟩ := loop_obj hs3.desc hL3 h12
      obtain ⟨w4, hw4, hs4⟩ := loop_set hs3.desc k3.wf hL3 h12 h15 q1
      have hall := hs123.trans P hs4 ((k1.trans k2).trans k3) k4 hf
      have hnb : lp.state ≠ .busy := fun h => by
        rw [q2] at h
        rw [h] at hbusy
        simp [isBusy] at hbusy
      have hend : (Instr.endLoop w1.heap.size).run P w3 = .ok r.2.1 w4 := by
        rw [run_endLoop q1 hnb, hw4, q3]
      refine ⟨r.2.1, w4, hend, ?_⟩
      have hm3 : MRel η3 marks (mark ++ a.defers) := hm1.ext (hs2.ext.trans hs3.ext)
      have ht3 : TRel η3 nt s.tm a.tmps := ht.ext hall.ext
      have post := hQ η3 { a with defers := mark ++ a.defers } w4 hall ht3 hm3
      cases hp : r.2.1 with
      | none => rw [hp] at h17; cases h17; exact post
      | some c =>
        rw [hp] at h17
        simp only
        cases c <;> simp only [pendingExit] at h17 <;> try (cases h17; done)
        · cases h17; exact wpIn_exit post
        · cases h17; exact wpIn_ret post

/-! ### Code -/
theorem code_ok (hX : XOk P X) (hXk : XKle X) (hih : IhOk P n ih) (hik : IhKle ih) (hng : NoNum P) (hmo : P.follows .mixedOrders = true) {rnd rb : Option Nat} {nt : Nat} : ∀ (c : Code) (s : St) (e : AExit) (s' : St), evCode P X ih rnd nt c s = some (e, s') →
    ∀ η w a, Desc P η s.K w → WF s.K → TRel η nt s.tm a.tmps → MRel η s.marks a.defers → Fresh η s.K s'.K → Rnd η rnd rb → ∀ Q, Post P η s.K w nt e s' Q → WpL P rb (n + 1) c Q a w := by
  intro c
  induction c with
  | skip =>
    intro s e s' h η w a hd hw ht hm hf hrb Q hQ
    cases h
    exact wpIn_skip (hQ η a w (Step.refl P hd) ht hm)
  | label l =>
    intro s e s' h η w a hd hw ht hm hf hrb Q hQ
    cases h
    exact wpIn_label (hQ η a w (Step.refl P hd) ht hm)
  | exit id =>
    intro s e s' h η w a hd hw ht hm hf hrb Q hQ
    cases h
    exact wpIn_exit (hQ η a w (Step.refl P hd) ht hm)
  | ret =>
    intro s e s' h η w a hd hw ht hm hf hrb Q hQ
    cases h
    exact wpIn_ret (hQ η a w (Step.refl P hd) ht hm)
  | goto l => intro s e s' h; cases h
  | refuse r => intro s e s' h; cases h
  | scope b ihb =>
    intro s e s' h η w a hd hw ht hm hf hrb Q hQ
    refine wpIn_scope ((ihb s e s' h η w a hd hw ht hm hf hrb (Exit.noGoto Q) fun η' a' w' h1 h2 h3 => ?_).wp)
    have := hQ η' a' w' h1 h2 h3
    cases e <;> exact this
  | region id ops draw =>
    intro s e s' h η w a hd hw ht hm hf hrb Q hQ
    exact region_ok hX hXk hih hik hng hmo h hd hw ht hm hf hQ
  | rangeFunc f ps assign body _ _ =>
    intro s e s' h η w a hd hw ht hm hf hrb Q hQ
    exact range_code_ok hX hXk hih hik hng h hd hw ht hm hf hrb hQ
  | cond c x y ihx ihy =>
    intro s e s' h η w a hd hw ht hm hf hrb Q hQ
    simp only [evCode] at h
    obtain ⟨t, h1, h2⟩ := bind_some.1 h
    obtain ⟨v, h3, h4⟩ := bind_some.1 h1
    have hv := opv_ok hd ht h3
    have hc : a.eval c = .bool t := by
      cases v <;> simp only [condOf] at h4 <;> try (cases h4; done)
      cases h4
      generalize a.eval c = u at hv
      cases hv; rfl
    cases t
    · exact wpIn_cond_false hc (ihy s e s' h2 η w a hd hw ht hm hf hrb Q hQ).wp
    · exact wpIn_cond_true hc (ihx s e s' h2 η w a hd hw ht hm hf hrb Q hQ).wp
  | block id b ihb =>
    intro s e s' h η w a hd hw ht hm hf hrb Q hQ
    simp only [evCode] at h
    obtain ⟨⟨e1, s1⟩, h1, h2⟩ := map_some.1 h
    have hs1 : s1 = s' := by
      cases e1 <;> simp only [blockExit] at h2
      · cases h2; rfl
      · split at h2 <;> cases h2 <;> rfl
      · cases h2; rfl
    subst hs1
    refine wpIn_block ((ihb s e1 s1 h1 η w a hd hw ht hm hf hrb (Exit.inBlock id Q) fun η' a' w' h3 h4 h5 => ?_).wp)
    have hp := hQ η' a' w' h3 h4 h5
    cases e1 <;> simp only [blockExit] at h2
    · cases h2; exact hp
    · rename_i id'
      split at h2
      · rename_i hb
        cases h2
        have : id' = id := Nat.eq_of_beq_eq_true hb
        simp only [exitOf, Exit.inBlock, this, if_true]
        exact hp
      · rename_i hb
        cases h2
        have : id' ≠ id := Nat.ne_of_beq_eq_false hb
        simp only [exitOf, Exit.inBlock, this, if_false]
        exact hp
    · cases h2; exact hp
  | seq x y ihx ihy =>
    intro s e s' h η w a hd hw ht hm hf hrb Q hQ
    simp only [evCode] at h
    obtain ⟨⟨e1, s1⟩, h1, h2⟩ := bind_some.1 h
    have k1 := evCode_kle hXk hik x s e1 s1 h1 hw
    cases e1 with
    | normal =>
      simp only [andThen] at h2
      have k2 := evCode_kle hXk hik y s1 e s' h2 k1.wf
      refine wpIn_seq ((ihx s .normal s1 h1 η w a hd hw ht hm (hf.part k2.next) hrb _ fun η' a' w' h3 h4 h5 => ?_).wp)
      exact (ihy s1 e s' h2 η' w' a' h3.desc k1.wf h4 h5 (hf.rest h3 k1.next) (hrb.ext h3.ext) Q fun η2 a2 w2 h6 h7 h8 => hQ η2 a2 w2 (h3.trans P h6 k1 k2 hf) h7 h8).wp
    | exit id =>
      simp only [andThen] at h2
      cases h2
      exact wpIn_seq ((ihx s _ _ h1 η w a hd hw ht hm hf hrb (Exit.then (y.wpIn (FW rb) 0 P Q) Q) fun η' a' w' h3 h4 h5 => hQ η' a' w' h3 h4 h5).wp)
    | ret =>
      simp only [andThen] at h2
      cases h2
      exact wpIn_seq ((ihx s _ _ h1 η w a hd hw ht hm hf hrb (Exit.then (y.wpIn (FW rb) 0 P Q) Q) fun η' a' w' h3 h4 h5 => hQ η' a' w' h3 h4 h5).wp)
  | loop b ihb =>
    intro s e s' h η w a hd hw ht hm hf hrb Q hQ
    simp only [evCode] at h
    obtain ⟨⟨e1, s1⟩, h1, h2⟩ := bind_some.1 h
    have k1 := evCode_kle hXk hik b s e1 s1 h1 hw
    show Code.roundsIn (FW rb) 0 P b Q (n + 1) a w
    rw [roundsIn_succ]
    cases e1 with
    | normal =>
      simp only [andThen] at h2
      have k2 := hik _ _ _ _ _ _ h2 k1.wf
      refine (ihb s .normal s1 h1 η w a hd hw ht hm (hf.part k2.next) hrb _ fun η' a' w' h3 h4 h5 => ?_).wp
      exact hih _ _ _ _ _ _ h2 η' w' a' rb h3.desc k1.wf h4 h5 (hf.rest h3 k1.next) (hrb.ext h3.ext) Q fun η2 a2 w2 h6 h7 h8 => hQ η2 a2 w2 (h3.trans P h6 k1 k2 hf) h7 h8
    | exit id =>
      simp only [andThen] at h2
      cases h2
      exact (ihb s _ _ h1 η w a hd hw ht hm hf hrb (Exit.then (Code.roundsIn (FW rb) 0 P b Q n) Q) fun η' a' w' h3 h4 h5 => hQ η' a' w' h3 h4 h5).wp
    | ret =>
      simp only [andThen] at h2
      cases h2
      exact (ihb s _ _ h1 η w a hd hw ht hm hf hrb (Exit.then (Code.roundsIn (FW rb) 0 P b Q n) Q) fun η' a' w' h3 h4 h5 => hQ η' a' w' h3 h4 h5).wp
end

/-- THE EVALUATOR TELLS RIGHT. -/
theorem ev_ok {X : Xt} (hX : XOk P X) (hXk : XKle X) (hng : NoNum P) (hmo : P.follows .mixedOrders = true) : ∀ n, IhOk P n (ev P X n)
  | 0 => fun _ _ _ _ _ _ h => by cases h
  | n + 1 => fun rnd nt c s e s' h η w a rb hd hw ht hm hf hrb Q hQ => code_ok hX hXk (ev_ok hX hXk hng hmo n) (ev_kle hXk n) hng hmo c s e s' h η w a hd hw ht hm hf hrb Q hQ

/-- A call, told by the evaluator. -/
theorem calls_of_ev {X : Xt} (hX : XOk P X) (hXk : XKle X) (hng : NoNum P) (hmo : P.follows .mixedOrders = true) {n : Nat} {f : FuncId} {args args' : List Value} {η : Env} {K K' : AHeap} {w : World} {v : Value} (hb : hasBody P f = true)
    (h : evCall P X (ev P X n) f args K = some (v, K')) (hd : Desc P η K w) (hw : WF K) (hf : Fresh η K K') (hr : LRel η args args') :
    Calls P f args'.toArray w fun | .returned v', w' => ∃ η', Step P η K w η' K' w' ∧ VRel η' v v' | _, _ => False := by
  obtain ⟨_, h1⟩ := call_enter hX hXk (ev_ok hX hXk hng hmo n) (ev_kle hXk n) hng hb h hd hw hf hr
  refine calls_FW (h1.mono fun e w' he => ?_)
  cases e with
  | returned v' => exact he
  | panicked c => exact he
  | outgrown => exact he

end Go.Ev

/- The functions without a body that the evaluator answers itself. Conditions: none. -/
set_option linter.unusedVariables false
set_option linter.unusedSimpArgs false
set_option linter.unnecessarySimpa false
namespace Go.Ev
variable {P : Program}

theorem extern_run {f : FuncId} {fn : Func} {r : Array Value → Sem Value} (hf : P.funcs[f]? = some fn) (hb : fn.body = none) (hname : (fn.name == "runtime.NumGoroutine") = false) (hnx : Extern.findNext fn = none) (hfd : Extern.find fn = some r)
    (args : Array Value) (w : World) : (callFunc f args).run P w = (do pure (.value (← r args)) : Sem Next).run P w := by
  simp only [callFunc, Sem.run_bind, run_program, Result.andThen, hf, hname, Bool.false_eq_true, if_false, hb, Option.isNone_none, if_true, run_mark, hnx, hfd]

/-- What the machine does for it. -/
def extRow (x : Xk) (fn : Func) : Array Value → Sem Value := match x with
  | .noEscape => Extern.AbiNoEscape.same
  | .indexByte => Extern.BytealgIndexByte.indexByte
  | .countByte => Extern.BytealgCount.count
  | .makeNoZero _ => Extern.BytealgMakeNoZero.makeNoZero fn.params fn.resultTypes
  | .mapsClone => Extern.MapsClone.clone

def extType (P : Program) (x : Xk) (fn : Func) : Prop := match x with
  | .countByte => False
  | .makeNoZero e => ∃ t, fn.resultTypes[0]? = some t ∧ P.underlying t = some (.slice e)
  | _ => True

theorem find_byte (c : UInt8) : ∀ (l : List UInt8) (i : Nat), findByte (c.toNat : Int) l i = (match (List.range l.length).find? (fun j => l[j]! == c) with | some j => ((i + j : Nat) : Int) | none => -1)
  | [], i => by simp [findByte]
  | b :: l, i => by
    simp only [findByte]
    by_cases h : b = c
    · subst h
      simp [List.range_succ_eq_map, List.find?_cons]
    · have h1 : ¬ ((b.toNat : Int) = (c.toNat : Int)) := fun e => h (UInt8.toNat_inj.1 (by omega))
      rw [show decide ((b.toNat : Int) = (c.toNat : Int)) = false from decide_eq_false h1]
      simp only [find_byte c l (i + 1), List.length_cons, List.range_succ_eq_map, List.find?_cons]
      have h2 : ((b :: l)[0]! == c) = false := by simpa using h
      rw [h2]
      simp only [List.find?_map, Function.comp_def]
      have h3 : (fun j => (b :: l)[Nat.succ j]! == c) = fun j => l[j]! == c := by
        funext j; simp
      rw [h3]
      cases (List.range l.length).find? (fun j => l[j]! == c) with
      | none => rfl
      | some j =>
        show ((i + 1 + j : Nat) : Int) = ((i + (j + 1) : Nat) : Int)
        congr 1; omega

theorem count_byte (c : UInt8) : ∀ (l : List UInt8) (n : Nat), countB (c.toNat : Int) l n = l.foldl (fun n x => if x == c then n + 1 else n) n
  | [], n => rfl
  | b :: l, n => by
    simp only [countB, List.foldl_cons]
    by_cases h : b = c
    · subst h
      simp [count_byte b l (n + 1)]
    · have h1 : ¬ ((b.toNat : Int) = (c.toNat : Int)) := fun e => h (UInt8.toNat_inj.1 (by omega))
      rw [show decide ((b.toNat : Int) = (c.toNat : Int)) = false from decide_eq_false h1]
      have h2 : (b == c) = false := by simpa using h
      rw [h2]
      simp [count_byte c l n]

theorem byte_get (s : ByteArray) (j : Nat) : s[j]! = s.data.toList[j]! := by
  by_cases h : j < s.size
  · have h2 : j < s.data.size := h
    rw [getElem!_pos s j h, getElem!_pos s.data.toList j (by simpa using h2)]
    rfl
  · have h2 : ¬ j < s.data.size := h
    rw [getElem!_neg s j h, getElem!_neg s.data.toList j (by simpa using h2)]

theorem u8V_ok {η : Env} {v v' : Value} {c : Int} (h : u8V v = some c) (hr : VRel η v v') : v' = .int .u8 c ∧ c = ((UInt8.ofNat c.toNat).toNat : Int) := by
  unfold u8V at h
  split at h
  · obtain ⟨hg, h1⟩ := guardO_some.1 h
    cases h1
    cases hr
    have := of_decide_eq_true hg
    refine ⟨rfl, ?_⟩
    rw [UInt8.toNat_ofNat', Nat.mod_eq_of_lt (by omega)]
    omega
  · cases h

theorem digits_size : ∀ (n t : Nat) (acc : Array Value), (Extern.BytealgMakeNoZero.digits n t acc).size = acc.size + n
  | 0, t, acc => rfl
  | n + 1, t, acc => by simp only [Extern.BytealgMakeNoZero.digits, digits_size n, Array.size_push]; omega

theorem digits_int : ∀ (n t : Nat) (acc : Array Value), (∀ (i : Nat) v, acc[i]? = some v → oneCell v = true) → ∀ (i : Nat) v, (Extern.BytealgMakeNoZero.digits n t acc)[i]? = some v → oneCell v = true
  | 0, t, acc, h => h
  | n + 1, t, acc, h => by
    refine digits_int n (t / 256) _ fun i v hi => ?_
    rw [Array.getElem?_push] at hi
    split at hi
    · cases hi; rfl
    · exact h i v hi

theorem ext_ok {η : Env} {K K' : AHeap} {w : World} (hd : Desc P η K w) (hw : WF K) (hf : Fresh η K K') {x : Xk} {fn : Func} (ht : extType P x fn) {args args' : List Value} {v : Value} (h : extV P x args K = some (v, K')) (hr : LRel η args args') :
    Does P η K w (extRow x fn args'.toArray) v K' := by
  cases x <;> simp only [extV] at h <;> split at h <;> try (cases h; done)
  · cases hr with | cons hv hr =>
    cases hr
    cases h
    exact ⟨_, w, η, rfl, Step.refl P hd, hv⟩
  · cases hr with | cons hs hr =>
    cases hr with | cons hc hr =>
    cases hr
    obtain ⟨s, h1, h2⟩ := bind_some.1 h
    obtain ⟨c, h3, h4⟩ := map_some.1 h2
    cases h4
    obtain ⟨rfl, rfl⟩ := strV_ok h1 hs
    obtain ⟨rfl, hc2⟩ := u8V_ok h3 hc
    refine ⟨_, w, η, ?_, Step.refl P hd, .int _ _⟩
    obtain ⟨d, rfl⟩ : ∃ d : UInt8, c = (d.toNat : Int) := ⟨_, hc2⟩
    have hdef : Extern.BytealgIndexByte.indexByte #[.string s, .int .u8 (d.toNat : Int)] = (do
        match (List.range s.size).find? fun i => s[i]! == (d.toNat : Int).toNat.toUInt8 with
        | some i => pure (goInt i)
        | none => pure (goInt (-1))) := rfl
    show (Extern.BytealgIndexByte.indexByte #[.string s, .int .u8 (d.toNat : Int)]).run P w = _
    have hdd : (d.toNat : Int).toNat.toUInt8 = d := by simp
    rw [hdef, find_byte, hdd]
    have e1 : s.data.toList.length = s.size := by rw [Array.length_toList]; rfl
    have e2 : (fun j : Nat => s.data.toList[j]! == d) = fun i : Nat => s[i]! == d := by
      funext j
      rw [byte_get]
    rw [e1, e2]
    cases (List.range s.size).find? (fun i : Nat => s[i]! == d) with
    | none => rfl
    | some j => simp [goInt]
  · exact ht.elim
  · cases hr with | cons hv hr =>
    cases hr
    obtain ⟨n, h1, h2⟩ := bind_some.1 h
    obtain ⟨⟨m, K1⟩, h3, h4⟩ := map_some.1 h2
    obtain ⟨hg, h5⟩ := guardO_some.1 h3
    simp only [slcOf, Prod.mk.injEq] at h4
    obtain ⟨rfl, rfl⟩ := h4
    obtain ⟨rfl, hmax⟩ := i64V_ok h1 hv
    obtain ⟨t, ht1, ht2⟩ := ht
    rename_i e _ _
    have hn := mk_spec h5
    have hsz1 := of_decide_eq_true hg
    let q : Question := .appendCap n 0 e
    let cap := q.cut (w.tape w.drawn q)
    let q2 : Question := .extern "internal/bytealg.MakeNoZero.bytes" 0
    let bytes := q2.cut (w.tape (w.drawn + 1) q2)
    have hcap : n ≤ cap := by simp [cap, q, Question.cut]
    let c : Array Value := Extern.BytealgMakeNoZero.digits cap bytes #[]
    have hcs : c.size = cap := by simp [c, digits_size]
    have hone : ∀ (i : Nat) v, c[i]? = some v → oneCell v = true := digits_int cap bytes #[] (fun i v h => by simp at h)
    let w2 : World := { w with heap := w.heap.push (.cells c e), drawn := w.drawn + 1 + 1 }
    obtain ⟨hs, h0⟩ := row_step (vs := List.replicate n poison) (c := c) (fr := (0, 0)) (w' := w2) hd hw h5 hf (fun i u hi => by
        rw [List.getElem?_replicate] at hi
        split at hi
        · rename_i hlt
          cases hi
          have hlt2 : i < c.size := by omega
          exact ⟨c[i], by simp [hlt2], .poison _ (hone i _ (by simp [hlt2]))⟩
        · cases hi) (by simp; omega) rfl (fun i _ => by simp) (fun _ => rfl) rfl rfl rfl
    refine ⟨.slice (some ⟨w.heap.size, 0, none⟩) n cap, w2, _, ?_, hs, ?_⟩
    · have hdef : Extern.BytealgMakeNoZero.makeNoZero fn.params fn.resultTypes #[.int .i64 (n : Int)] = (do
          let some t := fn.resultTypes[0]? | stuck "bytealg.MakeNoZero: no result type"
          let .slice elem ← underlying t | stuck "bytealg.MakeNoZero: slice type expected"
          if (n : Int) < 0 || (n : Int) > 2 ^ 48 then runtimePanic (.error "makeslice: len out of range")
          let cap ← choose (.appendCap (n : Int).toNat 0 elem)
          askRoom cap
          let bytes ← choose (.extern "internal/bytealg.MakeNoZero.bytes" 0)
          let a ← newRow elem (Extern.BytealgMakeNoZero.digits cap bytes #[])
          pure (.slice (some a) (n : Int).toNat cap)) := rfl
      show (Extern.BytealgMakeNoZero.makeNoZero fn.params fn.resultTypes #[.int .i64 (n : Int)]).run P w = _
      rw [hdef, ht1]
      have hc1 : (decide ((n : Int) < 0) || decide ((n : Int) > 2 ^ 48)) = false := by
        rw [decide_eq_false (by omega), decide_eq_false (by omega)]; rfl
      have hch : (choose (.appendCap n 0 e)).run P w = .ok cap { w with drawn := w.drawn + 1 } := by simp only [run_choose]; rfl
      have hch2 : (choose (.extern "internal/bytealg.MakeNoZero.bytes" 0)).run P { w with drawn := w.drawn + 1 } = .ok bytes { w with drawn := w.drawn + 1 + 1 } := by simp only [run_choose]; rfl
      simp only [Sem.run_bind, run_underlying' ht2, Result.andThen, hc1, Bool.false_eq_true, if_false, Int.toNat_natCast, hch, run_askRoom, hch2, newRow, run_newObj, Sem.run_pure]
      rfl
    · have := VRel.slow (o := 0) (q := 1) (η := upd η m ⟨w.heap.size, 0, c.size⟩) n n cap (upd_same _ _ _) hcap (by show 0 + 0 + cap * 1 ≤ c.size; omega)
      simpa [lowSlice] using this
  · cases hr with | cons hv hr =>
    cases hr
    unfold cloneOf at h
    split at h
    · rename_i t r
      cases hv with | iface _ hv =>
      cases hv with | map hL =>
      rename_i L
      obtain ⟨ec, h1, h2⟩ := bind_some.1 h
      obtain ⟨⟨m, K1⟩, h3, h4⟩ := map_some.1 h2
      simp only [Prod.mk.injEq] at h4
      obtain ⟨rfl, rfl⟩ := h4
      obtain ⟨es', e1, e2, e3⟩ := mapE_ok hd hL h1
      have hn := mk_spec h3
      have h0 : η m = none := fresh_next hf (by omega) (by omega)
      let L' : Loc := ⟨w.heap.size, 0, 0⟩
      obtain ⟨hs, _⟩ := step_mk (L := L') (ob := .map es' ec.2) (w' := w.alloc (.map es' ec.2)) hd hw h3 hf rfl rfl rfl rfl rfl ⟨es', World.alloc_heap_new _ _, e2.ext (upd_ext h0)⟩
      refine ⟨.iface t (.map (some w.heap.size)), _, _, ?_, hs, .iface t (.map (L := L') (upd_same _ _ _))⟩
      have hdef : Extern.MapsClone.clone #[.iface t (.map (some L.blk))] = (do
          let .map entries clock ← getObj L.blk | stuck "maps.clone: a map expected"
          pure (.iface t (.map (some (← newObj (.map entries clock)))))) := rfl
      show (Extern.MapsClone.clone #[.iface t (.map (some L.blk))]).run P w = _
      rw [hdef]
      simp [run_getObj e1 (by simp)]
    · cases h

/-- The table's functions are what the machine holds them for. -/
def TabOk (P : Program) (tab : List (FuncId × Xk)) : Prop := ∀ f x, tab.lookup f = some x → ∀ fn, P.funcs[f]? = some fn → (fn.name == "runtime.NumGoroutine") = false ∧ Extern.findNext fn = none ∧ Extern.find fn = some (extRow x fn) ∧ extType P x fn ∧ fn.body = none

theorem extX_ok {tab : List (FuncId × Xk)} (ht : TabOk P tab) : XOk P (extX P tab) := fun f args K v K' h fn hfn η w args' hd hw hf hr => by
  unfold extX at h
  obtain ⟨x, h1, h2⟩ := bind_some.1 h
  obtain ⟨t1, t2, t3, t4, t5⟩ := ht f x h1 fn hfn
  refine ⟨fun hb => ?_, fun hb => by rw [t5] at hb; cases hb⟩
  obtain ⟨v', w', η', r1, r2, r3⟩ := ext_ok hd hw hf t4 h2 hr
  refine ⟨v', w', η', ?_, r2, r3⟩
  rw [extern_run hfn hb t1 t2 t3]
  simp [r1]

end Go.Ev

/- The evaluator without a bound on its rounds: the limit of the bounded ones; it unfolds as they do, and tells right as they do. Conditions: none. -/
set_option linter.unusedVariables false
set_option linter.unusedSimpArgs false
set_option linter.unnecessarySimpa false
namespace Go.Ev
variable {P : Program} {X : Xt}

/-- A chain of evaluators comes to one. -/
def Lim (ch : Nat → Ih) (g : Ih) : Prop := ∀ rnd nt c s r, g rnd nt c s = some r → ∃ N, ∀ n, N ≤ n → ch n rnd nt c s = some r

/-- What is answered at the limit is answered from a place of the chain on. -/
def Cont {β : Type} (F : Ih → Option β) : Prop := ∀ ch g, Lim ch g → ∀ r, F g = some r → ∃ N, ∀ n, N ≤ n → F (ch n) = some r

theorem Cont.const {β : Type} (o : Option β) : Cont fun _ => o := fun _ _ _ _ h => ⟨0, fun _ _ => h⟩
theorem Cont.ask (rnd : Option Nat) (nt : Nat) (c : Code) (s : St) : Cont fun ih => ih rnd nt c s := fun _ _ hl r h => hl rnd nt c s r h
theorem Cont.bind {α β : Type} {F : Ih → Option α} {G : Ih → α → Option β} (hF : Cont F) (hG : ∀ x, Cont fun ih => G ih x) : Cont fun ih => (F ih).bind (G ih) := fun ch g hl r h => by
  obtain ⟨x, h1, h2⟩ := bind_some.1 h
  obtain ⟨N1, k1⟩ := hF ch g hl x h1
  obtain ⟨N2, k2⟩ := hG x ch g hl r h2
  exact ⟨max N1 N2, fun n hn => bind_some.2 ⟨x, k1 n (by omega), k2 n (by omega)⟩⟩
theorem Cont.map {α β : Type} {F : Ih → Option α} {f : α → β} (hF : Cont F) : Cont fun ih => (F ih).map f := fun ch g hl r h => by
  obtain ⟨x, h1, h2⟩ := map_some.1 h
  obtain ⟨N1, k1⟩ := hF ch g hl x h1
  exact ⟨N1, fun n hn => map_some.2 ⟨x, k1 n hn, h2⟩⟩
theorem Cont.guard {β : Type} {b : Bool} {F : Ih → Option β} (hF : Cont F) : Cont fun ih => guardO b (F ih) := by
  cases b
  · exact Cont.const none
  · exact hF

theorem cont_body (fn : Func) (args : List Value) (K : AHeap) (c : Code) : Cont fun ih => evBody P ih fn args K c :=
  Cont.guard (Cont.bind (Cont.ask _ _ _ _) fun _ => Cont.const _)
theorem cont_func (f : FuncId) (args : List Value) (K : AHeap) (fn : Func) : Cont fun ih => evFunc P X ih f args K fn := by
  unfold evFunc
  cases fn.body with
  | none => exact Cont.const _
  | some c =>
    cases X f args K with
    | none => exact cont_body fn args K c
    | some r => exact Cont.const _
theorem cont_call (f : FuncId) (args : List Value) (K : AHeap) : Cont fun ih => evCall P X ih f args K :=
  Cont.bind (Cont.const _) fun fn => cont_func f args K fn
theorem cont_round (l : Nat) (args : List Value) (K : AHeap) : Cont fun ih => evRound ih l args K := by
  unfold evRound
  refine Cont.bind (Cont.const _) fun r => Cont.guard (Cont.bind (Cont.const _) fun tm => Cont.bind (Cont.ask _ _ _ _) fun q => ?_)
  obtain ⟨e, s⟩ := q
  cases e with
  | normal => exact Cont.bind (Cont.const _) fun r => Cont.guard (Cont.bind (Cont.const _) fun K => Cont.bind (Cont.ask _ _ _ _) fun q => Cont.const _)
  | exit id => exact Cont.const _
  | ret => exact Cont.const _
theorem cont_oper (tm : T Value) (K : AHeap) (o : Op) : Cont fun ih => evOper P X ih tm K o := by
  unfold evOper
  refine Cont.bind (Cont.const _) fun r => ?_
  obtain ⟨r, K⟩ := r
  cases r with
  | val v => exact Cont.const _
  | enter f args => exact cont_call f args K
  | round l args => exact cont_round l args K
theorem cont_pop (tm : T Value) (K : AHeap) (o : POp) : Cont fun ih => evPOp P X ih tm K o := by
  unfold evPOp
  refine Cont.bind (Cont.const _) fun b => ?_
  cases b with
  | false => exact Cont.const _
  | true =>
    simp only [evOper1]
    cases o.clean with
    | false => exact cont_oper _ _ _
    | true => exact Cont.bind (cont_oper _ _ _) fun p => Cont.const _
theorem cont_ops (nt : Nat) : ∀ (l : List POp) (tm : T Value) (K : AHeap), Cont fun ih => evOps P X ih nt l tm K
  | [], tm, K => Cont.const _
  | o :: l, tm, K => by
    simp only [evOps]
    exact Cont.bind (cont_pop tm K o) fun p => Cont.bind (Cont.const _) fun tm' => cont_ops nt l tm' p.2
theorem cont_region (nt : Nat) (ops : List Oper) (draw : Bool) (s : St) : Cont fun ih => evRegion P X ih nt ops draw s :=
  Cont.bind (Cont.const _) fun ps => Cont.map (cont_ops nt ps s.tm s.K)
theorem cont_range (rnd : Option Nat) (nt : Nat) (f : Operand) (ps : List Tmp) (a b : Code) (s : St) : Cont fun ih => evRange P X ih rnd nt f ps a b s :=
  Cont.bind (Cont.const _) fun d => Cont.bind (Cont.const _) fun q => Cont.bind (Cont.const _) fun c => Cont.guard (Cont.bind (cont_call _ _ _) fun r => Cont.const _)

theorem cont_andThen {k : Ih → St → Option (AExit × St)} (hk : ∀ s, Cont fun ih => k ih s) (r : AExit × St) : Cont fun ih => andThen (k ih) r := by
  obtain ⟨e, s⟩ := r
  cases e with
  | normal => exact hk s
  | exit id => exact Cont.const _
  | ret => exact Cont.const _

theorem cont_code (rnd : Option Nat) (nt : Nat) : ∀ (c : Code) (s : St), Cont fun ih => evCode P X ih rnd nt c s := by
  intro c
  induction c with
  | skip => intro s; exact Cont.const _
  | label l => intro s; exact Cont.const _
  | exit id => intro s; exact Cont.const _
  | ret => intro s; exact Cont.const _
  | goto l => intro s; exact Cont.const _
  | refuse r => intro s; exact Cont.const _
  | seq a b iha ihb => intro s; exact Cont.bind (iha s) fun r => cont_andThen ihb r
  | cond c a b iha ihb =>
    intro s
    simp only [evCode]
    refine Cont.bind (Cont.const _) fun t => ?_
    cases t
    · exact ihb s
    · exact iha s
  | block id b ih => intro s; exact Cont.map (ih s)
  | loop b ih => intro s; exact Cont.bind (ih s) fun r => cont_andThen (fun s => Cont.ask _ _ _ _) r
  | scope b ih => intro s; exact ih s
  | region id ops draw => intro s; exact cont_region nt _ _ s
  | rangeFunc f ps a b _ _ => intro s; exact cont_range rnd nt f _ a b s

/-- More is answered. -/
def Le1 (g h : Ih) : Prop := ∀ rnd nt c s r, g rnd nt c s = some r → h rnd nt c s = some r

theorem Le1.lim {g h : Ih} (hl : Le1 g h) : Lim (fun _ => h) g := fun rnd nt c s r hr => ⟨0, fun _ _ => hl rnd nt c s r hr⟩

theorem Cont.mono {β : Type} {F : Ih → Option β} (hF : Cont F) {g h : Ih} (hl : Le1 g h) {r : β} (hr : F g = some r) : F h = some r := by
  obtain ⟨N, hN⟩ := hF _ g hl.lim r hr
  exact hN N (Nat.le_refl _)

theorem ev_mono1 : ∀ n, Le1 (ev P X n) (ev P X (n + 1))
  | 0 => fun _ _ _ _ _ h => by cases h
  | n + 1 => fun rnd nt c s r h => (cont_code rnd nt c s).mono (ev_mono1 n) h

theorem ev_mono {n : Nat} : ∀ d, Le1 (ev P X n) (ev P X (n + d))
  | 0 => fun _ _ _ _ _ h => h
  | d + 1 => fun rnd nt c s r h => ev_mono1 (n + d) rnd nt c s r (ev_mono d rnd nt c s r h)

theorem ev_le {n m : Nat} (h : n ≤ m) : Le1 (ev P X n) (ev P X m) := by
  obtain ⟨d, rfl⟩ : ∃ d, m = n + d := ⟨m - n, by omega⟩
  exact ev_mono d

open Classical in
/-- THE EVALUATOR, WITHOUT A BOUND. -/
noncomputable def evω (P : Program) (X : Xt) : Ih := fun rnd nt c s => if h : ∃ r n, ev P X n rnd nt c s = some r then some (Classical.choose h) else none

theorem evω_of {n : Nat} {rnd : Option Nat} {nt : Nat} {c : Code} {s : St} {r : AExit × St} (h : ev P X n rnd nt c s = some r) : evω P X rnd nt c s = some r := by
  have hx : ∃ r n, ev P X n rnd nt c s = some r := ⟨r, n, h⟩
  unfold evω
  rw [dif_pos hx]
  obtain ⟨m, hm⟩ := Classical.choose_spec hx
  have h1 := ev_le (Nat.le_max_left n m) rnd nt c s r h
  have h2 := ev_le (Nat.le_max_right n m) rnd nt c s _ hm
  rw [h1] at h2
  exact h2.symm

theorem evω_some {rnd : Option Nat} {nt : Nat} {c : Code} {s : St} {r : AExit × St} (h : evω P X rnd nt c s = some r) : ∃ n, ev P X n rnd nt c s = some r := by
  unfold evω at h
  split at h
  · rename_i hx
    cases h
    exact Classical.choose_spec hx
  · cases h

theorem evω_lim : Lim (ev P X) (evω P X) := fun rnd nt c s r h => by
  obtain ⟨n, hn⟩ := evω_some h
  exact ⟨n, fun m hm => ev_le hm rnd nt c s r hn⟩

/-- IT UNFOLDS. -/
theorem evω_eq (rnd : Option Nat) (nt : Nat) (c : Code) (s : St) : evω P X rnd nt c s = evCode P X (evω P X) rnd nt c s := by
  have key : ∀ r, evω P X rnd nt c s = some r ↔ evCode P X (evω P X) rnd nt c s = some r := fun r => by
    constructor
    · intro h
      obtain ⟨n, hn⟩ := evω_some h
      cases n with
      | zero => cases hn
      | succ n => exact (cont_code rnd nt c s).mono (fun _ _ _ _ _ h => evω_of h) hn
    · intro h
      obtain ⟨N, hN⟩ := cont_code rnd nt c s _ _ evω_lim r h
      exact evω_of (n := N + 1) (hN N (Nat.le_refl _))
  cases h : evω P X rnd nt c s with
  | some r => exact ((key r).1 h).symm
  | none =>
    cases h2 : evCode P X (evω P X) rnd nt c s with
    | none => rfl
    | some r => rw [(key r).2 h2] at h; cases h

theorem callω {f : FuncId} {args : List Value} {K : AHeap} {r : Value × AHeap} (h : evCall P X (evω P X) f args K = some r) : ∃ n, evCall P X (ev P X n) f args K = some r := by
  obtain ⟨N, hN⟩ := cont_call f args K _ _ evω_lim r h
  exact ⟨N, hN N (Nat.le_refl _)⟩

theorem callω_of {n : Nat} {f : FuncId} {args : List Value} {K : AHeap} {r : Value × AHeap} (h : evCall P X (ev P X n) f args K = some r) : evCall P X (evω P X) f args K = some r :=
  (cont_call f args K).mono (fun _ _ _ _ _ h => evω_of h) h

end Go.Ev
