/-
  Rules for slices, append, make, build, maps with keys that the model compares at once, in the small calculus of Vxa. No conditions beyond those that each rule names.
-/
import Derived.Test.YthhbnodnpajljaaVxc
import Derived.Laws.OwnMore
import Derived.Laws.StructEq
set_option linter.unusedVariables false
set_option linter.unusedSimpArgs false
namespace Go.Vx
open Go Go.RowKit

/-! ### Slices that the call owns -/
def Own (w : World) (e : TypeId) (sz : Nat) (v : Value) (n : Nat) (xs : List Value) : Prop := w.ownsRow 0 e sz v n xs

theorem Own.nil (w : World) (e : TypeId) (sz : Nat) : Own w e sz (.slice none 0 0) 0 [] := World.ownsRow_nil w 0 e sz
theorem Own.len {w : World} {e : TypeId} {sz : Nat} {v : Value} {n : Nat} {xs : List Value} (h : Own w e sz v n xs) : xs.length = n * sz := h.1
theorem Own.form {w : World} {e : TypeId} {sz : Nat} {v : Value} {n : Nat} {xs : List Value} (h : Own w e sz v n xs) :
    (v = .slice none 0 0 ∧ n = 0 ∧ xs = []) ∨ ∃ g cap cur, v = .slice (some ⟨g, 0, none⟩) n cap ∧ Blk w g cur e ∧ n ≤ cap ∧ cap ≤ maxLen ∧ cur.size = cap * sz ∧ cur.toList.take (n * sz) = xs := by
  obtain ⟨h1, ⟨rfl, rfl⟩ | ⟨g, cap, cur, rfl, _, hb, hn, hc, hs, ht⟩⟩ := h
  · exact .inl ⟨rfl, rfl, by simpa using h1⟩
  · exact .inr ⟨g, cap, cur, rfl, hb, hn, hc, hs, ht⟩
theorem Own.shape {w : World} {e : TypeId} {sz : Nat} {v : Value} {n : Nat} {xs : List Value} (h : Own w e sz v n xs) : ∃ A c, v = .slice A n c ∧ n ≤ c := by
  rcases h.form with ⟨rfl, rfl, _⟩ | ⟨g, cap, cur, rfl, _, hn, _⟩
  · exact ⟨_, _, rfl, Nat.le_refl _⟩
  · exact ⟨_, _, rfl, hn⟩
theorem Own.lt {w : World} {e : TypeId} {sz : Nat} {v : Value} {n : Nat} {xs : List Value} (h : Own w e sz v n xs) : ∀ k, v.ownBlock = some k → k < w.heap.size := fun k hk => (World.ownsRow.lt h k hk).2
theorem Own.keep {K : Nat → Prop} {w w' : World} {e : TypeId} {sz : Nat} {v : Value} {n : Nat} {xs : List Value} (h : Own w e sz v n xs) (c : Chg K w w') (hk : ∀ k, v.ownBlock = some k → ¬ K k) : Own w' e sz v n xs := by
  obtain ⟨h1, h2⟩ := h
  refine ⟨h1, ?_⟩
  rcases h2 with h2 | ⟨g, cap, cur, rfl, hb, hh, r⟩
  · exact .inl h2
  · exact .inr ⟨g, cap, cur, rfl, hb, (c.keep g (Blk.lt hh) (hk g rfl)).trans hh, r⟩
theorem Own.ext {w w' : World} {e : TypeId} {sz : Nat} {v : Value} {n : Nat} {xs : List Value} (h : Own w e sz v n xs) (c : Ext w w') : Own w' e sz v n xs := h.keep c fun _ _ => id
theorem Own.of_blk {w : World} {g : Nat} {cur : Array Value} {e : TypeId} {sz n cap : Nat} {xs : List Value} (hb : Blk w g cur e) (hn : n ≤ cap) (hc : cap ≤ maxLen) (hs : cur.size = cap * sz) (ht : cur.toList.take (n * sz) = xs) :
    Own w e sz (.slice (some ⟨g, 0, none⟩) n cap) n xs := by
  refine ⟨?_, .inr ⟨g, cap, cur, rfl, Nat.zero_le _, hb, hn, hc, hs, ht⟩⟩
  rw [← ht, List.length_take, Array.length_toList, hs]
  exact Nat.min_eq_left (Nat.mul_le_mul_right _ hn)
theorem Own.lit {w : World} {g : Nat} {cs : Array Value} {e : TypeId} {sz n : Nat} (hb : Blk w g cs e) (hs : cs.size = n * sz) (hc : n ≤ maxLen) : Own w e sz (.slice (some ⟨g, 0, none⟩) n n) n cs.toList :=
  Own.of_blk hb (Nat.le_refl _) hc hs (by rw [← hs, ← Array.length_toList, List.take_length])
theorem Own.ne_blk {w : World} {e t : TypeId} {sz n b : Nat} {v : Value} {xs : List Value} {cs : Array Value} (h : Own w e sz v n xs) (hb : Blk w b cs t) (ht : e ≠ t) : ∀ k, v.ownBlock = some k → ¬ (k = b) := by
  intro k hk e1
  subst e1
  rcases h.form with ⟨rfl, _⟩ | ⟨g, cap, cur, rfl, hg, _⟩
  · simp [Value.ownBlock] at hk
  · have : g = k := by simpa [Value.ownBlock] using hk
    subst this; exact ht (hg.same hb).2
theorem Own.ne_own {w : World} {e t : TypeId} {sz n sz' n' : Nat} {v v' : Value} {xs xs' : List Value} (h : Own w e sz v n xs) (h' : Own w t sz' v' n' xs') (ht : e ≠ t) : ∀ k, v.ownBlock = some k → ¬ (v'.ownBlock = some k) := by
  intro k hk hk'
  rcases h.form with ⟨rfl, _⟩ | ⟨g, cap, cur, rfl, hg, _⟩
  · simp [Value.ownBlock] at hk
  rcases h'.form with ⟨rfl, _⟩ | ⟨g', cap', cur', rfl, hg', _⟩
  · simp [Value.ownBlock] at hk'
  simp only [Value.ownBlock, Option.some.injEq] at hk hk'
  subst hk; subst hk'
  exact ht (hg.same hg').2

theorem CellsL.of_get {w : World} {b : Nat} : ∀ {vs : List Value} {o : Nat}, (∀ j v, vs[j]? = some v → w.cell? ⟨b, o + j, none⟩ = some v) → CellsL w b o vs
  | [], _, _ => trivial
  | v :: vs, o, h => ⟨by have := h 0 v rfl; simpa using this, CellsL.of_get fun j u hj => by have := h (j + 1) u (by simpa using hj); rwa [Nat.add_assoc, Nat.add_comm 1 j]⟩
theorem CellsL.get {w : World} {b : Nat} : ∀ {vs : List Value} {o : Nat}, CellsL w b o vs → ∀ j v, vs[j]? = some v → w.cell? ⟨b, o + j, none⟩ = some v
  | [], _, _, j, v, h => by simp at h
  | u :: vs, o, h, 0, v, hj => by simp at hj; subst hj; exact h.1
  | u :: vs, o, h, j + 1, v, hj => by
    have := CellsL.get h.2 j v (by simpa using hj)
    rwa [Nat.add_assoc, Nat.add_comm 1 j] at this
theorem CellsL.keep {K : Nat → Prop} {w w' : World} {b : Nat} (c : Chg K w w') (hk : ¬ K b) : ∀ {vs : List Value} {o : Nat}, CellsL w b o vs → CellsL w' b o vs
  | [], _, _ => trivial
  | v :: vs, o, h => ⟨Chg.cell h.1 c hk, CellsL.keep c hk h.2⟩
theorem Blk.cells {w : World} {b : Nat} {cs : Array Value} {t : TypeId} (h : Blk w b cs t) {o : Nat} {vs : List Value} (hv : ∀ j v, vs[j]? = some v → cs[o + j]? = some v) : CellsL w b o vs :=
  CellsL.of_get fun j v hj => h.cell (hv j v hj)
theorem Blk.all {w : World} {b : Nat} {vs : List Value} {t : TypeId} (h : Blk w b vs.toArray t) : CellsL w b 0 vs := h.cells fun j v hj => by simpa using hj
/-- the i-th element of an owned slice -/
theorem Own.cells {w : World} {e : TypeId} {sz n g cap : Nat} {xs : List Value} (h : Own w e sz (.slice (some ⟨g, 0, none⟩) n cap) n xs) {o : Nat} {vs : List Value} (hv : ∀ j v, vs[j]? = some v → xs[o + j]? = some v) : CellsL w g o vs := by
  rcases h.form with ⟨h1, _⟩ | ⟨g', cap', cur, h1, hb, hn, _, hs, ht⟩
  · cases h1
  · simp at h1
    obtain ⟨rfl, rfl⟩ := h1
    refine hb.cells fun j v hj => ?_
    have := hv j v hj
    rw [← ht, List.getElem?_take] at this
    split at this
    · simpa using this
    · cases this
theorem Own.some_of {w : World} {e : TypeId} {sz n : Nat} {v : Value} {xs : List Value} (h : Own w e sz v n xs) (hn : 0 < n) : ∃ g cap, v = .slice (some ⟨g, 0, none⟩) n cap ∧ n ≤ cap := by
  rcases h.form with ⟨_, h0, _⟩ | ⟨g, cap, cur, rfl, _, hc, _⟩
  · omega
  · exact ⟨g, cap, rfl, hc⟩

def setL {α : Type} (xs : List α) (o : Nat) : List α → List α
  | [] => xs
  | v :: vs => setL (xs.set o v) (o + 1) vs
theorem setAll_list : ∀ (vs : List Value) (cs : Array Value) (o : Nat), (setAll cs o vs).toList = setL cs.toList o vs
  | [], _, _ => rfl
  | v :: vs, cs, o => by simp [setAll, setL, setAll_list vs]
theorem setAll_size : ∀ (vs : List Value) (cs : Array Value) (o : Nat), (setAll cs o vs).size = cs.size
  | [], _, _ => rfl
  | v :: vs, cs, o => by simp [setAll, setAll_size vs]
theorem setL_take {α : Type} : ∀ (vs : List α) (xs : List α) (o k : Nat), o + vs.length ≤ k → (setL xs o vs).take k = setL (xs.take k) o vs
  | [], _, _, _, _ => rfl
  | v :: vs, xs, o, k, h => by
    simp only [List.length_cons] at h
    simp only [setL]
    rw [setL_take vs _ _ _ (by omega), List.take_set]
theorem Own.toBlk {w : World} {e : TypeId} {sz n g cap : Nat} {xs : List Value} (h : Own w e sz (.slice (some ⟨g, 0, none⟩) n cap) n xs) : ∃ cur, Blk w g cur e ∧ n * sz ≤ cur.size ∧
    ∀ (vs : List Value) (o : Nat) (w' : World), o + vs.length ≤ n * sz → Blk w' g (setAll cur o vs) e → Own w' e sz (.slice (some ⟨g, 0, none⟩) n cap) n (setL xs o vs) := by
  rcases h.form with ⟨h1, _⟩ | ⟨g', cap', cur, h1, hb, hn, hc, hs, ht⟩
  · cases h1
  · simp at h1
    obtain ⟨rfl, rfl⟩ := h1
    refine ⟨cur, hb, by rw [hs]; exact Nat.mul_le_mul_right _ hn, fun vs o w' ho hb' => Own.of_blk hb' hn hc (by rw [setAll_size, hs]) ?_⟩
    rw [setAll_list, setL_take _ _ _ _ ho, ht]

section ox
variable {P : Program} {ρ : Operand → Value} {w : World} {K : Value → World → Prop} {dst : Option Tmp} {ty : TypeId} {pos : String} {af : Array Edge} {gd : Option (Nat × Bool)}

theorem slice_of {t e : TypeId} {sz by_ : Nat} {z : Value} (h : sliceT P t = some (e, sz, by_, z)) : P.underlying t = some (.slice e) ∧ ∃ i, P.info? e = some i ∧ i.zero = some z ∧ i.size = sz ∧ i.bytes = by_ := by
  unfold sliceT at h
  cases hu : P.underlying t with
  | none => rw [hu] at h; cases h
  | some d =>
    rw [hu] at h
    cases d <;> try (cases h; done)
    rename_i e'
    simp only at h
    cases hi : P.info? e' with
    | none => rw [hi] at h; cases h
    | some i =>
      rw [hi] at h
      simp only [Option.bind_some] at h
      cases hz : i.zero with
      | none => rw [hz] at h; cases h
      | some z' =>
        rw [hz] at h
        simp at h
        obtain ⟨rfl, rfl, rfl, rfl⟩ := h
        exact ⟨rfl, i, hi, hz, rfl, rfl⟩

theorem ox_len {c : Call} {x : Operand} {t e : TypeId} {A : Option Addr} {n cp : Nat} (hc : c = { callee := .builtin .len, args := #[x], argTypes := #[t] }) (hu : P.underlying t = some (.slice e)) (hx : ρ x = .slice A n cp) (h : K (.int .i64 n) w) :
    OpX P ⟨dst, .call c, ty, pos, af, gd⟩ ρ w K := by
  subst hc
  exact ox_val (w' := w) (by simp [execOp, resolve, invoke, builtin, Builtin.len_, hx, Sem.run_bind, run_underlying hu, Result.andThen, goInt]) h
theorem ox_lenS {c : Call} {x : Operand} {t : TypeId} {s : ByteArray} (hc : c = { callee := .builtin .len, args := #[x], argTypes := #[t] }) (hu : P.underlying t = some .string) (hx : ρ x = .string s) (h : K (.int .i64 s.size) w) :
    OpX P ⟨dst, .call c, ty, pos, af, gd⟩ ρ w K := by
  subst hc
  exact ox_val (w' := w) (by simp [execOp, resolve, invoke, builtin, Builtin.len_, hx, Sem.run_bind, run_underlying hu, Result.andThen, goInt]) h
theorem ox_min {c : Call} {x y : Operand} {ts : Array TypeId} {k : IntKind} {a b : Int} (hc : c = { callee := .builtin .min, args := #[x, y], argTypes := ts }) (hx : ρ x = .int k a) (hy : ρ y = .int k b) (h : K (.int k (if b < a then b else a)) w) :
    OpX P ⟨dst, .call c, ty, pos, af, gd⟩ ρ w K := by
  subst hc
  exact ox_val (v := .int k (if b < a then b else a)) (w' := w) (by simp [execOp, resolve, invoke, builtin, Builtin.min_, Builtin.min2, hx, hy]) h
theorem ox_indexAddr {x ix : Operand} {t e : TypeId} {sz by_ : Nat} {z : Value} {b o n cp : Nat} {k : IntKind} {i : Int} (ht : sliceT P t = some (e, sz, by_, z)) (hx : ρ x = .slice (some ⟨b, o, none⟩) n cp) (hi : ρ ix = .int k i) (h0 : 0 ≤ i) (h1 : i < n)
    (h : K (.pointer (some ⟨b, o + i.toNat * sz, none⟩)) w) : OpX P ⟨dst, .indexAddr t x ix, ty, pos, af, gd⟩ ρ w K := by
  obtain ⟨hu, inf, hinf, _, hs, _⟩ := slice_of ht
  refine ox_val (v := .pointer (some ⟨b, o + i.toNat * sz, none⟩)) (w' := w) ?_ h
  have ha : (⟨b, o, none⟩ : Addr).add (i.toNat * sz) = ⟨b, o + i.toNat * sz, none⟩ := by
    unfold Addr.add; split
    · rename_i h0; simp [h0]
    · rfl
  simp [execOp, Instr.indexAt, hx, hi, asIntOf, Sem.run_bind, run_underlying hu, Result.andThen, h0, h1, sizeOf, typeInfo, hinf, hs, ha]
/-- x[:hi] -/
theorem ox_sliceTo {x y : Operand} {t e : TypeId} {sz by_ : Nat} {z : Value} {A : Option Addr} {n cp : Nat} {k : IntKind} {i : Int} (ht : sliceT P t = some (e, sz, by_, z)) (hx : ρ x = .slice A n cp) (hy : ρ y = .int k i) (h0 : 0 ≤ i) (h1 : i ≤ cp)
    (h : K (.slice A i.toNat cp) w) : OpX P ⟨dst, .slice t x none (some y) none, ty, pos, af, gd⟩ ρ w K := by
  obtain ⟨hu, inf, hinf, _, hs, _⟩ := slice_of ht
  refine ox_val (v := .slice A i.toNat cp) (w' := w) ?_ h
  have ha : (A.map fun a : Addr => a.add 0) = A := by cases A <;> simp [Addr.add]
  simp [execOp, Instr.sliceAt, Instr.slice, Instr.sliceBounds, Instr.sliceBound, hx, hy, asIntOf, Sem.run_bind, run_underlying hu, Result.andThen, h0, h1, sizeOf, typeInfo, hinf, ha]
/-- x[lo:] -/
theorem ox_sliceFrom {x y : Operand} {t e : TypeId} {sz by_ : Nat} {z : Value} {A : Option Addr} {n cp : Nat} {k : IntKind} {i : Int} (ht : sliceT P t = some (e, sz, by_, z)) (hx : ρ x = .slice A n cp) (hy : ρ y = .int k i) (h0 : 0 ≤ i) (h1 : i ≤ n)
    (h : K (.slice (if cp = i.toNat then A else A.map (·.add (i.toNat * sz))) (n - i.toNat) (cp - i.toNat)) w) : OpX P ⟨dst, .slice t x (some y) none none, ty, pos, af, gd⟩ ρ w K := by
  obtain ⟨hu, inf, hinf, _, hs, _⟩ := slice_of ht
  refine ox_val (w' := w) ?_ h
  simp [execOp, Instr.sliceAt, Instr.slice, Instr.sliceBounds, Instr.sliceBound, hx, hy, asIntOf, Sem.run_bind, run_underlying hu, Result.andThen, h0, h1, sizeOf, typeInfo, hinf, hs]
/-- a slice against nil -/
theorem run_equal_slice {t e : TypeId} (hu : P.underlying t = some (.slice e)) (A B : Option Addr) (n c n' c' : Nat) (hpq : A = none ∨ B = none) : (Op.equal t (.slice A n c) (.slice B n' c')).run P w = .ok (decide (A = B)) w := by
  show (Op.equalIn (9999 + 1) t (.slice A n c) (.slice B n' c')).run P w = _
  unfold Op.equalIn
  simp only [Sem.run_bind, run_underlying hu, Result.andThen]
  rcases hpq with rfl | rfl
  · cases B <;> simp
  · cases A <;> simp
theorem ox_eqlSlice {x y : Operand} {t e u : TypeId} {A B : Option Addr} {n c n' c' : Nat} (hu : P.underlying t = some (.slice e)) (hx : ρ x = .slice A n c) (hy : ρ y = .slice B n' c') (hpq : A = none ∨ B = none) (h : K (.bool (decide (A = B))) w) :
    OpX P ⟨dst, .binOp .eql t x y u, ty, pos, af, gd⟩ ρ w K :=
  ox_val (v := .bool (decide (A = B))) (w' := w) (by simp [execOp, hx, hy, eqGuard, binOp, Sem.run_bind, run_equal_slice hu A B n c n' c' hpq, Result.andThen]) h

/-! append -/
theorem ox_append {c : Call} {x y : Operand} {t e : TypeId} {sz by_ : Nat} {z : Value} {v : Value} {n g o m cp : Nat} {xs news : List Value} (hc : c = { callee := .builtin .append, args := #[x, y], argTypes := #[t, t] }) (ht : sliceT P t = some (e, sz, by_, z))
    (hzs : z.cells.size = sz) (hsz : 0 < sz) (hx : ρ x = v) (hy : ρ y = .slice (some ⟨g, o, none⟩) m cp) (hown : Own w e sz v n xs) (hl : news.length = m * sz) (hnews : CellsL w g o news) (h1 : news.all Value.oneCell' = true)
    (hm : n + m ≤ 9223372036854775807) (hb : (n + m) * by_ ≤ 140737488355328)
    (h : ∀ v' w', Own w' e sz v' (n + m) (xs ++ news) → Chg (fun b => v.ownBlock = some b) w w' → (v'.ownBlock = v.ownBlock ∨ v'.ownBlock = some w.heap.size) → (v' = .slice none 0 0 ↔ v = .slice none 0 0 ∧ m = 0) → K v' w') :
    OpX P ⟨dst, .call c, ty, pos, af, gd⟩ ρ w K := by
  subst hc
  obtain ⟨hu, i, hi, hz, hs, hby⟩ := slice_of ht
  have hnews' : ∀ j u, news[j]? = some u → w.cell? ((⟨g, o, none⟩ : Addr).add j) = some u := fun j u hj => by
    have ha : (⟨g, o, none⟩ : Addr).add j = ⟨g, o + j, none⟩ := by
      unfold Addr.add; split
      · rename_i h0; simp [h0]
      · rfl
    rw [ha]; exact hnews.get j u hj
  obtain ⟨v', w', hr, ho, hg, hn, hat⟩ := run_append_own_at (P := P) w 0 t ty e i z sz by_ hu hi hz hs hby hzs hsz v n xs hown ⟨g, o, none⟩ m cp news hl hnews' (by simpa using h1) (by unfold maxLen; omega) hb (Nat.zero_le _)
  refine ox_val (v := v') (w' := w') ?_ (h v' w' ho (chg_grown hg fun k hk => hk) hat hn)
  simp [execOp, resolve, invoke, builtin, hx, hy, Sem.run_bind, Result.andThen, hr]
/-- nothing is appended -/
theorem ox_append0 {c : Call} {x y : Operand} {t e : TypeId} {sz by_ : Nat} {z : Value} {A : Option Addr} {n cp cp' : Nat} (hc : c = { callee := .builtin .append, args := #[x, y], argTypes := #[t, t] }) (ht : sliceT P t = some (e, sz, by_, z))
    (hx : ρ x = .slice A n cp) (hn : n ≤ cp) (hy : ρ y = .slice none 0 cp') (h : K (.slice A n cp) w) : OpX P ⟨dst, .call c, ty, pos, af, gd⟩ ρ w K := by
  subst hc
  obtain ⟨hu, i, hi, hz, hs, hby⟩ := slice_of ht
  refine ox_val (v := .slice A n cp) (w' := w) ?_ h
  cases A <;> simp [execOp, resolve, invoke, builtin, Builtin.append_, hx, hy, Sem.run_bind, Result.andThen, run_underlying hu, sizeOf, typeInfo, hi, Builtin.lenOf, Builtin.firstCells, hn, storeCells]

/-! make, composite literals -/
theorem ox_makeSlice {x y : Operand} {t e : TypeId} {sz by_ : Nat} {z : Value} {k k' : IntKind} {n : Nat} (ht : sliceT P t = some (e, sz, by_, z)) (hx : ρ x = .int k n) (hy : ρ y = .int k' n) (hb : by_ * n ≤ 281474976710656) (hm : n ≤ 9223372036854775807)
    (h : ∀ w', Own w' e sz (.slice (some ⟨w.heap.size, 0, none⟩) n n) n (madeCells z.cells (n * sz)).toList → Ext w w' → w.heap.size < w'.heap.size → K (.slice (some ⟨w.heap.size, 0, none⟩) n n) w') : OpX P ⟨dst, .makeSlice t x y, ty, pos, af, gd⟩ ρ w K := by
  obtain ⟨hu, i, hi, hz, hs, hby⟩ := slice_of ht
  obtain ⟨w', hr, ho, hg⟩ := run_make_full (P := P) w 0 t e i z sz hu hi hz hs k k' n (by rw [hby]; exact hb) (by unfold maxLen; omega) (Nat.zero_le _)
  have ho' : Own w' e sz (.slice (some ⟨w.heap.size, 0, none⟩) n n) n (madeCells z.cells (n * sz)).toList := ho
  refine ox_val (v := .slice (some ⟨w.heap.size, 0, none⟩) n n) (w' := w') ?_ (h w' ho' (chg_grown hg fun k hk => by cases hk) (ho'.lt _ rfl))
  simp [execOp, hx, hy, Sem.run_bind, Result.andThen, hr]
theorem run_fieldSizes {fs : Array Field} {pl : Array (Nat × Nat)} (h : (fs.mapM fun f => (sizeT P f.type).map fun s => (f.offset, s)) = some pl) (w : World) :
    (fs.mapM fun f => do pure (f.offset, ← sizeOf f.type) : Sem (Array (Nat × Nat))).run P w = .ok pl w := by
  have key : ∀ (l : List Field) (r : List (Nat × Nat)), (l.mapM fun f => (sizeT P f.type).map fun s => (f.offset, s)) = some r → (l.mapM fun f => do pure (f.offset, ← sizeOf f.type) : Sem (List (Nat × Nat))).run P w = .ok r w := by
    intro l
    induction l with
    | nil => intro r hr; simp at hr; subst hr; simp
    | cons f l ih =>
      intro r hr
      simp only [List.mapM_cons, bind, Option.bind_eq_some_iff, pure, Option.some.injEq] at hr
      obtain ⟨a, ha, b, hb, rfl⟩ := hr
      cases hs : sizeT P f.type with
      | none => rw [hs] at ha; cases ha
      | some s =>
        rw [hs] at ha
        simp only [Option.map_some, Option.some.injEq] at ha
        subst ha
        have := ih b hb
        simp only [List.mapM_cons, Sem.run_bind, run_size hs, Result.andThen, Sem.run_pure, this]
  have h2 : (fs.toList.mapM fun f => (sizeT P f.type).map fun s => (f.offset, s)) = some pl.toList := by
    rw [Array.mapM_eq_mapM_toList] at h
    cases hq : (fs.toList.mapM fun f => (sizeT P f.type).map fun s => (f.offset, s)) with
    | none => rw [hq] at h; cases h
    | some l => rw [hq] at h; simp at h; subst h; simp
  have h3 := key fs.toList pl.toList h2
  rw [Array.mapM_eq_mapM_toList]
  show ((fs.toList.mapM fun f => do pure (f.offset, ← sizeOf f.type) : Sem (List (Nat × Nat))) >>= fun l => pure l.toArray : Sem (Array (Nat × Nat))).run P w = .ok pl w
  rw [Sem.run_bind, h3]
  simp [Result.andThen]
theorem ox_build {t : TypeId} {parts : Array (Nat × Operand)} {z : Value} {pl : Array (Nat × Nat)} {ps : List (Nat × Value)} {cs : Array Value} (hz : zeroOf P t = some z) (hp : placesT P t = some pl) (hps : (parts.map fun (i, x) => (i, ρ x)).toList = ps)
    (hf : Instr.fill (fun i => pl[i]?) z.cells ps = some cs) (h : K (.agg cs) w) : OpX P ⟨dst, .build t parts, ty, pos, af, gd⟩ ρ w K := by
  unfold placesT at hp
  cases hu : P.underlying t with
  | none => rw [hu] at hp; cases hp
  | some d =>
    rw [hu] at hp
    cases d <;> try (cases hp; done)
    rename_i fs
    refine ox_val (v := .agg cs) (w' := w) ?_ h
    simp only [execOp, Instr.build, Sem.run_bind, run_zero hz, Result.andThen, run_underlying hu, hps, run_fieldSizes hp, hf, Sem.run_pure]
theorem ox_buildSlice {t e : TypeId} {sz by_ n : Nat} {z : Value} {parts : Array (Nat × Operand)} {ps : List (Nat × Value)} {cs : Array Value} (ht : sliceT P t = some (e, sz, by_, z)) (hps : (parts.map fun (i, x) => (i, ρ x)).toList = ps) (hn : n * sz ≤ 16777216)
    (hf : Instr.fill (fun i => some (i * sz, sz)) ((Array.range (n * sz)).map fun i => (if n * sz = 0 then #[] else z.cells)[i % (if n * sz = 0 then #[] else z.cells).size]!) ps = some cs)
    (h : ∀ w', Ext w w' → w'.heap.size = w.heap.size + 1 → Blk w' w.heap.size cs e → K (.slice (some ⟨w.heap.size, 0, none⟩) n n) w') : OpX P ⟨dst, .buildSlice t n parts, ty, pos, af, gd⟩ ρ w K := by
  obtain ⟨hu, i, hi, hz, hs, hby⟩ := slice_of ht
  refine ox_val (v := .slice (some ⟨w.heap.size, 0, none⟩) n n) (w' := w.alloc (.cells cs e)) ?_ (h _ (chg_alloc _ _ _) (World.size_alloc _ _) (blk_alloc _ _ _))
  have hzo : zeroOf P e = some z := by unfold zeroOf; rw [hi]; exact hz
  have hso : sizeT P e = some sz := by unfold sizeT; rw [hi]; simp [hs]
  by_cases h0 : n * sz = 0
  · simp only [h0, if_true] at hf
    simp only [execOp, Instr.buildSlice, Sem.run_bind, run_underlying hu, Result.andThen, run_size hso, h0, if_true, Sem.run_pure, hps]
    have hgt : ¬ (0 > 2 ^ 24) := by omega
    simp only [hgt, if_false]
    rw [Sem.run_bind]
    simp only [Sem.run_pure, Result.andThen]
    rw [hf]
    simp [newRow, newObj, Sem.run, Sem.run_bind]
  · simp only [h0, if_false] at hf
    simp only [execOp, Instr.buildSlice, Sem.run_bind, run_underlying hu, Result.andThen, run_size hso, h0, if_false, run_zero hzo, hps]
    have hgt : ¬ (n * sz > 2 ^ 24) := by omega
    simp only [hgt, if_false]
    rw [Sem.run_bind, run_zero hzo]
    simp only [Result.andThen]
    rw [Sem.run_bind]
    simp only [Sem.run_pure, Result.andThen]
    rw [hf]
    simp [newRow, newObj, Sem.run, Sem.run_bind]
end ox
end Go.Vx
