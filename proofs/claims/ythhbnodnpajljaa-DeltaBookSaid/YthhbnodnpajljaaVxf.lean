/-
  Maps, in the small calculus of Vxa: a map as a list of entries whose keys the model compares. No conditions beyond those that each rule names.
-/
import Derived.Test.YthhbnodnpajljaaVxe
set_option linter.unusedVariables false
set_option linter.unusedSimpArgs false
set_option linter.unusedSectionVars false
namespace Go.Vx
open Go Go.RowKit

section defs
variable {κ : Type} [DecidableEq κ]
def lookM (m : List (κ × Value)) (k : κ) : Option Value := (m.find? (fun p => p.1 = k)).map (·.2)
def setM : List (κ × Value) → κ → Value → List (κ × Value)
  | [], k, v => [(k, v)]
  | p :: r, k, v => if p.1 = k then (k, v) :: r else p :: setM r k v
def delM : List (κ × Value) → κ → List (κ × Value)
  | [], _ => []
  | p :: r, k => if p.1 = k then r else p :: delM r k

theorem lookM_setM (m : List (κ × Value)) (k k' : κ) (v : Value) : lookM (setM m k v) k' = if k' = k then some v else lookM m k' := by
  induction m with
  | nil =>
    by_cases h : k' = k
    · subst h; simp [setM, lookM]
    · simp [setM, lookM, h, Ne.symm h]
  | cons p r ih =>
    obtain ⟨a, u⟩ := p
    unfold lookM at *
    simp only [setM]
    by_cases ha : a = k
    · subst ha
      by_cases h : k' = a
      · subst h; simp
      · simp [h, Ne.symm h]
    · simp only [ha, if_false, List.find?_cons]
      by_cases h : a = k'
      · subst h; simp [ha]
      · simp [h, ih]
theorem mem_setM {m : List (κ × Value)} {k : κ} {v : Value} {x : κ} : x ∈ (setM m k v).map (·.1) ↔ x = k ∨ x ∈ m.map (·.1) := by
  induction m with
  | nil => simp [setM]
  | cons p r ih =>
    obtain ⟨a, u⟩ := p
    simp only [setM]
    by_cases ha : a = k
    · subst ha; simp
    · simp only [ha, if_false, List.map_cons, List.mem_cons, ih]
      constructor
      · rintro (h | h | h) <;> simp [h]
      · rintro (h | h | h) <;> simp [h]
theorem nodup_setM {m : List (κ × Value)} {k : κ} {v : Value} (h : (m.map (·.1)).Nodup) : ((setM m k v).map (·.1)).Nodup := by
  induction m with
  | nil => simp [setM]
  | cons p r ih =>
    obtain ⟨a, u⟩ := p
    simp only [List.map_cons, List.nodup_cons] at h
    simp only [setM]
    by_cases ha : a = k
    · subst ha; simp only [if_true, List.map_cons, List.nodup_cons]; exact h
    · simp only [ha, if_false, List.map_cons, List.nodup_cons]
      exact ⟨fun hm => (mem_setM.1 hm).elim ha h.1, ih h.2⟩
theorem mem_delM {m : List (κ × Value)} {k x : κ} (h : x ∈ (delM m k).map (·.1)) : x ∈ m.map (·.1) := by
  induction m with
  | nil => exact h
  | cons p r ih =>
    simp only [delM] at h
    by_cases ha : p.1 = k
    · simp only [ha, if_true] at h; simp at h ⊢; exact .inr h
    · simp only [ha, if_false, List.map_cons, List.mem_cons] at h ⊢; exact h.imp id ih
theorem nodup_delM {m : List (κ × Value)} {k : κ} (h : (m.map (·.1)).Nodup) : ((delM m k).map (·.1)).Nodup := by
  induction m with
  | nil => exact h
  | cons p r ih =>
    simp only [List.map_cons, List.nodup_cons] at h
    simp only [delM]
    by_cases ha : p.1 = k
    · simp only [ha, if_true]; exact h.2
    · simp only [ha, if_false, List.map_cons, List.nodup_cons]
      exact ⟨fun hm => h.1 (mem_delM hm), ih h.2⟩
theorem lookM_none {m : List (κ × Value)} {k : κ} (h : k ∉ m.map (·.1)) : lookM m k = none := by
  unfold lookM
  rw [List.find?_eq_none.2]; rfl
  intro p hp he
  exact h (List.mem_map.2 ⟨p, hp, by simpa using he⟩)
theorem lookM_delM {m : List (κ × Value)} {k k' : κ} (h : (m.map (·.1)).Nodup) : lookM (delM m k) k' = if k' = k then none else lookM m k' := by
  induction m with
  | nil => simp [delM, lookM]
  | cons p r ih =>
    obtain ⟨a, u⟩ := p
    simp only [List.map_cons, List.nodup_cons] at h
    simp only [delM]
    by_cases ha : a = k
    · subst ha
      simp only [if_true]
      by_cases hk : k' = a
      · subst hk; simp; exact lookM_none h.1
      · simp only [hk, if_false]; unfold lookM; simp [Ne.symm hk]
    · simp only [ha, if_false]
      have := ih h.2
      unfold lookM at *
      by_cases hk : a = k'
      · subst hk; simp [ha]
      · simp [hk, this]
end defs

/-- Where the first entry of key k lies, and what it holds. -/
def findV {κ : Type} [DecidableEq κ] : List (κ × Value) → κ → Nat → Option (Nat × Value)
  | [], _, _ => none
  | p :: r, k, i => if p.1 = k then some (i, p.2) else findV r k (i + 1)

/-- The model compares such keys at once. -/
structure KeyT {κ : Type} [DecidableEq κ] (P : Program) (kt : TypeId) (enc : κ → Value) : Prop where
  check : ∀ e k w, (Instr.checkKey e 10000 kt (enc k)).run P w = .ok () w
  find : ∀ (es : List MapEntry) (m : List (κ × Value)), es.map (fun e => (e.key, e.val)) = m.map (fun p => (enc p.1, p.2)) → ∀ k w, (Instr.findKey kt (enc k) es).run P w = .ok (findV m k 0) w
  stays : ∀ k, Instr.sameBits 10000 (enc k) (enc k) = true

def MapB {κ : Type} (enc : κ → Value) (w : World) (b : Nat) (m : List (κ × Value)) : Prop :=
  ∃ es clock, w.heap[b]? = some (.map es clock) ∧ es.toList.map (fun e => (e.key, e.val)) = m.map (fun p => (enc p.1, p.2)) ∧ (m.map (·.1)).Nodup
theorem MapB.lt {κ : Type} {enc : κ → Value} {w : World} {b : Nat} {m : List (κ × Value)} (h : MapB enc w b m) : b < w.heap.size := by
  obtain ⟨es, c, h, _⟩ := h; exact (Array.getElem?_eq_some_iff.1 h).1
theorem MapB.keep {κ : Type} {enc : κ → Value} {K : Nat → Prop} {w w' : World} {b : Nat} {m : List (κ × Value)} (h : MapB enc w b m) (c : Chg K w w') (hk : ¬ K b) : MapB enc w' b m := by
  have hlt := h.lt
  obtain ⟨es, cl, h, r⟩ := h; exact ⟨es, cl, (c.keep b hlt hk).trans h, r⟩
theorem MapB.ext {κ : Type} {enc : κ → Value} {w w' : World} {b : Nat} {m : List (κ × Value)} (h : MapB enc w b m) (c : Ext w w') : MapB enc w' b m := h.keep c id
theorem MapB.ne_blk {κ : Type} {enc : κ → Value} {w : World} {b b' : Nat} {m : List (κ × Value)} {cs : Array Value} {t : TypeId} (h : MapB enc w b m) (h' : Blk w b' cs t) : b ≠ b' := by
  intro e; subst e
  obtain ⟨es, cl, h, _⟩ := h
  unfold Blk at h'; rw [h] at h'; simp at h'

theorem findV_index {κ : Type} [DecidableEq κ] : ∀ (m : List (κ × Value)) (k : κ) (i : Nat), findV m k i = (match findV m k 0 with | some (j, v) => some (i + j, v) | none => none)
  | [], _, _ => rfl
  | p :: r, k, i => by
    simp only [findV]
    by_cases h : p.1 = k
    · simp [h]
    · simp only [h, if_false]
      rw [findV_index r k (i + 1), findV_index r k (0 + 1)]
      cases findV r k 0 <;> simp [Nat.add_assoc]
theorem findV_look {κ : Type} [DecidableEq κ] : ∀ (m : List (κ × Value)) (k : κ) (i : Nat), (findV m k i).map (·.2) = lookM m k
  | [], _, _ => rfl
  | p :: r, k, i => by
    simp only [findV, lookM, List.find?_cons]
    by_cases h : p.1 = k
    · simp [h]
    · simp only [h, if_false, decide_false]; exact findV_look r k (i + 1)
theorem modify_set {κ : Type} [DecidableEq κ] (enc : κ → Value) (v : Value) : ∀ (es : List MapEntry) (m : List (κ × Value)), es.map (fun e => (e.key, e.val)) = m.map (fun p => (enc p.1, p.2)) → ∀ k j u, findV m k 0 = some (j, u) →
    (es.modify j fun e => { e with key := enc k, val := v }).map (fun e => (e.key, e.val)) = (setM m k v).map (fun p => (enc p.1, p.2)) ∧ (es[j]?).map (·.key) = some (enc k)
  | [], [], _, k, j, u, h => by cases h
  | [], p :: r, he, _, _, _, _ => by simp at he
  | e :: es, [], he, _, _, _, _ => by simp at he
  | e :: es, p :: r, he, k, j, u, h => by
    simp only [List.map_cons, List.cons.injEq, Prod.mk.injEq] at he
    obtain ⟨⟨h1, h2⟩, h3⟩ := he
    simp only [findV] at h
    by_cases hk : p.1 = k
    · simp only [hk, if_true, Option.some.injEq, Prod.mk.injEq] at h
      obtain ⟨rfl, rfl⟩ := h
      simp only [setM, hk, if_true]
      exact ⟨by simp [h3], by simp [h1, hk]⟩
    · simp only [hk, if_false] at h
      rw [findV_index] at h
      cases hf : findV r k 0 with
      | none => rw [hf] at h; cases h
      | some q =>
        obtain ⟨j', u'⟩ := q
        rw [hf] at h
        simp only [Option.some.injEq, Prod.mk.injEq] at h
        obtain ⟨rfl, rfl⟩ := h
        obtain ⟨i1, i2⟩ := modify_set enc v es r h3 k j' u' hf
        have e1 : 0 + 1 + j' = j' + 1 := by omega
        rw [e1]
        simp only [setM, hk, if_false, List.modify_succ_cons, List.map_cons, h1, h2, i1]
        exact ⟨trivial, by simpa using i2⟩
theorem set_none {κ : Type} [DecidableEq κ] (v : Value) : ∀ (m : List (κ × Value)) (k : κ), findV m k 0 = none → setM m k v = m ++ [(k, v)]
  | [], _, _ => rfl
  | p :: r, k, h => by
    simp only [findV] at h
    by_cases hk : p.1 = k
    · simp [hk] at h
    · simp only [hk, if_false] at h
      rw [findV_index] at h
      cases hf : findV r k 0 with
      | none => simp only [setM, hk, if_false, set_none v r k hf, List.cons_append]
      | some q => rw [hf] at h; cases h
theorem erase_del {κ : Type} [DecidableEq κ] (enc : κ → Value) : ∀ (es : List MapEntry) (m : List (κ × Value)), es.map (fun e => (e.key, e.val)) = m.map (fun p => (enc p.1, p.2)) → ∀ k,
    ((match findV m k 0 with | some (j, _) => es.eraseIdx j | none => es) : List MapEntry).map (fun e => (e.key, e.val)) = (delM m k).map (fun p => (enc p.1, p.2))
  | [], [], _, k => rfl
  | [], p :: r, he, _ => by simp at he
  | e :: es, [], he, _ => by simp at he
  | e :: es, p :: r, he, k => by
    simp only [List.map_cons, List.cons.injEq, Prod.mk.injEq] at he
    obtain ⟨⟨h1, h2⟩, h3⟩ := he
    simp only [findV]
    by_cases hk : p.1 = k
    · simp only [hk, if_true, delM, List.eraseIdx_cons_zero, h3]
    · simp only [hk, if_false, delM]
      rw [findV_index]
      have ih := erase_del enc es r h3 k
      cases hf : findV r k 0 with
      | none => rw [hf] at ih; simp only [List.map_cons, h1, h2]; simp only at ih; rw [ih]
      | some q =>
        obtain ⟨j, u⟩ := q
        rw [hf] at ih
        simp only at ih ⊢
        have e1 : 0 + 1 + j = j + 1 := by omega
        rw [e1, List.eraseIdx_cons_succ]
        simp only [List.map_cons, h1, h2, ih]

section ox
variable {P : Program} {ρ : Operand → Value} {w : World} {K : Value → World → Prop} {dst : Option Tmp} {ty : TypeId} {pos : String} {af : Array Edge} {gd : Option (Nat × Bool)}
variable {κ : Type} [DecidableEq κ] {enc : κ → Value} {kt e : TypeId} {t : TypeId}

theorem ox_makeMap {r : Option Operand} (hr : r = none) (h : ∀ w', Ext w w' → w'.heap.size = w.heap.size + 1 → MapB enc w' w.heap.size [] → K (.map (some w.heap.size)) w') : OpX P ⟨dst, .makeMap t r, ty, pos, af, gd⟩ ρ w K := by
  subst hr
  refine ox_val (v := .map (some w.heap.size)) (w' := w.alloc (.map #[] 0)) ?_ (h _ (chg_alloc _ _ _) (World.size_alloc _ _) ⟨#[], 0, heap_alloc_new w _, by simp, by simp⟩)
  simp [execOp, Instr.makeMap, newObj, Sem.run, Sem.run_bind, Result.andThen]
theorem run_lookupM (hk : KeyT P kt enc) (hu : P.underlying t = some (.map kt e)) {z : Value} (hz : zeroOf P e = some z) {b : Nat} {m : List (κ × Value)} (hm : MapB enc w b m) (k : κ) (ok : Bool) :
    (Instr.lookup t (.map (some b)) (enc k) ok).run P w = .ok (if ok then .tuple #[(lookM m k).getD z, .bool (lookM m k).isSome] else (lookM m k).getD z) w := by
  obtain ⟨es, clock, hb, he, _⟩ := hm
  have hf := hk.find es.toList m he k w
  have hl := findV_look m k 0
  cases hq : findV m k 0 with
  | none =>
    rw [hq] at hf hl
    simp only [Option.map_none] at hl
    simp [Instr.lookup, Sem.run_bind, run_underlying hu, Result.andThen, getObj, Sem.run, hb, hk.check, hf, run_zero hz, ← hl]
  | some q =>
    rw [hq] at hf hl
    simp only [Option.map_some] at hl
    simp [Instr.lookup, Sem.run_bind, run_underlying hu, Result.andThen, getObj, Sem.run, hb, hk.check, hf, run_zero hz, ← hl]
theorem ox_lookup {x ix : Operand} {b : Nat} {m : List (κ × Value)} {k : κ} {z : Value} (hk : KeyT P kt enc) (hu : P.underlying t = some (.map kt e)) (hz : zeroOf P e = some z) (hm : MapB enc w b m) (hx : ρ x = .map (some b)) (hi : ρ ix = enc k) (h : K ((lookM m k).getD z) w) :
    OpX P ⟨dst, .lookup t x ix false, ty, pos, af, gd⟩ ρ w K := by
  refine ox_val (v := (lookM m k).getD z) (w' := w) ?_ h
  simp [execOp, hx, hi, Sem.run_bind, run_lookupM hk hu hz hm k false, Result.andThen]
theorem ox_lookup2 {x ix : Operand} {b : Nat} {m : List (κ × Value)} {k : κ} {z : Value} (hk : KeyT P kt enc) (hu : P.underlying t = some (.map kt e)) (hz : zeroOf P e = some z) (hm : MapB enc w b m) (hx : ρ x = .map (some b)) (hi : ρ ix = enc k) (h : K (.tuple #[(lookM m k).getD z, .bool (lookM m k).isSome]) w) :
    OpX P ⟨dst, .lookup t x ix true, ty, pos, af, gd⟩ ρ w K := by
  refine ox_val (v := .tuple #[(lookM m k).getD z, .bool (lookM m k).isSome]) (w' := w) ?_ h
  simp [execOp, hx, hi, Sem.run_bind, run_lookupM hk hu hz hm k true, Result.andThen]
theorem run_setMap {b : Nat} {es es' : Array MapEntry} {c c' : Nat} (hb : w.heap[b]? = some (.map es c)) : (setObj b (.map es' c')).run P w = .ok () (w.putObj b (.map es' c')) := by simp [setObj, Sem.run, hb, World.putObj]
theorem ox_mapUpdate {x ix y : Operand} {b : Nat} {m : List (κ × Value)} {k : κ} {v : Value} (hk : KeyT P kt enc) (hu : P.underlying t = some (.map kt e)) (hm : MapB enc w b m) (hx : ρ x = .map (some b)) (hi : ρ ix = enc k) (hy : ρ y = v)
    (h : ∀ w', Chg1 b w w' → w'.heap.size = w.heap.size → MapB enc w' b (setM m k v) → K undef w') : OpX P ⟨dst, .mapUpdate t x ix y, ty, pos, af, gd⟩ ρ w K := by
  obtain ⟨es, clock, hb, he, hn⟩ := hm
  have hlt : b < w.heap.size := (Array.getElem?_eq_some_iff.1 hb).1
  have hf := hk.find es.toList m he k w
  cases hq : findV m k 0 with
  | none =>
    rw [hq] at hf
    refine ox_skipr (w' := w.putObj b (.map (es.push { key := enc k, val := v, born := clock }) (clock + 1))) ?_ (h _ (chg_putObj _ _ _ rfl) World.putObj_size ⟨_, _, World.putObj_heap_same hlt, ?_, nodup_setM hn⟩)
    · simp [execOp, hx, hi, hy, Instr.mapUpdate, Sem.run_bind, run_underlying hu, Result.andThen, getObj, Sem.run, hb, hk.check, hf, run_setMap hb]
    · rw [set_none v m k hq]; simp [he]
  | some q =>
    obtain ⟨j, u⟩ := q
    rw [hq] at hf
    obtain ⟨i1, i2⟩ := modify_set enc v es.toList m he k j u hq
    refine ox_skipr (w' := w.putObj b (.map (es.modify j fun e => { e with key := enc k, val := v }) clock)) ?_ (h _ (chg_putObj _ _ _ rfl) World.putObj_size ⟨_, _, World.putObj_heap_same hlt, ?_, nodup_setM hn⟩)
    · have i2' : (es[j]?).map (·.key) = some (enc k) := by simpa using i2
      simp [execOp, hx, hi, hy, Instr.mapUpdate, Sem.run_bind, run_underlying hu, Result.andThen, getObj, Sem.run, hb, hk.check, hf, i2', Instr.keyThatStays, hk.stays, run_setMap hb]
    · rw [Array.toList_modify]; exact i1
theorem ox_delete {c : Call} {x ix : Operand} {kt' : TypeId} {b : Nat} {m : List (κ × Value)} {k : κ} (hc : c = { callee := .builtin .delete, args := #[x, ix], argTypes := #[t, kt'] }) (hk : KeyT P kt enc) (hu : P.underlying t = some (.map kt e)) (hm : MapB enc w b m) (hx : ρ x = .map (some b)) (hi : ρ ix = enc k)
    (h : ∀ w', Chg1 b w w' → w'.heap.size = w.heap.size → MapB enc w' b (delM m k) → K (.tuple #[]) w') : OpX P ⟨dst, .call c, ty, pos, af, gd⟩ ρ w K := by
  subst hc
  obtain ⟨es, clock, hb, he, hn⟩ := hm
  have hlt : b < w.heap.size := (Array.getElem?_eq_some_iff.1 hb).1
  have hf := hk.find es.toList m he k w
  have hd := erase_del enc es.toList m he k
  cases hq : findV m k 0 with
  | none =>
    rw [hq] at hf hd
    refine ox_val (v := .tuple #[]) (w' := w.putObj b (.map es clock)) ?_ (h _ (chg_putObj _ _ _ rfl) World.putObj_size ⟨_, _, World.putObj_heap_same hlt, hd, nodup_delM hn⟩)
    simp [execOp, resolve, invoke, builtin, Builtin.delete_, hx, hi, Sem.run_bind, run_underlying hu, Result.andThen, getObj, Sem.run, hb, hk.check, hf, run_setMap hb]
  | some q =>
    obtain ⟨j, u⟩ := q
    rw [hq] at hf hd
    refine ox_val (v := .tuple #[]) (w' := w.putObj b (.map (es.eraseIdxIfInBounds j) clock)) ?_ (h _ (chg_putObj _ _ _ rfl) World.putObj_size ⟨_, _, World.putObj_heap_same hlt, ?_, nodup_delM hn⟩)
    · simp [execOp, resolve, invoke, builtin, Builtin.delete_, hx, hi, Sem.run_bind, run_underlying hu, Result.andThen, getObj, Sem.run, hb, hk.check, hf, run_setMap hb]
    · simp only at hd
      rw [← hd, Array.toList_eraseIdxIfInBounds]
end ox

/-! ### Keys that are whole numbers, or texts -/
theorem check_int {P : Program} {kt : TypeId} {k : IntKind} (hu : P.underlying kt = some (.int k)) (e : Bool) (d : Nat) (v : Value) (w : World) : (Instr.checkKey e (d + 1) kt v).run P w = .ok () w := by
  simp [Instr.checkKey, Sem.run_bind, run_underlying hu, Result.andThen]
theorem check_string {P : Program} {kt : TypeId} (hu : P.underlying kt = some .string) (e : Bool) (d : Nat) (v : Value) (w : World) : (Instr.checkKey e (d + 1) kt v).run P w = .ok () w := by
  simp [Instr.checkKey, Sem.run_bind, run_underlying hu, Result.andThen]
theorem bytes_beq (a b : ByteArray) : (a == b) = decide (a = b) := by
  rw [beq_toListBytes]
  by_cases h : a = b
  · subst h; simp
  · have : ¬ a.toList = b.toList := fun e => h (by
      rw [ByteArray.toList_eq, ByteArray.toList_eq] at e
      obtain ⟨⟨x⟩⟩ := a
      obtain ⟨⟨y⟩⟩ := b
      simpa using e)
    simp [h, this]
theorem keyT_int {P : Program} {kt : TypeId} {k : IntKind} (hu : P.underlying kt = some (.int k)) : KeyT P kt (fun i : Int => .int .i64 i) where
  check := fun e i w => check_int hu e 9999 _ w
  find := fun es m he i w => by
    have key : ∀ (es : List MapEntry) (m : List (Int × Value)) (j : Nat), es.map (fun e => (e.key, e.val)) = m.map (fun p => (Value.int .i64 p.1, p.2)) → Instr.findNow (.int k) (.int .i64 i) es j = some (findV m i j) := by
      intro es
      induction es with
      | nil => intro m j h; cases m with | nil => rfl | cons => simp at h
      | cons e es ih =>
        intro m j h
        cases m with
        | nil => simp at h
        | cons p r =>
          simp only [List.map_cons, List.cons.injEq, Prod.mk.injEq] at h
          obtain ⟨⟨h1, h2⟩, h3⟩ := h
          simp only [Instr.findNow, h1, Instr.sameNow, if_true, findV]
          by_cases hp : p.1 = i
          · simp [hp, h2]
          · have : (i == p.1) = false := by simpa using Ne.symm hp
            simp [hp, this, ih r (j + 1) h3]
    simp [Instr.findKey, Sem.run_bind, run_underlying hu, Result.andThen, key es m 0 he]
  stays := fun i => by
    have : ∀ d, Instr.sameBits (d + 1) (.int .i64 i) (.int .i64 i) = true := fun d => by simp [Instr.sameBits]
    exact this 9999
theorem keyT_string {P : Program} {kt : TypeId} (hu : P.underlying kt = some .string) : KeyT P kt (fun s : ByteArray => .string s) where
  check := fun e i w => check_string hu e 9999 _ w
  find := fun es m he i w => by
    have key : ∀ (es : List MapEntry) (m : List (ByteArray × Value)) (j : Nat), es.map (fun e => (e.key, e.val)) = m.map (fun p => (Value.string p.1, p.2)) → Instr.findNow .string (.string i) es j = some (findV m i j) := by
      intro es
      induction es with
      | nil => intro m j h; cases m with | nil => rfl | cons => simp at h
      | cons e es ih =>
        intro m j h
        cases m with
        | nil => simp at h
        | cons p r =>
          simp only [List.map_cons, List.cons.injEq, Prod.mk.injEq] at h
          obtain ⟨⟨h1, h2⟩, h3⟩ := h
          simp only [Instr.findNow, h1, Instr.sameNow, findV, bytes_beq]
          by_cases hp : p.1 = i
          · simp [hp, h2]
          · have : ¬ i = p.1 := Ne.symm hp
            simp [hp, this, ih r (j + 1) h3]
    simp [Instr.findKey, Sem.run_bind, run_underlying hu, Result.andThen, key es m 0 he]
  stays := fun i => by
    have : ∀ d, Instr.sameBits (d + 1) (.string i) (.string i) = true := fun d => by simp [Instr.sameBits, bytes_beq]
    exact this 9999
end Go.Vx
