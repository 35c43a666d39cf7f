/-
  Iterators: a yield's two ways, the marks that ranges leave, how a contract of a range function is told. No conditions.
-/
import Derived.Test.YthhbnodnpajljaaVxh
import Derived.Test.YthhbnodnpajljaaVxf
import Derived.Laws.IdiomStrings
set_option linter.unusedVariables false
set_option linter.unusedSimpArgs false
namespace Go.Vx
open Go Go.RowKit

section
variable {P : Program}
theorem yield_b {l : Nat} {args : Array Value} {w : World} {K : Value → World → Prop} {J Jx : World → Prop} (h : YieldC P l args w fun v W => (v = .bool true ∧ J W) ∨ (v = .bool false ∧ Jx W))
    (hk : ∀ (β : Bool) W, (β = true → J W) → (β = false → Jx W) → K (.bool β) W) : YieldC P l args w K :=
  h.mono fun v W hv => by
    rcases hv with ⟨rfl, h⟩ | ⟨rfl, h⟩
    · exact hk true W (fun _ => h) (fun h => by cases h)
    · exact hk false W (fun h => by cases h) (fun _ => h)

def dmark (D : Nat) : Deferred := { target := .collected D, args := #[] }
theorem leaves_marks {fn : Func} {n : Nat} {f : Nat → Value} {K : Value → World → Prop} : ∀ (Ds : List Nat) (w : World), (∀ D ∈ Ds, w.heap[D]? = some (.deferred (some []))) → Ds.Nodup →
    (∀ w', Chg (fun b => b ∈ Ds) w w' → w'.heap.size = w.heap.size → leaves P fn n f K [] w') → leaves P fn n f K (Ds.map dmark) w
  | [], w, _, _, h => h w (Chg.refl _ w) rfl
  | D :: Ds, w, hD, hn, h => by
    simp only [List.nodup_cons] at hn
    refine ⟨D, rfl, hD D (.head _), leaves_marks Ds _ (fun D' hD' => ?_) hn.2 fun w' hc hs => ?_⟩
    · rw [World.putObj_heap_other (by rintro rfl; exact hn.1 hD')]
      exact hD D' (.tail _ hD')
    · refine h w' (Chg.trans (chg_putObj w D _ (List.mem_cons_self)) hc fun x hx _ => List.mem_cons_of_mem _ hx) ?_
      rw [hs, World.putObj_size]
theorem wanted_of {n : Nat} {f : Nat → Value} {ops : Array Oper} {o : Oper} {j : Nat} {b : Bool} (hg : o.guard = some (j, b)) (hy : yl n f ops j = some b) : Region.wanted o (yl n f ops) = true := by simp [Region.wanted, hg, hy]
theorem wanted_not {n : Nat} {f : Nat → Value} {ops : Array Oper} {o : Oper} {j : Nat} {b c : Bool} (hg : o.guard = some (j, b)) (hy : yl n f ops j = some c) (hc : c ≠ b) : Region.wanted o (yl n f ops) = false := by simp [Region.wanted, hg, hy, hc]
theorem cons_eq {α : Type} {a b : α} {l m : List α} (h : a = b) (h' : l = m) : a :: l = b :: m := by rw [h, h']
/-- what an iterator's contract ends with -/
def IterR {α : Type} (B : Nat) (xs : List α) (J Jx : List α → (Nat → Prop) → World → Prop) : Value → World → Prop := fun _ W2 => ∃ X', (∀ b, X' b → B ≤ b ∧ b < W2.heap.size) ∧ (J xs X' W2 ∨ ∃ pre, pre <+: xs ∧ Jx pre X' W2)
/-- what an iterator is asked at each item -/
def IterY {α : Type} (P : Program) (l : Nat) (encs : α → Array Value) (B : Nat) (xs : List α) (J Jx : List α → (Nat → Prop) → World → Prop) : Prop :=
  ∀ pre x X W1, (pre ++ [x]) <+: xs → (∀ b, X b → B ≤ b ∧ b < W1.heap.size) → J pre X W1 →
    YieldC P l (encs x) W1 fun v W2 => (v = .bool true ∧ J (pre ++ [x]) X W2 ∧ Mine B X W1 W2) ∨ (v = .bool false ∧ Jx (pre ++ [x]) X W2 ∧ Mine B X W1 W2)
theorem Iter.mk {α : Type} {gf : Nat} {lb : List Value} {encs : α → Array Value} {B : Nat} {X0 : Nat → Prop} {xs : List α} {w : World}
    (h : ∀ (l : Nat) (J Jx : List α → (Nat → Prop) → World → Prop) (W : World), Mine B X0 w W → Stab B J → Stab B Jx → IterY P l encs B xs J Jx → J [] X0 W → Calls P gf (.func (.yield l) #[] #[] :: lb).toArray W (Ret (IterR B xs J Jx))) :
    Iter P gf lb.toArray encs B X0 xs w := fun l J Jx W hm hJ hJx hy h0 => by
  have := h l J Jx W hm hJ hJx hy h0
  rw [show (.func (.yield l) #[] #[] :: lb).toArray = #[.func (.yield l) #[] #[]] ++ lb.toArray by simp] at this
  exact this
theorem prefix_take {α : Type} {xs : List α} {j : Nat} {x : α} (h : xs[j]? = some x) : (xs.take j ++ [x]) <+: xs := by
  have : xs.take (j + 1) = xs.take j ++ [x] := by rw [List.take_add_one, h]; rfl
  rw [← this]; exact List.take_prefix _ _
theorem Own.take {w : World} {e : TypeId} {sz n c m : Nat} {A : Option Addr} {xs : List Value} (h : Own w e sz (.slice A n c) n xs) (hm : m ≤ n) : Own w e sz (.slice A m c) m (xs.take (m * sz)) := by
  rcases h.form with ⟨h1, h2, h3⟩ | ⟨g, cap, cur, h1, hb, hn, hc, hs, ht⟩
  · simp only [Value.slice.injEq] at h1
    obtain ⟨rfl, h4, rfl⟩ := h1
    have : m = 0 := by omega
    subst this
    simpa using Own.nil w e sz
  · simp only [Value.slice.injEq] at h1
    obtain ⟨rfl, _, rfl⟩ := h1
    refine Own.of_blk hb (by omega) hc hs ?_
    rw [← ht, List.take_take, Nat.min_eq_left (Nat.mul_le_mul_right _ hm)]
section
variable {ρ : Operand → Value} {w : World} {K : Value → World → Prop} {dst : Option Tmp} {ty : TypeId} {pos : String} {af : Array Edge} {gd : Option (Nat × Bool)}
theorem ox_lookup2V {κ : Type} [DecidableEq κ] {enc : κ → Value} {t kt e : TypeId} {x ix : Operand} {b : Nat} {m : List (κ × Value)} {k : κ} {z : Value} (v : Value) (ok : Bool) (hk : KeyT P kt enc) (hu : P.underlying t = some (.map kt e)) (hz : zeroOf P e = some z) (hm : MapB enc w b m)
    (hx : ρ x = .map (some b)) (hi : ρ ix = enc k) (hv : (lookM m k).getD z = v) (ho : (lookM m k).isSome = ok) (h : K (.tuple #[v, .bool ok]) w) : OpX P ⟨dst, .lookup t x ix true, ty, pos, af, gd⟩ ρ w K :=
  ox_lookup2 hk hu hz hm hx hi (by rw [hv, ho]; exact h)
/-- a slice of bytes converted to its own type: the block is marked, nothing else -/
theorem ox_convB {x : Operand} {t e : TypeId} {a : Addr} {n cp : Nat} (hu : P.underlying t = some (.slice e)) (he : P.underlying e = some (.int .u8)) (hx : ρ x = .slice (some a) n cp) (hv : ∃ cs ty, Blk w a.block cs ty)
    (h : ∀ w', Chg1 a.block w w' → w'.heap.size = w.heap.size → K (.slice (some a) n cp) w') : OpX P ⟨dst, .convert t t x, ty, pos, af, gd⟩ ρ w K := by
  obtain ⟨cs, ty', hb⟩ := hv
  have hsh : w.shape? a.block = some (ty', cs.size) := by
    unfold World.shape?; rw [hb]
  refine ox_val (v := .slice (some a) n cp) (w' := w.freeze { block := a.block, off := cs.size } 1) ?_ (h _ ?_ ?_)
  · simp [execOp, convert, hx, Sem.run_bind, run_underlying hu, run_underlying he, Result.andThen, markStringish, hsh]
  · refine ⟨rfl, rfl, rfl, by simp [World.freeze], fun b hb hn => ?_⟩
    have hn' : ¬ a.block = b := fun h => hn h.symm
    simp [World.freeze, Array.getElem?_modify, hn']
  · simp [World.freeze]
/-- the cells of a row of bytes -/
def byC (l : List UInt8) : List Value := l.map fun b => .int .u8 (b.toNat : Int)
/-- string(x) of a slice of bytes -/
theorem ox_convStr {x : Operand} {s t e : TypeId} {A : Option Addr} {cp : Nat} {l : List UInt8} {n : Nat} (hu : P.underlying t = some (.slice e)) (he : P.underlying e = some (.int .u8)) (hs : P.underlying s = some .string) (hx : ρ x = .slice A n cp) (hn : l.length = n) (hA : RowA w A (byC l))
    (h : K (.string ⟨l.toArray⟩) w) : OpX P ⟨dst, .convert t s x, ty, pos, af, gd⟩ ρ w K := by
  subst hn
  refine ox_val (v := .string ⟨l.toArray⟩) (w' := w) ?_ h
  cases A with
  | none =>
    have hl : l = [] := by have : byC l = [] := hA; simpa [byC] using this
    subst hl
    simp only [execOp, hx, run_convert_bytes_string w t s e none _ cp hu he hs, Conv.bytesToString, Sem.run_bind]
    rfl
  | some a =>
    have hr := run_convert_bytes_back (P := P) w t s e a cp l hu he hs fun j hj => hA.at j _ (by simp [byC, hj])
    simp only [execOp, hx, Sem.run_bind, hr, Result.andThen, Sem.run_pure]
theorem ox_neqStr {x y : Operand} {t u : TypeId} {a b : ByteArray} (hu : P.underlying t = some .string) (hx : ρ x = .string a) (hy : ρ y = .string b) (h : K (.bool (decide (a ≠ b))) w) : OpX P ⟨dst, .binOp .neq t x y u, ty, pos, af, gd⟩ ρ w K :=
  ox_val (v := .bool (decide (a ≠ b))) (w' := w) (by simp [execOp, hx, hy, eqGuard, binOp, Op.stringOp, Sem.run_bind, Result.andThen, ← beq_toListBytes, bytes_beq]) h
theorem ox_eqlStr {x y : Operand} {t u : TypeId} {a b : ByteArray} (hu : P.underlying t = some .string) (hx : ρ x = .string a) (hy : ρ y = .string b) (h : K (.bool (decide (a = b))) w) : OpX P ⟨dst, .binOp .eql t x y u, ty, pos, af, gd⟩ ρ w K :=
  ox_val (v := .bool (decide (a = b))) (w' := w) (by simp [execOp, hx, hy, eqGuard, binOp, Op.stringOp, Sem.run_bind, Result.andThen, ← beq_toListBytes, bytes_beq]) h
/-- append of a row that may be nil -/
theorem ox_appendR {c : Call} {x y : Operand} {t e : TypeId} {sz by_ : Nat} {z : Value} {v : Value} {n m cp : Nat} {A : Option Addr} {xs news : List Value} (hc : c = { callee := .builtin .append, args := #[x, y], argTypes := #[t, t] }) (ht : sliceT P t = some (e, sz, by_, z))
    (hzs : z.cells.size = sz) (hsz : 0 < sz) (hx : ρ x = v) (hy : ρ y = .slice A m cp) (hown : Own w e sz v n xs) (hl : news.length = m * sz) (hA : RowA w A news) (h1 : news.all Value.oneCell' = true)
    (hm : n + m ≤ 9223372036854775807) (hb : (n + m) * by_ ≤ 140737488355328)
    (h : ∀ v' w', Own w' e sz v' (n + m) (xs ++ news) → Chg (fun b => v.ownBlock = some b) w w' → (v'.ownBlock = v.ownBlock ∨ v'.ownBlock = some w.heap.size) → (v' = .slice none 0 0 ↔ v = .slice none 0 0 ∧ m = 0) → K v' w') :
    OpX P ⟨dst, .call c, ty, pos, af, gd⟩ ρ w K := by
  cases A with
  | none =>
    have hn : news = [] := hA
    subst hn
    have hm0 : m = 0 := by
      simp only [List.length_nil] at hl
      rcases Nat.mul_eq_zero.1 hl.symm with h | h <;> omega
    subst hm0
    obtain ⟨A', c', hv, hcn⟩ := hown.shape
    subst hv
    exact ox_append0 hc ht hx hcn hy (h _ w (by simpa using hown) (Chg.refl _ _) (.inl rfl) (by simp))
  | some a =>
    subst hc
    obtain ⟨hu, i, hi, hz, hs, hby⟩ := slice_of ht
    obtain ⟨v', w', hr, ho, hg, hn, hat⟩ := run_append_own_at (P := P) w 0 t ty e i z sz by_ hu hi hz hs hby hzs hsz v n xs hown a m cp news hl hA.at (by simpa using h1) (by unfold maxLen; omega) hb (Nat.zero_le _)
    refine ox_val (v := v') (w' := w') ?_ (h v' w' ho (chg_grown hg fun k hk => hk) hat hn)
    simp [execOp, resolve, invoke, builtin, hx, hy, Sem.run_bind, Result.andThen, hr]
/-- a store into a slice of the call's own -/
theorem ox_storeO {x y : Operand} {t e : TypeId} {g o m sz n cap : Nat} {v : Value} {vs xs : List Value} (hs : sizeT P t = some m) (hx : ρ x = .pointer (some ⟨g, o, none⟩)) (hy : ρ y = v) (hv : v.cells = vs.toArray) (hm : vs.length = m) (h1 : vs.all Value.oneCell' = true)
    (ho : Own w e sz (.slice (some ⟨g, 0, none⟩) n cap) n xs) (hr : o + m ≤ n * sz) (h : ∀ w', Chg1 g w w' → w'.heap.size = w.heap.size → Own w' e sz (.slice (some ⟨g, 0, none⟩) n cap) n (setL xs o vs) → K undef w') :
    OpX P ⟨dst, .store t x y, ty, pos, af, gd⟩ ρ w K := by
  obtain ⟨cur, hb, hz, hup⟩ := ho.toBlk
  exact ox_store hs hx hy hv hm h1 hb (by omega) fun w' hc hsz hb' => h w' hc hsz (hup vs o w' (by omega) hb')
theorem ox_sliceToN {x y : Operand} {t e : TypeId} {sz by_ : Nat} {z : Value} {A : Option Addr} {n cp : Nat} {k : IntKind} {i : Int} (m : Nat) (ht : sliceT P t = some (e, sz, by_, z)) (hx : ρ x = .slice A n cp) (hy : ρ y = .int k i) (h0 : 0 ≤ i) (h1 : i ≤ cp) (hm : i.toNat = m)
    (h : K (.slice A m cp) w) : OpX P ⟨dst, .slice t x none (some y) none, ty, pos, af, gd⟩ ρ w K := ox_sliceTo ht hx hy h0 h1 (by rw [hm]; exact h)
end
theorem Own.ne_map {κ : Type} {enc : κ → Value} {w : World} {e : TypeId} {sz n b : Nat} {v : Value} {xs : List Value} {m : List (κ × Value)} (h : Own w e sz v n xs) (hm : MapB enc w b m) : ∀ k, v.ownBlock = some k → k ≠ b := by
  intro k hk
  rcases h.form with ⟨rfl, _⟩ | ⟨g, cap, cur, rfl, hg, _⟩
  · simp [Value.ownBlock] at hk
  · simp [Value.ownBlock] at hk; subst hk; exact fun e => hm.ne_blk hg e.symm
/-- a store over the whole of a block -/
theorem setL_full {α : Type} : ∀ (vs p xs : List α), xs.length = vs.length → setL (p ++ xs) p.length vs = p ++ vs
  | [], p, xs, h => by rw [List.eq_nil_of_length_eq_zero h]; rfl
  | v :: vs, p, [], h => by simp at h
  | v :: vs, p, x :: xs, h => by
    simp only [setL]
    have h1 : (p ++ x :: xs).set p.length v = (p ++ [v]) ++ xs := by simp
    rw [h1]
    have := setL_full vs (p ++ [v]) xs (by simpa using h)
    rw [List.length_append, List.length_singleton] at this
    rw [this]; simp
theorem blk_full {w : World} {b : Nat} {cs : Array Value} {vs : List Value} {t : TypeId} (h : Blk w b (setAll cs 0 vs) t) (hl : cs.size = vs.length) : Blk w b vs.toArray t := by
  have h1 : setAll cs 0 vs = vs.toArray := by
    apply Array.ext'
    rw [setAll_list]
    have := setL_full vs [] cs.toList (by rw [Array.length_toList, hl])
    simpa using this
  rw [h1] at h; exact h
/-- a guard that was skipped itself -/
theorem xl_skipU {r : Option Nat} {n : Nat} {ops : Array Oper} {Q : (Nat → Value) → World → Prop} {f : Nat → Value} {w : World} {o : Oper} {rest : List Oper} (d : Option Nat) {j : Nat} {b : Bool} (hd : o.dst = d) (hg : o.guard = some (j, b)) (hy : yl n f ops j = none) (h : XL P r n ops Q rest (updo f d undef) w) : XL P r n ops Q (o :: rest) f w := by
  subst hd; unfold XL; rw [if_neg (by simp [Region.wanted, hg, hy])]; exact h
theorem wanted_no {n : Nat} {f : Nat → Value} {ops : Array Oper} {o : Oper} {j : Nat} {b : Bool} (hg : o.guard = some (j, b)) (hy : yl n f ops j = none) : Region.wanted o (yl n f ops) = false := by simp [Region.wanted, hg, hy]
/-- a block that is not the row's: nor is it after an append, if it was there before -/
theorem own_not {v v' : Value} {b g : Nat} (h : v'.ownBlock = v.ownBlock ∨ v'.ownBlock = some g) (hv : ∀ k, v.ownBlock = some k → k ≠ b) (hb : b < g) : ∀ k, v'.ownBlock = some k → k ≠ b := by
  intro k hk
  rcases h with e | e <;> rw [e] at hk
  · exact hv k hk
  · cases hk; omega
theorem ownBlock_len {A : Option Addr} {n m c k : Nat} (h : (Value.slice A n c).ownBlock = some k) : (Value.slice A m c).ownBlock = some k := by
  cases A with
  | none => simp [Value.ownBlock] at h
  | some a => exact h
theorem xc_scopeL {r : Option Nat} {n : Nat} {Q : QX} {f : Nat → Value} {ds : List Deferred} {w : World} {c R : Code} (l : Nat) (J : Nat → (Nat → Value) → List Deferred → World → Prop) (hf : findLabel c l = some (.seq .skip R))
    (pass : ∀ m f ds w, J m f ds w → XC P r n R (qjump l (fun f' ds' w' => ∃ m', m' < m ∧ J m' f' ds' w') Q) f ds w)
    (first : (∀ f ds w, (∃ m, J m f ds w) → XC P r n R (qjump l (fun f ds w => ∃ m, J m f ds w) Q) f ds w) → XC P r n c (qjump l (fun f ds w => ∃ m, J m f ds w) Q) f ds w) : XC P r n (.scope c) Q f ds w :=
  xc_scopeN l J hf (first fun f ds w ⟨m, h⟩ => (pass m f ds w h).mono fun e f ds w h => by
    cases e with
    | goto i => exact ⟨h.1, let ⟨m', _, h'⟩ := h.2; ⟨m', h'⟩⟩
    | _ => exact h) fun m f ds w h => xc_seq (xc_skip (pass m f ds w h))
end
end Go.Vx
