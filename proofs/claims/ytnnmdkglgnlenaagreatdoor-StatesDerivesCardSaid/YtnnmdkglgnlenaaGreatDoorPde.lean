/-
  Part 5 of the proof: texts Vxi. No conditions.
-/
import Derived.Laws.IdiomStrings
import Derived.Test.YtnnmdkglgnlenaaGreatDoorPdc
import Derived.Test.YtnnmdkglgnlenaaGreatDoorPdd
set_option linter.unusedVariables false
set_option linter.unusedSimpArgs false
namespace Go.Vx
open Go Go.RowKit
section
variable {P : Program}
theorem cons_eq {α : Type} {a b : α} {l m : List α} (h : a = b) (h' : l = m) : a :: l = b :: m := by rw [h, h']
theorem Own.take {w : World} {e : TypeId} {sz n c m : Nat} {A : Option Addr} {xs : List Value} (h : Own w e sz (.slice A n c) n xs) (hm : m ≤ n) : Own w e sz (.slice A m c) m (xs.take (m * sz)) := by
  rcases h.form with ⟨h1, h2, h3⟩ | ⟨g, cap, cur, h1, hb, hn, hc, hs, ht⟩
  · simp only [Value.slice.injEq] at h1
    obtain ⟨rfl, h4, rfl⟩ := h1
    have : m = 0 := by omega
    subst this
    simpa using Own.nil w e sz
  · simp only [Value.slice.injEq] at h1
    obtain ⟨rfl, _, rfl⟩ := h1
    refine Own.of_blk hb (by omega) hc hs ?_
    rw [← ht, List.take_take, Nat.min_eq_left (Nat.mul_le_mul_right _ hm)]
section
variable {ρ : Operand → Value} {w : World} {K : Value → World → Prop} {dst : Option Tmp} {ty : TypeId} {pos : String} {af : Array Edge} {gd : Option (Nat × Bool)}
theorem ox_lookup2V {κ : Type} [DecidableEq κ] {enc : κ → Value} {t kt e : TypeId} {x ix : Operand} {b : Nat} {m : List (κ × Value)} {k : κ} {z : Value} (v : Value) (ok : Bool) (hk : KeyT P kt enc) (hu : P.underlying t = some (.map kt e)) (hz : zeroOf P e = some z) (hm : MapB enc w b m)
    (hx : ρ x = .map (some b)) (hi : ρ ix = enc k) (hv : (lookM m k).getD z = v) (ho : (lookM m k).isSome = ok) (h : K (.tuple #[v, .bool ok]) w) : OpX P ⟨dst, .lookup t x ix true, ty, pos, af, gd⟩ ρ w K :=
  ox_lookup2 hk hu hz hm hx hi (by rw [hv, ho]; exact h)
theorem ox_appendR {c : Call} {x y : Operand} {t e : TypeId} {sz by_ : Nat} {z : Value} {v : Value} {n m cp : Nat} {A : Option Addr} {xs news : List Value} (hc : c = { callee := .builtin .append, args := #[x, y], argTypes := #[t, t] }) (ht : sliceT P t = some (e, sz, by_, z))
    (hzs : z.cells.size = sz) (hsz : 0 < sz) (hx : ρ x = v) (hy : ρ y = .slice A m cp) (hown : Own w e sz v n xs) (hl : news.length = m * sz) (hA : RowA w A news) (h1 : news.all Value.oneCell' = true)
    (hm : n + m ≤ 9223372036854775807) (hb : (n + m) * by_ ≤ 140737488355328)
    (h : ∀ v' w', Own w' e sz v' (n + m) (xs ++ news) → Chg (fun b => v.ownBlock = some b) w w' → (v'.ownBlock = v.ownBlock ∨ v'.ownBlock = some w.heap.size) → (v' = .slice none 0 0 ↔ v = .slice none 0 0 ∧ m = 0) → K v' w') :
    OpX P ⟨dst, .call c, ty, pos, af, gd⟩ ρ w K := by
  cases A with
  | none =>
    have hn : news = [] := hA
    subst hn
    have hm0 : m = 0 := by
      simp only [List.length_nil] at hl
      rcases Nat.mul_eq_zero.1 hl.symm with h | h <;> omega
    subst hm0
    obtain ⟨A', c', hv, hcn⟩ := hown.shape
    subst hv
    exact ox_append0 hc ht hx hcn hy (h _ w (by simpa using hown) (Chg.refl _ _) (.inl rfl) (by simp))
  | some a =>
    subst hc
    obtain ⟨hu, i, hi, hz, hs, hby⟩ := slice_of ht
    obtain ⟨v', w', hr, ho, hg, hn, hat⟩ := run_append_own_at (P := P) w 0 t ty e i z sz by_ hu hi hz hs hby hzs hsz v n xs hown a m cp news hl hA.at (by simpa using h1) (by unfold maxLen; omega) hb (Nat.zero_le _)
    refine ox_val (v := v') (w' := w') ?_ (h v' w' ho (chg_grown hg fun k hk => hk) hat hn)
    simp [execOp, resolve, invoke, builtin, hx, hy, Sem.run_bind, Result.andThen, hr]
theorem ox_storeO {x y : Operand} {t e : TypeId} {g o m sz n cap : Nat} {v : Value} {vs xs : List Value} (hs : sizeT P t = some m) (hx : ρ x = .pointer (some ⟨g, o, none⟩)) (hy : ρ y = v) (hv : v.cells = vs.toArray) (hm : vs.length = m) (h1 : vs.all Value.oneCell' = true)
    (ho : Own w e sz (.slice (some ⟨g, 0, none⟩) n cap) n xs) (hr : o + m ≤ n * sz) (h : ∀ w', Chg1 g w w' → w'.heap.size = w.heap.size → Own w' e sz (.slice (some ⟨g, 0, none⟩) n cap) n (setL xs o vs) → K undef w') :
    OpX P ⟨dst, .store t x y, ty, pos, af, gd⟩ ρ w K := by
  obtain ⟨cur, hb, hz, hup⟩ := ho.toBlk
  exact ox_store hs hx hy hv hm h1 hb (by omega) fun w' hc hsz hb' => h w' hc hsz (hup vs o w' (by omega) hb')
theorem ox_sliceToN {x y : Operand} {t e : TypeId} {sz by_ : Nat} {z : Value} {A : Option Addr} {n cp : Nat} {k : IntKind} {i : Int} (m : Nat) (ht : sliceT P t = some (e, sz, by_, z)) (hx : ρ x = .slice A n cp) (hy : ρ y = .int k i) (h0 : 0 ≤ i) (h1 : i ≤ cp) (hm : i.toNat = m)
    (h : K (.slice A m cp) w) : OpX P ⟨dst, .slice t x none (some y) none, ty, pos, af, gd⟩ ρ w K := ox_sliceTo ht hx hy h0 h1 (by rw [hm]; exact h)
end
theorem Own.ne_map {κ : Type} {enc : κ → Value} {w : World} {e : TypeId} {sz n b : Nat} {v : Value} {xs : List Value} {m : List (κ × Value)} (h : Own w e sz v n xs) (hm : MapB enc w b m) : ∀ k, v.ownBlock = some k → k ≠ b := by
  intro k hk
  rcases h.form with ⟨rfl, _⟩ | ⟨g, cap, cur, rfl, hg, _⟩
  · simp [Value.ownBlock] at hk
  · simp [Value.ownBlock] at hk; subst hk; exact fun e => hm.ne_blk hg e.symm
theorem setL_full {α : Type} : ∀ (vs p xs : List α), xs.length = vs.length → setL (p ++ xs) p.length vs = p ++ vs
  | [], p, xs, h => by rw [List.eq_nil_of_length_eq_zero h]; rfl
  | v :: vs, p, [], h => by simp at h
  | v :: vs, p, x :: xs, h => by
    simp only [setL]
    have h1 : (p ++ x :: xs).set p.length v = (p ++ [v]) ++ xs := by simp
    rw [h1]
    have := setL_full vs (p ++ [v]) xs (by simpa using h)
    rw [List.length_append, List.length_singleton] at this
    rw [this]; simp
theorem blk_full {w : World} {b : Nat} {cs : Array Value} {vs : List Value} {t : TypeId} (h : Blk w b (setAll cs 0 vs) t) (hl : cs.size = vs.length) : Blk w b vs.toArray t := by
  have h1 : setAll cs 0 vs = vs.toArray := by
    apply Array.ext'
    rw [setAll_list]
    have := setL_full vs [] cs.toList (by rw [Array.length_toList, hl])
    simpa using this
  rw [h1] at h; exact h
theorem xl_skipU {r : Option Nat} {n : Nat} {ops : Array Oper} {Q : (Nat → Value) → World → Prop} {f : Nat → Value} {w : World} {o : Oper} {rest : List Oper} (d : Option Nat) {j : Nat} {b : Bool} (hd : o.dst = d) (hg : o.guard = some (j, b)) (hy : yl n f ops j = none) (h : XL P r n ops Q rest (updo f d undef) w) : XL P r n ops Q (o :: rest) f w := by
  subst hd; unfold XL; rw [if_neg (by simp [Region.wanted, hg, hy])]; exact h
theorem xc_scopeL {r : Option Nat} {n : Nat} {Q : QX} {f : Nat → Value} {ds : List Deferred} {w : World} {c R : Code} (l : Nat) (J : Nat → (Nat → Value) → List Deferred → World → Prop) (hf : findLabel c l = some (.seq .skip R))
    (pass : ∀ m f ds w, J m f ds w → XC P r n R (qjump l (fun f' ds' w' => ∃ m', m' < m ∧ J m' f' ds' w') Q) f ds w)
    (first : (∀ f ds w, (∃ m, J m f ds w) → XC P r n R (qjump l (fun f ds w => ∃ m, J m f ds w) Q) f ds w) → XC P r n c (qjump l (fun f ds w => ∃ m, J m f ds w) Q) f ds w) : XC P r n (.scope c) Q f ds w :=
  xc_scopeN l J hf (first fun f ds w ⟨m, h⟩ => (pass m f ds w h).mono fun e f ds w h => by
    cases e with
    | goto i => exact ⟨h.1, let ⟨m', _, h'⟩ := h.2; ⟨m', h'⟩⟩
    | _ => exact h) fun m f ds w h => xc_seq (xc_skip (pass m f ds w h))
end
end Go.Vx
