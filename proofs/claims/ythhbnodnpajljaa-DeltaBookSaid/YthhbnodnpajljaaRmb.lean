/-
  Rows of rows, each of its own block: written full, then grown one by one. No conditions.
-/
import Derived.Test.YthhbnodnpajljaaRgb
set_option linter.unusedVariables false
set_option linter.unusedSimpArgs false
namespace Go.Proofs.Ythhbnodnpajljaa
open Go Go.RowKit Go.Vx

theorem ext_new (w : World) (o : Obj) : Ext w (w.drew.alloc o) := Ext.trans (chg_drew _ w 1) (chg_alloc _ _ _)
theorem ox_append2 {P : Program} {ρ : Operand → Value} {w : World} {K : Value → World → Prop} {dst : Option Tmp} {ty : TypeId} {pos : String} {af : Array Edge} {gd : Option (Nat × Bool)} {c : Call} {x y : Operand} {t e : TypeId} {sz by_ : Nat} {z : Value} {v : Value} {n g o m cp : Nat} {xs news : List Value} (hc : c = { callee := .builtin .append, args := #[x, y], argTypes := #[t, t] }) (ht : sliceT P t = some (e, sz, by_, z))
    (hzs : z.cells.size = sz) (hsz : 0 < sz) (hx : ρ x = v) (hy : ρ y = .slice (some ⟨g, o, none⟩) m cp) (hown : Vx.Own w e sz v n xs) (hl : news.length = m * sz) (hnews : CellsL w g o news) (h1 : news.all Value.oneCell' = true) (hm0 : 0 < m)
    (hm : n + m ≤ 9223372036854775807) (hb : (n + m) * by_ ≤ 140737488355328)
    (h : ∀ v' w', Vx.Own w' e sz v' (n + m) (xs ++ news) → ((∃ g0 cap, v = .slice (some ⟨g0, 0, none⟩) n cap ∧ v' = .slice (some ⟨g0, 0, none⟩) (n + m) cap ∧ Chg1 g0 w w') ∨ (v'.ownBlock = some w.heap.size ∧ Ext w w')) → K v' w') :
    OpX P ⟨dst, .call c, ty, pos, af, gd⟩ ρ w K := by
  subst hc
  obtain ⟨hu, i, hi, hz, hs, hby⟩ := slice_of ht
  have hnews' : ∀ j u, news[j]? = some u → w.cell? ((⟨g, o, none⟩ : Addr).add j) = some u := fun j u hj => by
    have ha : (⟨g, o, none⟩ : Addr).add j = ⟨g, o + j, none⟩ := by
      unfold Addr.add; split
      · rename_i h0; simp [h0]
      · rfl
    rw [ha]; exact hnews.get j u hj
  obtain ⟨v', w', hr, ho, hg, hn, hat⟩ := run_append_own_at (P := P) w 0 t ty e i z sz by_ hu hi hz hs hby hzs hsz v n xs hown ⟨g, o, none⟩ m cp news hl hnews' (by simpa using h1) (by unfold maxLen; omega) hb (Nat.zero_le _)
  refine ox_val (v := v') (w' := w') ?_ (h v' w' ho ?_)
  · simp [execOp, resolve, invoke, builtin, hx, hy, Sem.run_bind, Result.andThen, hr]
  · rcases hown.form with ⟨rfl, rfl, rfl⟩ | ⟨g0, cap, cur, rfl, hbg, hnc, hcm, hcs, htake⟩
    · refine .inr ⟨?_, chg_grown hg fun k hk => by cases hk⟩
      rcases hat with hat | hat
      · have ho' : Vx.Own w' e sz v' (0 + m) ([] ++ news) := ho
        obtain ⟨g1, c1, rfl, _⟩ := ho'.some_of (by omega)
        simp [Value.ownBlock] at hat
      · exact hat
    · by_cases hroom : n + m ≤ cap
      · have hr2 := run_append_room (P := P) w t ty e i hu hi g0 n cap cur hbg ⟨g, o, none⟩ m cp news (by rw [hs]; exact hl) hnews' (by simpa using h1) hroom (by rw [hs, hl, hcs, ← Nat.add_mul]; exact Nat.mul_le_mul_right _ hroom)
        rw [hr] at hr2
        obtain ⟨rfl, _⟩ := Result.ok.inj hr2
        exact .inl ⟨g0, cap, rfl, rfl, chg_grown hg fun k hk => by cases hk; rfl⟩
      · have holds : ∀ j u, xs[j]? = some u → w.cell? ((⟨g0, 0, none⟩ : Addr).add j) = some u := World.ownsRow.cells hown (g := g0) rfl
        have hr2 := run_append_grow (P := P) w t ty e i z hu hi hz ⟨g0, 0, none⟩ n cap xs (by rw [hs]; exact hown.len) holds ⟨g, o, none⟩ m cp news (by rw [hs]; exact hl) hnews' (by omega) (by omega) (growslice_fits (by omega) (by rw [hby]; exact hb))
        rw [hr] at hr2
        obtain ⟨rfl, rfl⟩ := Result.ok.inj hr2
        refine .inr ⟨?_, ext_new w _⟩
        rcases hat with hat | hat
        · have := hbg.lt
          simp [Value.ownBlock] at hat
          omega
        · exact hat


structure Sl3 where
  A : Option Addr
  n : Nat
  c : Nat
def Sl3.v (x : Sl3) : Value := .slice x.A x.n x.c
def nC (f : Nat → List Value) : Nat → List Value
  | 0 => []
  | k + 1 => nC f k ++ f k
section
variable {e sz B : Nat} {f : Nat → List Value} {mk tl : Nat → Nat → List Value} {l gl : List Sl3} {W W' : World} {i k : Nat} {K : Nat → Prop}
theorem nC_len (hf : ∀ k, (f k).length = sz) : ∀ n, (nC f n).length = n * sz
  | 0 => by simp [nC]
  | n + 1 => by rw [nC, List.length_append, nC_len hf n, hf, Nat.add_mul, Nat.one_mul]
theorem nC_get (hf : ∀ k, (f k).length = sz) : ∀ n, k < n → ∀ j v, (f k)[j]? = some v → (nC f n)[k * sz + j]? = some v
  | 0, h, _, _, _ => by omega
  | n + 1, h, j, v, hj => by
    have hjl := (List.getElem?_eq_some_iff.1 hj).1
    rw [hf] at hjl
    rw [nC]
    by_cases hk : k < n
    · have h1 := nC_get hf n hk j v hj
      rw [List.getElem?_append_left (List.getElem?_eq_some_iff.1 h1).1]; exact h1
    · obtain rfl : k = n := by omega
      rw [List.getElem?_append_right (by rw [nC_len hf]; omega), nC_len hf, Nat.add_sub_cancel_left]; exact hj
theorem setL_len {α : Type} : ∀ (vs xs : List α) (o : Nat), (setL xs o vs).length = xs.length
  | [], _, _ => rfl
  | v :: vs, xs, o => by simp [setL, setL_len vs]
theorem setL_mid {α : Type} : ∀ (vs p q r : List α), q.length = vs.length → setL (p ++ (q ++ r)) p.length vs = p ++ (vs ++ r)
  | [], p, q, r, h => by rw [List.eq_nil_of_length_eq_zero h]; rfl
  | v :: vs, p, [], r, h => by simp at h
  | v :: vs, p, x :: q, r, h => by
    simp only [setL]
    have h1 : (p ++ (x :: q ++ r)).set p.length v = (p ++ [v]) ++ (q ++ r) := by simp
    have h2 := setL_mid vs (p ++ [v]) q r (by simpa using h)
    rw [List.length_append, List.length_singleton] at h2
    rw [h1, h2]; simp
theorem setL_front {α : Type} {xs vs p : List α} {o : Nat} (h : xs.take o = p) (hl : o + vs.length ≤ xs.length) : (setL xs o vs).take (o + vs.length) = p ++ vs := by
  have hp : p.length = o := by rw [← h, List.length_take]; omega
  have hx : xs = p ++ ((xs.drop o).take vs.length ++ xs.drop (o + vs.length)) := by
    rw [← h]
    conv => lhs; rw [← List.take_append_drop o xs, ← List.take_append_drop vs.length (xs.drop o), List.drop_drop]
  rw [hx, ← hp, setL_mid vs p _ _ (by rw [List.length_take, List.length_drop]; omega), ← List.append_assoc, ← List.length_append, List.take_left]
def Apart (l : List Sl3) : Prop := ∀ (i j : Nat) (x y : Sl3), l[i]? = some x → l[j]? = some y → i ≠ j → ∀ b, x.v.ownBlock = some b → ¬ (y.v.ownBlock = some b)
/-- while the rows are written full: all ahead of i are, of row i the first k -/
def G1 (e sz : Nat) (mk : Nat → Nat → List Value) (l : List Sl3) (W : World) (i k : Nat) : Prop :=
  ∀ (j : Nat) (x : Sl3), l[j]? = some x → ∃ cs, Vx.Own W e sz x.v x.n cs ∧ (j < i → cs = nC (mk j) x.n) ∧ (j = i → cs.take (k * sz) = nC (mk j) k)
theorem G1.keep (h : G1 e sz mk l W i k) (c : Chg K W W') (hk : ∀ v n xs, Vx.Own W e sz v n xs → ∀ b, v.ownBlock = some b → ¬ K b) : G1 e sz mk l W' i k := fun j x hx => by
  obtain ⟨cs, h1, h2⟩ := h j x hx
  exact ⟨cs, h1.keep c (hk _ _ _ h1), h2⟩
theorem G1.ext (h : G1 e sz mk l W i k) (c : Ext W W') : G1 e sz mk l W' i k := h.keep c fun _ _ _ _ _ _ => not_false
theorem G1.step {g n c : Nat} {cs : List Value} (h : G1 e sz mk l W i k) (ha : Apart l) (hmk : ∀ i k, (mk i k).length = sz) (hx : l[i]? = some ⟨some ⟨g, 0, none⟩, n, c⟩) (hk : k < n) (hc : Chg1 g W W')
    (hl : cs.length = n * sz) (ht : cs.take (k * sz) = nC (mk i) k) (ho : Vx.Own W' e sz (.slice (some ⟨g, 0, none⟩) n c) n (setL cs (0 + k * sz) (mk i k))) : G1 e sz mk l W' i (k + 1) := fun j x hj => by
  by_cases hij : j = i
  · subst hij
    rw [hx] at hj; cases hj
    refine ⟨_, ho, fun h => by omega, fun _ => ?_⟩
    have hle : k * sz + (mk j k).length ≤ cs.length := by rw [hl, hmk, ← Nat.succ_mul]; exact Nat.mul_le_mul_right _ hk
    have h1 := setL_front ht hle
    rw [hmk] at h1
    rw [Nat.zero_add, Nat.add_mul, Nat.one_mul, h1]; rfl
  · obtain ⟨cs', h1, h2, _⟩ := h j x hj
    exact ⟨cs', h1.keep hc fun b hb hbg => ha j i x _ hj hx hij b hb (by subst hbg; rfl), h2, fun h => absurd h hij⟩
theorem G1.next (h : G1 e sz mk l W i k) {x : Sl3} (hx : l[i]? = some x) (hk : k = x.n) : G1 e sz mk l W (i + 1) 0 := fun j y hj => by
  obtain ⟨cs, h1, h2, h3⟩ := h j y hj
  refine ⟨cs, h1, fun hji => ?_, fun _ => by simp [nC]⟩
  by_cases hij : j = i
  · subst hij
    rw [hx] at hj; cases hj
    have h4 := h3 rfl
    rw [hk, ← h1.len, List.take_length] at h4
    exact h4
  · exact h2 (by omega)
/-- while they are grown -/
structure G2 (e sz : Nat) (mk tl : Nat → Nat → List Value) (l : List Sl3) (B : Nat) (gl : List Sl3) (W : World) : Prop where
  a : ∀ (j : Nat) (x : Sl3), l[j]? = some x → Vx.Own W e sz x.v x.n (nC (mk j) x.n)
  b : ∀ (j : Nat) (x y : Sl3), l[j]? = some x → gl[j]? = some y → y.n = x.n + 70 ∧ Vx.Own W e sz y.v y.n (nC (mk j) x.n ++ nC (tl j) 70) ∧ ∀ b, y.v.ownBlock = some b → x.v.ownBlock = some b ∨ B ≤ b
  hB : ∀ (j : Nat) (x : Sl3), l[j]? = some x → ∀ b, x.v.ownBlock = some b → b < B
theorem G1.g2 (h : G1 e sz mk l W i 0) (hi : i = l.length) : G2 e sz mk tl l W.heap.size [] W where
  a := fun j x hx => by obtain ⟨cs, h1, h2, _⟩ := h j x hx; rw [h2 (by have := (List.getElem?_eq_some_iff.1 hx).1; omega)] at h1; exact h1
  b := fun j x y _ hy => by simp at hy
  hB := fun j x hx b hb => by obtain ⟨cs, h1, _⟩ := h j x hx; exact h1.lt b hb
theorem G2.keep (h : G2 e sz mk tl l B gl W) (c : Chg K W W') (hk : ∀ v n xs, Vx.Own W e sz v n xs → ∀ b, v.ownBlock = some b → ¬ K b) : G2 e sz mk tl l B gl W' where
  a := fun j x hx => (h.a j x hx).keep c (hk _ _ _ (h.a j x hx))
  b := fun j x y hx hy => by obtain ⟨h1, h2, h3⟩ := h.b j x y hx hy; exact ⟨h1, h2.keep c (hk _ _ _ h2), h3⟩
  hB := h.hB
theorem G2.ext (h : G2 e sz mk tl l B gl W) (c : Ext W W') : G2 e sz mk tl l B gl W' := h.keep c fun _ _ _ _ _ _ => not_false
/-- row i, grown by k -/
structure I2 (e sz : Nat) (mk tl : Nat → Nat → List Value) (B : Nat) (gl : List Sl3) (W : World) (i : Nat) (x : Sl3) (k : Nat) (v : Value) : Prop where
  own : Vx.Own W e sz v (x.n + k) (nC (mk i) x.n ++ nC (tl i) k)
  at_ : (∃ g c, x.v = .slice (some ⟨g, 0, none⟩) x.n c ∧ v = .slice (some ⟨g, 0, none⟩) (x.n + k) c) ∨ ∀ b, v.ownBlock = some b → B ≤ b ∧ ∀ (j : Nat) (y : Sl3), gl[j]? = some y → ¬ (y.v.ownBlock = some b)
theorem I2.zero {x : Sl3} (h : G2 e sz mk tl l B gl W) (hx : l[i]? = some x) : I2 e sz mk tl B gl W i x 0 x.v where
  own := by have := h.a i x hx; simpa [nC] using this
  at_ := by
    rcases (h.a i x hx).form with ⟨h1, h2, _⟩ | ⟨g, cap, cur, h1, _⟩
    · exact .inr fun b hb => by rw [h1] at hb; simp [Value.ownBlock] at hb
    · exact .inl ⟨g, cap, h1, h1⟩
theorem I2.ext {x : Sl3} {v : Value} (h : I2 e sz mk tl B gl W i x k v) (c : Ext W W') : I2 e sz mk tl B gl W' i x k v := ⟨h.own.ext c, h.at_⟩
theorem I2.keep {x : Sl3} {v : Value} (h : I2 e sz mk tl B gl W i x k v) (c : Chg K W W') (hk : ∀ v n xs, Vx.Own W e sz v n xs → ∀ b, v.ownBlock = some b → ¬ K b) : I2 e sz mk tl B gl W' i x k v := ⟨h.own.keep c (hk _ _ _ h.own), h.at_⟩
theorem Own.cut {n m : Nat} {A : Option Addr} {c : Nat} {xs ys : List Value} (h : Vx.Own W e sz (.slice A m c) m (xs ++ ys)) (hl : xs.length = n * sz) (hm : n ≤ m) : Vx.Own W e sz (.slice A n c) n xs := by
  have := Own.take h hm
  rwa [← hl, List.take_left] at this
theorem I2.step {x : Sl3} {v v' : Value} (hg : G2 e sz mk tl l B gl W) (h : I2 e sz mk tl B gl W i x k v) (ha : Apart l) (hmk : ∀ i k, (mk i k).length = sz) (hx : l[i]? = some x) (hgl : gl.length ≤ i) (hBW : B ≤ W.heap.size)
    (ho : Vx.Own W' e sz v' (x.n + k + 1) (nC (mk i) x.n ++ nC (tl i) k ++ tl i k))
    (hat : (∃ g0 cap, v = .slice (some ⟨g0, 0, none⟩) (x.n + k) cap ∧ v' = .slice (some ⟨g0, 0, none⟩) (x.n + k + 1) cap ∧ Chg1 g0 W W') ∨ (v'.ownBlock = some W.heap.size ∧ Ext W W')) :
    G2 e sz mk tl l B gl W' ∧ I2 e sz mk tl B gl W' i x (k + 1) v' := by
  have hy : ∀ (j : Nat) (y : Sl3), gl[j]? = some y → ∀ z, l[j]? = some z → ∀ b, y.v.ownBlock = some b → b < W.heap.size := fun j y hj z hz b hb => (hg.b j z y hz hj).2.1.lt b hb
  have hil := (List.getElem?_eq_some_iff.1 hx).1
  have ho' : Vx.Own W' e sz v' (x.n + (k + 1)) (nC (mk i) x.n ++ nC (tl i) (k + 1)) := by rw [List.append_assoc] at ho; exact ho
  rcases hat with ⟨g, c, rfl, rfl, hc⟩ | ⟨hb, hc⟩
  · refine ⟨?_, ho', ?_⟩
    · refine ⟨fun j z hz => ?_, fun j z y hz hyj => ?_, hg.hB⟩
      · by_cases hij : j = i
        · subst hij
          rw [hx] at hz; cases hz
          rcases h.at_ with ⟨g', c', h1, h2⟩ | h1
          · cases h2
            rw [h1]
            exact Own.cut ho' (nC_len (hmk j) _) (by omega)
          · exact (hg.a j x hx).keep hc fun b hb hbg => by
              have := hg.hB j x hx b hb; have := (h1 g rfl).1; omega
        · refine (hg.a j z hz).keep hc fun b hb hbg => ?_
          subst hbg
          rcases h.at_ with ⟨g', c', h1, h2⟩ | h1
          · cases h2
            exact ha j i z x hz hx hij b hb (by rw [h1]; rfl)
          · have := hg.hB j z hz b hb; have := (h1 b rfl).1; omega
      · obtain ⟨h1, h2, h3⟩ := hg.b j z y hz hyj
        refine ⟨h1, h2.keep hc fun b hb hbg => ?_, h3⟩
        subst hbg
        have hjl := (List.getElem?_eq_some_iff.1 hyj).1
        rcases h.at_ with ⟨g', c', h4, h5⟩ | h4
        · cases h5
          have h6 : x.v.ownBlock = some b := by rw [h4]; rfl
          rcases h3 b hb with h7 | h7
          · exact ha j i z x hz hx (by omega) b h7 h6
          · have := hg.hB i x hx b h6; omega
        · exact (h4 b rfl).2 j y hyj hb
    · rcases h.at_ with ⟨g', c', h1, h2⟩ | h1
      · cases h2
        exact .inl ⟨g, c, h1, rfl⟩
      · exact .inr fun b hb => by cases hb; exact h1 g rfl
  · refine ⟨hg.ext hc, ho', .inr fun b h1 => ?_⟩
    rw [hb] at h1; cases h1
    refine ⟨hBW, fun j y hyj h2 => ?_⟩
    have hjl := (List.getElem?_eq_some_iff.1 hyj).1
    obtain ⟨z, hz⟩ : ∃ z, l[j]? = some z := ⟨l[j]'(by omega), List.getElem?_eq_getElem _⟩
    have := hy j y hyj z hz _ h2
    omega
theorem G2.snoc {x : Sl3} {A : Option Addr} {c : Nat} (hg : G2 e sz mk tl l B gl W) (h : I2 e sz mk tl B gl W i x 70 (.slice A (x.n + 70) c)) (hx : l[i]? = some x) (hgl : gl.length = i) : G2 e sz mk tl l B (gl ++ [⟨A, x.n + 70, c⟩]) W where
  a := hg.a
  hB := hg.hB
  b := fun j z y hz hy => by
    by_cases hj : j < gl.length
    · rw [List.getElem?_append_left hj] at hy; exact hg.b j z y hz hy
    · rw [List.getElem?_append_right (by omega)] at hy
      have h0 : j - gl.length = 0 := by
        have := (List.getElem?_eq_some_iff.1 hy).1; simp at this; omega
      rw [h0] at hy; cases hy
      obtain rfl : j = i := by omega
      rw [hx] at hz; cases hz
      refine ⟨rfl, h.own, fun b hb => ?_⟩
      rcases h.at_ with ⟨g, c', h1, h2⟩ | h1
      · cases h2
        exact .inl (by rw [h1]; exact hb)
      · exact .inr (h1 b hb).1
theorem app_get {a b : List Value} {n : Nat} (hl : a.length = n * sz) {k : Nat} {g : List Value} (h : ∀ j v, g[j]? = some v → b[k * sz + j]? = some v) : ∀ j v, g[j]? = some v → (a ++ b)[(n + k) * sz + j]? = some v := fun j v hj => by
  rw [List.getElem?_append_right (by rw [hl, Nat.add_mul]; omega), hl, Nat.add_mul, show n * sz + k * sz + j - n * sz = k * sz + j by omega]
  exact h j v hj
theorem app_getL {a b g : List Value} {o : Nat} (h : ∀ j v, g[j]? = some v → a[o + j]? = some v) : ∀ j v, g[j]? = some v → (a ++ b)[o + j]? = some v := fun j v hj => by
  have h1 := h j v hj
  rw [List.getElem?_append_left (List.getElem?_eq_some_iff.1 h1).1]; exact h1
end
def mkH (d : Int) (i k : Nat) : List Value := [.int .i64 (i : Nat), .int .i64 (k : Nat), .int .i64 d, .int .i64 0]
def mkO (d : Int) (i k : Nat) : List Value := [.int .i64 d, .int .i64 (i : Nat), .int .i64 0, .int .i64 0, .int .i64 (k : Nat), .int .i64 0, .int .i64 0, .int .i64 0, .int .i64 0]
def inL (l : List Sl3) (b : Nat) : Prop := ∃ (j : Nat) (x : Sl3), l[j]? = some x ∧ x.v.ownBlock = some b
theorem alt_chg {W W' : World} {v v' : Value} {n m : Nat} (h : (∃ g0 cap, v = .slice (some ⟨g0, 0, none⟩) n cap ∧ v' = .slice (some ⟨g0, 0, none⟩) m cap ∧ Chg1 g0 W W') ∨ (v'.ownBlock = some W.heap.size ∧ Ext W W')) : Chg (fun b => v.ownBlock = some b) W W' := by
  rcases h with ⟨g, c, rfl, rfl, h⟩ | ⟨_, h⟩
  · exact h.mono fun b _ hb => by subst hb; rfl
  · exact h.mono fun b _ hb => hb.elim
theorem I2.inl {e sz B : Nat} {mk tl : Nat → Nat → List Value} {l gl : List Sl3} {W : World} {i k : Nat} {x : Sl3} {v : Value} (h : I2 e sz mk tl B gl W i x k v) (hx : l[i]? = some x) : ∀ b, v.ownBlock = some b → inL l b ∨ B ≤ b := fun b hb => by
  rcases h.at_ with ⟨g, c, h1, rfl⟩ | h1
  · exact .inl ⟨i, x, hx, by rw [h1]; exact hb⟩
  · exact .inr (h1 b hb).1
theorem Own.rowv {w : World} {e g n c : Nat} {l : List Sl3} {i : Nat} {x : Sl3} (h : Vx.Own w e 1 (.slice (some ⟨g, 0, none⟩) n c) n (l.map Sl3.v)) (hx : l[i]? = some x) : w.cell? ⟨g, 0 + i * 1, none⟩ = some x.v :=
  (h.cells (o := 0 + i * 1) (vs := [x.v]) (fun j v hj => by
    cases j with
    | zero => simp at hj; subst hj; simp [hx]
    | succ j => simp at hj)).1
theorem Own.nc {w : World} {e g n c sz m : Nat} {f : Nat → List Value} (h : Vx.Own w e sz (.slice (some ⟨g, 0, none⟩) n c) n (nC f m)) (hf : ∀ k, (f k).length = sz) {k : Nat} (hk : k < m) : CellsL w g (0 + k * sz) (f k) :=
  h.cells (by rw [Nat.zero_add]; exact nC_get hf m hk)
theorem Own.nc1 {w : World} {e g n c sz m : Nat} {f : Nat → List Value} {r : List Value} (h : Vx.Own w e sz (.slice (some ⟨g, 0, none⟩) n c) n (nC f m ++ r)) (hf : ∀ k, (f k).length = sz) {k : Nat} (hk : k < m) : CellsL w g (0 + k * sz) (f k) :=
  h.cells (by rw [Nat.zero_add]; exact app_getL (nC_get hf m hk))
theorem Own.nc2 {w : World} {e g n c sz m d : Nat} {f f' : Nat → List Value} (h : Vx.Own w e sz (.slice (some ⟨g, 0, none⟩) n c) n (nC f' m ++ nC f d)) (hf : ∀ k, (f k).length = sz) (hf' : ∀ k, (f' k).length = sz) {k : Nat} (hk : k < d) : CellsL w g (0 + (m + k) * sz) (f k) :=
  h.cells (by rw [Nat.zero_add]; exact app_get (nC_len hf' m) (nC_get hf d hk))
/-- lists that were told, with their copies -/
structure RB {α : Type} (e sz : Nat) (C : List α → List Value) (B : Nat) (w : World) (l m : List Sl3) (Hs : List (List α)) : Prop where
  ll : l.length = Hs.length
  ml : m.length = Hs.length
  a : ∀ (j : Nat) (x : Sl3) (H : List α), l[j]? = some x → Hs[j]? = some H → x.n = H.length ∧ Vx.Own w e sz x.v x.n (C H)
  b : ∀ (j : Nat) (x : Sl3) (H : List α), m[j]? = some x → Hs[j]? = some H → x.n = H.length ∧ Vx.Own w e sz x.v x.n (C H)
  lh : ∀ (j : Nat) (H : List α), Hs[j]? = some H → H.length ≤ 4194304
  ap : Apart l
  lo : ∀ (j : Nat) (x : Sl3), l[j]? = some x → ∀ b, x.v.ownBlock = some b → B ≤ b
section
variable {α : Type} {e sz B : Nat} {C : List α → List Value} {l m : List Sl3} {Hs : List (List α)} {w w' : World} {K : Nat → Prop}
theorem RB.nil : RB e sz C B w [] [] ([] : List (List α)) :=
  ⟨rfl, rfl, fun j x H h => by simp at h, fun j x H h => by simp at h, fun j H h => by simp at h, fun i j x y h => by simp at h, fun j x h => by simp at h⟩
theorem RB.keep (h : RB e sz C B w l m Hs) (c : Chg K w w') (hk : ∀ v n xs, Vx.Own w e sz v n xs → ∀ b, v.ownBlock = some b → ¬ K b) : RB e sz C B w' l m Hs :=
  ⟨h.ll, h.ml, fun j x H hx hH => ⟨(h.a j x H hx hH).1, (h.a j x H hx hH).2.keep c (hk _ _ _ (h.a j x H hx hH).2)⟩, fun j x H hx hH => ⟨(h.b j x H hx hH).1, (h.b j x H hx hH).2.keep c (hk _ _ _ (h.b j x H hx hH).2)⟩, h.lh, h.ap, h.lo⟩
theorem RB.ext (h : RB e sz C B w l m Hs) (c : Ext w w') : RB e sz C B w' l m Hs := h.keep c fun _ _ _ _ _ _ => not_false
theorem snoc_get {β : Type} {l : List β} {x y : β} {j : Nat} (h : (l ++ [y])[j]? = some x) : (j < l.length ∧ l[j]? = some x) ∨ (j = l.length ∧ x = y) := by
  by_cases hj : j < l.length
  · rw [List.getElem?_append_left hj] at h; exact .inl ⟨hj, h⟩
  · rw [List.getElem?_append_right (by omega)] at h
    have h0 : j - l.length = 0 := by have := (List.getElem?_eq_some_iff.1 h).1; simp at this; omega
    rw [h0] at h; simp at h
    exact .inr ⟨by omega, h.symm⟩
theorem RB.lt (h : RB e sz C B w l m Hs) {j : Nat} {x : Sl3} (hx : l[j]? = some x) : ∀ b, x.v.ownBlock = some b → b < w.heap.size := by
  have hj := (List.getElem?_eq_some_iff.1 hx).1
  obtain ⟨H, hH⟩ : ∃ H, Hs[j]? = some H := ⟨Hs[j]'(by rw [← h.ll]; exact hj), List.getElem?_eq_getElem _⟩
  exact (h.a j x H hx hH).2.lt
theorem RB.snoc {x y : Sl3} {H : List α} (h : RB e sz C B w l m Hs) (hx : x.n = H.length) (hy : y.n = H.length) (hox : Vx.Own w e sz x.v x.n (C H)) (hoy : Vx.Own w e sz y.v y.n (C H)) (hH : H.length ≤ 4194304)
    (hB : ∀ b, x.v.ownBlock = some b → B ≤ b) (hn : ∀ b, x.v.ownBlock = some b → ∀ (j : Nat) (z : Sl3), l[j]? = some z → ¬ (z.v.ownBlock = some b)) : RB e sz C B w (l ++ [x]) (m ++ [y]) (Hs ++ [H]) where
  ll := by simp [h.ll]
  ml := by simp [h.ml]
  a := fun j z H' hz hH' => by
    have h1 := h.ll
    rcases snoc_get hz with ⟨hj, hz⟩ | ⟨hj, rfl⟩ <;> rcases snoc_get hH' with ⟨hj', hH'⟩ | ⟨hj', rfl⟩
    · exact h.a j z H' hz hH'
    · omega
    · omega
    · exact ⟨hx, hox⟩
  b := fun j z H' hz hH' => by
    have h1 := h.ml
    rcases snoc_get hz with ⟨hj, hz⟩ | ⟨hj, rfl⟩ <;> rcases snoc_get hH' with ⟨hj', hH'⟩ | ⟨hj', rfl⟩
    · exact h.b j z H' hz hH'
    · omega
    · omega
    · exact ⟨hy, hoy⟩
  lh := fun j H' hH' => by
    rcases snoc_get hH' with ⟨_, hH'⟩ | ⟨_, rfl⟩
    · exact h.lh j H' hH'
    · exact hH
  ap := fun i j z u hz hu hij b hb hb' => by
    rcases snoc_get hz with ⟨hi, hz'⟩ | ⟨hi, rfl⟩ <;> rcases snoc_get hu with ⟨hj, hu'⟩ | ⟨hj, rfl⟩
    · exact h.ap i j z u hz' hu' hij b hb hb'
    · exact hn b hb' i z hz' hb
    · exact hn b hb j u hu' hb'
    · omega
  lo := fun j z hz b hb => by
    rcases snoc_get hz with ⟨_, hz⟩ | ⟨_, rfl⟩
    · exact h.lo j z hz b hb
    · exact hB b hb
theorem RB.own (h : RB e sz C B w l m Hs) {j : Nat} {x : Sl3} (hx : l[j]? = some x) : ∃ xs, Vx.Own w e sz x.v x.n xs := by
  have hj := (List.getElem?_eq_some_iff.1 hx).1
  obtain ⟨H, hH⟩ : ∃ H, Hs[j]? = some H := ⟨Hs[j]'(by rw [← h.ll]; exact hj), List.getElem?_eq_getElem _⟩
  exact ⟨_, (h.a j x H hx hH).2⟩
theorem RB.few (h : RB e sz C B w l m Hs) (j : Nat) (x : Sl3) (hx : l[j]? = some x) : x.n ≤ 4194304 := by
  have hj := (List.getElem?_eq_some_iff.1 hx).1
  obtain ⟨H, hH⟩ : ∃ H, Hs[j]? = some H := ⟨Hs[j]'(by rw [← h.ll]; exact hj), List.getElem?_eq_getElem _⟩
  rw [(h.a j x H hx hH).1]; exact h.lh j H hH
theorem RB.off {e' sz' n' : Nat} {v' : Value} {xs' : List Value} (h : RB e sz C B w l m Hs) (ho : Vx.Own w e' sz' v' n' xs') (hne : e' ≠ e) : ∀ k, v'.ownBlock = some k → ¬ inL l k := fun k hk ⟨j, x, hx, hb⟩ => by
  obtain ⟨xs, h1⟩ := h.own hx
  exact ho.ne_own h1 hne k hk hb
theorem RB.at2 (h : RB e sz C B w l m Hs) {j : Nat} (hj : j < l.length) : ∃ A c A' c' H, l[j]? = some ⟨A, H.length, c⟩ ∧ m[j]? = some ⟨A', H.length, c'⟩ ∧ Vx.Own w e sz (.slice A H.length c) H.length (C H) ∧ Vx.Own w e sz (.slice A' H.length c') H.length (C H) ∧ H.length ≤ 4194304 := by
  have h1 := h.ll; have h2 := h.ml
  obtain ⟨H, hH⟩ : ∃ H, Hs[j]? = some H := ⟨Hs[j]'(by omega), List.getElem?_eq_getElem _⟩
  obtain ⟨x, hx⟩ : ∃ x, l[j]? = some x := ⟨l[j]'(by omega), List.getElem?_eq_getElem _⟩
  obtain ⟨y, hy⟩ : ∃ y, m[j]? = some y := ⟨m[j]'(by omega), List.getElem?_eq_getElem _⟩
  obtain ⟨A, n, c⟩ := x; obtain ⟨A', n', c'⟩ := y
  obtain ⟨h3, h4⟩ := h.a j _ H hx hH
  obtain ⟨h5, h6⟩ := h.b j _ H hy hH
  simp only at h3 h5; subst h3; subst h5
  exact ⟨A, c, A', c', H, hx, hy, h4, h6, h.lh j H hH⟩
theorem hkC_len (l : List Hk) : (hkC l).length = l.length * 4 := by
  induction l with
  | nil => rfl
  | cons o l ih => simp only [hkC, List.flatMap_cons, List.length_append, List.length_cons] at ih ⊢; simp only [List.length_cons, List.length_nil]; omega
theorem hkC_one (l : List Hk) : (hkC l).all Value.oneCell' = true := by simp [hkC, Value.oneCell']
theorem own_new {v v' : Value} {g : Nat} {P : Nat → Prop} (h : v'.ownBlock = v.ownBlock ∨ v'.ownBlock = some g) (h1 : ∀ k, v.ownBlock = some k → P k) (h2 : P g) : ∀ k, v'.ownBlock = some k → P k := fun k hk => by
  rcases h with h | h <;> rw [h] at hk
  · exact h1 k hk
  · cases hk; exact h2
theorem own_twoA {w : World} {u v v' : Value} {e sz n : Nat} {xs : List Value} (h : v'.ownBlock = v.ownBlock ∨ v'.ownBlock = some w.heap.size) (hu : Vx.Own w e sz u n xs) (h1 : ∀ k, v.ownBlock = some k → u.ownBlock = some k → False) : ∀ k, v'.ownBlock = some k → u.ownBlock = some k → False := own_new h h1 fun h2 => by have := hu.lt _ h2; omega
theorem own_twoB {w : World} {u v v' : Value} {e sz n : Nat} {xs : List Value} (h : v'.ownBlock = v.ownBlock ∨ v'.ownBlock = some w.heap.size) (hu : Vx.Own w e sz u n xs) (h1 : ∀ k, u.ownBlock = some k → v.ownBlock = some k → False) : ∀ k, u.ownBlock = some k → v'.ownBlock = some k → False := fun k hu' hv' => own_twoA h hu (fun k h2 h3 => h1 k h3 h2) k hv' hu'
theorem RB.g1 {mk : Nat → Nat → List Value} (h : RB e sz C B w l m Hs) : G1 e sz mk l w 0 0 := fun j x hx => by
  have hj := (List.getElem?_eq_some_iff.1 hx).1
  obtain ⟨H, hH⟩ : ∃ H, Hs[j]? = some H := ⟨Hs[j]'(by rw [← h.ll]; exact hj), List.getElem?_eq_getElem _⟩
  exact ⟨_, (h.a j x H hx hH).2, fun h => by omega, fun _ => by simp [nC]⟩
end
end Go.Proofs.Ythhbnodnpajljaa
