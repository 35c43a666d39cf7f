/-
  Part 15 of the proof: texts Ui. No conditions.
-/
import Derived.Lib.UnsafeStr
import Derived.Test.YtnnmdkglgnlenaaGreatDoorRows
import Derived.Test.YtnnmdkglgnlenaaGreatDoorPbf
import Derived.Test.YtnnmdkglgnlenaaGreatDoorPbi
import Derived.Test.YtnnmdkglgnlenaaGreatDoorPbn
set_option linter.unusedVariables false
set_option linter.unusedSimpArgs false
set_option linter.unusedSectionVars false
set_option maxRecDepth 100000
set_option maxHeartbeats 4000000
namespace Go.Proofs.YtnnmdkglgnlenaaGreatDoor
open Go Go.RowKit Go.Vx
section
variable {P : Program} {ρ : Operand → Value} {w : World} {K : Value → World → Prop} {dst : Option Tmp} {ty : TypeId} {pos : String} {af : Array Edge} {gd : Option (Nat × Bool)}
theorem ox_sliceData {c : Call} {x : Operand} {t : TypeId} {g n cp : Nat} (hc : c = { callee := .builtin .unsafeSliceData, args := #[x], argTypes := #[t] }) (hx : ρ x = .slice (some ⟨g, 0, none⟩) n cp) (h0 : cp ≠ 0) (h : K (.pointer (some ⟨g, 0, none⟩)) w) : OpX P ⟨dst, .call c, ty, pos, af, gd⟩ ρ w K := by
  subst hc
  refine ox_val (v := .pointer (some ⟨g, 0, none⟩)) (w' := w) ?_ h
  have hr := Lib.run_unsafeSliceData_row (P := P) (w := w) #[t] ty ⟨g, 0, none⟩ n cp h0
  simp [execOp, resolve, invoke, builtin, hx, Sem.run_bind, Result.andThen, hr]
theorem ox_unsafeString {cl : Call} {x y : Operand} {pt it e : TypeId} {g c : Nat} {l : List UInt8} (hc : cl = { callee := .builtin .unsafeString, args := #[x, y], argTypes := #[pt, it] }) (hp : P.underlying pt = some (.pointer e)) (hce : P.cellsOf e = 1) (hx : ρ x = .pointer (some ⟨g, 0, none⟩)) (hy : ρ y = .int .i64 (l.length : Nat)) (h0 : l ≠ [])
    (ho : Vx.Own w e 1 (.slice (some ⟨g, 0, none⟩) l.length c) l.length (Lib.byteCells l)) (h : ∀ w', Chg (fun b => (Value.slice (some ⟨g, 0, none⟩) l.length c).ownBlock = some b) w w' → K (.string ⟨l.toArray⟩) w') : OpX P ⟨dst, .call cl, ty, pos, af, gd⟩ ρ w K := by
  subst hc
  obtain ⟨cap, cur, hb, hn, hcm, hcs, hlt⟩ : ∃ cap cur, w.heap[g]? = some (.cells cur e (0, 0)) ∧ l.length ≤ cap ∧ cap ≤ maxLen ∧ cur.size = cap * 1 ∧ True := by
    rcases ho.form with ⟨h1, _⟩ | ⟨g', cap, cur, h1, hb, hn, hcm, hcs, _⟩
    · cases h1
    · cases h1; exact ⟨_, cur, hb, hn, hcm, hcs, trivial⟩
  have hr := Lib.run_unsafeString_row (P := P) w pt it ty e hp hce g cur.size (by simp [World.shape?, hb]) l h0 (by omega) (by unfold maxLen at hcm; omega) (fun j x hj => (ho.rowA).at j _ (by simp [Lib.byteCells, hj]))
  refine ox_val (v := .string ⟨l.toArray⟩) (w' := w.freeze ⟨g, 0, none⟩ l.length) ?_ (h _ ?_)
  · simp [execOp, resolve, invoke, builtin, hx, hy, Sem.run_bind, Result.andThen, hr]
  · refine ⟨by simp [World.freeze, h0], by simp [World.freeze, h0], by simp [World.freeze, h0], by simp [World.freeze, h0], fun b hb2 hn2 => ?_⟩
    have hn' : ¬ g = b := fun h9 => hn2 (by rw [← h9]; rfl)
    simp [World.freeze, h0, Array.getElem?_modify, hn']
end
instance tU_108 : UnS Tryz.prog 108 5 := ⟨by kernel_rfl⟩
instance tU_135 : UnP Tryz.prog 135 5 := ⟨by kernel_rfl⟩
theorem string_walk (b g c : Nat) (l : List UInt8) (p : Value) (w : World) (hb : Blk w b #[p, .slice (some ⟨g, 0, none⟩) l.length c] 110) (ho : Vx.Own w 5 1 (.slice (some ⟨g, 0, none⟩) l.length c) l.length (Lib.byteCells l)) (h0 : l ≠ []) (hc0 : c ≠ 0) :
    Calls Tryz.prog 60 #[(.pointer (some ⟨b, 0, none⟩))] w (Ret (fun v w' => v = .string ⟨l.toArray⟩ ∧ Chg (fun k => k = g) w w')) := by
 refine calls_y (n := 14) Tryz.func60 ?_
 refine go ?_
 refine xc_regionE [10] (fun W_ => Chg (fun _ => False) w W_) hmix ?_
 intro w1 e1 z1
 have hS1 : Chg (fun _ => False) w w1 := Ext.to e1
 refine yDp 0 ?_
 refine yDp 1 ?_
 refine yDp 2 ?_
 refine xd_takeU 3 (some 6) [4, 11, 10] rfl rfl (by kernel_rfl) (v := (.slice (some ⟨g, 0, none⟩) l.length c)) (.inl ⟨rfl, fun W_ hW_ => ox_load (v := (.slice (some ⟨g, 0, none⟩) l.length c)) tA_108.h rfl ((hb.ext hW_).cell rfl) ⟨rfl, rfl⟩⟩) hS1 ?_
 refine yDq (i := 4) rfl (fun W_ hW_ => ox_sliceData (g := g) (n := l.length) (cp := c) rfl rfl hc0 ⟨rfl, rfl⟩) ?_
 refine yDp 5 ?_
 refine yDp 6 ?_
 refine yDp 7 ?_
 refine xd_takeU 8 (some 11) [9, 11, 10] rfl rfl (by kernel_rfl) (v := (.slice (some ⟨g, 0, none⟩) l.length c)) (.inl ⟨rfl, fun W_ hW_ => ox_load (v := (.slice (some ⟨g, 0, none⟩) l.length c)) tA_108.h rfl ((hb.ext hW_).cell rfl) ⟨rfl, rfl⟩⟩) hS1 ?_
 refine yDp 9 ?_
 refine yD1 (i := 10) rfl (ox_unsafeString (g := g) (c := c) (l := l) (e := 5) rfl tU_135.h (by kernel_rfl) rfl rfl h0 (ho.ext e1) ?_)
 intro w2 e2
 have he2 := e2.size
 refine ⟨.inl (by decide), ?_⟩
 refine yDp 11 ?_
 refine xd_done (by kernel_rfl) ?_ _
 refine go ?_
 refine y_r1 ?_
 exact ⟨rfl, (Chg.trans (Chg.ext (Chg.refl (fun k => k = g) w) e1) e2 (fun k hk hl => by cases hk; rfl))⟩
structure BldA (b : Nat) (l : List UInt8) (A : Option Addr) (c : Nat) (w : World) : Prop where
  p : ∃ p : Value, (p = .pointer none ∨ p = .pointer (some ⟨b, 0, none⟩)) ∧ Blk w b #[p, .slice A l.length c] 110
  own : Vx.Own w 5 1 (.slice A l.length c) l.length (Lib.byteCells l)
section
variable {b c : Nat} {l : List UInt8} {A : Option Addr} {w w' : World}
theorem BldA.lt (h : BldA b l A c w) : b < w.heap.size := by obtain ⟨p, _, h9⟩ := h.p; exact h9.lt
theorem BldA.keep {K : Nat → Prop} (h : BldA b l A c w) (k : Chg K w w') (hb : ¬ K b) (ho : ∀ x, (Value.slice A l.length c).ownBlock = some x → ¬ K x) : BldA b l A c w' := by
  obtain ⟨p, h1, h2⟩ := h.p
  exact ⟨⟨p, h1, h2.keep k hb⟩, h.own.keep k ho⟩
theorem BldA.ext (h : BldA b l A c w) (k : Ext w w') : BldA b l A c w' := h.keep k not_false fun _ _ => not_false
theorem strA (h : BldA b l A c w) (h0 : l ≠ []) : Calls Tryz.prog 60 #[.pointer (some ⟨b, 0, none⟩)] w (Ret fun v w' => v = .string ⟨l.toArray⟩ ∧ Chg (fun k => (Value.slice A l.length c).ownBlock = some k) w w') := by
  obtain ⟨p, _, h2⟩ := h.p
  have ho := h.own
  have hl : l.length ≠ 0 := by simpa using h0
  rcases ho.form with ⟨h1, h3, _⟩ | ⟨g, cap, cur, h1, hb, hn, _⟩
  · exact absurd h3 hl
  · simp only [Value.slice.injEq] at h1
    obtain ⟨rfl, _, rfl⟩ := h1
    refine ret_mono (string_walk b g c l p w h2 ho h0 (by omega)) ?_
    rintro v w' ⟨rfl, hc⟩
    exact ⟨rfl, hc.mono fun k _ hk => by rw [hk]; rfl⟩
theorem wstrA {B : Nat} {s : ByteArray} (h : BldA b l A c w) (hlo : ∀ k, (Value.slice A l.length c).ownBlock = some k → B ≤ k) (hl : l.length + s.size ≤ 140737488355328) (hB : B ≤ w.heap.size) :
    Calls Tryz.prog 55 #[.pointer (some ⟨b, 0, none⟩), .string s] w (Ret fun v w' => v = .tuple #[.int .i64 s.size, .nilIface] ∧ ∃ A' c', BldA b (l ++ s.data.toList) A' c' w' ∧ (∀ k, (Value.slice A' (l ++ s.data.toList).length c').ownBlock = some k → B ≤ k) ∧ (∀ k, (Value.slice A' (l ++ s.data.toList).length c').ownBlock = some k → (Value.slice A l.length c).ownBlock = some k ∨ w.heap.size ≤ k) ∧ Chg (fun k => k = b ∨ (Value.slice A l.length c).ownBlock = some k) w w') := by
  obtain ⟨p, hp, h2⟩ := h.p
  refine ret_mono (writeString_walk b l.length c B A (Lib.byteCells l) p s w hp h2 h.own hlo hB hl) ?_
  rintro v w' ⟨A', c', rfl, hb', ho', hlo', hat, hc⟩
  have e : l.length + s.size = (l ++ s.data.toList).length := by rw [List.length_append]; rfl
  rw [e] at hb' ho' hlo' hat
  exact ⟨rfl, A', c', ⟨⟨_, .inr rfl, hb'⟩, by rw [Lib.byteCells_append]; exact ho'⟩, hlo', hat, hc⟩
theorem wbyteA {B : Nat} {x : UInt8} (h : BldA b l A c w) (hlo : ∀ k, (Value.slice A l.length c).ownBlock = some k → B ≤ k) (hl : l.length + 1 ≤ 140737488355328) (hB : B ≤ w.heap.size) :
    Calls Tryz.prog 59 #[.pointer (some ⟨b, 0, none⟩), .int .u8 (x.toNat : Int)] w (Ret fun v w' => v = .nilIface ∧ ∃ A' c', BldA b (l ++ [x]) A' c' w' ∧ (∀ k, (Value.slice A' (l ++ [x]).length c').ownBlock = some k → B ≤ k) ∧ (∀ k, (Value.slice A' (l ++ [x]).length c').ownBlock = some k → (Value.slice A l.length c).ownBlock = some k ∨ w.heap.size ≤ k) ∧ Chg (fun k => k = b ∨ (Value.slice A l.length c).ownBlock = some k) w w') := by
  obtain ⟨p, hp, h2⟩ := h.p
  refine ret_mono (writeByte_walk b l.length c B A (Lib.byteCells l) p (x.toNat : Int) w hp h2 h.own hlo hB hl) ?_
  rintro v w' ⟨A', c', rfl, hb', ho', hlo', hat, hc⟩
  have e : l.length + 1 = (l ++ [x]).length := by simp
  rw [e] at hb' ho' hlo' hat
  exact ⟨rfl, A', c', ⟨⟨_, .inr rfl, hb'⟩, by rw [Lib.byteCells_append]; exact ho'⟩, hlo', hat, hc⟩
end
def PrR (B b : Nat) (W2 : World) (o0 : Nat → Prop) (l : List UInt8) (W : World) : Prop := ∃ A c, BldA b l A c W ∧ (∀ k, (Value.slice A l.length c).ownBlock = some k → B ≤ k) ∧ (∀ k, (Value.slice A l.length c).ownBlock = some k → o0 k ∨ W2.heap.size ≤ k) ∧ B ≤ b ∧ Chg (fun k => k = b ∨ o0 k ∨ W2.heap.size ≤ k) W2 W
section
variable {B b : Nat} {W2 W W' : World} {o0 : Nat → Prop} {l : List UInt8}
theorem PrR.ext (h : PrR B b W2 o0 l W) (c : Ext W W') : PrR B b W2 o0 l W' := by
  obtain ⟨A, c0, h1, h2, h3, h5, h4⟩ := h
  exact ⟨A, c0, h1.ext c, h2, h3, h5, Chg.ext h4 c⟩
theorem PrR.chg1 {g t : Nat} {cs : Array Value} (h : PrR B b W2 o0 l W) (c : Chg1 g W W') (hg : Blk W g cs t) (hgn : W2.heap.size ≤ g) (hgb : g ≠ b) (h5 : t ≠ 5) : PrR B b W2 o0 l W' := by
  obtain ⟨A, c0, h1, h2, h3, h6, h4⟩ := h
  exact ⟨A, c0, h1.keep c (fun hh => hgb hh.symm) (fun k hk hh => h1.own.ne_blk hg (fun e => h5 e.symm) k hk hh), h2, h3, h6, Chg.trans h4 c fun k hk _ => .inr (.inr (by rw [show k = g from hk]; exact hgn))⟩
theorem prStr {s : ByteArray} (h : PrR B b W2 o0 l W) (hl : l.length + s.size ≤ 140737488355328) (hB : B ≤ W.heap.size) :
    Calls Tryz.prog 55 #[.pointer (some ⟨b, 0, none⟩), .string s] W (Ret fun v w' => v = .tuple #[.int .i64 s.size, .nilIface] ∧ PrR B b W2 o0 (l ++ s.data.toList) w' ∧ Chg (KBB B b W) W w') := by
  obtain ⟨A, c, h1, h2, h3, h6, h4⟩ := h
  refine ret_mono (wstrA h1 h2 hl hB) ?_
  rintro v w' ⟨rfl, A', c', k1, k2, k3, k4⟩
  refine ⟨rfl, ⟨A', c', k1, k2, fun k hk => (k3 k hk).elim (h3 k) (fun h9 => .inr (by have := h4.size; omega)), h6, Chg.trans h4 k4 fun k hk _ => hk.elim .inl fun h9 => .inr (h3 k h9)⟩, chg_bld h6 h1.own h2 k4⟩
theorem prByte {x : UInt8} (h : PrR B b W2 o0 l W) (hl : l.length + 1 ≤ 140737488355328) (hB : B ≤ W.heap.size) :
    Calls Tryz.prog 59 #[.pointer (some ⟨b, 0, none⟩), .int .u8 (x.toNat : Int)] W (Ret fun v w' => v = .nilIface ∧ PrR B b W2 o0 (l ++ [x]) w' ∧ Chg (KBB B b W) W w') := by
  obtain ⟨A, c, h1, h2, h3, h6, h4⟩ := h
  refine ret_mono (wbyteA h1 h2 hl hB) ?_
  rintro v w' ⟨rfl, A', c', k1, k2, k3, k4⟩
  refine ⟨rfl, ⟨A', c', k1, k2, fun k hk => (k3 k hk).elim (h3 k) (fun h9 => .inr (by have := h4.size; omega)), h6, Chg.trans h4 k4 fun k hk _ => hk.elim .inl fun h9 => .inr (h3 k h9)⟩, chg_bld h6 h1.own h2 k4⟩
end
end Go.Proofs.YtnnmdkglgnlenaaGreatDoor
