/-
  Applying steps in a grove, told twice. No conditions.
-/
import Derived.Test.YthhbnodnpajljaaRap
set_option linter.unusedVariables false
set_option linter.unusedSimpArgs false
namespace Go.Proofs.Ythhbnodnpajljaa
open Go Go.RowKit Go.Vx

def andI (k : IntKind) (x y : Int) : Int := k.wrap (BitVec.ofInt k.bits x &&& BitVec.ofInt k.bits y).toNat
theorem ox_andI {P : Program} {ρ : Operand → Value} {w : World} {K : Value → World → Prop} {dst : Option Tmp} {ty : TypeId} {pos : String} {af : Array Edge} {gd : Option (Nat × Bool)} {x y : Operand} {t u : TypeId} {k : IntKind} {a b : Int} (hx : ρ x = .int k a) (hy : ρ y = .int k b) (h : K (.int k (andI k a b)) w) : OpX P ⟨dst, .binOp .and t x y u, ty, pos, af, gd⟩ ρ w K :=
  ox_val (v := .int k (andI k a b)) (w' := w) (by simp [execOp, hx, hy, binOp, eqGuard, Op.intBits, andI, Sem.run_bind, Result.andThen]) h
theorem tmod_bd (i : Nat) {n : Nat} (h : 0 < n) : 0 ≤ ((i : Nat) : Int).tmod ((n : Nat) : Int) ∧ ((i : Nat) : Int).tmod ((n : Nat) : Int) < n :=
  ⟨Int.tmod_nonneg _ (by omega), Int.tmod_lt_of_pos _ (by omega)⟩
mutual
theorem nodes_tr : ∀ {t y z : T}, y ∈ nodes t → z ∈ nodes y → z ∈ nodes t
  | .mk b ka kc id kind n lf kids, y, z, hy, hz => by
    simp only [nodes, List.mem_cons] at hy
    rcases hy with rfl | hy
    · exact hz
    · simp only [nodes, List.mem_cons]; exact .inr (nodes_trL hy hz)
theorem nodes_trL : ∀ {l : List T} {y z : T}, y ∈ nodesL l → z ∈ nodes y → z ∈ nodesL l
  | [], y, z, hy, _ => by simp [nodesL] at hy
  | t :: r, y, z, hy, hz => by
    simp only [nodesL, List.mem_append] at hy ⊢
    exact hy.imp (fun h => nodes_tr h hz) (fun h => nodes_trL h hz)
end
theorem find_two {ta ua : T} {mm : Int} (h : skel ta = skel ua) (hm : ∀ x ∈ nodes ta, x.id ≤ mm) : (fun k => (findT k ua).map skel) = fun k => (findT k ta).map (skz mm) := by
  funext k
  rw [← skel_find, ← h, skel_find]
  cases hf : findT k ta with
  | none => rfl
  | some x =>
    have hx := (findT_some hf).1
    simp only [Option.map_some]
    rw [skz_skel fun y hy => hm y (nodes_tr hx hy)]
theorem two_res {F G : Int → Option T} {M : List OpD} {e1 e2 : Int} {o1 o2 : Option Addr} {g1 g2 : T → Prop} (hFG : F = G) (h1 : ARes (aEnd F M) e1 o1 g1) (h2 : ARes (aEnd G M) e2 o2 g2) : e2 = e1 ∧ ((o1 = none ∧ o2 = none) ∨ ∃ y, g1 y ∧ g2 y) := by
  subst hFG
  cases hr : aEnd F M with
  | inl e => rw [hr] at h1 h2; exact ⟨h2.1.trans h1.1.symm, .inl ⟨h1.2, h2.2⟩⟩
  | inr y => rw [hr] at h1 h2; exact ⟨h2.1.trans h1.1.symm, .inr ⟨y, h1.2, h2.2⟩⟩
theorem GOk.nid {ts us : List T} (h : GOk ts us) {t : T} (ht : t ∈ ts) : ∀ x ∈ nodes t, 1 ≤ x.id ∧ x.id ≤ ((ts.length : Nat) : Int) := by
  intro x hx
  have hm := nodes_closed h.kids t ht x hx
  obtain ⟨i, hi⟩ := List.mem_iff_getElem?.1 hm
  have h1 := h.ids i x hi
  have h2 := get_len hi
  omega
theorem GOk.uniq {ts us : List T} (h : GOk ts us) {t : T} (ht : t ∈ ts) : ∀ x ∈ nodes t, ∀ y ∈ nodes t, x.id = y.id → x = y := by
  intro x hx y hy he
  obtain ⟨i, hi⟩ := List.mem_iff_getElem?.1 (nodes_closed h.kids t ht x hx)
  obtain ⟨j, hj⟩ := List.mem_iff_getElem?.1 (nodes_closed h.kids t ht y hy)
  have h1 := h.ids i x hi
  have h2 := h.ids j y hj
  obtain rfl : i = j := by omega
  rw [hi] at hj; exact Option.some.inj hj
abbrev opM : OpD := ⟨77, 0, 0, 0, 0, lf0⟩
def opR (o : OpD) : Prop := (-9223372036854775808 ≤ o.d ∧ o.d ≤ 9223372036854775807) ∧ (-9223372036854775808 ≤ o.kids ∧ o.kids ≤ 9223372036854775807)
theorem setL_opC (ys zs ms : List OpD) (h : ys.length = zs.length) : setL (opC (ys ++ ms)) 0 (opC zs) = opC (zs ++ ms) := by
  have hl : ∀ l : List OpD, (opC l).length = l.length * 9 := fun l => by
    induction l with
    | nil => rfl
    | cons o l ih => simp only [opC, List.flatMap_cons, List.length_append, List.length_cons] at ih ⊢; simp only [OpD.cs, List.length_cons, List.length_nil]; omega
  have := setL_app (opC zs) (opC ys) (opC ms) [] (by rw [hl, hl, h])
  simpa [opC, List.flatMap_append] using this
theorem Own.frontO {w : World} {g n cap : Nat} {ys ms : List OpD} (h : Vx.Own w 88 9 (.slice (some ⟨g, 0, none⟩) (n + ms.length) cap) (n + ms.length) (opC (ys ++ ms))) (hn : ys.length = n) : RowA w (some ⟨g, 0, none⟩) (opC ys) := by
  refine ⟨fun _ => rfl, h.cells fun j v hj => ?_⟩
  rw [opC, List.flatMap_append, Nat.zero_add]
  exact (List.getElem?_append_left (get_len hj)).trans hj
end Go.Proofs.Ythhbnodnpajljaa
