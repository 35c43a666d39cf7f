/-
  Applying steps, plainly: on trees without places in memory, new nodes without a number. No conditions.
-/
import Derived.Test.YthhbnodnpajljaaRgd
set_option linter.unusedVariables false
set_option linter.unusedSimpArgs false
namespace Go.Proofs.Ythhbnodnpajljaa
open Go Go.RowKit Go.Vx

mutual
/-- without places in memory; numbers beyond m are struck -/
def skz (m : Int) : T → T
  | .mk _ _ _ id kind n lf kids => .mk 0 none 0 (if id ≤ m then id else 0) kind n lf (skzL m kids)
def skzL (m : Int) : List T → List T
  | [] => []
  | t :: r => skz m t :: skzL m r
end
theorem skzL_map (m : Int) : ∀ l : List T, skzL m l = l.map (skz m)
  | [] => rfl
  | t :: r => by simp [skzL, skzL_map m r]
mutual
theorem skz_skel {m : Int} : ∀ {t : T}, (∀ x ∈ nodes t, x.id ≤ m) → skz m t = skel t
  | .mk b ka kc id kind n lf kids, h => by
    have h1 : id ≤ m := h (.mk b ka kc id kind n lf kids) (by simp [nodes])
    have h2 := skz_skelL (m := m) (l := kids) fun x hx => h x (by simp [nodes, hx])
    simp only [skz, skel, h2, if_pos h1]
theorem skz_skelL {m : Int} : ∀ {l : List T}, (∀ x ∈ nodesL l, x.id ≤ m) → skzL m l = skelL l
  | [], _ => rfl
  | t :: r, h => by
    have h1 := skz_skel (m := m) (t := t) fun x hx => h x (by simp [nodesL, hx])
    have h2 := skz_skelL (m := m) (l := r) fun x hx => h x (by simp [nodesL, hx])
    simp only [skzL, skelL, h1, h2]
end
mutual
theorem skz_sz (m : Int) : ∀ t : T, sz (skz m t) = sz t
  | .mk _ _ _ _ _ _ _ kids => by simp only [skz, sz, skz_szL m kids]
theorem skz_szL (m : Int) : ∀ l : List T, szL (skzL m l) = szL l
  | [] => rfl
  | t :: r => by simp only [skzL, szL, skz_sz m t, skz_szL m r]
end
theorem szL_skel (l : List T) : szL (l.map skel) = szL l := by rw [← skelL_map, skel_szL]
theorem szL_skz (m : Int) (l : List T) : szL (l.map (skz m)) = szL l := by rw [← skzL_map, skz_szL]
theorem skz_mk {m : Int} {b : Nat} {ka : Option Nat} {kc : Nat} {id kind n : Int} {lf : Lf} {kids : List T} (h : m < id) : skz m (.mk b ka kc id kind n lf kids) = .mk 0 none 0 0 kind n lf (kids.map (skz m)) := by
  simp only [skz, skzL_map]; rw [if_neg (by omega)]
theorem skz_leaf {m : Int} {b : Nat} {id : Int} {l : Lf} (h : m < id) : skz m (leafT b id l) = leafT 0 0 l := by
  unfold leafT; rw [skz_mk h]; rfl
theorem skel_mk0 {b : Nat} {ka : Option Nat} {kc : Nat} {id kind n : Int} {lf : Lf} {kids : List T} : skel (.mk b ka kc id kind n lf kids) = .mk 0 none 0 id kind n lf (kids.map skel) := by simp only [skel, skelL_map]
mutual
theorem skel_find (k : Int) : ∀ t : T, findT k (skel t) = (findT k t).map skel
  | .mk b ka kc id kind n lf kids => by
    simp only [skel, findT]
    split
    · simp [skel]
    · exact skel_findL k kids
theorem skel_findL (k : Int) : ∀ l : List T, findL k (skelL l) = (findL k l).map skel
  | [] => rfl
  | t :: r => by
    simp only [skelL, findL, skel_find k t, skel_findL k r]
    cases findT k t <;> simp
end

/-! ### the steps -/
def rightD (o : OpD) : Prop := (o.d = 1 ∧ o.kind = 0 ∧ o.n = 0 ∧ o.kids = 0 ∧ o.lf = lf0) ∨ (o.d = 2 ∧ o.id = 0 ∧ o.kind = 0 ∧ o.n = 0 ∧ o.kids = 0) ∨ (o.d = 3 ∧ o.id = 0 ∧ o.lf = lf0)
instance (o : OpD) : Decidable (rightD o) := by unfold rightD; infer_instance
def namedD (o : OpD) : OpD := if o.d = 1 then ⟨o.d, o.id, 0, 0, 0, lf0⟩ else if o.d = 2 then ⟨o.d, 0, 0, 0, 0, o.lf⟩ else if o.d = 3 then ⟨o.d, 0, o.kind, o.n, o.kids, lf0⟩ else ⟨IntKind.i64.wrap (o.d + 1), 0, 0, 0, 0, lf0⟩
theorem op_ext {o p : OpD} : o.cs = p.cs ↔ o = p := by
  constructor
  · intro h
    obtain ⟨d, i, k, n, q, ⟨a, b, c, e⟩⟩ := o
    obtain ⟨d', i', k', n', q', ⟨a', b', c', e'⟩⟩ := p
    simp [OpD.cs] at h
    obtain ⟨rfl, rfl, rfl, rfl, rfl, rfl, rfl, rfl, rfl⟩ := h
    rfl
  · rintro rfl; rfl
theorem wrap_ne (d : Int) (h : -9223372036854775808 ≤ d ∧ d ≤ 9223372036854775807) : IntKind.i64.wrap (d + 1) ≠ d := by
  simp only [IntKind.wrap_i64]; omega
theorem named_right {o : OpD} (h : -9223372036854775808 ≤ o.d ∧ o.d ≤ 9223372036854775807) : o.cs = (namedD o).cs ↔ rightD o := by
  rw [op_ext]
  have hw := wrap_ne o.d h
  obtain ⟨d, i, k, n, q, l⟩ := o
  unfold namedD rightD
  simp only at hw ⊢
  by_cases h1 : d = 1
  · subst h1
    rw [if_pos rfl]
    simp only [OpD.mk.injEq]
    constructor
    · intro h; left; simp [h]
    · intro h; rcases h with h | h | h
      · simp [h]
      · omega
      · omega
  · rw [if_neg h1]
    by_cases h2 : d = 2
    · subst h2
      rw [if_pos rfl]
      simp only [OpD.mk.injEq]
      constructor
      · intro h; right; left; simp [h]
      · intro h; rcases h with h | h | h
        · omega
        · simp [h]
        · omega
    · rw [if_neg h2]
      by_cases h3 : d = 3
      · subst h3
        rw [if_pos rfl]
        simp only [OpD.mk.injEq]
        constructor
        · intro h; right; right; simp [h]
        · intro h; rcases h with h | h | h
          · omega
          · omega
          · simp [h]
      · rw [if_neg h3]
        simp only [OpD.mk.injEq]
        exact ⟨fun h => absurd h.1.symm hw, fun h => by rcases h with h | h | h <;> omega⟩
/-- one step, on a row of trees: an error's number, or the next row -/
def aStep (find : Int → Option T) (st : List T) (o : OpD) : Int ⊕ List T :=
  if rightD o then
    if o.d = 1 then (match find o.id with | none => .inl 150 | some x => .inr (st ++ [x]))
    else if o.d = 2 then .inr (st ++ [leafT 0 0 o.lf])
    else if o.kids < 0 ∨ (st.length : Int) < o.kids then .inl 150
    else if badKind o.kind o.n then .inl 101
    else if 4194304 < 1 + szL (st.drop (st.length - o.kids.toNat)) then .inl 6
    else .inr (st.take (st.length - o.kids.toNat) ++ [.mk 0 none 0 0 o.kind o.n lf0 (st.drop (st.length - o.kids.toNat))])
  else .inl 150
def aRun (find : Int → Option T) : List OpD → List T → Int ⊕ List T
  | [], st => .inr st
  | o :: r, st => match aStep find st o with | .inl e => .inl e | .inr st' => aRun find r st'
def aEnd (find : Int → Option T) (l : List OpD) : Int ⊕ T :=
  if 4194304 < l.length then .inl 2 else match aRun find l [] with | .inl e => .inl e | .inr [x] => .inr x | .inr _ => .inl 150
theorem aRun_err {find : Int → Option T} {l : List OpD} {i : Nat} {o : OpD} {st : List T} {e : Int} (ho : l[i]? = some o) (h : aRun find l [] = aRun find (l.drop i) st) (hs : aStep find st o = .inl e) : aRun find l [] = .inl e := by
  rw [h, drop_get ho]; simp [aRun, hs]
theorem aRun_on {find : Int → Option T} {l : List OpD} {i : Nat} {o : OpD} {st st' : List T} (ho : l[i]? = some o) (h : aRun find l [] = aRun find (l.drop i) st) (hs : aStep find st o = .inr st') : aRun find l [] = aRun find (l.drop (i + 1)) st' := by
  rw [h, drop_get ho]; simp [aRun, hs]
theorem aRun_done {find : Int → Option T} {l : List OpD} {i : Nat} {st : List T} (hi : l.length ≤ i) (h : aRun find l [] = aRun find (l.drop i) st) : aRun find l [] = .inr st := by
  rw [h, List.drop_eq_nil_of_le hi]; rfl
/-- what comes of it -/
def ARes (r : Int ⊕ T) (er : Int) (o : Option Addr) (good : T → Prop) : Prop := match r with | .inl e => er = e ∧ o = none | .inr y => er = 0 ∧ good y
theorem aEnd_err {find : Int → Option T} {l : List OpD} {e : Int} (hl : ¬ 4194304 < l.length) (h : aRun find l [] = .inl e) : aEnd find l = .inl e := by unfold aEnd; rw [if_neg hl, h]
theorem aEnd_many {find : Int → Option T} {l : List OpD} {st : List T} (hl : ¬ 4194304 < l.length) (h : aRun find l [] = .inr st) (hs : st.length ≠ 1) : aEnd find l = .inl 150 := by
  unfold aEnd; rw [if_neg hl, h]
  match st, hs with
  | [], _ => rfl
  | [x], hs => exact absurd rfl hs
  | _ :: _ :: _, _ => rfl
theorem aEnd_one {find : Int → Option T} {l : List OpD} {x : T} (hl : ¬ 4194304 < l.length) (h : aRun find l [] = .inr [x]) : aEnd find l = .inr x := by unfold aEnd; rw [if_neg hl, h]
theorem aStep_wrong {find : Int → Option T} {st : List T} {o : OpD} (h : ¬ rightD o) : aStep find st o = .inl 150 := if_neg h
theorem aStep_keep {find : Int → Option T} {st : List T} {o : OpD} {x : T} (h : rightD o) (hd : o.d = 1) (hx : find o.id = some x) : aStep find st o = .inr (st ++ [x]) := by unfold aStep; rw [if_pos h, if_pos hd, hx]
theorem aStep_lost {find : Int → Option T} {st : List T} {o : OpD} (h : rightD o) (hd : o.d = 1) (hx : find o.id = none) : aStep find st o = .inl 150 := by unfold aStep; rw [if_pos h, if_pos hd, hx]
theorem aStep_leaf {find : Int → Option T} {st : List T} {o : OpD} (h : rightD o) (hd : o.d = 2) : aStep find st o = .inr (st ++ [leafT 0 0 o.lf]) := by unfold aStep; rw [if_pos h, if_neg (by omega), if_pos hd]
theorem aStep_few {find : Int → Option T} {st : List T} {o : OpD} (h : rightD o) (h1 : o.d ≠ 1) (h2 : o.d ≠ 2) (hk : o.kids < 0 ∨ (st.length : Int) < o.kids) : aStep find st o = .inl 150 := by unfold aStep; rw [if_pos h, if_neg h1, if_neg h2, if_pos hk]
theorem aStep_bad {find : Int → Option T} {st : List T} {o : OpD} (h : rightD o) (h1 : o.d ≠ 1) (h2 : o.d ≠ 2) (hk : ¬ (o.kids < 0 ∨ (st.length : Int) < o.kids)) (hb : badKind o.kind o.n) : aStep find st o = .inl 101 := by unfold aStep; rw [if_pos h, if_neg h1, if_neg h2, if_neg hk, if_pos hb]
theorem aStep_full {find : Int → Option T} {st : List T} {o : OpD} (h : rightD o) (h1 : o.d ≠ 1) (h2 : o.d ≠ 2) (hk : ¬ (o.kids < 0 ∨ (st.length : Int) < o.kids)) (hb : ¬ badKind o.kind o.n) (k : Nat) (hkk : k = st.length - o.kids.toNat) (hz : 4194304 < 1 + szL (st.drop k)) : aStep find st o = .inl 6 := by
  subst hkk; unfold aStep; rw [if_pos h, if_neg h1, if_neg h2, if_neg hk, if_neg hb, if_pos hz]
theorem aStep_make {find : Int → Option T} {st : List T} {o : OpD} (h : rightD o) (h1 : o.d ≠ 1) (h2 : o.d ≠ 2) (hk : ¬ (o.kids < 0 ∨ (st.length : Int) < o.kids)) (hb : ¬ badKind o.kind o.n) (k : Nat) (hkk : k = st.length - o.kids.toNat) (hz : ¬ 4194304 < 1 + szL (st.drop k)) : aStep find st o = .inr (st.take k ++ [.mk 0 none 0 0 o.kind o.n lf0 (st.drop k)]) := by
  subst hkk; unfold aStep; rw [if_pos h, if_neg h1, if_neg h2, if_neg hk, if_neg hb, if_neg hz]
theorem rightD_three {o : OpD} (h : rightD o) (h1 : o.d ≠ 1) (h2 : o.d ≠ 2) : o.d = 3 := by rcases h with h | h | h <;> omega
theorem blocksL_sub {l l' : List T} (h : ∀ t ∈ l, t ∈ l') {b : Nat} (hb : b ∈ blocksL l) : b ∈ blocksL l' := by
  induction l with
  | nil => simp [blocksL] at hb
  | cons t l ih =>
    simp only [blocksL, List.mem_append] at hb
    rcases hb with hb | hb
    · exact blocksL_mem (h t (.head _)) hb
    · exact ih (fun u hu => h u (.tail _ hu)) hb
theorem nodes_self (t : T) : t ∈ nodes t := by cases t; simp [nodes]
theorem nodes_kids {t k x : T} (hk : k ∈ t.kids) (hx : x ∈ nodes k) : x ∈ nodes t := by
  cases t
  simp only [T.kids] at hk
  simp only [nodes, List.mem_cons]
  right
  rename_i kids
  induction kids with
  | nil => cases hk
  | cons u r ih =>
    simp only [nodesL, List.mem_append]
    rcases List.mem_cons.1 hk with rfl | hk
    · exact .inl hx
    · exact .inr (ih hk)
mutual
theorem nodes_closed {l : List T} (hc : ∀ t ∈ l, ∀ k ∈ t.kids, k ∈ l) : ∀ t : T, t ∈ l → ∀ x ∈ nodes t, x ∈ l
  | .mk b ka kc id kind n lf kids, ht, x, hx => by
    simp only [nodes, List.mem_cons] at hx
    rcases hx with rfl | hx
    · exact ht
    · exact nodes_closedL hc kids (fun k hk => hc _ ht k hk) x hx
theorem nodes_closedL {l : List T} (hc : ∀ t ∈ l, ∀ k ∈ t.kids, k ∈ l) : ∀ r : List T, (∀ k ∈ r, k ∈ l) → ∀ x ∈ nodesL r, x ∈ l
  | [], _, x, hx => by simp [nodesL] at hx
  | t :: r, hr, x, hx => by
    simp only [nodesL, List.mem_append] at hx
    rcases hx with hx | hx
    · exact nodes_closed hc t (hr t (.head _)) x hx
    · exact nodes_closedL hc r (fun k hk => hr k (.tail _ hk)) x hx
end
mutual
theorem nodes_PN {st : Value} {w : World} : ∀ {t : T}, PN st w t → ∀ x ∈ nodes t, PN st w x
  | .mk b ka kc id kind n lf kids, h, x, hx => by
    simp only [nodes, List.mem_cons] at hx
    rcases hx with rfl | hx
    · exact h
    · exact nodes_PNL h.kids x hx
theorem nodes_PNL {st : Value} {w : World} : ∀ {l : List T}, PNL st w l → ∀ x ∈ nodesL l, PN st w x
  | [], _, x, hx => by simp [nodesL] at hx
  | t :: r, h, x, hx => by
    simp only [nodesL, List.mem_append] at hx
    exact hx.elim (nodes_PN h.1 x) (nodes_PNL h.2 x)
end
mutual
theorem nodes_PR {w : World} : ∀ {t : T}, PR w t → ∀ x ∈ nodes t, PR w x
  | .mk b ka kc id kind n lf kids, h, x, hx => by
    simp only [nodes, List.mem_cons] at hx
    rcases hx with rfl | hx
    · exact h
    · exact nodes_PRL h.kids x hx
theorem nodes_PRL {w : World} : ∀ {l : List T}, PRL w l → ∀ x ∈ nodesL l, PR w x
  | [], _, x, hx => by simp [nodesL] at hx
  | t :: r, h, x, hx => by
    simp only [nodesL, List.mem_append] at hx
    exact hx.elim (nodes_PR h.1 x) (nodes_PRL h.2 x)
end
mutual
theorem nodes_sz : ∀ {t x : T}, x ∈ nodes t → sz x ≤ sz t
  | .mk b ka kc id kind n lf kids, x, hx => by
    simp only [nodes, List.mem_cons] at hx
    rcases hx with rfl | hx
    · exact Int.le_refl _
    · have := nodes_szL hx; simp only [sz]; omega
theorem nodes_szL : ∀ {l : List T} {x : T}, x ∈ nodesL l → sz x ≤ szL l
  | [], x, hx => by simp [nodesL] at hx
  | t :: r, x, hx => by
    simp only [nodesL, List.mem_append] at hx
    have h1 := sz_pos t; have h2 := szL_nonneg r
    rcases hx with hx | hx
    · have := nodes_sz hx; simp only [szL]; omega
    · have := nodes_szL hx; simp only [szL]; omega
end
theorem lf_eq0 (l : Lf) : l = lf0 ↔ (l.kind = 0 ∧ l.skip = 0 ∧ l.len = 0 ∧ l.reach = 0) := by
  obtain ⟨a, b, c, d⟩ := l
  simp [lf0]
/-! ### the rest of a row -/
def sfA (A : Option Addr) (cp i0 sz : Nat) : Option Addr := if cp = i0 then A else A.map (·.add (i0 * sz))
theorem ox_sliceFromV {P : Program} {ρ : Operand → Value} {w : World} {K : Value → World → Prop} {dst : Option Tmp} {ty : TypeId} {pos : String} {af : Array Edge} {gd : Option (Nat × Bool)} {x y : Operand} {t e : TypeId} {sz by_ : Nat} {z : Value} {A : Option Addr} {n cp : Nat} {k : IntKind} {i : Int}
    (i0 : Nat) (ht : sliceT P t = some (e, sz, by_, z)) (hx : ρ x = .slice A n cp) (hy : ρ y = .int k i) (hi : i = i0) (h1 : i0 ≤ n) (h : K (.slice (sfA A cp i0 sz) (n - i0) (cp - i0)) w) : OpX P ⟨dst, .slice t x (some y) none none, ty, pos, af, gd⟩ ρ w K := by
  subst hi
  refine ox_sliceFrom ht hx hy (by omega) (by omega) ?_
  rw [show ((i0 : Nat) : Int).toNat = i0 by omega]
  exact h
theorem RowA.from {w : World} {A : Option Addr} {n cp sz : Nat} {vs : List Value} (i0 : Nat) (h1 : i0 ≤ n) (hc : n ≤ cp) (hA : RowA w A vs) (hl : vs.length = n * sz) : RowA w (sfA A cp i0 sz) (vs.drop (i0 * sz)) := by
  unfold sfA
  by_cases hcp : cp = i0
  · have hn : n = i0 := by omega
    rw [if_pos hcp, List.drop_eq_nil_of_le (by rw [hl, hn]; exact Nat.le_refl _)]
    exact RowA.nil w _
  · rw [if_neg hcp]
    cases A with
    | none => rw [show vs = [] from hA]; simp [RowA]
    | some a =>
      by_cases hv : vs = []
      · subst hv; simp only [List.drop_nil]; exact RowA.nil w _
      · have ha := hA.1 hv
        have e1 : a.add (i0 * sz) = ⟨a.block, a.off + i0 * sz, none⟩ := by
          unfold Addr.add; split
          · rename_i h0; rw [h0]; exact ha
          · rfl
        show RowA w (some (a.add (i0 * sz))) _
        rw [e1]
        refine ⟨fun _ => rfl, CellsL.of_get fun j v hj => ?_⟩
        rw [List.getElem?_drop] at hj
        have := cellsL_get hA.2 hj
        rw [show a.off + i0 * sz + j = a.off + (i0 * sz + j) by omega]
        exact this
theorem sfA_cap {A : Option Addr} {cp i0 sz : Nat} (h : (A = none → cp = 0) ∧ ∀ a, A = some a → a = ⟨a.block, a.off, none⟩) : (sfA A cp i0 sz = none → cp - i0 = 0) ∧ ∀ a, sfA A cp i0 sz = some a → a = ⟨a.block, a.off, none⟩ := by
  unfold sfA
  by_cases hcp : cp = i0
  · rw [if_pos hcp]; exact ⟨fun _ => by omega, h.2⟩
  · rw [if_neg hcp]
    cases A with
    | none => exact ⟨fun _ => by have := h.1 rfl; omega, fun a h => by cases h⟩
    | some b =>
      refine ⟨fun h => by simp at h, fun a ha => ?_⟩
      simp only [Option.map_some, Option.some.injEq] at ha
      have hb := h.2 b rfl
      rw [← ha]
      unfold Addr.add; split
      · exact hb
      · rfl

def andI (k : IntKind) (x y : Int) : Int := k.wrap (BitVec.ofInt k.bits x &&& BitVec.ofInt k.bits y).toNat
theorem ox_andI {P : Program} {ρ : Operand → Value} {w : World} {K : Value → World → Prop} {dst : Option Tmp} {ty : TypeId} {pos : String} {af : Array Edge} {gd : Option (Nat × Bool)} {x y : Operand} {t u : TypeId} {k : IntKind} {a b : Int} (hx : ρ x = .int k a) (hy : ρ y = .int k b) (h : K (.int k (andI k a b)) w) : OpX P ⟨dst, .binOp .and t x y u, ty, pos, af, gd⟩ ρ w K :=
  ox_val (v := .int k (andI k a b)) (w' := w) (by simp [execOp, hx, hy, binOp, eqGuard, Op.intBits, andI, Sem.run_bind, Result.andThen]) h
theorem tmod_bd (i : Nat) {n : Nat} (h : 0 < n) : 0 ≤ ((i : Nat) : Int).tmod ((n : Nat) : Int) ∧ ((i : Nat) : Int).tmod ((n : Nat) : Int) < n :=
  ⟨Int.tmod_nonneg _ (by omega), Int.tmod_lt_of_pos _ (by omega)⟩
mutual
theorem nodes_tr : ∀ {t y z : T}, y ∈ nodes t → z ∈ nodes y → z ∈ nodes t
  | .mk b ka kc id kind n lf kids, y, z, hy, hz => by
    simp only [nodes, List.mem_cons] at hy
    rcases hy with rfl | hy
    · exact hz
    · simp only [nodes, List.mem_cons]; exact .inr (nodes_trL hy hz)
theorem nodes_trL : ∀ {l : List T} {y z : T}, y ∈ nodesL l → z ∈ nodes y → z ∈ nodesL l
  | [], y, z, hy, _ => by simp [nodesL] at hy
  | t :: r, y, z, hy, hz => by
    simp only [nodesL, List.mem_append] at hy ⊢
    exact hy.imp (fun h => nodes_tr h hz) (fun h => nodes_trL h hz)
end
theorem find_two {ta ua : T} {mm : Int} (h : skel ta = skel ua) (hm : ∀ x ∈ nodes ta, x.id ≤ mm) : (fun k => (findT k ua).map skel) = fun k => (findT k ta).map (skz mm) := by
  funext k
  rw [← skel_find, ← h, skel_find]
  cases hf : findT k ta with
  | none => rfl
  | some x =>
    have hx := (findT_some hf).1
    simp only [Option.map_some]
    rw [skz_skel fun y hy => hm y (nodes_tr hx hy)]
theorem two_res {F G : Int → Option T} {M : List OpD} {e1 e2 : Int} {o1 o2 : Option Addr} {g1 g2 : T → Prop} (hFG : F = G) (h1 : ARes (aEnd F M) e1 o1 g1) (h2 : ARes (aEnd G M) e2 o2 g2) : e2 = e1 ∧ ((o1 = none ∧ o2 = none) ∨ ∃ y, g1 y ∧ g2 y) := by
  subst hFG
  cases hr : aEnd F M with
  | inl e => rw [hr] at h1 h2; exact ⟨h2.1.trans h1.1.symm, .inl ⟨h1.2, h2.2⟩⟩
  | inr y => rw [hr] at h1 h2; exact ⟨h2.1.trans h1.1.symm, .inr ⟨y, h1.2, h2.2⟩⟩
theorem GOk.nid {ts us : List T} (h : GOk ts us) {t : T} (ht : t ∈ ts) : ∀ x ∈ nodes t, 1 ≤ x.id ∧ x.id ≤ ((ts.length : Nat) : Int) := by
  intro x hx
  have hm := nodes_closed h.kids t ht x hx
  obtain ⟨i, hi⟩ := List.mem_iff_getElem?.1 hm
  have h1 := h.ids i x hi
  have h2 := get_len hi
  omega
theorem GOk.uniq {ts us : List T} (h : GOk ts us) {t : T} (ht : t ∈ ts) : ∀ x ∈ nodes t, ∀ y ∈ nodes t, x.id = y.id → x = y := by
  intro x hx y hy he
  obtain ⟨i, hi⟩ := List.mem_iff_getElem?.1 (nodes_closed h.kids t ht x hx)
  obtain ⟨j, hj⟩ := List.mem_iff_getElem?.1 (nodes_closed h.kids t ht y hy)
  have h1 := h.ids i x hi
  have h2 := h.ids j y hj
  obtain rfl : i = j := by omega
  rw [hi] at hj; exact Option.some.inj hj
abbrev opM : OpD := ⟨77, 0, 0, 0, 0, lf0⟩
def opR (o : OpD) : Prop := (-9223372036854775808 ≤ o.d ∧ o.d ≤ 9223372036854775807) ∧ (-9223372036854775808 ≤ o.kids ∧ o.kids ≤ 9223372036854775807)
theorem setL_opC (ys zs ms : List OpD) (h : ys.length = zs.length) : setL (opC (ys ++ ms)) 0 (opC zs) = opC (zs ++ ms) := by
  have hl : ∀ l : List OpD, (opC l).length = l.length * 9 := fun l => by
    induction l with
    | nil => rfl
    | cons o l ih => simp only [opC, List.flatMap_cons, List.length_append, List.length_cons] at ih ⊢; simp only [OpD.cs, List.length_cons, List.length_nil]; omega
  have := setL_app (opC zs) (opC ys) (opC ms) [] (by rw [hl, hl, h])
  simpa [opC, List.flatMap_append] using this
theorem Own.frontO {w : World} {g n cap : Nat} {ys ms : List OpD} (h : Vx.Own w 88 9 (.slice (some ⟨g, 0, none⟩) (n + ms.length) cap) (n + ms.length) (opC (ys ++ ms))) (hn : ys.length = n) : RowA w (some ⟨g, 0, none⟩) (opC ys) := by
  refine ⟨fun _ => rfl, h.cells fun j v hj => ?_⟩
  rw [opC, List.flatMap_append, Nat.zero_add]
  exact (List.getElem?_append_left (get_len hj)).trans hj
end Go.Proofs.Ythhbnodnpajljaa
