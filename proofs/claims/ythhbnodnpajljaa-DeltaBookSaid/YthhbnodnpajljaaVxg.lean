/-
  Further rules of the small calculus: loops with a measure beside the state, calls by contracts, results, cuts. No conditions beyond those that each rule names.
-/
import Derived.Test.YthhbnodnpajljaaVxf
set_option linter.unusedVariables false
set_option linter.unusedSimpArgs false
namespace Go.Vx
open Go Go.RowKit

theorem Chg.keep1 {w w' : World} {b b' : Nat} {o : Obj} (h : w.heap[b]? = some o) (c : Chg1 b' w w') (hne : b ≠ b') : w'.heap[b]? = some o := (c.keep b (Array.getElem?_eq_some_iff.1 h).1 hne).trans h
theorem Blk.keep1 {w w' : World} {b b' : Nat} {cs : Array Value} {t : TypeId} (h : Blk w b cs t) (c : Chg1 b' w w') (hne : b ≠ b') : Blk w' b cs t := h.keep c hne
theorem MapB.keep1 {κ : Type} {enc : κ → Value} {w w' : World} {b b' : Nat} {m : List (κ × Value)} (h : MapB enc w b m) (c : Chg1 b' w w') (hne : b ≠ b') : MapB enc w' b m := h.keep c hne
theorem Own.keep1 {w w' : World} {e : TypeId} {sz : Nat} {v : Value} {n : Nat} {xs : List Value} {b' : Nat} (h : Own w e sz v n xs) (c : Chg1 b' w w') (hne : ∀ k, v.ownBlock = some k → k ≠ b') : Own w' e sz v n xs := h.keep c hne

/-- a store into the one cell of a block -/
theorem set_one {w : World} {b : Nat} {u v : Value} {t : TypeId} (h : Blk w b #[u] t) : Chg1 b w (w.setCell ⟨b, 0, none⟩ v) ∧ (w.setCell ⟨b, 0, none⟩ v).heap.size = w.heap.size ∧ Blk (w.setCell ⟨b, 0, none⟩ v) b #[v] t :=
  ⟨chg_setCell w _ v rfl, by simp [World.setCell], blk_set h 0 v⟩
theorem ret_mono {P : Program} {g : FuncId} {args : Array Value} {w : World} {K K' : Value → World → Prop} (h : Calls P g args w (Ret K)) (hk : ∀ v w', K v w' → K' v w') : Calls P g args w (Ret K') :=
  Calls.mono h fun _ _ ⟨v, e, hv⟩ => ⟨v, e, hk v _ hv⟩

section ox
variable {P : Program} {ρ : Operand → Value} {w : World} {K : Value → World → Prop} {dst : Option Tmp} {ty : TypeId} {pos : String} {af : Array Edge} {gd : Option (Nat × Bool)}
theorem map_list {α β : Type} (h : α → β) (args : Array α) : args.map h = (args.toList.map h).toArray := by
  apply Array.ext'
  simp
theorem ox_callE {n : Nat} {f : Nat → Value} {args : Array Operand} {ats : Array TypeId} {g : FuncId} {al : List Value} (hp : plainF P g = true) (ha : args.toList.map (ev n f) = al) (h : Calls P g al.toArray w (Ret K)) :
    OpX P ⟨dst, .call { callee := .value (.func g), args := args, argTypes := ats }, ty, pos, af, gd⟩ (ev n f) w K := by
  refine ox_call (first := #[]) (cap := #[]) hp rfl rfl (args := al.toArray) ?_ h
  rw [map_list, ha]; simp
theorem ox_callV {n : Nat} {f : Nat → Value} {x : Operand} {args : Array Operand} {ats : Array TypeId} {g : FuncId} {cap al : List Value} (hp : plainF P g = true) (hx : ev n f x = .func (.func g) #[] cap.toArray) (ha : args.toList.map (ev n f) = al) (h : Calls P g (al ++ cap).toArray w (Ret K)) :
    OpX P ⟨dst, .call { callee := .value x, args := args, argTypes := ats }, ty, pos, af, gd⟩ (ev n f) w K := by
  refine ox_call (first := #[]) (cap := cap.toArray) hp rfl hx (args := (al ++ cap).toArray) ?_ h
  rw [map_list, ha]; simp
theorem ox_callY {n : Nat} {f : Nat → Value} {x : Operand} {args : Array Operand} {ats : Array TypeId} {l : Nat} {al : List Value} (hx : ev n f x = .func (.yield l) #[] #[]) (ha : args.toList.map (ev n f) = al) (h : YieldC P l al.toArray w K) :
    OpX P ⟨dst, .call { callee := .value x, args := args, argTypes := ats }, ty, pos, af, gd⟩ (ev n f) w K := by
  refine ox_yield rfl hx (args := al.toArray) ?_ h
  rw [map_list, ha]
theorem ox_extern {n : Nat} {f : Nat → Value} {args : Array Operand} {ats : Array TypeId} {g : FuncId} {al : List Value} {v : Value} {w' : World} (ha : args.toList.map (ev n f) = al) (hr : (callFunc g al.toArray).run P w = .ok (.value v) w') (h : K v w') :
    OpX P ⟨dst, .call { callee := .value (.func g), args := args, argTypes := ats }, ty, pos, af, gd⟩ (ev n f) w K := by
  refine ox_val (v := v) (w' := w') ?_ h
  have hm : args.map (ev n f) = al.toArray := by rw [map_list, ha]
  simp [execOp, resolve, ev, Deferred.ofValue, invoke, Sem.run_bind, Result.andThen, hm, hr]
theorem ox_mkFunc {fn : Fn} {cap : Array Operand} {cs : List Value} (h2 : cap.toList.map ρ = cs) (h : K (.func fn #[] cs.toArray) w) : OpX P ⟨dst, .makeFunc fn #[] cap, ty, pos, af, gd⟩ ρ w K :=
  ox_makeFunc (by simp) (by rw [map_list, h2]) h
theorem ox_mkStruct {t : TypeId} {parts : Array (Nat × Operand)} {z : Value} {pl : Array (Nat × Nat)} {ps : List (Nat × Value)} {cs : Array Value} (hz : zeroOf P t = some z) (hp : placesT P t = some pl) (hps : parts.toList.map (fun p => (p.1, ρ p.2)) = ps)
    (hf : Instr.fill (fun i => pl[i]?) z.cells ps = some cs) (h : K (.agg cs) w) : OpX P ⟨dst, .build t parts, ty, pos, af, gd⟩ ρ w K :=
  ox_build hz hp (by rw [Array.toList_map]; exact hps) hf h
theorem ox_mkSlice {t e : TypeId} {sz by_ n : Nat} {z : Value} {parts : Array (Nat × Operand)} {ps : List (Nat × Value)} {cs : Array Value} {zs : Array Value} (ht : sliceT P t = some (e, sz, by_, z)) (hps : parts.toList.map (fun p => (p.1, ρ p.2)) = ps) (hn : n * sz ≤ 16777216)
    (hzs : ((Array.range (n * sz)).map fun i => (if n * sz = 0 then #[] else z.cells)[i % (if n * sz = 0 then #[] else z.cells).size]!) = zs)
    (hf : Instr.fill (fun i => some (i * sz, sz)) zs ps = some cs)
    (h : ∀ w', Ext w w' → w'.heap.size = w.heap.size + 1 → Blk w' w.heap.size cs e → K (.slice (some ⟨w.heap.size, 0, none⟩) n n) w') : OpX P ⟨dst, .buildSlice t n parts, ty, pos, af, gd⟩ ρ w K :=
  ox_buildSlice (ps := ps) ht (by rw [Array.toList_map]; exact hps) hn (by rw [hzs]; exact hf) h
end ox

section xc
variable {P : Program} {r : Option Nat} {n : Nat} {Q : QX} {f : Nat → Value} {ds : List Deferred} {w : World}
/-- A loop: the measure stands beside the state. -/
theorem xc_loopN {c : Code} (I : Nat → (Nat → Value) → World → Prop) (m : Nat) (h₀ : I m f w)
    (round : ∀ m f w, I m f w → XC P r n c (qseq (fun f' ds' w' => ds' = ds ∧ ∃ m', m' < m ∧ I m' f' w') Q) f ds w) : XC P r n (.loop c) Q f ds w := by
  intro b k cs hro hb hr
  have key : ∀ m f w, I m f w →
      ∃ e a' w', lift n Q e a' w' ∧ ArrivesIn (Machine.fenced P (FW r)) P (lone (b.atR (fr n f ds) (.code c :: .inLoop c :: k)) cs w) b k cs e a' w' := by
    intro m
    induction m using Nat.strongRecOn with
    | _ m ih =>
      intro f w hI
      obtain ⟨e, a₁, w₁, ⟨f₁, ds₁, rfl, hq⟩, harr⟩ := round m f w hI b (.inLoop c :: k) cs hro hb hr
      cases e with
      | normal =>
        obtain ⟨rfl, m', hlt, hI₁⟩ := hq
        obtain ⟨e₂, a₂, w₂, hq₂, harr₂⟩ := ih m' hlt f₁ w₁ hI₁
        exact ⟨e₂, a₂, w₂, hq₂, .of_steps (StepsIn.trans harr (.one (fenced_calm hb hr rfl) stepR_inLoop)) harr₂⟩
      | exit id => exact ⟨_, _, w₁, ⟨f₁, ds₁, rfl, hq⟩, .pass (x := .inLoop c) rfl (fun _ _ => .inl (by simp)) harr⟩
      | goto l => exact ⟨_, _, w₁, ⟨f₁, ds₁, rfl, hq⟩, .pass (x := .inLoop c) rfl (fun _ _ => .inl (by simp)) harr⟩
      | ret => exact ⟨_, _, w₁, ⟨f₁, ds₁, rfl, hq⟩, .pass (x := .inLoop c) rfl (fun _ _ => .inl (by simp)) harr⟩
      | panic ch => exact ⟨_, _, w₁, ⟨f₁, ds₁, rfl, hq⟩, .pass (x := .inLoop c) rfl (fun _ _ => .inl (by simp)) harr⟩
      | outgrown => exact ⟨_, _, w₁, ⟨f₁, ds₁, rfl, hq⟩, .pass (x := .inLoop c) rfl (fun _ _ => .inl (by simp)) harr⟩
  obtain ⟨e, a', w', hq, harr⟩ := key _ f w h₀
  exact ⟨e, a', w', hq, .of_steps (.one (fenced_calm hb hr rfl) stepR_loop) harr⟩

/-- A scope with one label, the measure beside the state. -/
theorem xc_scopeN {c rest : Code} (l : Nat) (J : Nat → (Nat → Value) → List Deferred → World → Prop) (hf : findLabel c l = some rest)
    (first : XC P r n c (qjump l (fun f ds w => ∃ m, J m f ds w) Q) f ds w)
    (pass : ∀ m f ds w, J m f ds w → XC P r n rest (qjump l (fun f' ds' w' => ∃ m', m' < m ∧ J m' f' ds' w') Q) f ds w) : XC P r n (.scope c) Q f ds w := by
  intro b k cs hro hb hr
  have hg : gotoIn l (.inScope c :: k) = some (.code rest :: .inScope c :: k) := by simp [gotoIn, hf]
  have hx : ∀ i, exitTo i (.inScope c :: k) = exitTo i k := fun i => by simp [exitTo]
  have key : ∀ m f ds w, J m f ds w → ∃ e a' w', lift n Q e a' w' ∧ ArrivesIn (Machine.fenced P (FW r)) P (lone (b.atR (fr n f ds) (.code rest :: .inScope c :: k)) cs w) b k cs e a' w' := by
    intro m
    induction m using Nat.strongRecOn with
    | _ m ih =>
      intro f ds w hJ
      obtain ⟨e, a₁, w₁, ⟨f₁, ds₁, rfl, hq⟩, harr⟩ := pass m f ds w hJ b (.inScope c :: k) cs hro hb hr
      cases e with
      | normal => exact ⟨.normal, _, w₁, ⟨f₁, ds₁, rfl, hq⟩, StepsIn.trans harr (.one (fenced_calm hb hr rfl) stepR_inScope)⟩
      | exit id => exact ⟨.exit id, _, w₁, ⟨f₁, ds₁, rfl, hq⟩, fun k' hk => harr.1 k' (by rw [hx]; exact hk), fun hr' hk => harr.2 hr' (by rw [hx]; exact hk)⟩
      | goto l' =>
        obtain ⟨rfl, m', hlt, hJ'⟩ := hq
        obtain ⟨e₂, a₂, w₂, hq₂, harr₂⟩ := ih m' hlt f₁ ds₁ w₁ hJ'
        exact ⟨e₂, a₂, w₂, hq₂, .of_steps (harr.1 _ hg) harr₂⟩
      | ret => exact ⟨_, _, w₁, ⟨f₁, ds₁, rfl, hq⟩, harr⟩
      | panic ch => exact ⟨_, _, w₁, ⟨f₁, ds₁, rfl, hq⟩, harr⟩
      | outgrown => exact ⟨_, _, w₁, ⟨f₁, ds₁, rfl, hq⟩, harr⟩
  have h0 : (lone (b.atR (fr n f ds) (.code (.scope c) :: k)) cs w).fenced P (FW r) := fenced_calm hb hr rfl
  obtain ⟨e, a₁, w₁, ⟨f₁, ds₁, rfl, hq⟩, harr⟩ := first b (.inScope c :: k) cs hro hb hr
  cases e with
  | normal => exact ⟨.normal, _, w₁, ⟨f₁, ds₁, rfl, hq⟩, .head h0 stepR_scope (StepsIn.trans harr (.one (fenced_calm hb hr rfl) stepR_inScope))⟩
  | exit id => exact ⟨.exit id, _, w₁, ⟨f₁, ds₁, rfl, hq⟩, fun k' hk => .head h0 stepR_scope (harr.1 k' (by rw [hx]; exact hk)), fun hr' hk => let ⟨k₁, h1, h2⟩ := harr.2 hr' (by rw [hx]; exact hk); ⟨k₁, h1, .head h0 stepR_scope h2⟩⟩
  | goto l' =>
    obtain ⟨rfl, m', hJ'⟩ := hq
    obtain ⟨e₂, a₂, w₂, hq₂, harr₂⟩ := key m' f₁ ds₁ w₁ hJ'
    exact ⟨e₂, a₂, w₂, hq₂, .of_steps (.head h0 stepR_scope (harr.1 _ hg)) harr₂⟩
  | ret => exact ⟨_, _, w₁, ⟨f₁, ds₁, rfl, hq⟩, .of_steps (.one h0 stepR_scope) harr⟩
  | panic ch => exact ⟨_, _, w₁, ⟨f₁, ds₁, rfl, hq⟩, .of_steps (.one h0 stepR_scope) harr⟩
  | outgrown => exact ⟨_, _, w₁, ⟨f₁, ds₁, rfl, hq⟩, .of_steps (.one h0 stepR_scope) harr⟩

/-- A cut: what the code comes to where it ends normally; its other ways out as they are. -/
theorem xc_cut {c : Code} (R : (Nat → Value) → World → Prop) (h : XC P r n c (qseq (fun f' ds' w' => ds' = ds ∧ R f' w') Q) f ds w) (k : ∀ f w, R f w → Q .normal f ds w) : XC P r n c Q f ds w :=
  h.mono fun e f' ds' w' hq => by
    cases e with
    | normal => obtain ⟨rfl, hR⟩ := hq; exact k _ _ hR
    | _ => exact hq
theorem xl_cut {ops : Array Oper} {Q : (Nat → Value) → World → Prop} {l : List Oper} (R : (Nat → Value) → World → Prop) (h : XL P r n ops R l f w) (k : ∀ f w, R f w → Q f w) : XL P r n ops Q l f w := XL.mono k l f w h
end xc

/-- A region that draws its order: behind the draw, a world that differs in the count of draws alone. -/
theorem xc_regionE {P : Program} {r : Option Nat} {n : Nat} {Q : QX} {f : Nat → Value} {ds : List Deferred} {w : World} {id : Nat} {ops : Array Oper} (Z : List Nat) (S : World → Prop) (hm : P.follows .mixedOrders = true)
    (h : ∀ w', Ext w w' → w'.heap.size = w.heap.size → XD P n .any ops Z S (fun f w => Q .normal f ds w) ops.size (Array.replicate ops.size false) f w') : XC P r n (.region id ops true) Q f ds w :=
  xc_regionD Z S hm fun w' hw => h w' (by subst hw; exact chg_drew _ w 1) (by subst hw; rfl)

/-! ### Results -/
def RV (P : Program) (n : Nat) (f : Nat → Value) (w : World) : List ResultVar → List Value → Prop
  | [], [] => True
  | .tmp t :: r, v :: vs => (t < n ∧ f t = v) ∧ RV P n f w r vs
  | .cell a t :: r, v :: vs => (a < n ∧ ∃ b o m cs, f a = .pointer (some ⟨b, o, none⟩) ∧ isAggT P t = some true ∧ sizeT P t = some m ∧ cs.length = m ∧ CellsL w b o cs ∧ v = .agg cs.toArray) ∧ RV P n f w r vs
  | _, _ => False
def one (vs : List Value) : Value := match vs with | [v] => v | vs => .tuple vs.toArray

def readR (n : Nat) (f : Nat → Value) : ResultVar → Sem Value
  | .tmp t => pure ((fr n f []).tmps.getD t undef)
  | .cell a t => do loadVar t (← asAddr ((fr n f []).tmps.getD a undef))
theorem run_results {P : Program} {n : Nat} {f : Nat → Value} {w : World} : ∀ (rs : List ResultVar) (vs : List Value), RV P n f w rs vs → (rs.mapM (readR n f) : Sem (List Value)).run P w = .ok vs w
  | [], [], _ => by simp
  | .tmp t :: r, v :: vs, h => by
    obtain ⟨⟨ht, hv⟩, h⟩ := h
    have hg : (fr n f []).tmps.getD t undef = v := by rw [Array.getD_eq_getD_getElem?, fr_get]; simp [ht, hv]
    have ih := run_results r vs h
    simp only [List.mapM_cons, readR, hg, Sem.run_bind, Sem.run_pure, Result.andThen, ih]
  | .cell a t :: r, v :: vs, h => by
    obtain ⟨⟨ha, b, o, m, cs, hp, hagg, hsz, hlen, hc, rfl⟩, h⟩ := h
    have hg : (fr n f []).tmps.getD a undef = .pointer (some ⟨b, o, none⟩) := by rw [Array.getD_eq_getD_getElem?, fr_get]; simp [ha, hp]
    have ih := run_results r vs h
    subst hlen
    have hl := run_loadCells (P := P) cs o 0 #[] hc
    have hv : (loadVar t ⟨b, o, none⟩).run P w = .ok (.agg cs.toArray) w := by
      simp only [loadVar, Sem.run_bind, run_isAgg hagg, Result.andThen, run_size hsz, loadCells, hl, if_true, Sem.run_pure]
      simp
    simp only [List.mapM_cons, readR, hg, Sem.run_bind, asAddr, Sem.run_pure, Result.andThen, hv, ih]
  | [], v :: vs, h => by cases h
  | .tmp t :: r, [], h => by cases h
  | .cell a t :: r, [], h => by cases h

theorem leaves_nil {P : Program} {fn : Func} {n : Nat} {f : Nat → Value} {K : Value → World → Prop} {w : World} {rs : List ResultVar} {vs : List Value} (hr : fn.results = rs.toArray) (h : RV P n f w rs vs) (hk : K (one vs) w) : leaves P fn n f K [] w := by
  refine ⟨one vs, ?_, hk⟩
  have h1 := run_results rs vs h
  have h2 : (rs.toArray.mapM (readR n f) : Sem (Array Value)).run P w = .ok vs.toArray w := by
    rw [Array.mapM_eq_mapM_toList]
    show ((rs.mapM (readR n f) : Sem (List Value)) >>= fun l => pure l.toArray : Sem (Array Value)).run P w = _
    rw [Sem.run_bind, h1]; simp [Result.andThen]
  have h3 : (results fn (fr n f []).tmps).run P w = (do let vs ← (rs.toArray.mapM (readR n f) : Sem (Array Value)); pure (if h : vs.size = 1 then vs[0] else .tuple vs) : Sem Value).run P w := by
    unfold results
    rw [hr]
    rfl
  rw [h3, Sem.run_bind, h2]
  cases vs with
  | nil => simp [one, Result.andThen]
  | cons v vs => cases vs <;> simp [one, Result.andThen]
end Go.Vx
