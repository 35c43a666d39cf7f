/-
  Regions that draw their order, in the small calculus of Vxa: an operation that only reads (or calls a function that leaves the world as it is) in every world that meets S may be taken first. No conditions.
-/
import Derived.Test.YthhbnodnpajljaaVxa
set_option linter.unusedVariables false
namespace Go.Vx
open Go Go.RowKit

section
variable {P : Program} {r : Option Nat} {n : Nat} {md : Region.Mode} {ops : Array Oper} {S : World → Prop} {Q : (Nat → Value) → World → Prop}

theorem ev_upd {f : Nat → Value} {d : Option Nat} {v : Value} {x : Operand} (h : ∀ e, d = some e → x ≠ .tmp e) : ev n (updo f d v) x = ev n f x := by
  cases d with
  | none => rfl
  | some d =>
    cases x with
    | tmp t =>
      have hne : t ≠ d := fun e => h d rfl (e ▸ rfl)
      have : Nat.beq t d = false := by
        cases hb : Nat.beq t d with
        | false => rfl
        | true => exact absurd (Nat.eq_of_beq_eq_true hb) hne
      simp [ev, updo, upd, this]
    | const v => rfl
    | global g => rfl
    | func g => rfl

theorem updo_comm (f : Nat → Value) {x y : Option Nat} (v u : Value) (h : ∀ d, x = some d → y ≠ some d) : updo (updo f x v) y u = updo (updo f y u) x v := by
  cases x with
  | none => rfl
  | some d =>
    cases y with
    | none => rfl
    | some e =>
      have hne : d ≠ e := fun he => h d rfl (he ▸ rfl)
      funext i
      simp only [updo, upd]
      cases hd : Nat.beq i d <;> cases he : Nat.beq i e <;> simp
      exact absurd ((Nat.eq_of_beq_eq_true hd).symm.trans (Nat.eq_of_beq_eq_true he)) hne

theorem execOp_updo (o : Oper) (hs : ∀ cs b, o.op ≠ .select cs b) (f : Nat → Value) (dst : Option Nat) (v : Value) (h : ∀ d, dst = some d → d ∉ o.looksAt ops) :
    execOp (ev n (updo f dst v)) o = execOp (ev n f) o :=
  execOp_congr o hs fun x hx => ev_upd fun d hd hxd => h d hd (by
    subst hxd
    exact List.mem_append_left _ (List.mem_filterMap.2 ⟨.tmp d, by simpa using hx, rfl⟩))

theorem wanted_updo (o : Oper) (f : Nat → Value) (dst : Option Nat) (v : Value) (h : ∀ d, dst = some d → d ∉ o.looksAt ops) :
    Region.wanted o (yl n (updo f dst v) ops) = Region.wanted o (yl n f ops) := by
  cases dst with
  | none => rfl
  | some d =>
    unfold Region.wanted
    cases hg : o.guard with
    | none => rfl
    | some gw =>
      obtain ⟨g, want⟩ := gw
      have hy : yl n (updo f (some d) v) ops g = yl n f ops g := by
        unfold yl
        cases ht : (ops[g]?).bind (·.dst) with
        | none => rfl
        | some t =>
          have hne : d ≠ t := fun e => h d rfl (by subst e; simp [Oper.looksAt, hg, ht])
          have : Nat.beq t d = false := by
            cases hb : Nat.beq t d with
            | false => rfl
            | true => exact absurd (Nat.eq_of_beq_eq_true hb).symm hne
          simp [updo, upd, this]
      simp only [hy]

/-- One operation of the region, whichever. -/
def stepX (P : Program) (n : Nat) (ops : Array Oper) (i : Nat) (K : (Nat → Value) → World → Prop) (f : Nat → Value) (w : World) : Prop :=
  match ops[i]? with
  | none => K f w
  | some o => if Region.wanted o (yl n f ops) then OpX P o (ev n f) w (fun v w' => K (updo f o.dst v) w') else K (updo f o.dst undef) w

theorem stepX_mono {i : Nat} {f : Nat → Value} {w : World} {K K' : (Nat → Value) → World → Prop} (hk : ∀ f w, K f w → K' f w) (h : stepX P n ops i K f w) : stepX P n ops i K' f w := by
  unfold stepX at *
  split
  · exact hk _ _ (by simpa [*] using h)
  · rename_i o ho
    simp only [ho] at h
    split
    · rename_i hw; simp only [hw, if_true] at h; exact h.mono fun _ _ => hk _ _
    · rename_i hw; simp only [hw] at h; exact hk _ _ h

/-- It only reads: in every world that meets S it yields v and leaves the world as it is. -/
def Quiet (P : Program) (n : Nat) (ops : Array Oper) (S : World → Prop) (o : Oper) (v : Value) (f : Nat → Value) : Prop :=
  (Region.wanted o (yl n f ops) = true ∧ ∀ w, S w → OpX P o (ev n f) w (fun v' w' => v' = v ∧ w' = w)) ∨
  (Region.wanted o (yl n f ops) = false ∧ v = undef)

theorem Quiet.of_same {o : Oper} {v : Value} {f f' : Nat → Value} (hy : Quiet P n ops S o v f) (he : execOp (ev n f') o = execOp (ev n f) o)
    (hw : Region.wanted o (yl n f' ops) = Region.wanted o (yl n f ops)) : Quiet P n ops S o v f' := by
  unfold Quiet OpX at *
  rw [he, hw]
  exact hy

theorem Quiet.stepX {i : Nat} {o : Oper} {v : Value} {f : Nat → Value} (hi : ops[i]? = some o) (hy : Quiet P n ops S o v f) {K : (Nat → Value) → World → Prop} {w : World} (hS : S w)
    (h : K (updo f o.dst v) w) : stepX P n ops i K f w := by
  unfold Go.Vx.stepX
  simp only [hi]
  rcases hy with ⟨hw, hv⟩ | ⟨hw, rfl⟩
  · simp only [hw, if_true]; exact (hv w hS).mono fun v' w' ⟨e1, e2⟩ => by subst e1; subst e2; exact h
  · simp only [hw, Bool.false_eq_true, if_false]; exact h

theorem stepX_put {j : Nat} {oi oj : Oper} {v : Value} (hj : ops[j]? = some oj) (hap : oi.apart ops oj = true)
    (hsi : ∀ cs b, oi.op ≠ .select cs b) (hsj : ∀ cs b, oj.op ≠ .select cs b) {K : (Nat → Value) → World → Prop} {f : Nat → Value} {w : World}
    (hy : Quiet P n ops S oi v f) (h : stepX P n ops j K (updo f oi.dst v) w) :
    stepX P n ops j (fun f' w' => Quiet P n ops S oi v f' ∧ K (updo f' oi.dst v) w') f w := by
  obtain ⟨h1, h2, h3⟩ := Oper.apart_spec hap
  have keep : ∀ u, Quiet P n ops S oi v (updo f oj.dst u) := fun u => hy.of_same (execOp_updo oi hsi f oj.dst u h3) (wanted_updo oi f oj.dst u h3)
  unfold stepX at *
  simp only [hj] at *
  rw [wanted_updo oj f oi.dst v h1] at h
  split
  · rename_i hw
    simp only [hw, if_true] at h
    unfold OpX at *
    rw [execOp_updo oj hsj f oi.dst v h1] at h
    generalize (execOp (ev n f) oj).run P w = x at *
    cases x with
    | ok x w' =>
      cases x <;> simp only at h ⊢ <;> try exact h
      case value u => exact ⟨keep u, by rw [← updo_comm f v u h2]; exact h⟩
      case skip => exact ⟨keep _, by rw [← updo_comm f v undef h2]; exact h⟩
      case enter g args => exact Calls.mono h fun e w'' ⟨u, he, hu⟩ => ⟨u, he, keep u, by rw [← updo_comm f v u h2]; exact hu⟩
      case round l g tmps assign body => exact RoundIn.mono h fun e w'' ⟨u, he, hu⟩ => ⟨u, he, keep u, by rw [← updo_comm f v u h2]; exact hu⟩
    | halt x w' => exact h
  · rename_i hw
    simp only [hw] at h
    exact ⟨keep _, by rw [← updo_comm f v undef h2]; exact h⟩

/-- does number j wait for number i? -/
def waitsB (md : Region.Mode) (ops : Array Oper) (j i : Nat) : Bool :=
  match ops[j]? with
  | some oj => oj.after.any fun e => Region.binds md e && e.on == i
  | none => true
theorem waitsB_ready {i j : Nat} {listed : Array Bool} (h : waitsB md ops j i = true) (hj : j ∈ Region.ready md ops listed) : listed.getD i false = true := by
  obtain ⟨_, oj, hoj, hall⟩ := mem_ready.1 hj
  unfold waitsB at h
  rw [hoj] at h
  obtain ⟨e, he, hb⟩ := Array.any_eq_true'.1 h
  simp only [Bool.and_eq_true, beq_iff_eq] at hb
  have := hall e he hb.1
  rwa [hb.2] at this
/-- Whatever order is picked from here on; S holds behind every operation that is not one of the late ones (Z); these wait for whoever leans on S. -/
def XD (P : Program) (n : Nat) (md : Region.Mode) (ops : Array Oper) (Z : List Nat) (S : World → Prop) (Q : (Nat → Value) → World → Prop) : Nat → Array Bool → (Nat → Value) → World → Prop
  | 0, listed, f, w => Region.ready md ops listed = [] ∧ Q f w
  | fuel + 1, listed, f, w =>
    (Region.ready md ops listed = [] → Q f w) ∧
    ∀ i ∈ Region.ready md ops listed, stepX P n ops i (fun f' w' => (i ∈ Z ∨ (S w → S w')) ∧ XD P n md ops Z S Q fuel (listed.setIfInBounds i true) f' w') f w

theorem xd_first {Z : List Nat} {S' R : World → Prop} {i : Nat} {oi : Oper} {v : Value} (hi : ops[i]? = some oi) (hsel : ∀ (j : Nat) (o : Oper) cs b, ops[j]? = some o → o.op ≠ .select cs b)
    (hR1 : ∀ w, R w → S' w) (hR3 : ∀ (j : Nat) (listed : Array Bool) (w w' : World), R w → j ∈ Region.ready md ops listed → listed.getD i true = false → (j ∈ Z ∨ (S w → S w')) → R w') :
    ∀ (fuel : Nat) (listed : Array Bool) (f : Nat → Value) (w : World),
      (∀ j oj, ops[j]? = some oj → j ≠ i → listed.getD j true = false → (∀ e ∈ oj.after, Region.binds md e = true → e.on ≠ i) → oi.apart ops oj = true) →
      i ∈ Region.ready md ops listed → Quiet P n ops S' oi v f → R w →
      XD P n md ops Z S Q fuel (listed.setIfInBounds i true) (updo f oi.dst v) w → XD P n md ops Z S Q (fuel + 1) listed f w := by
  intro fuel
  induction fuel with
  | zero =>
    intro listed f w _ hr hy hS H
    refine ⟨fun h => (by rw [h] at hr; cases hr), fun j hj => ?_⟩
    by_cases hji : j = i
    · subst hji; exact hy.stepX hi (hR1 _ hS) ⟨.inr fun h => h, H⟩
    · have := ready_mono hj hji
      rw [H.1] at this
      cases this
  | succ fuel ih =>
    intro listed f w hfree hr hy hS H
    refine ⟨fun h => (by rw [h] at hr; cases hr), fun j hj => ?_⟩
    by_cases hji : j = i
    · subst hji; exact hy.stepX hi (hR1 _ hS) ⟨.inr fun h => h, H⟩
    · have h1 := H.2 j (ready_mono hj hji)
      obtain ⟨hjun, oj, hoj, hall⟩ := mem_ready.1 hj
      have hnot : ∀ e ∈ oj.after, Region.binds md e = true → e.on ≠ i := fun e he hb heq => by
        have h1 := hall e he hb
        have h0 := (mem_ready.1 hr).1
        rw [heq] at h1
        rcases Nat.lt_or_ge i listed.size with h' | h'
        · simp [h'] at h0 h1; rw [h0] at h1; cases h1
        · simp [Array.getElem?_eq_none h'] at h1
      have h2 := stepX_put hoj (hfree j oj hoj hji hjun hnot) (fun cs b => hsel i oi cs b hi) (fun cs b => hsel j oj cs b hoj) hy h1
      have hfree' : ∀ k ok, ops[k]? = some ok → k ≠ i → (listed.setIfInBounds j true).getD k true = false →
          (∀ e ∈ ok.after, Region.binds md e = true → e.on ≠ i) → oi.apart ops ok = true := fun k ok hk hki hun hno => by
        refine hfree k ok hk hki ?_ hno
        by_cases hjk : j = k
        · subst hjk; exact hjun
        · rw [getD_set_ne true hjk] at hun; exact hun
      refine stepX_mono (fun f' w' h3 => ⟨h3.2.1, ih (listed.setIfInBounds j true) f' w' hfree' (ready_mono hr (Ne.symm hji)) h3.1 (hR3 j listed w w' hS hj (mem_ready.1 hr).1 h3.2.1) ?_⟩) h2
      rw [Array.setIfInBounds_comm _ _ hji]
      exact h3.2.2

theorem xd_sound {Z : List Nat} {Q' : Exit → Act → World → Prop} {ds : List Deferred} (hq : ∀ f w, Q f w → Q' .normal (fr n f ds) w) : ∀ (fuel : Nat) (listed : Array Bool) (f : Nat → Value) (w : World),
    XD P n md ops Z S Q fuel listed f w → wpAnyIn (FW r) 0 P md ops Q' fuel listed (fr n f ds) w
  | 0, _, _, _, h => ⟨h.1, hq _ _ h.2⟩
  | fuel + 1, listed, f, w, h => by
    refine ⟨fun h0 => hq _ _ (h.1 h0), fun i hi => ?_⟩
    have h1 := h.2 i hi
    unfold wpOpIn
    unfold stepX at h1
    cases ho : ops[i]? with
    | none => simp only [ho] at h1 ⊢; exact xd_sound hq fuel _ _ _ h1.2
    | some o =>
      simp only [ho] at h1 ⊢
      rw [fr_yielded]
      split
      · rename_i hw; rw [if_pos hw] at h1
        exact h1.wpIn fun v w' hv => xd_sound hq fuel _ _ _ hv.2
      · rename_i hw; rw [if_neg hw] at h1
        refine ⟨fun _ _ => trivial, ?_⟩
        rw [fr_put]
        exact xd_sound hq fuel _ _ _ h1.2

theorem getD_tf {listed : Array Bool} {i : Nat} (h : listed.getD i true = false) (h' : listed.getD i false = true) : False := by
  rcases Nat.lt_or_ge i listed.size with hl | hl
  · simp [hl] at h h'; rw [h] at h'; cases h'
  · simp [Array.getElem?_eq_none hl] at h
/-- Take number i first: it reads, in every world that meets S; the late ones wait for it. -/
theorem xd_take {Z : List Nat} {oi : Oper} {v : Value} {fuel : Nat} {listed : Array Bool} {f : Nat → Value} {w : World} (i : Nat) (d : Option Nat) (hi : ops[i]? = some oi) (hd : oi.dst = d)
    (hs : (Region.noSelect ops && Region.free md ops listed i && (Region.ready md ops listed).contains i && Z.all fun j => waitsB md ops j i) = true)
    (hy : Quiet P n ops S oi v f) (hS : S w)
    (h : XD P n md ops Z S Q fuel (listed.setIfInBounds i true) (updo f d v) w) : XD P n md ops Z S Q (fuel + 1) listed f w := by
  subst hd
  simp only [Bool.and_eq_true] at hs
  obtain ⟨⟨⟨hs, hf⟩, hr⟩, hz⟩ := hs
  refine xd_first (S' := S) (R := S) hi (Region.noSelect_spec hs) (fun w h => h) (fun j listed w w' hw hj hun h => h.resolve_left (fun hjz => ?_) hw) fuel listed f w (Region.free_spec hi hf) (by simpa using hr) hy hS h
  exact getD_tf hun (waitsB_ready (List.all_eq_true.1 hz j hjz) hj)
/-- Take number i first: it only computes, in whatever world. -/
theorem xd_pure {Z : List Nat} {oi : Oper} {v : Value} {fuel : Nat} {listed : Array Bool} {f : Nat → Value} {w : World} (i : Nat) (d : Option Nat) (hi : ops[i]? = some oi) (hd : oi.dst = d)
    (hs : (Region.noSelect ops && Region.free md ops listed i && (Region.ready md ops listed).contains i) = true)
    (hy : Quiet P n ops (fun _ => True) oi v f)
    (h : XD P n md ops Z S Q fuel (listed.setIfInBounds i true) (updo f d v) w) : XD P n md ops Z S Q (fuel + 1) listed f w := by
  subst hd
  simp only [Bool.and_eq_true] at hs
  obtain ⟨⟨hs, hf⟩, hr⟩ := hs
  exact xd_first (S' := fun _ => True) (R := fun _ => True) hi (Region.noSelect_spec hs) (fun w h => trivial) (fun j listed w w' _ hj hun h => trivial) fuel listed f w (Region.free_spec hi hf) (by simpa using hr) hy trivial h
/-- Just number i may come up. -/
theorem xd_one {Z : List Nat} {oi : Oper} {fuel : Nat} {listed : Array Bool} {f : Nat → Value} {w : World} (i : Nat) (d : Option Nat) (hi : ops[i]? = some oi) (hd : oi.dst = d) (hr : Region.ready md ops listed = [i]) (hg : oi.guard = none)
    (h : OpX P oi (ev n f) w (fun v w' => (i ∈ Z ∨ (S w → S w')) ∧ XD P n md ops Z S Q fuel (listed.setIfInBounds i true) (updo f d v) w')) : XD P n md ops Z S Q (fuel + 1) listed f w := by
  subst hd
  refine ⟨fun h0 => absurd (hr ▸ h0) (by simp), fun j hj => ?_⟩
  rw [hr] at hj
  obtain rfl : j = i := by simpa using hj
  unfold stepX
  simp only [hi]
  rw [if_pos (by simp [Region.wanted, hg])]
  exact h
/-- One of two may come up. -/
theorem xd_two {Z : List Nat} {oi ok : Oper} {fuel : Nat} {listed : Array Bool} {f : Nat → Value} {w : World} (i k : Nat) (d e : Option Nat) (hi : ops[i]? = some oi) (hk : ops[k]? = some ok) (hd : oi.dst = d) (he : ok.dst = e) (hr : Region.ready md ops listed = [i, k]) (hg : oi.guard = none) (hg' : ok.guard = none)
    (h : OpX P oi (ev n f) w (fun v w' => (i ∈ Z ∨ (S w → S w')) ∧ XD P n md ops Z S Q fuel (listed.setIfInBounds i true) (updo f d v) w'))
    (h' : OpX P ok (ev n f) w (fun v w' => (k ∈ Z ∨ (S w → S w')) ∧ XD P n md ops Z S Q fuel (listed.setIfInBounds k true) (updo f e v) w')) : XD P n md ops Z S Q (fuel + 1) listed f w := by
  subst hd; subst he
  refine ⟨fun h0 => absurd (hr ▸ h0) (by simp), fun j hj => ?_⟩
  rw [hr] at hj
  have hj2 : j = i ∨ j = k := by simpa using hj
  rcases hj2 with rfl | rfl
  · unfold stepX
    simp only [hi]
    rw [if_pos (by simp [Region.wanted, hg])]
    exact h
  · unfold stepX
    simp only [hk]
    rw [if_pos (by simp [Region.wanted, hg'])]
    exact h'
theorem xd_done {Z : List Nat} {listed : Array Bool} {f : Nat → Value} {w : World} (hr : Region.ready md ops listed = []) (h : Q f w) : ∀ fuel, XD P n md ops Z S Q fuel listed f w
  | 0 => ⟨hr, h⟩
  | _ + 1 => ⟨fun _ => h, by rw [hr]; simp⟩

theorem xc_regionD {id : Nat} {Q : QX} {f : Nat → Value} {ds : List Deferred} {w : World} (Z : List Nat) (S : World → Prop) (hm : P.follows .mixedOrders = true)
    (h : ∀ w', w' = { w with drawn := w.drawn + 1 } → XD P n .any ops Z S (fun f w => Q .normal f ds w) ops.size (Array.replicate ops.size false) f w') : XC P r n (.region id ops true) Q f ds w :=
  wpIn_region_any hm (xd_sound (fun f w hq => ⟨f, ds, rfl, hq⟩) _ _ _ _ (h _ rfl))
end
end Go.Vx
