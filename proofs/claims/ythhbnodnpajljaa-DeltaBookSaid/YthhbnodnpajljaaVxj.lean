/-
  Regions that draw their order: an operation that reads may be taken first though a late one, which changes what is read, waits for it through others only. No conditions.
-/
import Derived.Test.YthhbnodnpajljaaVxb
import Derived.Test.YthhbnodnpajljaaVxg
set_option linter.unusedVariables false
namespace Go.Vx
open Go Go.RowKit

section
variable {P : Program} {r : Option Nat} {n : Nat} {md : Region.Mode} {ops : Array Oper} {S : World → Prop} {Q : (Nat → Value) → World → Prop}

theorem xd_firstU {Z U : List Nat} {S' R : World → Prop} {i : Nat} {oi : Oper} {v : Value} (hi : ops[i]? = some oi) (hsel : ∀ (j : Nat) (o : Oper) cs b, ops[j]? = some o → o.op ≠ .select cs b)
    (hR1 : ∀ w, R w → S' w) (hU : ∀ u ∈ U, u ≠ i ∧ (i :: U).any (fun k => waitsB md ops u k) = true) (hR3 : ∀ (j : Nat) (w w' : World), R w → j ∉ U → (j ∈ Z ∨ (S w → S w')) → R w') :
    ∀ (fuel : Nat) (listed : Array Bool) (f : Nat → Value) (w : World),
      (∀ j oj, ops[j]? = some oj → j ≠ i → listed.getD j true = false → (∀ e ∈ oj.after, Region.binds md e = true → e.on ≠ i) → oi.apart ops oj = true) →
      (∀ u ∈ U, listed.getD u true = false) → i ∈ Region.ready md ops listed → Quiet P n ops S' oi v f → R w →
      XD P n md ops Z S Q fuel (listed.setIfInBounds i true) (updo f oi.dst v) w → XD P n md ops Z S Q (fuel + 1) listed f w := by
  intro fuel
  induction fuel with
  | zero =>
    intro listed f w _ hun hr hy hS H
    refine ⟨fun h => (by rw [h] at hr; cases hr), fun j hj => ?_⟩
    by_cases hji : j = i
    · subst hji; exact hy.stepX hi (hR1 _ hS) ⟨.inr fun h => h, H⟩
    · have := ready_mono hj hji
      rw [H.1] at this
      cases this
  | succ fuel ih =>
    intro listed f w hfree hun hr hy hS H
    refine ⟨fun h => (by rw [h] at hr; cases hr), fun j hj => ?_⟩
    by_cases hji : j = i
    · subst hji; exact hy.stepX hi (hR1 _ hS) ⟨.inr fun h => h, H⟩
    · have h1 := H.2 j (ready_mono hj hji)
      obtain ⟨hjun, oj, hoj, hall⟩ := mem_ready.1 hj
      have hnot : ∀ e ∈ oj.after, Region.binds md e = true → e.on ≠ i := fun e he hb heq => by
        have h1 := hall e he hb
        have h0 := (mem_ready.1 hr).1
        rw [heq] at h1
        rcases Nat.lt_or_ge i listed.size with h' | h'
        · simp [h'] at h0 h1; rw [h0] at h1; cases h1
        · simp [Array.getElem?_eq_none h'] at h1
      have hjU : j ∉ U := fun hjU => by
        obtain ⟨k, hk, hw⟩ := List.any_eq_true.1 (hU j hjU).2
        have h5 := waitsB_ready hw hj
        rcases List.mem_cons.1 hk with rfl | hk
        · exact getD_tf (mem_ready.1 hr).1 h5
        · exact getD_tf (hun k hk) h5
      have hun' : ∀ u ∈ U, (listed.setIfInBounds j true).getD u true = false := fun u hu => by
        have hne : ¬ j = u := fun e => hjU (by rw [e]; exact hu)
        rw [getD_set_ne true hne]; exact hun u hu
      have h2 := stepX_put hoj (hfree j oj hoj hji hjun hnot) (fun cs b => hsel i oi cs b hi) (fun cs b => hsel j oj cs b hoj) hy h1
      have hfree' : ∀ k ok, ops[k]? = some ok → k ≠ i → (listed.setIfInBounds j true).getD k true = false →
          (∀ e ∈ ok.after, Region.binds md e = true → e.on ≠ i) → oi.apart ops ok = true := fun k ok hk hki hun hno => by
        refine hfree k ok hk hki ?_ hno
        by_cases hjk : j = k
        · subst hjk; exact hjun
        · rw [getD_set_ne true hjk] at hun; exact hun
      refine stepX_mono (fun f' w' h3 => ⟨h3.2.1, ih (listed.setIfInBounds j true) f' w' hfree' hun' (ready_mono hr (Ne.symm hji)) h3.1 (hR3 j w w' hS hjU h3.2.1) ?_⟩) h2
      rw [Array.setIfInBounds_comm _ _ hji]
      exact h3.2.2

/-- Take number i first: it reads, in every world that meets S; the late ones wait for it, be it through others (U: all that wait for it, none of them taken). -/
theorem xd_takeU {Z : List Nat} {oi : Oper} {v : Value} {fuel : Nat} {listed : Array Bool} {f : Nat → Value} {w : World} (i : Nat) (d : Option Nat) (U : List Nat) (hi : ops[i]? = some oi) (hd : oi.dst = d)
    (hs : (Region.noSelect ops && Region.free md ops listed i && (Region.ready md ops listed).contains i && (Z.all fun j => U.contains j) && U.all fun u => (!(u == i)) && ((i :: U).any fun k => waitsB md ops u k) && (!listed.getD u true)) = true)
    (hy : Quiet P n ops S oi v f) (hS : S w)
    (h : XD P n md ops Z S Q fuel (listed.setIfInBounds i true) (updo f d v) w) : XD P n md ops Z S Q (fuel + 1) listed f w := by
  subst hd
  simp only [Bool.and_eq_true] at hs
  obtain ⟨⟨⟨⟨hs, hf⟩, hr⟩, hz⟩, hu⟩ := hs
  have hu' : ∀ u ∈ U, (u ≠ i ∧ (i :: U).any (fun k => waitsB md ops u k) = true) ∧ listed.getD u true = false := fun u hm => by
    have h1 := List.all_eq_true.1 hu u hm
    simp only [Bool.and_eq_true] at h1
    exact ⟨⟨by simpa using h1.1.1, h1.1.2⟩, by simpa using h1.2⟩
  refine xd_firstU (S' := S) (R := S) (U := U) hi (Region.noSelect_spec hs) (fun w h => h) (fun u hm => (hu' u hm).1) (fun j w w' hw hj h => h.resolve_left (fun hjz => hj ?_) hw) fuel listed f w (Region.free_spec hi hf) (fun u hm => (hu' u hm).2) (by simpa using hr) hy hS h
  simpa using List.all_eq_true.1 hz j hjz
/-- Just number i may come up; its guard lets it by. -/
theorem xd_oneW {Z : List Nat} {oi : Oper} {fuel : Nat} {listed : Array Bool} {f : Nat → Value} {w : World} (i : Nat) (d : Option Nat) (hi : ops[i]? = some oi) (hd : oi.dst = d) (hr : Region.ready md ops listed = [i]) (hw : Region.wanted oi (yl n f ops) = true)
    (h : OpX P oi (ev n f) w (fun v w' => (i ∈ Z ∨ (S w → S w')) ∧ XD P n md ops Z S Q fuel (listed.setIfInBounds i true) (updo f d v) w')) : XD P n md ops Z S Q (fuel + 1) listed f w := by
  subst hd
  refine ⟨fun h0 => absurd (hr ▸ h0) (by simp), fun j hj => ?_⟩
  rw [hr] at hj
  obtain rfl : j = i := by simpa using hj
  unfold stepX
  simp only [hi]
  rw [if_pos hw]
  exact h
end
section xc
variable {P : Program} {r : Option Nat} {n : Nat} {Q : QX} {f : Nat → Value} {ds : List Deferred} {w : World}
/-- A loop in whose rounds marks come to be. -/
theorem xc_loopD {c : Code} (I : Nat → (Nat → Value) → List Deferred → World → Prop) (m : Nat) (h₀ : I m f ds w)
    (round : ∀ m f ds w, I m f ds w → XC P r n c (qseq (fun f' ds' w' => ∃ m', m' < m ∧ I m' f' ds' w') Q) f ds w) : XC P r n (.loop c) Q f ds w := by
  intro b k cs hro hb hr
  have key : ∀ m f ds w, I m f ds w →
      ∃ e a' w', lift n Q e a' w' ∧ ArrivesIn (Machine.fenced P (FW r)) P (lone (b.atR (fr n f ds) (.code c :: .inLoop c :: k)) cs w) b k cs e a' w' := by
    intro m
    induction m using Nat.strongRecOn with
    | _ m ih =>
      intro f ds w hI
      obtain ⟨e, a₁, w₁, ⟨f₁, ds₁, rfl, hq⟩, harr⟩ := round m f ds w hI b (.inLoop c :: k) cs hro hb hr
      cases e with
      | normal =>
        obtain ⟨m', hlt, hI₁⟩ := hq
        obtain ⟨e₂, a₂, w₂, hq₂, harr₂⟩ := ih m' hlt f₁ ds₁ w₁ hI₁
        exact ⟨e₂, a₂, w₂, hq₂, .of_steps (StepsIn.trans harr (.one (fenced_calm hb hr rfl) stepR_inLoop)) harr₂⟩
      | exit id => exact ⟨_, _, w₁, ⟨f₁, ds₁, rfl, hq⟩, .pass (x := .inLoop c) rfl (fun _ _ => .inl (by simp)) harr⟩
      | goto l => exact ⟨_, _, w₁, ⟨f₁, ds₁, rfl, hq⟩, .pass (x := .inLoop c) rfl (fun _ _ => .inl (by simp)) harr⟩
      | ret => exact ⟨_, _, w₁, ⟨f₁, ds₁, rfl, hq⟩, .pass (x := .inLoop c) rfl (fun _ _ => .inl (by simp)) harr⟩
      | panic ch => exact ⟨_, _, w₁, ⟨f₁, ds₁, rfl, hq⟩, .pass (x := .inLoop c) rfl (fun _ _ => .inl (by simp)) harr⟩
      | outgrown => exact ⟨_, _, w₁, ⟨f₁, ds₁, rfl, hq⟩, .pass (x := .inLoop c) rfl (fun _ _ => .inl (by simp)) harr⟩
  obtain ⟨e, a', w', hq, harr⟩ := key _ f ds w h₀
  exact ⟨e, a', w', hq, .of_steps (.one (fenced_calm hb hr rfl) stepR_loop) harr⟩

/-- A cut behind which there may be more marks. -/
theorem xc_cutD {c : Code} (R : (Nat → Value) → List Deferred → World → Prop) (h : XC P r n c (qseq R Q) f ds w) (k : ∀ f ds w, R f ds w → Q .normal f ds w) : XC P r n c Q f ds w :=
  h.mono fun e f' ds' w' hq => by
    cases e with
    | normal => exact k _ _ _ hq
    | _ => exact hq
end xc
end Go.Vx
