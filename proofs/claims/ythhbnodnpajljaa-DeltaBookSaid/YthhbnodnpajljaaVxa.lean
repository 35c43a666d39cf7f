/-
  A small calculus of this claim's own over the kit's fenced walk ('wpIn' at the wide fence): frames as functions, one rule for each form of code. No conditions: every rule holds of every program.
-/
import Derived.WalkKit
import Derived.OrdersIn
import Derived.RangeFuncNested
import Derived.RangeFuncLeaves
import Derived.RangeFuncCalls
import Derived.TacticsInMore
import Derived.KernelRfl
set_option linter.unusedVariables false
namespace Go.Vx
open Go Go.RowKit

/-- The wide fence, in a round or not. -/
def FW (r : Option Nat) : Fence := { fn := fun _ => True, depth := none, alive := false, round := r }
theorem fw_room (r : Option Nat) (n : Nat) : (FW r).room n := fun _ h => by cases h
theorem fw_wide : FW none = Fence.wide := rfl

/-! ### Frames as functions -/
def fr (n : Nat) (f : Nat → Value) (ds : List Deferred) : Act := ⟨(Array.range n).map f, ds⟩
def upd (f : Nat → Value) (d : Nat) (v : Value) : Nat → Value := fun i => bif Nat.beq i d then v else f i
def updo (f : Nat → Value) (d : Option Nat) (v : Value) : Nat → Value := match d with | some d => upd f d v | none => f
def ev (n : Nat) (f : Nat → Value) : Operand → Value
  | .tmp t => bif Nat.blt t n then f t else undef
  | .const v => v
  | .global g => .pointer (some ⟨g, 0, none⟩)
  | .func g => .func (.func g) #[] #[]

theorem fr_get (n : Nat) (f : Nat → Value) (ds : List Deferred) (t : Nat) : (fr n f ds).tmps[t]? = if t < n then some (f t) else none := by
  simp only [fr, Array.getElem?_map, Array.getElem?_range]
  split <;> rfl

theorem fr_eval (n : Nat) (f : Nat → Value) (ds : List Deferred) (x : Operand) : (fr n f ds).eval x = ev n f x := by
  cases x with
  | tmp t =>
    simp only [Act.eval, ev]
    rw [Array.getD_eq_getD_getElem?, fr_get]
    by_cases h : t < n
    · have : Nat.blt t n = true := by rw [Nat.blt_eq]; exact h
      simp [h, this]
    · have : Nat.blt t n = false := by
        cases hb : Nat.blt t n with
        | false => rfl
        | true => rw [Nat.blt_eq] at hb; exact absurd hb h
      simp [h, this]
  | const v => rfl
  | global g => rfl
  | func g => rfl
theorem fr_eval' (n : Nat) (f : Nat → Value) (ds : List Deferred) : (fr n f ds).eval = ev n f := funext (fr_eval n f ds)

theorem fr_put (n : Nat) (f : Nat → Value) (ds : List Deferred) (d : Option Nat) (v : Value) : (fr n f ds).put d v = fr n (updo f d v) ds := by
  cases d with
  | none => rfl
  | some d =>
    simp only [Act.put, fr, updo]
    congr 1
    apply Array.ext
    · simp
    · intro i h1 h2
      have h1' : i < n := by simpa using h1
      rw [Array.getElem_setIfInBounds (by simpa using h1')]
      simp only [Array.getElem_map, Array.getElem_range, upd]
      by_cases hi : d = i
      · subst hi; simp
      · have : Nat.beq i d = false := by
          cases hb : Nat.beq i d with
          | false => rfl
          | true => exact absurd (Nat.eq_of_beq_eq_true hb).symm hi
        simp [hi, this]

/-- what the guard of an operation looks at -/
def yl (n : Nat) (f : Nat → Value) (ops : Array Oper) (j : Nat) : Option Bool :=
  match (ops[j]?).bind (·.dst) with
  | none => none
  | some d => bif Nat.blt d n then (match f d with | .bool b => some b | _ => none) else none
theorem fr_yielded (n : Nat) (f : Nat → Value) (ds : List Deferred) (ops : Array Oper) : yielded ops (fr n f ds).tmps = yl n f ops := by
  funext j
  simp only [yielded, yl]
  cases (ops[j]?).bind (·.dst) with
  | none => rfl
  | some d =>
    simp only [Option.bind_some, fr_get]
    by_cases h : d < n
    · have : Nat.blt d n = true := by rw [Nat.blt_eq]; exact h
      simp only [h, if_true, this, cond_true]
      cases f d <;> rfl
    · have : Nat.blt d n = false := by
        cases hb : Nat.blt d n with
        | false => rfl
        | true => rw [Nat.blt_eq] at hb; exact absurd hb h
      simp [h, this]

/-! ### One operation -/
/-- What is asked of a contract: it returns a value, and K holds of it. -/
@[reducible] def Ret (K : Value → World → Prop) : Ending → World → Prop := fun e w => ∃ v, e = .returned v ∧ K v w

def OpX (P : Program) (o : Oper) (ρ : Operand → Value) (w : World) (K : Value → World → Prop) : Prop :=
  match (execOp ρ o).run P w with
  | .ok (.value v) w' => K v w'
  | .ok .skip w' => K undef w'
  | .ok (.enter g args) w' => Calls P g args w' (Ret K)
  | .ok (.round l g tmps assign body) w' => RoundIn (FW none) 0 P l g tmps assign body w' (Ret K)
  | _ => False

theorem OpX.mono {P : Program} {o : Oper} {ρ : Operand → Value} {w : World} {K K' : Value → World → Prop} (h : OpX P o ρ w K) (hk : ∀ v w, K v w → K' v w) : OpX P o ρ w K' := by
  unfold OpX at *
  generalize (execOp ρ o).run P w = x at *
  cases x with
  | ok x w' =>
    cases x <;> simp only at h ⊢
    case value => exact hk _ _ h
    case skip => exact hk _ _ h
    case enter => exact h.mono fun e w ⟨v, he, hv⟩ => ⟨v, he, hk _ _ hv⟩
    case round => exact h.mono fun e w ⟨v, he, hv⟩ => ⟨v, he, hk _ _ hv⟩
  | halt x w' => exact h

theorem roundIn_fw {r : Option Nat} {P : Program} {l : Nat} {f : FuncId} {tmps : Array Value} {assign body : Code} {w : World} {R : Ending → World → Prop} {m m' : Nat}
    (h : RoundIn (FW none) m P l f tmps assign body w R) : RoundIn (FW r) m' P l f tmps assign body w R :=
  ⟨trivial, fun c cs _ => h.2 c cs (fw_room _ _)⟩
theorem callsIn_fw {r : Option Nat} {P : Program} {f : FuncId} {args : Array Value} {w : World} {R : Ending → World → Prop} {m : Nat} (h : Calls P f args w R) : CallsIn (FW r) m P f args w R := by
  have h' := (callsIn_wide (n := m)).2 h
  exact ⟨trivial, fun cs _ => h'.2 cs (room_wide _)⟩
theorem calls_of_fw {P : Program} {f : FuncId} {args : Array Value} {w : World} {R : Ending → World → Prop} {m : Nat} (h : CallsIn (FW none) m P f args w R) : Calls P f args w R :=
  (callsIn_wide (n := m)).1 h

theorem OpX.wpIn {P : Program} {r : Option Nat} {o : Oper} {n : Nat} {f : Nat → Value} {ds : List Deferred} {w : World} {K : Value → World → Prop} {K' : Act → World → Prop} {Q : Exit → Act → World → Prop}
    (h : OpX P o (ev n f) w K) (hk : ∀ v w', K v w' → K' (fr n (updo f o.dst v) ds) w') : o.wpIn (FW r) 0 P (fr n f ds) w K' Q := by
  refine ⟨fun _ _ => trivial, ?_⟩
  have hsem : o.semAt r (ev n f) = execOp (ev n f) o := Oper.semAt_eq _ _ _ (fun c hc => by
    unfold OpX at h
    unfold execOp at h
    simp only [hc] at h
    have hb : (do pure (Next.defer (← resolve (ev n f) c o.type)) : Sem Next).run P w = match (resolve (ev n f) c o.type).run P w with | .ok d w => .ok (.defer d) w | .halt h w => .halt h w := by
      rw [Sem.run_bind]; cases (resolve (ev n f) c o.type).run P w <;> rfl
    rw [hb] at h
    generalize (resolve (ev n f) c o.type).run P w = x at h
    cases x <;> exact h)
  unfold OpX at h
  rw [fr_eval']
  show o.uponIn (FW r) 0 P (fr n f ds) K' Q ((o.semAt r (ev n f)).run P w)
  rw [hsem]
  generalize (execOp (ev n f) o).run P w = x at *
  cases x with
  | ok x w' =>
    cases x <;> simp only at h <;> try exact h.elim
    case value v => simp only [Oper.uponIn]; rw [fr_put]; exact hk _ _ h
    case skip => simp only [Oper.uponIn]; rw [fr_put]; exact hk _ _ h
    case enter g args =>
      refine ⟨(fun h => by cases h), callsIn_fw (Calls.mono h ?_)⟩
      rintro e w'' ⟨v, rfl, hv⟩
      simp only [fr_put]; exact hk _ _ hv
    case round l g tmps assign body =>
      refine ⟨(fun h => by cases h), roundIn_fw (RoundIn.mono h ?_)⟩
      rintro e w'' ⟨v, rfl, hv⟩
      simp only [fr_put]; exact hk _ _ hv
  | halt x w' => exact h.elim

/-! ### A list of operations, in the text's order -/
def XL (P : Program) (r : Option Nat) (n : Nat) (ops : Array Oper) (Q : (Nat → Value) → World → Prop) : List Oper → (Nat → Value) → World → Prop
  | [], f, w => Q f w
  | o :: rest, f, w =>
    if Region.wanted o (yl n f ops) then OpX P o (ev n f) w (fun v w' => XL P r n ops Q rest (updo f o.dst v) w') else XL P r n ops Q rest (updo f o.dst undef) w

section xl
variable {P : Program} {r : Option Nat} {n : Nat} {ops : Array Oper} {Q : (Nat → Value) → World → Prop} {f : Nat → Value} {w : World} {o : Oper} {rest : List Oper}

theorem XL.mono {Q' : (Nat → Value) → World → Prop} (hq : ∀ f w, Q f w → Q' f w) : ∀ (l : List Oper) (f : Nat → Value) (w : World), XL P r n ops Q l f w → XL P r n ops Q' l f w
  | [], _, _, h => hq _ _ h
  | o :: rest, f, w, h => by
    unfold XL at h ⊢
    split
    · rename_i hw; rw [if_pos hw] at h; exact h.mono fun v w' => XL.mono hq rest _ _
    · rename_i hw; rw [if_neg hw] at h; exact XL.mono hq rest _ _ h

theorem xl_nil (h : Q f w) : XL P r n ops Q [] f w := h
/-- An operation without a guard. -/
theorem xl_op (d : Option Nat) (hd : o.dst = d) (hg : o.guard = none) (h : OpX P o (ev n f) w (fun v w' => XL P r n ops Q rest (updo f d v) w')) : XL P r n ops Q (o :: rest) f w := by
  subst hd; unfold XL; rw [if_pos (by simp [Region.wanted, hg])]; exact h
/-- One whose guard lets it by. -/
theorem xl_opg (d : Option Nat) {j : Nat} {b : Bool} (hd : o.dst = d) (hg : o.guard = some (j, b)) (hy : yl n f ops j = some b) (h : OpX P o (ev n f) w (fun v w' => XL P r n ops Q rest (updo f d v) w')) : XL P r n ops Q (o :: rest) f w := by
  subst hd; unfold XL; rw [if_pos (by simp [Region.wanted, hg, hy])]; exact h
/-- One whose guard does not. -/
theorem xl_skip (d : Option Nat) {j : Nat} {b : Bool} (c : Bool) (hd : o.dst = d) (hg : o.guard = some (j, b)) (hy : yl n f ops j = some c) (hc : c ≠ b) (h : XL P r n ops Q rest (updo f d undef) w) : XL P r n ops Q (o :: rest) f w := by
  subst hd; unfold XL; rw [if_neg (by simp [Region.wanted, hg, hy, hc])]; exact h

theorem xl_sound {Q' : Exit → Act → World → Prop} {ds : List Deferred} (hq : ∀ f w, Q f w → Q' .normal (fr n f ds) w) : ∀ (l : List Oper) (f : Nat → Value) (w : World), XL P r n ops Q l f w → wpListIn (FW r) 0 P ops Q' l (fr n f ds) w
  | [], f, w, h => hq _ _ h
  | o :: rest, f, w, h => by
    unfold XL at h
    unfold wpListIn
    rw [fr_yielded]
    split
    · rename_i hw; rw [if_pos hw] at h
      exact h.wpIn fun v w' hv => xl_sound hq rest _ _ hv
    · rename_i hw; rw [if_neg hw] at h
      refine ⟨fun _ _ => trivial, ?_⟩
      rw [fr_put]
      exact xl_sound hq rest _ _ h
end xl

/-! ### Code -/
abbrev QX := Exit → (Nat → Value) → List Deferred → World → Prop
def lift (n : Nat) (Q : QX) : Exit → Act → World → Prop := fun e a w => ∃ f ds, a = fr n f ds ∧ Q e f ds w
def XC (P : Program) (r : Option Nat) (n : Nat) (c : Code) (Q : QX) (f : Nat → Value) (ds : List Deferred) (w : World) : Prop :=
  c.wpIn (FW r) 0 P (lift n Q) (fr n f ds) w
@[reducible] def qseq (K : (Nat → Value) → List Deferred → World → Prop) (Q : QX) : QX := fun e f ds w => match e with
  | .normal => K f ds w
  | .exit i => Q (.exit i) f ds w
  | .goto i => Q (.goto i) f ds w
  | .ret => Q .ret f ds w
  | .panic c => Q (.panic c) f ds w
  | .outgrown => Q .outgrown f ds w
@[reducible] def qblock (id : Nat) (Q : QX) : QX := fun e f ds w => match e with
  | .exit i => bif Nat.beq i id then Q .normal f ds w else Q (.exit i) f ds w
  | .normal => Q .normal f ds w
  | .goto i => Q (.goto i) f ds w
  | .ret => Q .ret f ds w
  | .panic c => Q (.panic c) f ds w
  | .outgrown => Q .outgrown f ds w
@[reducible] def qjump (l : Nat) (J : (Nat → Value) → List Deferred → World → Prop) (Q : QX) : QX := fun e f ds w => match e with
  | .goto i => i = l ∧ J f ds w
  | .normal => Q .normal f ds w
  | .exit i => Q (.exit i) f ds w
  | .ret => Q .ret f ds w
  | .panic c => Q (.panic c) f ds w
  | .outgrown => Q .outgrown f ds w

section xc
variable {P : Program} {r : Option Nat} {n : Nat} {Q : QX} {f : Nat → Value} {ds : List Deferred} {w : World}

theorem XC.mono {c : Code} {Q' : QX} (h : XC P r n c Q f ds w) (hq : ∀ e f ds w, Q e f ds w → Q' e f ds w) : XC P r n c Q' f ds w :=
  wpIn_mono h fun _ _ _ ⟨f, ds, ha, h⟩ => ⟨f, ds, ha, hq _ _ _ _ h⟩
theorem xc_skip (h : Q .normal f ds w) : XC P r n .skip Q f ds w := wpIn_skip ⟨f, ds, rfl, h⟩
theorem xc_label {l : Nat} (h : Q .normal f ds w) : XC P r n (.label l) Q f ds w := wpIn_label ⟨f, ds, rfl, h⟩
theorem xc_exit {i : Nat} (h : Q (.exit i) f ds w) : XC P r n (.exit i) Q f ds w := wpIn_exit ⟨f, ds, rfl, h⟩
theorem xc_goto {l : Nat} (h : Q (.goto l) f ds w) : XC P r n (.goto l) Q f ds w := wpIn_goto ⟨f, ds, rfl, h⟩
theorem xc_ret (h : Q .ret f ds w) : XC P r n .ret Q f ds w := wpIn_ret ⟨f, ds, rfl, h⟩
theorem xc_seq {x y : Code} (h : XC P r n x (qseq (fun f ds w => XC P r n y Q f ds w) Q) f ds w) : XC P r n (.seq x y) Q f ds w := by
  refine wpIn_seq (wpIn_mono h ?_)
  rintro e a w ⟨f, ds, rfl, hq⟩
  cases e with
  | normal => exact hq
  | exit i => exact ⟨f, ds, rfl, hq⟩
  | goto i => exact ⟨f, ds, rfl, hq⟩
  | ret => exact ⟨f, ds, rfl, hq⟩
  | panic c => exact ⟨f, ds, rfl, hq⟩
  | outgrown => exact ⟨f, ds, rfl, hq⟩
theorem xc_cond {c : Operand} {x y : Code} {b : Bool} (hc : ev n f c = .bool b) (ht : b = true → XC P r n x Q f ds w) (hf : b = false → XC P r n y Q f ds w) : XC P r n (.cond c x y) Q f ds w :=
  wpIn_cond_split ((fr_eval n f ds c).trans hc) ht hf
theorem xc_cond_t {c : Operand} {x y : Code} (hc : ev n f c = .bool true) (h : XC P r n x Q f ds w) : XC P r n (.cond c x y) Q f ds w :=
  wpIn_cond_true ((fr_eval n f ds c).trans hc) h
theorem xc_cond_f {c : Operand} {x y : Code} (hc : ev n f c = .bool false) (h : XC P r n y Q f ds w) : XC P r n (.cond c x y) Q f ds w :=
  wpIn_cond_false ((fr_eval n f ds c).trans hc) h
/-- a test that was decided by a proposition -/
theorem xc_if {c : Operand} {x y : Code} {p : Prop} [Decidable p] (hc : ev n f c = .bool (decide p)) (ht : p → XC P r n x Q f ds w) (hf : ¬ p → XC P r n y Q f ds w) : XC P r n (.cond c x y) Q f ds w :=
  xc_cond hc (fun h => ht (of_decide_eq_true h)) (fun h => hf (of_decide_eq_false h))
theorem xc_block {id : Nat} {c : Code} (h : XC P r n c (qblock id Q) f ds w) : XC P r n (.block id c) Q f ds w := by
  refine wpIn_block (wpIn_mono h ?_)
  rintro e a w ⟨f, ds, rfl, hq⟩
  cases e with
  | normal => exact ⟨f, ds, rfl, hq⟩
  | exit i =>
    simp only [Exit.inBlock]
    simp only [qblock] at hq
    by_cases hi : i = id
    · subst hi; simp at hq ⊢; exact ⟨f, ds, rfl, hq⟩
    · have : Nat.beq i id = false := by
        cases hb : Nat.beq i id with
        | false => rfl
        | true => exact absurd (Nat.eq_of_beq_eq_true hb) hi
      rw [this] at hq; simp [hi]; exact ⟨f, ds, rfl, hq⟩
  | goto i => exact ⟨f, ds, rfl, hq⟩
  | ret => exact ⟨f, ds, rfl, hq⟩
  | panic c => exact ⟨f, ds, rfl, hq⟩
  | outgrown => exact ⟨f, ds, rfl, hq⟩
theorem xc_loop {c : Code} (I : (Nat → Value) → World → Prop) (μ : (Nat → Value) → World → Nat) (h₀ : I f w)
    (round : ∀ f w, I f w → XC P r n c (qseq (fun f' ds' w' => ds' = ds ∧ I f' w' ∧ μ f' w' < μ f w) Q) f ds w) : XC P r n (.loop c) Q f ds w := by
  intro b k cs hro hb hr
  have key : ∀ j f w, μ f w = j → I f w →
      ∃ e a' w', lift n Q e a' w' ∧ ArrivesIn (Machine.fenced P (FW r)) P (lone (b.atR (fr n f ds) (.code c :: .inLoop c :: k)) cs w) b k cs e a' w' := by
    intro j
    induction j using Nat.strongRecOn with
    | _ j ih =>
      intro f w hn hI
      obtain ⟨e, a₁, w₁, ⟨f₁, ds₁, rfl, hq⟩, harr⟩ := round f w hI b (.inLoop c :: k) cs hro hb hr
      cases e with
      | normal =>
        obtain ⟨rfl, hI₁, hlt⟩ := hq
        obtain ⟨e₂, a₂, w₂, hq₂, harr₂⟩ := ih (μ f₁ w₁) (hn ▸ hlt) f₁ w₁ rfl hI₁
        exact ⟨e₂, a₂, w₂, hq₂, .of_steps (StepsIn.trans harr (.one (fenced_calm hb hr rfl) stepR_inLoop)) harr₂⟩
      | exit id => exact ⟨_, _, w₁, ⟨f₁, ds₁, rfl, hq⟩, .pass (x := .inLoop c) rfl (fun _ _ => .inl (by simp)) harr⟩
      | goto l => exact ⟨_, _, w₁, ⟨f₁, ds₁, rfl, hq⟩, .pass (x := .inLoop c) rfl (fun _ _ => .inl (by simp)) harr⟩
      | ret => exact ⟨_, _, w₁, ⟨f₁, ds₁, rfl, hq⟩, .pass (x := .inLoop c) rfl (fun _ _ => .inl (by simp)) harr⟩
      | panic ch => exact ⟨_, _, w₁, ⟨f₁, ds₁, rfl, hq⟩, .pass (x := .inLoop c) rfl (fun _ _ => .inl (by simp)) harr⟩
      | outgrown => exact ⟨_, _, w₁, ⟨f₁, ds₁, rfl, hq⟩, .pass (x := .inLoop c) rfl (fun _ _ => .inl (by simp)) harr⟩
  obtain ⟨e, a', w', hq, harr⟩ := key _ f w rfl h₀
  exact ⟨e, a', w', hq, .of_steps (.one (fenced_calm hb hr rfl) stepR_loop) harr⟩

theorem stepR_scope {b : Frame} {a : Act} {k : List Item} {cs : List Frame} {c : Code} : step P (lone (b.atR a (.code (.scope c) :: k)) cs w) = .next (lone (b.atR a (.code c :: .inScope c :: k)) cs w) :=
  step_lone_go (by simp [stepG, stepG.exec, Frame.atR])
theorem stepR_inScope {b : Frame} {a : Act} {k : List Item} {cs : List Frame} {c : Code} : step P (lone (b.atR a (.inScope c :: k)) cs w) = .next (lone (b.atR a k) cs w) :=
  step_lone_go (by simp [stepG, stepG.exec, Frame.atR])

/-- A scope in which the run jumps back to one label: J holds at every jump, and every pass from the label lowers the measure. -/
theorem xc_scope {c rest : Code} (l : Nat) (J : (Nat → Value) → List Deferred → World → Prop) (μ : (Nat → Value) → World → Nat) (hf : findLabel c l = some rest)
    (first : XC P r n c (qjump l J Q) f ds w)
    (pass : ∀ f ds w, J f ds w → XC P r n rest (qjump l (fun f' ds' w' => J f' ds' w' ∧ μ f' w' < μ f w) Q) f ds w) : XC P r n (.scope c) Q f ds w := by
  intro b k cs hro hb hr
  have hg : gotoIn l (.inScope c :: k) = some (.code rest :: .inScope c :: k) := by simp [gotoIn, hf]
  have hx : ∀ i, exitTo i (.inScope c :: k) = exitTo i k := fun i => by simp [exitTo]
  have key : ∀ j f ds w, μ f w = j → J f ds w → ∃ e a' w', lift n Q e a' w' ∧ ArrivesIn (Machine.fenced P (FW r)) P (lone (b.atR (fr n f ds) (.code rest :: .inScope c :: k)) cs w) b k cs e a' w' := by
    intro j
    induction j using Nat.strongRecOn with
    | _ j ih =>
      intro f ds w hn hJ
      obtain ⟨e, a₁, w₁, ⟨f₁, ds₁, rfl, hq⟩, harr⟩ := pass f ds w hJ b (.inScope c :: k) cs hro hb hr
      cases e with
      | normal => exact ⟨.normal, _, w₁, ⟨f₁, ds₁, rfl, hq⟩, StepsIn.trans harr (.one (fenced_calm hb hr rfl) stepR_inScope)⟩
      | exit id => exact ⟨.exit id, _, w₁, ⟨f₁, ds₁, rfl, hq⟩, fun k' hk => harr.1 k' (by rw [hx]; exact hk), fun hr' hk => harr.2 hr' (by rw [hx]; exact hk)⟩
      | goto l' =>
        obtain ⟨rfl, hJ', hlt⟩ := hq
        obtain ⟨e₂, a₂, w₂, hq₂, harr₂⟩ := ih _ (by omega) f₁ ds₁ w₁ rfl hJ'
        exact ⟨e₂, a₂, w₂, hq₂, .of_steps (harr.1 _ hg) harr₂⟩
      | ret => exact ⟨_, _, w₁, ⟨f₁, ds₁, rfl, hq⟩, harr⟩
      | panic ch => exact ⟨_, _, w₁, ⟨f₁, ds₁, rfl, hq⟩, harr⟩
      | outgrown => exact ⟨_, _, w₁, ⟨f₁, ds₁, rfl, hq⟩, harr⟩
  have h0 : (lone (b.atR (fr n f ds) (.code (.scope c) :: k)) cs w).fenced P (FW r) := fenced_calm hb hr rfl
  obtain ⟨e, a₁, w₁, ⟨f₁, ds₁, rfl, hq⟩, harr⟩ := first b (.inScope c :: k) cs hro hb hr
  cases e with
  | normal => exact ⟨.normal, _, w₁, ⟨f₁, ds₁, rfl, hq⟩, .head h0 stepR_scope (StepsIn.trans harr (.one (fenced_calm hb hr rfl) stepR_inScope))⟩
  | exit id => exact ⟨.exit id, _, w₁, ⟨f₁, ds₁, rfl, hq⟩, fun k' hk => .head h0 stepR_scope (harr.1 k' (by rw [hx]; exact hk)), fun hr' hk => let ⟨k₁, h1, h2⟩ := harr.2 hr' (by rw [hx]; exact hk); ⟨k₁, h1, .head h0 stepR_scope h2⟩⟩
  | goto l' =>
    obtain ⟨rfl, hJ'⟩ := hq
    obtain ⟨e₂, a₂, w₂, hq₂, harr₂⟩ := key _ f₁ ds₁ w₁ rfl hJ'
    exact ⟨e₂, a₂, w₂, hq₂, .of_steps (.head h0 stepR_scope (harr.1 _ hg)) harr₂⟩
  | ret => exact ⟨_, _, w₁, ⟨f₁, ds₁, rfl, hq⟩, .of_steps (.one h0 stepR_scope) harr⟩
  | panic ch => exact ⟨_, _, w₁, ⟨f₁, ds₁, rfl, hq⟩, .of_steps (.one h0 stepR_scope) harr⟩
  | outgrown => exact ⟨_, _, w₁, ⟨f₁, ds₁, rfl, hq⟩, .of_steps (.one h0 stepR_scope) harr⟩

/-- A region in the text's order. -/
theorem xc_region {id : Nat} {l : List Oper} (h : XL P r n l.toArray (fun f w => Q .normal f ds w) l f w) : XC P r n (.region id l.toArray false) Q f ds w :=
  wpIn_region_lit (xl_sound (fun f w hq => ⟨f, ds, rfl, hq⟩) l f w h)
end xc

/-! ### A function's contract from its body -/
/-- What the body must achieve: it comes to its end, or returns; the marks of its loops over functions are taken off; the results are read. -/
def leaves (P : Program) (fn : Func) (n : Nat) (f : Nat → Value) (K : Value → World → Prop) : List Deferred → World → Prop
  | [], w => ∃ v, (results fn (fr n f []).tmps).run P w = .ok v w ∧ K v w
  | d :: ds, w => ∃ D, d.target = .collected D ∧ w.heap[D]? = some (.deferred (some [])) ∧ leaves P fn n f K ds (w.putObj D (.deferred none))
def qbody (P : Program) (fn : Func) (n : Nat) (K : Value → World → Prop) : QX := fun e f ds w => match e with
  | .normal => leaves P fn n f K ds w
  | .ret => leaves P fn n f K ds w
  | _ => False

theorem leaves_in {P : Program} {fn : Func} {n : Nat} {f : Nat → Value} {K : Value → World → Prop} : ∀ (ds : List Deferred) (w : World), leaves P fn n f K ds w → LeavesInM (FW none) 0 P fn (fr n f []).tmps (Ret K) ds .returning w
  | [], _, h => by
    obtain ⟨v, hr, hk⟩ := h
    exact ⟨v, hr, v, rfl, hk⟩
  | d :: ds, w, h => by
    obtain ⟨D, ht, hh, h⟩ := h
    exact ⟨by simp, .inl ⟨D, _, ht, run_takeDeferred hh, leaves_in ds _ h⟩⟩

theorem calls_xc {P : Program} {g : FuncId} {fn : Func} {c : Code} {args : Array Value} {w : World} {K : Value → World → Prop} {n : Nat} {f : Nat → Value}
    (hf : P.funcs[g]? = some fn) (hb : fn.body = some c) (hn : fn.ntmps = n) (hs : args.size ≤ n) (hff : ∀ i, f i = args.getD i undef)
    (h : XC P none n c (qbody P fn n K) f [] w) : Calls P g args w (Ret K) := by
  refine calls_of_fw (m := 0) (callsIn_of_wp_marks hf hb trivial ?_)
  have hfr : ({ tmps := args ++ Array.replicate (fn.ntmps - args.size) undef, defers := [] } : Act) = fr n f [] := by
    subst hn
    simp only [fr]
    congr 1
    apply Array.ext
    · simp; omega
    · intro i h1 h2
      simp only [Array.getElem_map, Array.getElem_range, hff]
      by_cases hi : i < args.size
      · rw [Array.getElem_append_left hi]; simp [hi]
      · rw [Array.getElem_append_right (by omega)]; simp [hi]
  rw [hfr]
  refine wpIn_mono h ?_
  rintro e a w ⟨f, ds, rfl, hq⟩
  cases e with
  | normal => exact leaves_in _ _ hq
  | ret => exact leaves_in _ _ hq
  | exit i => exact hq.elim
  | goto i => exact hq.elim
  | panic c => exact hq.elim
  | outgrown => exact hq.elim
end Go.Vx
