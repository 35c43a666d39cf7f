/-
  A range over a function, in the small calculus of Vxa: an iterator's contract says which items come; who ranges over it keeps what is the iterator's own. No conditions beyond those that each rule names.
-/
import Derived.Test.YthhbnodnpajljaaVxd
set_option linter.unusedVariables false
set_option linter.unusedSimpArgs false
namespace Go.Vx
open Go Go.RowKit

/-- What a state of the ranging code must bear: the iterator's steps change blocks of its own (X) alone, and make new ones. -/
def Stab {β : Type} (B : Nat) (J : β → (Nat → Prop) → World → Prop) : Prop :=
  ∀ s X W X' W', (∀ b, X b → B ≤ b ∧ b < W.heap.size) → J s X W → Chg X W W' → (∀ b, X' b → X b ∨ W.heap.size ≤ b) → J s X' W'
/-- What the ranging code may change: nothing of the iterator's, nothing below B. -/
abbrev Mine (B : Nat) (X : Nat → Prop) (W W' : World) : Prop := Chg (fun b => ¬ X b ∧ B ≤ b) W W'

/-- The contract of a function that is ranged over: the items xs come, in this order, as far as the ranging code goes on. -/
def Iter {α : Type} (P : Program) (gf : Nat) (lb : Array Value) (encs : α → Array Value) (B : Nat) (X0 : Nat → Prop) (xs : List α) (w : World) : Prop :=
  ∀ (l : Nat) (J Jx : List α → (Nat → Prop) → World → Prop) (W : World), Mine B X0 w W → Stab B J → Stab B Jx →
    (∀ pre x X W1, (pre ++ [x]) <+: xs → (∀ b, X b → B ≤ b ∧ b < W1.heap.size) → J pre X W1 →
      YieldC P l (encs x) W1 fun v W2 => (v = .bool true ∧ J (pre ++ [x]) X W2 ∧ Mine B X W1 W2) ∨ (v = .bool false ∧ Jx (pre ++ [x]) X W2 ∧ Mine B X W1 W2)) →
    J [] X0 W →
    Calls P gf (#[.func (.yield l) #[] #[]] ++ lb) W (Ret fun _ W2 => ∃ X', (∀ b, X' b → B ≤ b ∧ b < W2.heap.size) ∧ (J xs X' W2 ∨ ∃ pre, pre <+: xs ∧ Jx pre X' W2))

def updP (f : Nat → Value) : List (Nat × Value) → Nat → Value
  | [] => f
  | (p, v) :: r => updP (upd f p v) r
theorem fr_params {n : Nat} {ds : List Deferred} : ∀ (l : List (Nat × Value)) (f : Nat → Value), l.foldl (fun t (p, v) => t.setIfInBounds p v) (fr n f ds).tmps = (fr n (updP f l) ds).tmps
  | [], _ => rfl
  | (p, v) :: r, f => by
    simp only [List.foldl_cons, updP]
    have : (fr n f ds).tmps.setIfInBounds p v = (fr n (upd f p v) ds).tmps := congrArg Act.tmps (fr_put n f ds (some p) v)
    rw [this]
    exact fr_params r _

section
variable {P : Program} {n : Nat} {f : Nat → Value} {ds : List Deferred} {w : World}

/-- How a round's body may be left. -/
def qround {α : Type} (B : Nat) (Y : Nat → Prop) (W : World) (I : List α → (Nat → Prop) → World → Prop) (Ix : Code → List α → (Nat → Prop) → World → Prop) (xs : List α) : QX := fun e _ _ W' => match e with
  | .normal => Mine B Y W W' ∧ I xs Y W'
  | .ret => Mine B Y W W' ∧ Ix .ret xs Y W'
  | .exit i => Mine B Y W W' ∧ Ix (.exit i) xs Y W'
  | .goto t => Mine B Y W W' ∧ Ix (.goto t) xs Y W'
  | _ => False

/-- What a round of the loop is asked: the assignment to the loop's left sides, then (the record of the loop, which is not the body's, has changed) the body. -/
def Round {α : Type} (P : Program) (n : Nat) (assign body : Code) (ps : Array Tmp) (encs : α → Array Value) (f : Nat → Value) (B : Nat) (I : List α → (Nat → Prop) → World → Prop) (Ix : Code → List α → (Nat → Prop) → World → Prop) (xs : List α) : Prop :=
  ∀ (l : Nat) (pre : List α) (x : α) (Y : Nat → Prop) (W : World), (pre ++ [x]) <+: xs → (∀ b, Y b → B ≤ b ∧ b < W.heap.size) → Y l → (∃ r, W.heap[l]? = some (.loop r)) → I pre Y W →
    XC P (some l) n assign (fun e f1 ds1 W1 => e = .normal ∧ ds1 = [] ∧ Mine B Y W W1 ∧
      ∀ W2, Chg Y W1 W2 → W2.heap.size = W1.heap.size → (∃ r, W2.heap[l]? = some (.loop r)) → XC P (some l) n body (qround B Y W2 I Ix (pre ++ [x])) f1 [] W2) (updP f (ps.toList.zip (encs x).toList)) [] W

theorem round_yield {α : Type} {ps : Array Tmp} {assign body : Code} {encs : α → Array Value} {B : Nat} {I : List α → (Nat → Prop) → World → Prop} {Ix : Code → List α → (Nat → Prop) → World → Prop} {xs : List α}
    (hR : Round P n assign body ps encs f B I Ix xs) (hps : ∀ x, (encs x).size = ps.size) (hI : Stab B I) (hIx : ∀ c, Stab B (Ix c)) {l : Nat} {fn : FuncId} {D : Nat} (E : Nat → Prop) (hE : ∀ b, E b → b = l ∨ b = D) (hEl : E l)
    (rec : LoopState → Option Code → Loop) (hrec : rec = fun st pe => { state := st, pending := pe, fn, tmps := (fr n f ds).tmps, params := ps, assign, body, defers := D }) (T : World → Prop) (hT : ∀ W W' : World, (∀ b, E b → b ≠ l → W'.heap[b]? = W.heap[b]?) → T W → T W')
    {pre : List α} {x : α} {X : Nat → Prop} {W1 : World} (hpre : (pre ++ [x]) <+: xs) (hX : ∀ b, X b → B ≤ b ∧ b < W1.heap.size) (hnX : ∀ b, E b → ¬ X b ∧ B ≤ b ∧ b < W1.heap.size)
    (hI0 : I pre (fun b => X b ∨ E b) W1) (hl : W1.heap[l]? = some (.loop (rec .ready none))) (hTW : T W1) :
    YieldC P l (encs x) W1 fun v W2 =>
      (v = .bool true ∧ (I (pre ++ [x]) (fun b => X b ∨ E b) W2 ∧ W2.heap[l]? = some (.loop (rec .ready none)) ∧ T W2) ∧ Mine B X W1 W2) ∨
      (v = .bool false ∧ ∃ c, Ix c (pre ++ [x]) (fun b => X b ∨ E b) W2 ∧ W2.heap[l]? = some (.loop (rec .done (some c))) ∧ T W2 ∧ (∀ b, E b → b < W2.heap.size) ∧ Mine B X W1 W2) := by
  have hy := run_yield (P := P) (args := encs x) hl (by rw [hrec]; exact hps x)
  have htm : ((rec .ready none).params.zip (encs x)).foldl (fun tmps (t, a) => tmps.setIfInBounds t a) (rec .ready none).tmps = (fr n (updP f (ps.toList.zip (encs x).toList)) []).tmps := by
    rw [hrec]
    simp only
    rw [← Array.foldl_toList, Array.toList_zip]
    rw [fr_params]
    rfl
  rw [htm, hrec] at hy
  refine ⟨fn, _, assign, body, hy, ?_⟩
  have hYb : ∀ b, (fun b => X b ∨ E b) b → B ≤ b ∧ b < W1.heap.size := fun b hb => hb.elim (hX b) fun h => (hnX b h).2
  have h1 := hR l pre x (fun b => X b ∨ E b) W1 hpre hYb (.inr hEl) ⟨_, hl⟩ hI0
  refine roundIn_of_wpIn (n := 0) (F := FW none) trivial ?_
  have hF : (FW none).inRound l = FW (some l) := rfl
  rw [hF]
  refine wpIn_mono h1 ?_
  rintro e a1 Wa ⟨f1, ds1, rfl, rfl, rfl, hm1, hbody⟩
  have hla : Wa.heap[l]? = some (.loop (rec .ready none)) := (hm1.keep l (hnX l hEl).2.2 (fun h => h.1 (.inr hEl))).trans hl
  have hlt : l < Wa.heap.size := (Array.getElem?_eq_some_iff.1 hla).1
  have hTa : T Wa := hT _ _ (fun b hb hbl => hm1.keep b (hnX b hb).2.2 fun h => h.1 (.inr hb)) hTW
  refine ⟨_, run_beginRound hla (by rw [hrec]), ?_⟩
  have hl2 : (Wa.putObj l (.loop { rec .ready none with state := .busy })).heap[l]? = some (.loop { rec .ready none with state := .busy }) := World.putObj_heap_same hlt
  have hT2 : T (Wa.putObj l (.loop { rec .ready none with state := .busy })) := hT _ _ (fun b _ hbl => World.putObj_heap_other hbl) hTa
  refine wpIn_mono (hbody (Wa.putObj l (.loop { rec .ready none with state := .busy })) (chg_putObj _ _ _ (.inr hEl)) World.putObj_size ⟨_, hl2⟩) ?_
  generalize hW2 : Wa.putObj l (.loop { rec .ready none with state := .busy }) = Wb at *
  have hsz2 : Wb.heap.size = Wa.heap.size := by rw [← hW2]; exact World.putObj_size
  have fin : ∀ (jump : Option Code) (W3 : World), Mine B (fun b => X b ∨ E b) Wb W3 →
      (Instr.endRound l jump).run P W3 = .ok (.bool jump.isNone) (W3.putObj l (.loop (rec (if jump.isNone then .ready else .done) jump))) ∧
      (W3.putObj l (.loop (rec (if jump.isNone then .ready else .done) jump))).heap[l]? = some (.loop (rec (if jump.isNone then .ready else .done) jump)) ∧
      T (W3.putObj l (.loop (rec (if jump.isNone then .ready else .done) jump))) ∧ Mine B X W1 (W3.putObj l (.loop (rec (if jump.isNone then .ready else .done) jump))) ∧ Wa.heap.size ≤ W3.heap.size := by
    intro jump W3 hm3
    have hl3 : W3.heap[l]? = some (.loop { rec .ready none with state := .busy }) := (hm3.keep l (by rw [hsz2]; exact hlt) (fun h => h.1 (.inr hEl))).trans hl2
    have hlt3 : l < W3.heap.size := (Array.getElem?_eq_some_iff.1 hl3).1
    have hT3 : T W3 := hT _ _ (fun b hb _ => hm3.keep b (by rw [hsz2]; have := (hnX b hb).2.2; have := hm1.size; omega) fun h => h.1 (.inr hb)) hT2
    have hr := run_endRound (P := P) jump hl3
    refine ⟨by rw [hrec] at hr ⊢; exact hr, World.putObj_heap_same hlt3, hT _ _ (fun b _ hbl => World.putObj_heap_other hbl) hT3, ?_, by have := hm3.size; omega⟩
    have e1 : Mine B X W1 Wa := hm1.mono fun b _ hb => ⟨fun h => hb.1 (.inl h), hb.2⟩
    have e2 : Mine B X Wa Wb := by rw [← hW2]; exact chg_putObj _ _ _ ⟨(hnX l hEl).1, (hnX l hEl).2.1⟩
    have e3 : Mine B X Wb W3 := hm3.mono fun b _ hb => ⟨fun h => hb.1 (.inl h), hb.2⟩
    have e4 : Mine B X W3 (W3.putObj l (.loop (rec (if jump.isNone then .ready else .done) jump))) := chg_putObj _ _ _ ⟨(hnX l hEl).1, (hnX l hEl).2.1⟩
    exact ((e1.trans e2 fun _ h _ => h).trans e3 fun _ h _ => h).trans e4 fun _ h _ => h
  have hY3 : ∀ W3 : World, Wa.heap.size ≤ W3.heap.size → ∀ b, (X b ∨ E b) → B ≤ b ∧ b < W3.heap.size := fun W3 h3 b hb => by
    have := hYb b hb; have := hm1.size; exact ⟨by omega, by omega⟩
  rintro e a3 W3 ⟨f3, ds3, rfl, hp⟩
  cases e with
  | normal =>
    obtain ⟨hm3, hi3⟩ := hp
    obtain ⟨hr, hl4, hT4, hm4, hs4⟩ := fin none W3 hm3
    exact ⟨_, _, hr, _, rfl, .inl ⟨rfl, ⟨hI _ _ _ _ _ (hY3 W3 hs4) hi3 (chg_putObj _ _ _ (.inr hEl)) fun b hb => .inl hb, hl4, hT4⟩, hm4⟩⟩
  | ret =>
    obtain ⟨hm3, hi3⟩ := hp
    obtain ⟨hr, hl4, hT4, hm4, hs4⟩ := fin (some .ret) W3 hm3
    exact ⟨_, _, hr, _, rfl, .inr ⟨rfl, .ret, hIx _ _ _ _ _ _ (hY3 W3 hs4) hi3 (chg_putObj _ _ _ (.inr hEl)) (fun b hb => .inl hb), hl4, hT4, fun b hb => by have := hm4.size; have := (hnX b hb).2.2; omega, hm4⟩⟩
  | exit id =>
    obtain ⟨hm3, hi3⟩ := hp
    obtain ⟨hr, hl4, hT4, hm4, hs4⟩ := fin (some (.exit id)) W3 hm3
    exact ⟨_, _, hr, _, rfl, .inr ⟨rfl, .exit id, hIx _ _ _ _ _ _ (hY3 W3 hs4) hi3 (chg_putObj _ _ _ (.inr hEl)) (fun b hb => .inl hb), hl4, hT4, fun b hb => by have := hm4.size; have := (hnX b hb).2.2; omega, hm4⟩⟩
  | goto t =>
    obtain ⟨hm3, hi3⟩ := hp
    obtain ⟨hr, hl4, hT4, hm4, hs4⟩ := fin (some (.goto t)) W3 hm3
    exact ⟨_, _, hr, _, rfl, .inr ⟨rfl, .goto t, hIx _ _ _ _ _ _ (hY3 W3 hs4) hi3 (chg_putObj _ _ _ (.inr hEl)) (fun b hb => .inl hb), hl4, hT4, fun b hb => by have := hm4.size; have := (hnX b hb).2.2; omega, hm4⟩⟩
  | panic ch => exact hp.elim
  | outgrown => exact hp.elim

theorem stab_E {α : Type} {B : Nat} {I : List α → (Nat → Prop) → World → Prop} (hI : Stab B I) (E : Nat → Prop) (U : World → Prop) (hU : ∀ W W' : World, (∀ b, E b → b < W.heap.size → W'.heap[b]? = W.heap[b]?) → W.heap.size ≤ W'.heap.size → (∀ b, E b → b < W.heap.size) → U W → U W') :
    Stab B (fun pre X W => (∀ b, E b → ¬ X b ∧ B ≤ b ∧ b < W.heap.size) ∧ I pre (fun b => X b ∨ E b) W ∧ U W) := by
  rintro s X W X' W' hX ⟨hE, hi, hu⟩ hc hX'
  have hE' : ∀ b, E b → ¬ X' b ∧ B ≤ b ∧ b < W'.heap.size := fun b hb => by
    obtain ⟨h1, h2, h3⟩ := hE b hb
    refine ⟨fun h => (hX' b h).elim h1 fun h => by omega, h2, by have := hc.size; omega⟩
  refine ⟨hE', hI s _ W _ W' (fun b hb => hb.elim (hX b) fun h => (hE b h).2) hi (hc.mono fun b _ hb => .inl hb) (fun b hb => hb.elim (fun h => (hX' b h).imp .inl id) fun h => .inl (.inr h)), ?_⟩
  exact hU W W' (fun b hb hlt => hc.keep b hlt (hE b hb).1) hc.size (fun b hb => (hE b hb).2.2) hu

/-- A RANGE OVER A FUNCTION, outside of every round. -/
theorem xc_range {α : Type} {g : Operand} {ps : Array Tmp} {assign body : Code} {Q : QX} {gf : Nat} {lb : Array Value} {encs : α → Array Value} {B : Nat} {X0 : Nat → Prop} {xs : List α}
    (hg : ev n f g = .func (.func gf) #[] lb) (hp : plainF P gf = true) (hps : ∀ x, (encs x).size = ps.size) (hit : Iter P gf lb encs B X0 xs w) (hB : B ≤ w.heap.size) (hX0 : ∀ b, X0 b → B ≤ b ∧ b < w.heap.size)
    (I : List α → (Nat → Prop) → World → Prop) (Ix : Code → List α → (Nat → Prop) → World → Prop) (hI : Stab B I) (hIx : ∀ c, Stab B (Ix c)) (h0 : I [] X0 w)
    (hround : Round P n assign body ps encs f B I Ix xs)
    (hdone : ∀ (D : Nat) (Y : Nat → Prop) (W : World), w.heap.size ≤ D → (∀ b, Y b → B ≤ b ∧ b < W.heap.size) → Y D → I xs Y W → W.heap[D]? = some (.deferred (some [])) → Q .normal f ({ target := .collected D, args := #[] } :: ds) W)
    (hstop : ∀ (D : Nat) (Y : Nat → Prop) (c : Code) (pre : List α) (W : World), w.heap.size ≤ D → (∀ b, Y b → B ≤ b ∧ b < W.heap.size) → Y D → pre <+: xs → Ix c pre Y W → W.heap[D]? = some (.deferred (some [])) →
      XC P none n c Q f ({ target := .collected D, args := #[] } :: ds) W) :
    XC P none n (.rangeFunc g ps assign body) Q f ds w := by
  refine wpIn_rangeFunc ?_
  intro fn _
  have hro : (FW none).round = none := rfl
  rw [hro]
  obtain ⟨rec, hrec⟩ : ∃ rec : LoopState → Option Code → Loop, rec = fun st pe => { state := st, pending := pe, fn, tmps := (fr n f ds).tmps, params := ps, assign, body, defers := w.heap.size } := ⟨_, rfl⟩
  obtain ⟨W1, hW1⟩ : ∃ W1, (w.alloc (.deferred (some []))).alloc (.loop (rec .ready none)) = W1 := ⟨_, rfl⟩
  have hL1 : W1.heap[w.heap.size + 1]? = some (.loop (rec .ready none)) := by
    rw [← hW1]; have := World.alloc_heap_new (w.alloc (.deferred (some []))) (.loop (rec .ready none)); rwa [World.size_alloc] at this
  have hK1 : W1.heap[w.heap.size]? = some (.deferred (some [])) := by
    rw [← hW1]; exact (Below.heap_alloc _ _ _ (by simp)).trans (World.alloc_heap_new w _)
  have hc1 : Ext w W1 := by rw [← hW1]; exact Ext.trans (chg_alloc _ w _) (chg_alloc _ _ _)
  have hs1 : W1.heap.size = w.heap.size + 2 := by rw [← hW1, World.size_alloc, World.size_alloc]
  let E : Nat → Prop := fun b => b = w.heap.size + 1 ∨ b = w.heap.size
  have hE1 : ∀ b, E b → ¬ X0 b ∧ B ≤ b ∧ b < W1.heap.size := fun b hb => by
    rcases hb with rfl | rfl
    · exact ⟨fun h => by have := (hX0 _ h).2; omega, by omega, by omega⟩
    · exact ⟨fun h => by have := (hX0 _ h).2; omega, by omega, by omega⟩
  have hI1 : I [] (fun b => X0 b ∨ E b) W1 := hI _ _ w _ W1 hX0 h0 (Ext.to hc1) (fun b hb => hb.elim .inl fun h => .inr (by rcases h with rfl | rfl <;> omega))
  refine ⟨w.heap.size + 1, [{ target := .collected w.heap.size, args := #[] }], W1, { target := .fn (.func gf) lb, args := #[.func (.yield (w.heap.size + 1)) #[] #[]] }, W1, gf,
    #[.func (.yield (w.heap.size + 1)) #[] #[]] ++ lb, W1, ?_, ?_, fun _ _ => trivial, ?_, (fun h => by cases h), ?_⟩
  · rw [← hW1, hrec]; exact run_enterLoop_outer _ _ _ _ _
  · simp only [resolve, fr_eval, hg]
    simp [Deferred.ofValue, Act.eval]
  · have := run_call (P := P) (w := W1) (ρ := fun _ => .func (.func gf) #[] lb) (c := { callee := .value (.tmp 0), args := #[], argTypes := #[] }) (dst := none) (ty := 0) (pos := "") (af := #[]) (gd := none) (f := .tmp 0) hp rfl rfl
    simp only [execOp, resolve, Deferred.ofValue, invoke] at this ⊢
    unfold plainF at hp
    cases hgf : P.funcs[gf]? with
    | none => rw [hgf] at hp; cases hp
    | some fn' =>
      rw [hgf] at hp
      simp only [Bool.and_eq_true, bne_iff_ne, ne_eq] at hp
      obtain ⟨bd, hb⟩ := Option.isSome_iff_exists.1 hp.2
      simp [callFunc, program, Sem.run_bind, Sem.run, Result.andThen, hgf, hp.1, hb]
  · have hT : ∀ W W' : World, (∀ b, E b → b ≠ w.heap.size + 1 → W'.heap[b]? = W.heap[b]?) → W.heap[w.heap.size]? = some (.deferred (some [])) → W'.heap[w.heap.size]? = some (.deferred (some [])) :=
      fun W W' h h' => (h _ (.inr rfl) (by omega)).trans h'
    refine callsIn_fw (Calls.mono (hit (w.heap.size + 1)
      (fun pre X W => (∀ b, E b → ¬ X b ∧ B ≤ b ∧ b < W.heap.size) ∧ I pre (fun b => X b ∨ E b) W ∧ (W.heap[w.heap.size + 1]? = some (.loop (rec .ready none)) ∧ W.heap[w.heap.size]? = some (.deferred (some []))))
      (fun pre X W => ∃ c, (∀ b, E b → ¬ X b ∧ B ≤ b ∧ b < W.heap.size) ∧ Ix c pre (fun b => X b ∨ E b) W ∧ (W.heap[w.heap.size + 1]? = some (.loop (rec .done (some c))) ∧ W.heap[w.heap.size]? = some (.deferred (some []))))
      W1 (Ext.to hc1)
      (stab_E hI E _ fun W W' h _ hlt h' => ⟨(h _ (.inl rfl) (hlt _ (.inl rfl))).trans h'.1, (h _ (.inr rfl) (hlt _ (.inr rfl))).trans h'.2⟩)
      (fun s X W X' W' hX ⟨c, hs⟩ hc hX' => ⟨c, stab_E (hIx c) E (fun W => W.heap[w.heap.size + 1]? = some (.loop (rec .done (some c))) ∧ W.heap[w.heap.size]? = some (.deferred (some [])))
        (fun W W' h _ hlt h' => ⟨(h _ (.inl rfl) (hlt _ (.inl rfl))).trans h'.1, (h _ (.inr rfl) (hlt _ (.inr rfl))).trans h'.2⟩) s X W X' W' hX hs hc hX'⟩)
      ?_ ⟨hE1, hI1, hL1, hK1⟩) ?_)
    · rintro pre x X W hpre hX ⟨hE, hi, hl, hk⟩
      refine (round_yield (D := w.heap.size) hround hps hI hIx E (fun b h => h) (.inl rfl) rec hrec (fun W => W.heap[w.heap.size]? = some (.deferred (some []))) hT hpre hX hE hi hl hk).mono ?_
      rintro v W2 (⟨rfl, ⟨hi2, hl2, hk2⟩, hm⟩ | ⟨rfl, c, hi2, hl2, hk2, hlt, hsz⟩)
      · exact .inl ⟨rfl, ⟨fun b hb => ⟨(hE b hb).1, (hE b hb).2.1, by have := (hE b hb).2.2; have := hm.size; omega⟩, hi2, hl2, hk2⟩, hm⟩
      · exact .inr ⟨rfl, ⟨c, fun b hb => ⟨(hE b hb).1, (hE b hb).2.1, hlt b hb⟩, hi2, hl2, hk2⟩, hsz⟩
    · rintro e W2 ⟨v, rfl, X', hX', hj⟩
      have hYb : ∀ (W3 : World), W3.heap.size = W2.heap.size → (∀ b, E b → ¬ X' b ∧ B ≤ b ∧ b < W2.heap.size) → ∀ b, (X' b ∨ E b) → B ≤ b ∧ b < W3.heap.size := fun W3 h hE b hb => by
        rw [h]; exact hb.elim (hX' b) fun h => (hE b h).2
      rcases hj with ⟨hE, hi, hl, hk⟩ | ⟨pre, hpre, c, hE, hi, hl, hk⟩
      · have hr := run_endLoop (P := P) hl (by rw [hrec]; simp)
        refine ⟨none, _, by rw [hrec] at hr; exact hr, f, _, rfl, hdone _ (fun b => X' b ∨ E b) _ (Nat.le_refl _) (hYb _ World.putObj_size hE) (.inr (.inr rfl)) ?_ ((World.putObj_heap_other (by omega)).trans hk)⟩
        exact hI _ _ W2 _ _ (hYb W2 rfl hE) hi (chg_putObj _ _ _ (.inr (.inl rfl))) fun b hb => .inl hb
      · have hr := run_endLoop (P := P) hl (by rw [hrec]; simp)
        refine ⟨some c, _, by rw [hrec] at hr; exact hr, hstop _ (fun b => X' b ∨ E b) c pre _ (Nat.le_refl _) (hYb _ World.putObj_size hE) (.inr (.inr rfl)) hpre ?_ ((World.putObj_heap_other (by omega)).trans hk)⟩
        exact hIx c _ _ W2 _ _ (hYb W2 rfl hE) hi (chg_putObj _ _ _ (.inr (.inl rfl))) fun b hb => .inl hb

/-- A RANGE OVER A FUNCTION within a round of another. -/
theorem xc_rangeN {α : Type} {g : Operand} {ps : Array Tmp} {assign body : Code} {Q : QX} {gf : Nat} {lb : Array Value} {encs : α → Array Value} {B : Nat} {X0 : Nat → Prop} {xs : List α} {l₀ : Nat}
    (hl₀ : ∃ r₀, w.heap[l₀]? = some (.loop r₀))
    (hg : ev n f g = .func (.func gf) #[] lb) (hp : plainF P gf = true) (hps : ∀ x, (encs x).size = ps.size) (hit : Iter P gf lb encs B X0 xs w) (hB : B ≤ w.heap.size) (hX0 : ∀ b, X0 b → B ≤ b ∧ b < w.heap.size)
    (I : List α → (Nat → Prop) → World → Prop) (Ix : Code → List α → (Nat → Prop) → World → Prop) (hI : Stab B I) (hIx : ∀ c, Stab B (Ix c)) (h0 : I [] X0 w)
    (hround : Round P n assign body ps encs f B I Ix xs)
    (hdone : ∀ (Y : Nat → Prop) (W : World), (∀ b, Y b → B ≤ b ∧ b < W.heap.size) → I xs Y W → Q .normal f ds W)
    (hstop : ∀ (Y : Nat → Prop) (c : Code) (pre : List α) (W : World), (∀ b, Y b → B ≤ b ∧ b < W.heap.size) → pre <+: xs → Ix c pre Y W → XC P (some l₀) n c Q f ds W) :
    XC P (some l₀) n (.rangeFunc g ps assign body) Q f ds w := by
  obtain ⟨r₀, hl₀⟩ := hl₀
  refine wpIn_rangeFunc ?_
  intro fn _
  have hro : (FW (some l₀)).round = some l₀ := rfl
  rw [hro]
  obtain ⟨rec, hrec⟩ : ∃ rec : LoopState → Option Code → Loop, rec = fun st pe => { state := st, pending := pe, fn, tmps := (fr n f ds).tmps, params := ps, assign, body, defers := r₀.defers } := ⟨_, rfl⟩
  obtain ⟨W1, hW1⟩ : ∃ W1, w.alloc (.loop (rec .ready none)) = W1 := ⟨_, rfl⟩
  have hL1 : W1.heap[w.heap.size]? = some (.loop (rec .ready none)) := by rw [← hW1]; exact World.alloc_heap_new w _
  have hc1 : Ext w W1 := by rw [← hW1]; exact chg_alloc _ w _
  have hs1 : W1.heap.size = w.heap.size + 1 := by rw [← hW1, World.size_alloc]
  let E : Nat → Prop := fun b => b = w.heap.size
  have hE1 : ∀ b, E b → ¬ X0 b ∧ B ≤ b ∧ b < W1.heap.size := fun b hb => by
    obtain rfl : b = w.heap.size := hb
    exact ⟨fun h => by have := (hX0 _ h).2; omega, by omega, by omega⟩
  have hI1 : I [] (fun b => X0 b ∨ E b) W1 := hI _ _ w _ W1 hX0 h0 (Ext.to hc1) (fun b hb => hb.elim .inl fun h => .inr (by obtain rfl : b = w.heap.size := h; omega))
  refine ⟨w.heap.size, [], W1, { target := .fn (.func gf) lb, args := #[.func (.yield w.heap.size) #[] #[]] }, W1, gf,
    #[.func (.yield w.heap.size) #[] #[]] ++ lb, W1, ?_, ?_, fun _ _ => trivial, ?_, (fun h => by cases h), ?_⟩
  · rw [← hW1, hrec]; exact run_enterLoop_inner hl₀ _ _ _ _ _
  · simp only [resolve, fr_eval, hg]
    simp [Deferred.ofValue, Act.eval]
  · simp only [invoke]
    unfold plainF at hp
    cases hgf : P.funcs[gf]? with
    | none => rw [hgf] at hp; cases hp
    | some fn' =>
      rw [hgf] at hp
      simp only [Bool.and_eq_true, bne_iff_ne, ne_eq] at hp
      obtain ⟨bd, hb⟩ := Option.isSome_iff_exists.1 hp.2
      simp [callFunc, program, Sem.run_bind, Sem.run, Result.andThen, hgf, hp.1, hb]
  · refine callsIn_fw (Calls.mono (hit w.heap.size
      (fun pre X W => (∀ b, E b → ¬ X b ∧ B ≤ b ∧ b < W.heap.size) ∧ I pre (fun b => X b ∨ E b) W ∧ W.heap[w.heap.size]? = some (.loop (rec .ready none)))
      (fun pre X W => ∃ c, (∀ b, E b → ¬ X b ∧ B ≤ b ∧ b < W.heap.size) ∧ Ix c pre (fun b => X b ∨ E b) W ∧ W.heap[w.heap.size]? = some (.loop (rec .done (some c))))
      W1 (Ext.to hc1)
      (stab_E hI E _ fun W W' h _ hlt h' => (h _ rfl (hlt _ rfl)).trans h')
      (fun s X W X' W' hX ⟨c, hs⟩ hc hX' => ⟨c, stab_E (hIx c) E (fun W => W.heap[w.heap.size]? = some (.loop (rec .done (some c))))
        (fun W W' h _ hlt h' => (h _ rfl (hlt _ rfl)).trans h') s X W X' W' hX hs hc hX'⟩)
      ?_ ⟨hE1, hI1, hL1⟩) ?_)
    · rintro pre x X W hpre hX ⟨hE, hi, hl⟩
      refine (round_yield (D := r₀.defers) hround hps hI hIx E (fun b h => .inl h) rfl rec hrec (fun _ => True) (fun _ _ _ _ => trivial) hpre hX hE hi hl trivial).mono ?_
      rintro v W2 (⟨rfl, ⟨hi2, hl2, _⟩, hm⟩ | ⟨rfl, c, hi2, hl2, _, hlt, hsz⟩)
      · exact .inl ⟨rfl, ⟨fun b hb => ⟨(hE b hb).1, (hE b hb).2.1, by have := (hE b hb).2.2; have := hm.size; omega⟩, hi2, hl2⟩, hm⟩
      · exact .inr ⟨rfl, ⟨c, fun b hb => ⟨(hE b hb).1, (hE b hb).2.1, hlt b hb⟩, hi2, hl2⟩, hsz⟩
    · rintro e W2 ⟨v, rfl, X', hX', hj⟩
      have hYb : ∀ (W3 : World), W3.heap.size = W2.heap.size → (∀ b, E b → ¬ X' b ∧ B ≤ b ∧ b < W2.heap.size) → ∀ b, (X' b ∨ E b) → B ≤ b ∧ b < W3.heap.size := fun W3 h hE b hb => by
        rw [h]; exact hb.elim (hX' b) fun h => (hE b h).2
      rcases hj with ⟨hE, hi, hl⟩ | ⟨pre, hpre, c, hE, hi, hl⟩
      · have hr := run_endLoop (P := P) hl (by rw [hrec]; simp)
        refine ⟨none, _, by rw [hrec] at hr; exact hr, f, _, rfl, hdone (fun b => X' b ∨ E b) _ (hYb _ World.putObj_size hE) ?_⟩
        exact hI _ _ W2 _ _ (hYb W2 rfl hE) hi (chg_putObj _ _ _ (.inr rfl)) fun b hb => .inl hb
      · have hr := run_endLoop (P := P) hl (by rw [hrec]; simp)
        refine ⟨some c, _, by rw [hrec] at hr; exact hr, hstop (fun b => X' b ∨ E b) c pre _ (hYb _ World.putObj_size hE) hpre ?_⟩
        exact hIx c _ _ W2 _ _ (hYb W2 rfl hE) hi (chg_putObj _ _ _ (.inr rfl)) fun b hb => .inl hb
end
end Go.Vx
