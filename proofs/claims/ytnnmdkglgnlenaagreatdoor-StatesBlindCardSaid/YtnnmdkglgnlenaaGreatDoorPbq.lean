/-
  Part 17 of the proof: texts Tb Tc Td Te Ts Tt Tu Tf Tq Tv Tg Th Tk Tp Tw Ua Ty Ub Uf Tx. No conditions.
-/
import Derived.Test.YtnnmdkglgnlenaaGreatDoorRows
import Derived.Test.YtnnmdkglgnlenaaGreatDoorPbh
import Derived.Test.YtnnmdkglgnlenaaGreatDoorPbi
import Derived.Test.YtnnmdkglgnlenaaGreatDoorPbn
import Derived.Test.YtnnmdkglgnlenaaGreatDoorPbo
set_option linter.unusedVariables false
set_option linter.unusedSimpArgs false
set_option maxRecDepth 100000
set_option maxHeartbeats 4000000
namespace Go.Proofs.YtnnmdkglgnlenaaGreatDoor
open Go Go.RowKit Go.Vx
structure Arc where
  sym : Sym
  to : Int
deriving Inhabited
def Arc.cs (x : Arc) : List Value := [.int .i64 x.sym.kind, .int .i64 x.sym.n, .int .i64 x.to]
theorem Arc.len (x : Arc) : x.cs.length = 3 := rfl
theorem Arc.one (x : Arc) : x.cs.all Value.oneCell' = true := rfl
structure StD where
  iA : Option Addr
  ic : Nat
  items : List Itm
  kern : Int
  aA : Option Addr
  ac : Nat
  arcs : List Arc
  sym : Sym
  frm : Int
deriving Inhabited
def StD.cs (x : StD) : List Value := [.slice x.iA x.items.length x.ic, .int .i64 x.kern, .slice x.aA x.arcs.length x.ac, .int .i64 x.sym.kind, .int .i64 x.sym.n, .int .i64 x.frm]
theorem StD.len (x : StD) : x.cs.length = 6 := rfl
theorem StD.one (x : StD) : x.cs.all Value.oneCell' = true := rfl
structure StR (B : Nat) (w : World) (x : StD) : Prop where
  items : Vx.Own w 42 2 (.slice x.iA x.items.length x.ic) x.items.length (x.items.flatMap Itm.cs)
  lowI : ∀ k, (Value.slice x.iA x.items.length x.ic).ownBlock = some k → B ≤ k
  arcs : Vx.Own w 101 3 (.slice x.aA x.arcs.length x.ac) x.arcs.length (x.arcs.flatMap Arc.cs)
  lowA : ∀ k, (Value.slice x.aA x.arcs.length x.ac).ownBlock = some k → B ≤ k
structure StF (B : Nat) (w : World) (l : List StD) : Prop where
  all : ∀ x ∈ l, StR B w x
  apart : ∀ (i j : Nat) (x y : StD), i < j → l[i]? = some x → l[j]? = some y → ∀ k, (Value.slice x.aA x.arcs.length x.ac).ownBlock = some k → (Value.slice y.aA y.arcs.length y.ac).ownBlock = some k → False
section
variable {B : Nat} {K : Nat → Prop} {w w' : World} {l : List StD}
theorem own_type {e sz n k : Nat} {v : Value} {xs : List Value} (h : Vx.Own w e sz v n xs) (hk : v.ownBlock = some k) : ∃ cs, w.heap[k]? = some (.cells cs e (0, 0)) := by
  rcases h.form with ⟨rfl, _⟩ | ⟨g, cap, cur, rfl, hb, _⟩
  · simp [Value.ownBlock] at hk
  · cases hk; exact ⟨cur, hb⟩
theorem StF.keepT (h : StF B w l) (c : Chg K w w') (hk : ∀ k, K k → ∀ cs, w.heap[k]? ≠ some (.cells cs 42 (0, 0)) ∧ w.heap[k]? ≠ some (.cells cs 101 (0, 0))) : StF B w' l := by
  refine ⟨fun x hx => ?_, h.apart⟩
  have hr := h.all x hx
  refine ⟨hr.items.keep c fun k h1 h2 => ?_, hr.lowI, hr.arcs.keep c fun k h1 h2 => ?_, hr.lowA⟩
  · obtain ⟨cs, h3⟩ := own_type hr.items h1; exact (hk k h2 cs).1 h3
  · obtain ⟨cs, h3⟩ := own_type hr.arcs h1; exact (hk k h2 cs).2 h3
theorem StF.ext (h : StF B w l) (c : Ext w w') : StF B w' l := h.keepT c fun _ hk => hk.elim
theorem StF.keepB {b t : Nat} {cs : Array Value} (h : StF B w l) (c : Chg1 b w w') (hb : Blk w b cs t) (h1 : t ≠ 42) (h2 : t ≠ 101) : StF B w' l := h.keepT c fun k hk cs' => by
  have hk : k = b := hk
  subst hk; unfold Blk at hb; rw [hb]
  exact ⟨fun hh => by cases hh; exact h1 rfl, fun hh => by cases hh; exact h2 rfl⟩
theorem StF.keepM {κ : Type} {enc : κ → Value} {b : Nat} {m : List (κ × Value)} (h : StF B w l) (c : Chg1 b w w') (hb : MapB enc w b m) : StF B w' l := h.keepT c fun k hk cs' => by
  have hk : k = b := hk
  subst hk
  obtain ⟨es, cl, hb, _⟩ := hb
  rw [hb]; exact ⟨by simp, by simp⟩
theorem StF.keepO {e sz n : Nat} {v : Value} {xs : List Value} (h : StF B w l) (c : Chg (fun b => v.ownBlock = some b) w w') (ho : Vx.Own w e sz v n xs) (h1 : e ≠ 42) (h2 : e ≠ 101) : StF B w' l := h.keepT c fun k hk cs' => by
  obtain ⟨cs, h3⟩ := own_type ho hk
  rw [h3]
  exact ⟨fun hh => by cases hh; exact h1 rfl, fun hh => by cases hh; exact h2 rfl⟩
theorem StF.snoc {x : StD} (h : StF B w l) (hx : StR B w x) (hn : (Value.slice x.aA x.arcs.length x.ac).ownBlock = none) : StF B w (l ++ [x]) := by
  refine ⟨fun y hy => ?_, fun i j a b hij ha hb k h1 h2 => ?_⟩
  · rcases List.mem_append.1 hy with hy | hy
    · exact h.all y hy
    · rw [List.mem_singleton.1 hy]; exact hx
  · have hj := (List.getElem?_eq_some_iff.1 hb).1
    rw [List.length_append, List.length_singleton] at hj
    by_cases hjl : j < l.length
    · rw [List.getElem?_append_left hjl] at hb
      rw [List.getElem?_append_left (by omega)] at ha
      exact h.apart i j a b hij ha hb k h1 h2
    · have : j = l.length := by omega
      subst this
      rw [List.getElem?_append_right (Nat.le_refl _), Nat.sub_self] at hb
      cases hb
      rw [hn] at h2; cases h2
end
def stKey (x : StD) : ByteArray := ⟨(wkey (x.items.take x.kern.toNat)).toArray⟩
def keysM : List StD → Nat → List (ByteArray × Value)
  | [], _ => []
  | x :: l, i => (stKey x, .int .i64 (i : Nat)) :: keysM l (i + 1)
theorem keysM_snoc {l : List StD} {x : StD} : ∀ {i : Nat}, lookM (keysM l i) (stKey x) = none → setM (keysM l i) (stKey x) (.int .i64 ((i + l.length : Nat) : Int)) = keysM (l ++ [x]) i := by
  induction l with
  | nil => intro i _; rfl
  | cons y l ih =>
    intro i h
    simp only [keysM, lookM, List.find?_cons] at h
    by_cases hy : stKey y = stKey x
    · simp [hy] at h
    · simp only [hy, decide_false] at h
      have := ih (i := i + 1) (by simpa [lookM] using h)
      simp only [keysM, setM, hy, if_false, List.cons_append]
      rw [← this]; congr 2
      rw [List.length_cons]; congr 1; omega
end Go.Proofs.YtnnmdkglgnlenaaGreatDoor
set_option linter.unusedVariables false
set_option linter.unusedSimpArgs false
set_option maxRecDepth 100000
set_option maxHeartbeats 4000000
namespace Go.Proofs.YtnnmdkglgnlenaaGreatDoor
open Go Go.RowKit Go.Vx
theorem keysM_val : ∀ (l : List StD) (i : Nat) (k : ByteArray), ∀ v ∈ lookM (keysM l i) k, ∃ j : Nat, v = .int .i64 (j : Nat)
  | [], i, k, v, h => by simp [keysM, lookM] at h
  | x :: l, i, k, v, h => by
    simp only [keysM, lookM, List.find?_cons] at h
    by_cases hx : stKey x = k
    · simp [hx] at h; exact ⟨i, h.symm⟩
    · simp only [hx, decide_false] at h
      exact keysM_val l (i + 1) k v (by simpa [lookM] using h)
def keyAt (l : List StD) (k : ByteArray) : Int := match lookM (keysM l 0) k with
  | some (.int _ i) => i
  | _ => 0
theorem lookM_keys (l : List StD) (k : ByteArray) : (lookM (keysM l 0) k).getD (.int .i64 0) = .int .i64 (keyAt l k) := by
  unfold keyAt
  cases h : lookM (keysM l 0) k with
  | none => rfl
  | some v =>
    obtain ⟨j, rfl⟩ := keysM_val l 0 k v (by rw [h]; rfl)
    rfl
def AddR (g : GD) (sts : List StD) (l : List Itm) (z : Sym) (fr : Int) (sts' : List StD) (v : Value) : Prop :=
  ((lookM (keysM sts 0) ⟨(wkey l).toArray⟩).isSome = true ∧ sts' = sts ∧ v = .int .i64 (keyAt sts ⟨(wkey l).toArray⟩)) ∨
  ((lookM (keysM sts 0) ⟨(wkey l).toArray⟩).isSome = false ∧ ∃ A c, sts' = sts ++ [⟨A, c, closG g l, (l.length : Int), none, 0, [], z, fr⟩] ∧ v = .int .i64 (sts.length : Nat))
theorem closG_pre {g : GD} {l : List Itm} (h : ((closF g l).1).take l.length = l) : (closG g l).take l.length = l := by
  unfold closG
  have hl : l.length ≤ (closF g l).1.length := by
    have := congrArg List.length h
    rw [List.length_take] at this; omega
  rw [List.take_append_of_le_length (by rw [List.length_take]; omega), List.take_take, Nat.min_self, h]
theorem closF_pre (g : GD) (K : List Itm) : ((closF g K).1).take K.length = K := by
  refine fixN_inv (P := fun h : CS => h.1.take K.length = K) (fun h hp => ?_) _ _ List.take_length
  have hl : K.length ≤ h.1.length := by
    have := congrArg List.length hp
    rw [List.length_take] at this; omega
  unfold stepC
  split
  · split
    · show (h.1 ++ _).take K.length = K
      rw [List.take_append_of_le_length hl]; exact hp
    · exact hp
  · exact hp
theorem stKey_new {g : GD} {l : List Itm} {A : Option Addr} {c : Nat} {z : Sym} {fr : Int} : stKey ⟨A, c, closG g l, (l.length : Int), none, 0, [], z, fr⟩ = ⟨(wkey l).toArray⟩ := by
  unfold stKey
  simp only [Int.toNat_natCast]
  rw [closG_pre (closF_pre g l)]
theorem pf_57 : plainF Tryz.prog 57 = true := by kernel_rfl
theorem pf_64 : plainF Tryz.prog 64 = true := by kernel_rfl
theorem tA_120 : isAggT Tryz.prog 120 = some false := by kernel_rfl
theorem tA_28 : isAggT Tryz.prog 28 = some false := by kernel_rfl
theorem tA_95 : isAggT Tryz.prog 95 = some false := by kernel_rfl
theorem tE_95 : sliceT Tryz.prog 95 = some (94, 6, 80, (.agg #[(.slice none 0 0), (.int .i64 0), (.slice none 0 0), (.int .i64 0), (.int .i64 0), (.int .i64 0)])) := by kernel_rfl
theorem tF_97_1 : fieldT Tryz.prog 97 1 = some 4 := by kernel_rfl
theorem tP_94 : placesT Tryz.prog 94 = some #[(0, 1), (1, 1), (2, 1), (3, 2), (5, 1)] := by kernel_rfl
theorem tS_95 : sizeT Tryz.prog 95 = some 1 := by kernel_rfl
theorem tU_120 : Tryz.prog.underlying 120 = some (.map 9 3) := by kernel_rfl
theorem tU_95 : Tryz.prog.underlying 95 = some (.slice 94) := by kernel_rfl
theorem tZ_94 : zeroOf Tryz.prog 94 = some (.agg #[(.slice none 0 0), (.int .i64 0), (.slice none 0 0), (.int .i64 0), (.int .i64 0), (.int .i64 0)]) := by kernel_rfl
theorem add_calls (s : SP) (ba bm bp mb : Nat) (sA : Option Addr) (sc : Nat) (sts : List StD) (l : List Itm) (A : Option Addr) (c : Nat) (z : Sym) (fr : Int) (w0 : World) (w : World) (hE0 : Ext w0 w) (hS : SpR w0 s) (hG : GoodG s.g) (hT : TabP w0) (hbm : Blk w bm #[.map (some mb)] 120) (hbp : Blk w bp #[.pointer (some ⟨ba, 0, none⟩)] 28) (hba : Blk w ba #[(.slice s.lA s.lex.length s.lc), (.slice s.nA s.names.length s.nc), (.int .i64 s.start), (.slice s.pA s.prods.length s.pc), (.slice sA sts.length sc)] 97) (hm : MapB (fun s : ByteArray => .string s) w mb (keysM sts 0)) (ho : Vx.Own w 94 6 (.slice sA sts.length sc) sts.length (sts.flatMap StD.cs)) (hlo : ∀ k, (Value.slice sA sts.length sc).ownBlock = some k → w0.heap.size ≤ k) (hF : StF w0.heap.size w sts) (hA : Vx.Own w 42 2 (.slice A l.length c) l.length (l.flatMap Itm.cs)) (hn : l.length ≤ 100000000) (hst : sts.length ≤ 100000000000) (hI : ∀ x ∈ l, smallI x) (hO : ∀ x ∈ l, okI s.g x) (hN : s.names.length ≤ 128) (hP : s.prods.length ≤ 512) (hb0 : w0.heap.size ≤ ba ∧ w0.heap.size ≤ mb) :
    Calls Tryz.prog 63 #[(.slice A l.length c), (.agg #[(.int .i64 z.kind), (.int .i64 z.n)]), (.int .i64 fr), (.pointer (some ⟨bm, 0, none⟩)), (.pointer (some ⟨bp, 0, none⟩))] w (Ret (fun v w' => ∃ sts' sA' sc', AddR s.g sts l z fr sts' v ∧ Blk w' bm #[.map (some mb)] 120 ∧ Blk w' bp #[.pointer (some ⟨ba, 0, none⟩)] 28 ∧ Blk w' ba #[(.slice s.lA s.lex.length s.lc), (.slice s.nA s.names.length s.nc), (.int .i64 s.start), (.slice s.pA s.prods.length s.pc), (.slice sA' sts'.length sc')] 97 ∧ MapB (fun s : ByteArray => .string s) w' mb (keysM sts' 0) ∧ Vx.Own w' 94 6 (.slice sA' sts'.length sc') sts'.length (sts'.flatMap StD.cs) ∧ (∀ k, (Value.slice sA' sts'.length sc').ownBlock = some k → w0.heap.size ≤ k) ∧ StF w0.heap.size w' sts' ∧ Chg (fun k => k = ba ∨ k = mb ∨ (Value.slice sA sts.length sc).ownBlock = some k) w w')) := by
  have hsz0_ := hE0.size
  refine calls_xc (n := 49) (f := fun s_ => [(.slice A l.length c), (.agg #[(.int .i64 z.kind), (.int .i64 z.n)]), (.int .i64 fr), (.pointer (some ⟨bm, 0, none⟩)), (.pointer (some ⟨bp, 0, none⟩))].getD s_ undef) Tryz.func63 rfl rfl (by simp) (fun s_ => by simp) ?_
  refine xc_seq ?_
  refine xc_region ?_
  refine xl_op (P := Tryz.prog) (some 6) rfl rfl (ox_box (v := (.agg #[(.int .i64 z.kind), (.int .i64 z.n)])) rfl ?_)
  intro w1 e1 z1 b1
  replace b1 : Blk w1 w.heap.size #[(.int .i64 z.kind), (.int .i64 z.n)] 32 := b1
  refine xl_op (P := Tryz.prog) (some 8) rfl rfl (ox_assign (v := (.int .i64 0)) rfl ?_)
  refine xl_nil ?_
  refine xc_seq ?_
  refine xc_region ?_
  refine xl_op (P := Tryz.prog) (some 13) rfl rfl (ox_move (v := (.slice A l.length c)) rfl ?_)
  have x1 : Ext w0 w1 := (Ext.trans hE0 e1)
  refine xl_op (P := Tryz.prog) (some 14) rfl rfl (ox_callE (al := [(.slice A l.length c)]) pf_57 rfl (ret_mono (write_calls l A c w1 (Own.rowO (hA.ext e1)) (by omega) hI (TabIs.ext hT x1)) ?_))
  rintro _ w2 ⟨rfl, e2⟩
  have he2 := e2.size
  refine xl_op (P := Tryz.prog) (some 9) rfl rfl (ox_assign (v := (.string (⟨(wkey l).toArray⟩))) rfl ?_)
  refine xl_nil ?_
  refine xc_seq ?_
  refine xc_seq ?_
  refine xc_region ?_
  refine xl_op (P := Tryz.prog) (some 16) rfl rfl (ox_load (v := (.map (some mb))) tA_120 rfl (((hbm.ext e1).ext e2).cell rfl) ?_)
  refine xl_op (P := Tryz.prog) (some 17) rfl rfl (ox_move (v := (.string (⟨(wkey l).toArray⟩))) rfl ?_)
  refine xl_op (P := Tryz.prog) (some 18) rfl rfl (ox_lookup2V (enc := (fun s : ByteArray => .string s)) (.int .i64 ((keyAt sts (⟨(wkey l).toArray⟩ : ByteArray)))) ((lookM (keysM sts 0) (⟨(wkey l).toArray⟩ : ByteArray)).isSome) (keyT_string tU_9) tU_120 tZ_3 ((hm.ext e1).ext e2) rfl rfl (lookM_keys _ _) rfl ?_)
  refine xl_op (P := Tryz.prog) (some 15) rfl rfl (ox_move (v := (.tuple #[(.int .i64 ((keyAt sts (⟨(wkey l).toArray⟩ : ByteArray)))), (.bool ((lookM (keysM sts 0) (⟨(wkey l).toArray⟩ : ByteArray)).isSome))])) rfl ?_)
  refine xl_op (P := Tryz.prog) (some 19) rfl rfl (ox_extract (vs := #[(.int .i64 ((keyAt sts (⟨(wkey l).toArray⟩ : ByteArray)))), (.bool ((lookM (keysM sts 0) (⟨(wkey l).toArray⟩ : ByteArray)).isSome))]) (v := (.int .i64 ((keyAt sts (⟨(wkey l).toArray⟩ : ByteArray))))) rfl rfl ?_)
  refine xl_op (P := Tryz.prog) (some 20) rfl rfl (ox_extract (vs := #[(.int .i64 ((keyAt sts (⟨(wkey l).toArray⟩ : ByteArray)))), (.bool ((lookM (keysM sts 0) (⟨(wkey l).toArray⟩ : ByteArray)).isSome))]) (v := (.bool ((lookM (keysM sts 0) (⟨(wkey l).toArray⟩ : ByteArray)).isSome))) rfl rfl ?_)
  refine xl_op (P := Tryz.prog) (some 10) rfl rfl (ox_assign (v := (.int .i64 ((keyAt sts (⟨(wkey l).toArray⟩ : ByteArray))))) rfl ?_)
  refine xl_op (P := Tryz.prog) (some 11) rfl rfl (ox_assign (v := (.bool ((lookM (keysM sts 0) (⟨(wkey l).toArray⟩ : ByteArray)).isSome))) rfl ?_)
  refine xl_nil ?_
  refine xc_seq ?_
  refine xc_region ?_
  refine xl_op (P := Tryz.prog) (some 21) rfl rfl (ox_move (v := (.bool ((lookM (keysM sts 0) (⟨(wkey l).toArray⟩ : ByteArray)).isSome))) rfl ?_)
  refine xl_nil ?_
  refine xc_cond (b := ((lookM (keysM sts 0) (⟨(wkey l).toArray⟩ : ByteArray)).isSome)) rfl (fun h1 => ?_) (fun h1 => ?_)
  · skip
    have h1' := h1
    try simp only [Bool.or_eq_true, Bool.and_eq_true, decide_eq_true_eq, Bool.or_eq_false_iff, Bool.and_eq_false_iff, decide_eq_false_iff_not, Bool.not_eq_true', Bool.not_eq_false'] at h1'
    refine xc_seq ?_
    refine xc_region ?_
    refine xl_op (P := Tryz.prog) (some 22) rfl rfl (ox_move (v := (.int .i64 ((keyAt sts (⟨(wkey l).toArray⟩ : ByteArray))))) rfl ?_)
    refine xl_op (P := Tryz.prog) (some 8) rfl rfl (ox_assign (v := (.int .i64 ((keyAt sts (⟨(wkey l).toArray⟩ : ByteArray))))) rfl ?_)
    refine xl_nil ?_
    refine xc_ret ?_
    change leaves _ _ _ _ _ _ _
    refine leaves_nil (n := 49) (rs := [.tmp 8]) (vs := [(.int .i64 ((keyAt sts (⟨(wkey l).toArray⟩ : ByteArray))))]) rfl ⟨⟨by decide, rfl⟩, trivial⟩ ?_
    have x2 : Ext w w2 := (Ext.trans e1 e2)
    exact ⟨sts, sA, sc, (show AddR s.g sts l z fr sts _ from .inl ⟨h1, rfl, rfl⟩), ((hbm.ext e1).ext e2), ((hbp.ext e1).ext e2), ((hba.ext e1).ext e2), ((hm.ext e1).ext e2), ((ho.ext e1).ext e2), hlo, (StF.ext hF x2), (Chg.ext (Chg.ext (Chg.refl (fun k => k = ba ∨ k = mb ∨ (Value.slice sA sts.length sc).ownBlock = some k) w) e1) e2)⟩
  · skip
    have h1' := h1
    try simp only [Bool.or_eq_true, Bool.and_eq_true, decide_eq_true_eq, Bool.or_eq_false_iff, Bool.and_eq_false_iff, decide_eq_false_iff_not, Bool.not_eq_true', Bool.not_eq_false'] at h1'
    refine xc_skip ?_
    refine xc_seq ?_
    refine xc_region ?_
    refine xl_op (P := Tryz.prog) (some 23) rfl rfl (ox_load (v := (.pointer (some ⟨ba, 0, none⟩))) tA_28 rfl (((hbp.ext e1).ext e2).cell rfl) ?_)
    refine xl_op (P := Tryz.prog) (some 24) rfl rfl (ox_nilCheck (p := ⟨ba, 0, none⟩) rfl ?_)
    refine xl_op (P := Tryz.prog) (some 25) rfl rfl (ox_fieldAddr (b := ba) (o := 0) tF_97_1 rfl ?_)
    refine xl_op (P := Tryz.prog) (some 26) rfl rfl (ox_load (v := (.slice sA sts.length sc)) tA_95 rfl (((hba.ext e1).ext e2).cell rfl) ?_)
    refine xl_op (P := Tryz.prog) (some 27) rfl rfl (ox_len (A := sA) (n := sts.length) (cp := sc) rfl tU_95 rfl ?_)
    refine xl_op (P := Tryz.prog) (some 12) rfl rfl (ox_assign (v := (.int .i64 (((sts.length : Nat) : Int)))) rfl ?_)
    refine xl_nil ?_
    refine xc_seq ?_
    refine xc_region ?_
    refine xl_op (P := Tryz.prog) (some 28) rfl rfl (ox_load (v := (.map (some mb))) tA_120 rfl (((hbm.ext e1).ext e2).cell rfl) ?_)
    refine xl_op (P := Tryz.prog) (some 29) rfl rfl (ox_move (v := (.string (⟨(wkey l).toArray⟩))) rfl ?_)
    refine xl_op (P := Tryz.prog) (some 30) rfl rfl (ox_move (v := (.int .i64 (((sts.length : Nat) : Int)))) rfl ?_)
    refine xl_op (P := Tryz.prog) none rfl rfl (ox_mapUpdate (enc := (fun s : ByteArray => .string s)) (k := (⟨(wkey l).toArray⟩)) (v := (.int .i64 (((sts.length : Nat) : Int)))) (keyT_string tU_9) tU_120 ((hm.ext e1).ext e2) rfl rfl rfl ?_)
    intro w3 e3 z2 m1
    refine xl_nil ?_
    refine xc_seq ?_
    refine xc_regionE [17] (fun W_ => Chg (fun x => ((.slice sA sts.length sc) : Value).ownBlock = some x) w3 W_) hmix ?_
    intro w4 e4 z3
    have hS1 : Chg (fun x => ((.slice sA sts.length sc) : Value).ownBlock = some x) w3 w4 := Ext.to e4
    have q1 := (((hbp.ext e1).ext e2).keep1 e3 (fun _h => ((hm.ext e1).ext e2).ne_blk ((hbp.ext e1).ext e2) _h.symm))
    have q2 := (((ho.ext e1).ext e2).keep1 e3 (fun k hk => ((ho.ext e1).ext e2).ne_map ((hm.ext e1).ext e2) k hk))
    refine xd_take 0 (some 31) rfl rfl (by kernel_rfl) (v := (.pointer (some ⟨ba, 0, none⟩))) (.inl ⟨rfl, fun W_ hW_ => ox_load (v := (.pointer (some ⟨ba, 0, none⟩))) tA_28 rfl ((q1.keep hW_ (fun _h => (q2).ne_blk q1 (by decide) _ _h rfl)).cell rfl) ⟨rfl, rfl⟩⟩) hS1 ?_
    have q3 := (((hbp.ext e1).ext e2).keep1 e3 (fun _h => ((hm.ext e1).ext e2).ne_blk ((hbp.ext e1).ext e2) _h.symm))
    have q4 := (((ho.ext e1).ext e2).keep1 e3 (fun k hk => ((ho.ext e1).ext e2).ne_map ((hm.ext e1).ext e2) k hk))
    refine xd_take 1 (some 32) rfl rfl (by kernel_rfl) (v := (.pointer (some ⟨ba, 0, none⟩))) (.inl ⟨rfl, fun W_ hW_ => ox_load (v := (.pointer (some ⟨ba, 0, none⟩))) tA_28 rfl ((q3.keep hW_ (fun _h => (q4).ne_blk q3 (by decide) _ _h rfl)).cell rfl) ⟨rfl, rfl⟩⟩) hS1 ?_
    refine xd_pure 2 (some 33) rfl rfl (by kernel_rfl) (v := (.pointer (some ⟨ba, 0, none⟩))) (.inl ⟨rfl, fun W_ hW_ => ox_nilCheck (p := ⟨ba, 0, none⟩) rfl ⟨rfl, rfl⟩⟩) ?_
    refine xd_pure 3 (some 34) rfl rfl (by kernel_rfl) (v := (.pointer (some ⟨ba, 4, none⟩))) (.inl ⟨rfl, fun W_ hW_ => ox_fieldAddr (b := ba) (o := 0) tF_97_1 rfl ⟨rfl, rfl⟩⟩) ?_
    have q5 := (((hba.ext e1).ext e2).keep1 e3 (fun _h => ((hm.ext e1).ext e2).ne_blk ((hba.ext e1).ext e2) _h.symm))
    have q6 := (((ho.ext e1).ext e2).keep1 e3 (fun k hk => ((ho.ext e1).ext e2).ne_map ((hm.ext e1).ext e2) k hk))
    refine xd_take 4 (some 35) rfl rfl (by kernel_rfl) (v := (.slice sA sts.length sc)) (.inl ⟨rfl, fun W_ hW_ => ox_load (v := (.slice sA sts.length sc)) tA_95 rfl ((q5.keep hW_ (fun _h => (q6).ne_blk q5 (by decide) _ _h rfl)).cell rfl) ⟨rfl, rfl⟩⟩) hS1 ?_
    have q7 := (((hbp.ext e1).ext e2).keep1 e3 (fun _h => ((hm.ext e1).ext e2).ne_blk ((hbp.ext e1).ext e2) _h.symm))
    have q8 := (((ho.ext e1).ext e2).keep1 e3 (fun k hk => ((ho.ext e1).ext e2).ne_map ((hm.ext e1).ext e2) k hk))
    refine xd_take 5 (some 36) rfl rfl (by kernel_rfl) (v := (.pointer (some ⟨ba, 0, none⟩))) (.inl ⟨rfl, fun W_ hW_ => ox_load (v := (.pointer (some ⟨ba, 0, none⟩))) tA_28 rfl ((q7.keep hW_ (fun _h => (q8).ne_blk q7 (by decide) _ _h rfl)).cell rfl) ⟨rfl, rfl⟩⟩) hS1 ?_
    refine xd_pure 6 (some 37) rfl rfl (by kernel_rfl) (v := (.slice A l.length c)) (.inl ⟨rfl, fun W_ hW_ => ox_move (v := (.slice A l.length c)) rfl ⟨rfl, rfl⟩⟩) ?_
    refine xd_pure 8 (some 39) rfl rfl (by kernel_rfl) (v := (.slice A l.length c)) (.inl ⟨rfl, fun W_ hW_ => ox_move (v := (.slice A l.length c)) rfl ⟨rfl, rfl⟩⟩) ?_
    refine xd_pure 9 (some 40) rfl rfl (by kernel_rfl) (v := (.int .i64 (((l.length : Nat) : Int)))) (.inl ⟨rfl, fun W_ hW_ => ox_len (A := A) (n := l.length) (cp := c) rfl tU_39 rfl ⟨rfl, rfl⟩⟩) ?_
    have q9 := ((b1.ext e2).keep1 e3 (fun _h => ((hm.ext e1).ext e2).ne_blk (b1.ext e2) _h.symm))
    have q10 := (((ho.ext e1).ext e2).keep1 e3 (fun k hk => ((ho.ext e1).ext e2).ne_map ((hm.ext e1).ext e2) k hk))
    refine xd_take 10 (some 41) rfl rfl (by kernel_rfl) (v := (.agg #[(.int .i64 z.kind), (.int .i64 z.n)])) (.inl ⟨rfl, fun W_ hW_ => ox_loadN (vs := [(.int .i64 z.kind), (.int .i64 z.n)]) tA_32 tS_32 rfl rfl ⟨(q9.keep hW_ (fun _h => (q10).ne_blk q9 (by decide) _ _h rfl)).cell rfl, (q9.keep hW_ (fun _h => (q10).ne_blk q9 (by decide) _ _h rfl)).cell rfl, trivial⟩ ⟨rfl, rfl⟩⟩) hS1 ?_
    refine xd_pure 11 (some 42) rfl rfl (by kernel_rfl) (v := (.int .i64 fr)) (.inl ⟨rfl, fun W_ hW_ => ox_move (v := (.int .i64 fr)) rfl ⟨rfl, rfl⟩⟩) ?_
    have q11 := (((hba.ext e1).ext e2).keep1 e3 (fun _h => ((hm.ext e1).ext e2).ne_blk ((hba.ext e1).ext e2) _h.symm))
    have x3 : Ext w0 w4 := (Ext.trans (Ext.chg1 (Ext.trans x1 e2) e3 (by omega)) e4)
    have q12 := (((hA.ext e1).ext e2).keep1 e3 (fun k hk => ((hA.ext e1).ext e2).ne_map ((hm.ext e1).ext e2) k hk))
    refine xd_one 7 (some 38) rfl rfl (by kernel_rfl) rfl (ox_callE (al := [(.pointer (some ⟨ba, 0, none⟩)), (.slice A l.length c)]) pf_64 rfl (ret_mono (closure_calls s ba sA sts.length sc l A c w4 (q11.ext e4) (hS.ext x3) hG (Own.rowO (q12.ext e4)) (by omega) hN hP hO) ?_))
    rintro _ w5 ⟨A1, c1, rfl, hn1, e5⟩
    have he5 := e5.size
    have hS2 : Chg (fun x => ((.slice sA sts.length sc) : Value).ownBlock = some x) w3 w5 := Chg.ext hS1 e5
    refine ⟨.inr fun _ => hS2, ?_⟩
    refine xd_pure 12 (some 43) rfl rfl (by kernel_rfl) (v := (.agg #[(.slice A1 ((closG s.g l).length) c1), (.int .i64 (((l.length : Nat) : Int))), (.slice none 0 0), (.int .i64 z.kind), (.int .i64 z.n), (.int .i64 fr)])) (.inl ⟨rfl, fun W_ hW_ => ox_mkStruct (ps := [(0, (.slice A1 ((closG s.g l).length) c1)), (1, (.int .i64 (((l.length : Nat) : Int)))), (3, (.agg #[(.int .i64 z.kind), (.int .i64 z.n)])), (4, (.int .i64 fr))]) (cs := #[(.slice A1 ((closG s.g l).length) c1), (.int .i64 (((l.length : Nat) : Int))), (.slice none 0 0), (.int .i64 z.kind), (.int .i64 z.n), (.int .i64 fr)]) tZ_94 tP_94 rfl (by kernel_rfl) ⟨rfl, rfl⟩⟩) ?_
    refine xd_one 13 (some 44) rfl rfl (by kernel_rfl) rfl (ox_mkSlice (ps := [(0, (.agg #[(.slice A1 ((closG s.g l).length) c1), (.int .i64 (((l.length : Nat) : Int))), (.slice none 0 0), (.int .i64 z.kind), (.int .i64 z.n), (.int .i64 fr)]))]) (zs := #[(.slice none 0 0), (.int .i64 0), (.slice none 0 0), (.int .i64 0), (.int .i64 0), (.int .i64 0)]) (cs := #[(.slice A1 ((closG s.g l).length) c1), (.int .i64 (((l.length : Nat) : Int))), (.slice none 0 0), (.int .i64 z.kind), (.int .i64 z.n), (.int .i64 fr)]) tE_95 rfl (by decide) (by kernel_rfl) (by kernel_rfl) ?_)
    intro w6 e6 z4 b2
    replace b2 : Blk w6 w5.heap.size #[(.slice A1 ((closG s.g l).length) c1), (.int .i64 (((l.length : Nat) : Int))), (.slice none 0 0), (.int .i64 z.kind), (.int .i64 z.n), (.int .i64 fr)] 94 := b2
    have hS3 : Chg (fun x => ((.slice sA sts.length sc) : Value).ownBlock = some x) w3 w6 := Chg.ext hS2 e6
    refine ⟨.inr fun _ => hS3, ?_⟩
    have q13 := (((ho.ext e1).ext e2).keep1 e3 (fun k hk => ((ho.ext e1).ext e2).ne_map ((hm.ext e1).ext e2) k hk))
    refine xd_one 14 (some 45) rfl rfl (by kernel_rfl) rfl (ox_appD (l := sts) (r := [(StD.mk A1 c1 ((closG s.g l)) (((l.length : Nat) : Int)) none 0 [] (⟨z.kind, z.n⟩ : Sym) fr)]) (cs := StD.cs) rfl tE_95 rfl (by decide) StD.len StD.one (v := (.slice sA sts.length sc)) rfl rfl (m := 1) rfl (((q13.ext e4).ext e5).ext e6) b2.all (by first | omega | (simp only [List.length_append, List.length_cons, List.length_nil]; omega)) (by decide) ?_)
    intro A2 c2 w7 o1 e7 at1 hc1
    have he7 := e7.size
    have low1 : ∀ _k, (Value.slice A2 (sts ++ [(StD.mk A1 c1 ((closG s.g l)) (((l.length : Nat) : Int)) none 0 [] (⟨z.kind, z.n⟩ : Sym) fr)]).length c2).ownBlock = some _k → w0.heap.size ≤ _k := fun _k _h => by rcases at1 with _e | _e <;> rw [_e] at _h; exact hlo _k _h; exact (by cases _h; omega)
    have hS4 : Chg (fun x => ((.slice sA sts.length sc) : Value).ownBlock = some x) w3 w7 := Chg.trans hS3 e7 (fun x hx hl => hx)
    refine ⟨.inr fun _ => hS4, ?_⟩
    refine xd_pure 15 (some 46) rfl rfl (by kernel_rfl) (v := (.pointer (some ⟨ba, 0, none⟩))) (.inl ⟨rfl, fun W_ hW_ => ox_nilCheck (p := ⟨ba, 0, none⟩) rfl ⟨rfl, rfl⟩⟩) ?_
    refine xd_pure 16 (some 47) rfl rfl (by kernel_rfl) (v := (.pointer (some ⟨ba, 4, none⟩))) (.inl ⟨rfl, fun W_ hW_ => ox_fieldAddr (b := ba) (o := 0) tF_97_1 rfl ⟨rfl, rfl⟩⟩) ?_
    have q14 := ((((q11.ext e4).ext e5).ext e6).keep e7 (fun _h => (((q13.ext e4).ext e5).ext e6).ne_blk (((q11.ext e4).ext e5).ext e6) (by decide) _ _h rfl))
    refine xd_one 17 none rfl rfl (by kernel_rfl) rfl (ox_store (n := 1) (vs := [(.slice A2 ((sts ++ [(StD.mk A1 c1 ((closG s.g l)) (((l.length : Nat) : Int)) none 0 [] (⟨z.kind, z.n⟩ : Sym) fr)]).length) c2)]) tS_95 rfl (v := (.slice A2 ((sts ++ [(StD.mk A1 c1 ((closG s.g l)) (((l.length : Nat) : Int)) none 0 [] (⟨z.kind, z.n⟩ : Sym) fr)]).length) c2)) rfl rfl rfl rfl q14 (Nat.le_of_ble_eq_true rfl) ?_)
    intro w8 e8 z5 b3
    replace b3 : Blk w8 ba #[(.slice s.lA s.lex.length s.lc), (.slice s.nA s.names.length s.nc), (.int .i64 s.start), (.slice s.pA s.prods.length s.pc), (.slice A2 ((sts ++ [(StD.mk A1 c1 ((closG s.g l)) (((l.length : Nat) : Int)) none 0 [] (⟨z.kind, z.n⟩ : Sym) fr)]).length) c2)] 97 := b3
    refine ⟨.inl (by decide), ?_⟩
    refine xd_done (by kernel_rfl) ?_ _
    refine xc_seq ?_
    refine xc_region ?_
    refine xl_op (P := Tryz.prog) (some 48) rfl rfl (ox_move (v := (.int .i64 (((sts.length : Nat) : Int)))) rfl ?_)
    refine xl_op (P := Tryz.prog) (some 8) rfl rfl (ox_assign (v := (.int .i64 (((sts.length : Nat) : Int)))) rfl ?_)
    refine xl_nil ?_
    refine xc_ret ?_
    change leaves _ _ _ _ _ _ _
    refine leaves_nil (n := 49) (rs := [.tmp 8]) (vs := [(.int .i64 (((sts.length : Nat) : Int)))]) rfl ⟨⟨by decide, rfl⟩, trivial⟩ ?_
    have q15 := (((hbm.ext e1).ext e2).keep1 e3 (fun _h => ((hm.ext e1).ext e2).ne_blk ((hbm.ext e1).ext e2) _h.symm))
    have q16 := ((((q15.ext e4).ext e5).ext e6).keep e7 (fun _h => (((q13.ext e4).ext e5).ext e6).ne_blk (((q15.ext e4).ext e5).ext e6) (by decide) _ _h rfl))
    have q17 := (((hbp.ext e1).ext e2).keep1 e3 (fun _h => ((hm.ext e1).ext e2).ne_blk ((hbp.ext e1).ext e2) _h.symm))
    have q18 := ((((q17.ext e4).ext e5).ext e6).keep e7 (fun _h => (((q13.ext e4).ext e5).ext e6).ne_blk (((q17.ext e4).ext e5).ext e6) (by decide) _ _h rfl))
    have q19 := ((((m1.ext e4).ext e5).ext e6).keep e7 (fun _h => by rcases (((q13.ext e4).ext e5).ext e6).form with ⟨_e, _⟩ | ⟨_g, _c, _cur, _e, _hb, _⟩ <;> rw [_e] at _h <;> simp [Value.ownBlock] at _h; exact (((m1.ext e4).ext e5).ext e6).ne_blk _hb _h.symm))
    have q20 := (q19.keep1 e8 (fun _h => q19.ne_blk q14 _h))
    have hk9 : stKey (⟨A1, c1, closG s.g l, (l.length : Int), none, 0, [], ⟨z.kind, z.n⟩, fr⟩ : StD) = (⟨(wkey l).toArray⟩ : ByteArray) := stKey_new
    have hm9 := q20
    rw [← hk9] at hm9
    have hnn : lookM (keysM sts 0) (stKey (⟨A1, c1, closG s.g l, (l.length : Int), none, 0, [], ⟨z.kind, z.n⟩, fr⟩ : StD)) = none := by rw [hk9]; simpa using h1
    have hks := keysM_snoc hnn
    rw [Nat.zero_add] at hks
    rw [hks] at hm9
    have q21 := (o1.keep1 e8 (fun k hk => o1.ne_blk q14 (by decide) k hk))
    have x4 : Ext w w2 := (Ext.trans e1 e2)
    have x5 : Ext w3 w6 := (Ext.trans (Ext.trans e4 e5) e6)
    have q22 := (StF.ext (StF.keepM (StF.ext hF x4) e3 ((hm.ext e1).ext e2)) x5)
    have q23 := (StF.keepO q22 e7 (((q13.ext e4).ext e5).ext e6) (by decide) (by decide))
    have q24 := ((hn1.1.ext e6).keep e7 (fun _k _hk => (hn1.1.ext e6).ne_own (((q13.ext e4).ext e5).ext e6) (by decide) _k _hk))
    have q25 := (q24.keep1 e8 (fun k hk => q24.ne_blk q14 (by decide) k hk))
    exact ⟨sts ++ [(⟨A1, c1, closG s.g l, (l.length : Int), none, 0, [], ⟨z.kind, z.n⟩, fr⟩ : StD)], A2, c2, (show AddR s.g sts l z fr _ _ from .inr ⟨by simpa using h1, _, _, rfl, rfl⟩), (q16.keep1 e8 (q16.ne q14 (by decide))), (q18.keep1 e8 (q18.ne q14 (by decide))), b3, hm9, q21, (fun k hk => by have _h := low1 k hk; omega), StF.snoc (StF.keepB q23 e8 q14 (by decide) (by decide)) ⟨q25, (fun k hk => by have _h := hn1.2 k hk; omega), Vx.Own.nil _ _ _, (fun k hk => by simp [Value.ownBlock] at hk)⟩ rfl, (Chg.trans (Chg.trans (Chg.ext (Chg.ext (Chg.ext (Chg.trans (Chg.ext (Chg.ext (Chg.refl (fun k => k = ba ∨ k = mb ∨ (Value.slice sA sts.length sc).ownBlock = some k) w) e1) e2) e3 (fun k hk hl => .inr (.inl hk))) e4) e5) e6) e7 (fun k hk hl => .inr (.inr hk))) e8 (fun k hk hl => .inl hk))⟩
end Go.Proofs.YtnnmdkglgnlenaaGreatDoor
set_option linter.unusedVariables false
set_option linter.unusedSimpArgs false
set_option maxRecDepth 100000
set_option maxHeartbeats 4000000
namespace Go.Proofs.YtnnmdkglgnlenaaGreatDoor
open Go Go.RowKit Go.Vx
structure ASt where
  items : List Itm
  kern : Int
  arcs : List Arc
  sym : Sym
  frm : Int
deriving Inhabited
def StD.d (x : StD) : ASt := ⟨x.items, x.kern, x.arcs, x.sym, x.frm⟩
def ASt.key (x : ASt) : ByteArray := ⟨(wkey (x.items.take x.kern.toNat)).toArray⟩
def keysA : List ASt → Nat → List (ByteArray × Value)
  | [], _ => []
  | x :: l, i => (x.key, .int .i64 (i : Nat)) :: keysA l (i + 1)
theorem keysM_d : ∀ (l : List StD) (i : Nat), keysM l i = keysA (l.map StD.d) i
  | [], _ => rfl
  | x :: l, i => by rw [keysM, List.map_cons, keysA, keysM_d l (i + 1)]; rfl
def keyA (l : List ASt) (k : ByteArray) : Int := match lookM (keysA l 0) k with
  | some (.int _ i) => i
  | _ => 0
theorem keyAt_d (l : List StD) (k : ByteArray) : keyAt l k = keyA (l.map StD.d) k := by
  unfold keyAt keyA; rw [keysM_d]
  try (rcases lookM (keysA (l.map StD.d) 0) k with _ | v; rfl; cases v <;> rfl)
def addA (g : GD) (st : List ASt) (l : List Itm) (z : Sym) (fr : Int) : List ASt × Int :=
  if (lookM (keysA st 0) ⟨(wkey l).toArray⟩).isSome = true then (st, keyA st ⟨(wkey l).toArray⟩)
  else (st ++ [⟨closG g l, (l.length : Int), [], z, fr⟩], (st.length : Nat))
theorem addR_d {g : GD} {sts sts' : List StD} {l : List Itm} {z : Sym} {fr : Int} {v : Value} (h : AddR g sts l z fr sts' v) : ∃ i, v = .int .i64 i ∧ addA g (sts.map StD.d) l z fr = (sts'.map StD.d, i) := by
  unfold addA
  rcases h with ⟨h1, rfl, rfl⟩ | ⟨h1, A, c, rfl, rfl⟩
  · rw [keysM_d] at h1
    exact ⟨_, rfl, by rw [if_pos h1, ← keyAt_d]⟩
  · rw [keysM_d] at h1
    exact ⟨_, rfl, by rw [if_neg (by rw [h1]; decide), List.map_append, List.length_map]; rfl⟩
def arcS (g : GD) (at_ : Nat) (st : List ASt) (z : Sym) : List ASt :=
  let r := addA g st (overG g z (st[at_]!).items) z (at_ : Nat)
  r.1.set at_ { (r.1[at_]!) with arcs := (r.1[at_]!).arcs ++ [⟨z, r.2⟩] }
def rowS (g : GD) (at_ : Nat) (st : List ASt) : List ASt := (symsG g (st[at_]!).items).foldl (arcS g at_) st
def buildF (g : GD) : Nat → Nat → List ASt → Option (List ASt)
  | 0, _, _ => none
  | f + 1, at_, st => if at_ < st.length then (if 1024 ≤ at_ then none else buildF g f (at_ + 1) (rowS g at_ st)) else some st
def buildG (g : GD) : Option (List ASt) := buildF g 1025 0 (addA g [] [⟨-1, 0⟩] ⟨0, 0⟩ 0).1
def okJ (g : GD) (x : Itm) : Prop := okI g x ∧ x.dot ≤ ((rightG g x.p).length : Int)
theorem closF_okJ {g : GD} {K : List Itm} (hK : ∀ x ∈ K, okJ g x) : ∀ x ∈ (closF g K).1, okJ g x := by
  refine fixN_inv (P := fun h : CS => ∀ x ∈ h.1, okJ g x) (fun h hp => ?_) _ _ hK
  unfold stepC
  split
  · split
    · intro x hx
      rcases List.mem_append.1 hx with hx | hx
      · exact hp x hx
      · obtain ⟨i, p, h2, _, h3, _⟩ := (newP_mem K _).1 hx
        have h4 := (List.getElem?_eq_some_iff.1 h2).1
        rw [h3]; exact ⟨⟨.inr ⟨by simp only; omega, by simp only; omega⟩, Int.le_refl _⟩, by simp only; omega⟩
    · exact hp
  · exact hp
theorem srtItm_mem {l : List Itm} {x : Itm} : x ∈ srtItm l ↔ x ∈ l := List.mem_mergeSort
theorem closG_mem {g : GD} {K : List Itm} {x : Itm} : x ∈ closG g K ↔ x ∈ (closF g K).1 := by
  unfold closG
  rw [List.mem_append, srtItm_mem, ← List.mem_append, List.take_append_drop]
theorem closF_inv {g : GD} (hG : GoodG g) {K : List Itm} (hK : ∀ x ∈ K, okI g x) : InvC g K (closF g K) := by
  have key : ∀ (n : Nat) (h : CS), InvC g K h → InvC g K (fixN (stepC g K) n h) := by
    intro n
    induction n with
    | zero => intro h hi; exact hi
    | succ n ih =>
      intro h hi
      rw [fixN]
      split
      · rename_i hs; exact ih _ (stepC_ok hG hi hs).1
      · rename_i hs
        unfold stepC at hs ⊢
        split at hs
        · split at hs <;> exact absurd rfl hs
        · rename_i hlt; rw [if_neg hlt]; exact hi
  exact key _ _ (InvC.start hK)
theorem closG_len {g : GD} (hG : GoodG g) {K : List Itm} (hK : ∀ x ∈ K, okI g x) (hN : g.names ≤ 128) (hP : g.prods.length ≤ 512) : (closG g K).length ≤ K.length + 65536 := by
  have h1 := (closF_inv hG hK).most
  have h2 : g.names * g.prods.length ≤ 128 * 512 := Nat.mul_le_mul hN hP
  have h3 : (closG g K).length = (closF g K).1.length := by
    unfold closG
    rw [List.length_append, srtItm_len, ← List.length_append, List.take_append_drop]
  omega
theorem overG_mem {g : GD} {z : Sym} {l : List Itm} {x : Itm} : x ∈ overG g z l ↔ ∃ y ∈ l, behindG g y = some z ∧ x = ⟨y.p, y.dot + 1⟩ := by
  unfold overG overM
  rw [srtItm_mem, List.mem_filterMap]
  constructor
  · rintro ⟨y, hy, h⟩
    split at h
    · rename_i hb; exact ⟨y, hy, hb, (Option.some.inj h).symm⟩
    · cases h
  · rintro ⟨y, hy, hb, rfl⟩
    exact ⟨y, hy, by rw [if_pos hb]⟩
theorem overG_len {g : GD} {z : Sym} {l : List Itm} : (overG g z l).length ≤ l.length := by
  unfold overG overM
  rw [srtItm_len]; exact List.length_filterMap_le _ _
theorem overG_okJ {g : GD} {z : Sym} {l : List Itm} (h : ∀ x ∈ l, okJ g x) : ∀ x ∈ overG g z l, okJ g x := by
  intro x hx
  obtain ⟨y, hy, hb, rfl⟩ := overG_mem.1 hx
  have h1 := h y hy
  have h2 := (List.getElem?_eq_some_iff.1 hb).1
  have h3 := h1.1.2
  exact ⟨⟨h1.1.1, by simp only; omega⟩, by simp only; omega⟩
structure OkS (g : GD) (st : List ASt) : Prop where
  ok : ∀ x ∈ st, ∀ y ∈ x.items, okJ g y
  len : ∀ (i : Nat) (x : ASt), st[i]? = some x → x.items.length ≤ 65537 * (i + 1) ∧ x.items.length ≤ 67240962
theorem OkS.start {g : GD} (hG : GoodG g) (hN : g.names ≤ 128) (hP : g.prods.length ≤ 512) : OkS g (addA g [] [⟨-1, 0⟩] ⟨0, 0⟩ 0).1 := by
  have hK : ∀ x ∈ [(⟨-1, 0⟩ : Itm)], okJ g x := fun x hx => by
    rw [List.mem_singleton.1 hx]; exact ⟨⟨.inl rfl, Int.le_refl _⟩, by simp only; omega⟩
  have hl := closG_len hG (K := [⟨-1, 0⟩]) (fun x hx => (hK x hx).1) hN hP
  simp only [List.length_singleton] at hl
  have he : (addA g [] [⟨-1, 0⟩] ⟨0, 0⟩ 0).1 = [⟨closG g [⟨-1, 0⟩], 1, [], ⟨0, 0⟩, 0⟩] := rfl
  rw [he]
  refine ⟨fun x hx y hy => ?_, fun i x hx => ?_⟩
  · rw [List.mem_singleton.1 hx] at hy
    exact closF_okJ hK y (closG_mem.1 hy)
  · have hi := (List.getElem?_eq_some_iff.1 hx).1
    simp only [List.length_singleton] at hi
    have : i = 0 := by omega
    subst this
    simp only [List.getElem?_cons_zero, Option.some.injEq] at hx
    subst hx
    simp only; omega
theorem OkS.add {g : GD} (hG : GoodG g) (hN : g.names ≤ 128) (hP : g.prods.length ≤ 512) {st : List ASt} (h : OkS g st) {l : List Itm} {z : Sym} {fr : Int} {a : Nat} (hl : ∀ x ∈ l, okJ g x) (hle : l.length ≤ 65537 * (a + 1)) (ha : a < st.length) (ha2 : a < 1024) : OkS g (addA g st l z fr).1 ∧ st.length ≤ (addA g st l z fr).1.length ∧ (addA g st l z fr).1.length ≤ st.length + 1 := by
  unfold addA
  split
  · exact ⟨h, Nat.le_refl _, Nat.le_succ _⟩
  · have hc := closG_len hG (K := l) (fun x hx => (hl x hx).1) hN hP
    refine ⟨⟨fun x hx y hy => ?_, fun i x hx => ?_⟩, by simp, by simp⟩
    · rcases List.mem_append.1 hx with hx | hx
      · exact h.ok x hx y hy
      · rw [List.mem_singleton.1 hx] at hy
        exact closF_okJ hl y (closG_mem.1 hy)
    · by_cases hi : i < st.length
      · rw [List.getElem?_append_left hi] at hx; exact h.len i x hx
      · have hi2 := (List.getElem?_eq_some_iff.1 hx).1
        simp only [List.length_append, List.length_singleton] at hi2
        have : i = st.length := by omega
        subst this
        rw [List.getElem?_append_right (Nat.le_refl _), Nat.sub_self] at hx
        simp only [List.getElem?_cons_zero, Option.some.injEq] at hx
        subst hx
        simp only; omega
end Go.Proofs.YtnnmdkglgnlenaaGreatDoor
set_option linter.unusedVariables false
set_option linter.unusedSimpArgs false
set_option maxRecDepth 100000
set_option maxHeartbeats 4000000
namespace Go.Proofs.YtnnmdkglgnlenaaGreatDoor
open Go Go.RowKit Go.Vx
section
variable {B i : Nat} {w w' : World} {l : List StD} {x : StD}
theorem StF.at (h : StF B w l) (hx : l[i]? = some x) : StR B w x := h.all x (List.mem_of_getElem? hx)
theorem StF.arcs {A' : Option Addr} {c' : Nat} {as' : List Arc} (h : StF B w l) (hx : l[i]? = some x) (c : Chg (fun b => (Value.slice x.aA x.arcs.length x.ac).ownBlock = some b) w w') (ho : Vx.Own w' 101 3 (.slice A' as'.length c') as'.length (as'.flatMap Arc.cs))
    (hlo : ∀ k, (Value.slice A' as'.length c').ownBlock = some k → B ≤ k) (hat : (Value.slice A' as'.length c').ownBlock = (Value.slice x.aA x.arcs.length x.ac).ownBlock ∨ (Value.slice A' as'.length c').ownBlock = some w.heap.size) : StF B w' (l.set i { x with aA := A', ac := c', arcs := as' }) := by
  have hxr := h.at hx
  have hil := (List.getElem?_eq_some_iff.1 hx).1
  have items : ∀ y ∈ l, Vx.Own w' 42 2 (.slice y.iA y.items.length y.ic) y.items.length (y.items.flatMap Itm.cs) := fun y hy => (h.all y hy).items.keep c fun k h1 h2 => by
    obtain ⟨c1, h3⟩ := own_type (h.all y hy).items h1
    obtain ⟨c2, h4⟩ := own_type hxr.arcs h2
    rw [h3] at h4; cases h4
  have get : ∀ (j : Nat) (y : StD), (l.set i { x with aA := A', ac := c', arcs := as' })[j]? = some y → (j = i ∧ y = { x with aA := A', ac := c', arcs := as' }) ∨ (j ≠ i ∧ l[j]? = some y) := fun j y hy => by
    by_cases hj : j = i
    · subst hj
      rw [List.getElem?_set_self hil] at hy
      exact .inl ⟨rfl, (Option.some.inj hy).symm⟩
    · rw [List.getElem?_set_ne (fun hh => hj hh.symm)] at hy
      exact .inr ⟨hj, hy⟩
  have other : ∀ (j : Nat) (y : StD), j ≠ i → l[j]? = some y → ∀ k, (Value.slice y.aA y.arcs.length y.ac).ownBlock = some k → (Value.slice x.aA x.arcs.length x.ac).ownBlock = some k → False := fun j y hj hy k h1 h2 => by
    rcases Nat.lt_or_ge j i with h3 | h3
    · exact h.apart j i y x h3 hy hx k h1 h2
    · exact h.apart i j x y (by omega) hx hy k h2 h1
  refine ⟨fun y hy => ?_, fun a b y z hab hy hz k h1 h2 => ?_⟩
  · obtain ⟨j, hj⟩ := List.mem_iff_getElem?.1 hy
    rcases get j y hj with ⟨rfl, rfl⟩ | ⟨hji, hy⟩
    · exact ⟨items x (List.mem_of_getElem? hx), hxr.lowI, ho, hlo⟩
    · have hr := h.at hy
      exact ⟨items y (List.mem_of_getElem? hy), hr.lowI, hr.arcs.keep c fun k h1 h2 => other j y hji hy k h1 h2, hr.lowA⟩
  · have new : ∀ (j : Nat) (u : StD), j ≠ i → l[j]? = some u → ∀ k, (Value.slice u.aA u.arcs.length u.ac).ownBlock = some k → (Value.slice A' as'.length c').ownBlock = some k → False := fun j u hj hu k h1 h2 => by
      rcases hat with e | e
      · rw [e] at h2; exact other j u hj hu k h1 h2
      · rw [e] at h2
        have := (h.at hu).arcs.lt k h1
        cases h2; omega
    rcases get a y hy with ⟨ha, hya⟩ | ⟨ha, hy2⟩
    · rcases get b z hz with ⟨hb, _⟩ | ⟨hb, hz2⟩
      · omega
      · subst hya; exact new b z hb hz2 k h2 h1
    · rcases get b z hz with ⟨hb, hzb⟩ | ⟨hb, hz2⟩
      · subst hzb; exact new a y ha hy2 k h1 h2
      · exact h.apart a b y z hab hy2 hz2 k h1 h2
end
theorem check_good {g : GD} (h : (checkE g).1 = 0) : GoodG g ∧ g.names ≤ 128 ∧ g.prods.length ≤ 512 ∧ ∀ p ∈ g.prods, p.2.length ≤ 16 := by
  unfold checkE at h
  split at h
  · exact absurd h (by decide)
  · rename_i hl
    split at h
    · rename_i h1; exact absurd h h1
    · rename_i h1
      have h2 : (indG g).1 = 0 := Classical.byContradiction h1
      have h3 : longG g = false := by simpa using hl
      unfold longG at h3
      simp only [Bool.or_eq_false_iff, decide_eq_false_iff_not, List.any_eq_false, decide_eq_true_eq] at h3
      exact ⟨good_of h2, by omega, by omega, fun p hp => by have := h3.2 p hp; omega⟩
end Go.Proofs.YtnnmdkglgnlenaaGreatDoor
set_option linter.unusedVariables false
set_option linter.unusedSimpArgs false
set_option maxRecDepth 100000
set_option maxHeartbeats 4000000
namespace Go.Proofs.YtnnmdkglgnlenaaGreatDoor
open Go Go.RowKit Go.Vx
theorem addA_get {g : GD} {st : List ASt} {l : List Itm} {z : Sym} {fr : Int} {k : Nat} (hk : k < st.length) : (addA g st l z fr).1[k]? = st[k]? := by
  unfold addA
  split
  · rfl
  · exact List.getElem?_append_left hk
theorem bangA {st : List ASt} {i : Nat} {x : ASt} (h : st[i]? = some x) : st[i]! = x := by rw [List.getElem!_eq_getElem?_getD, h]; rfl
theorem OkS.set {g : GD} {st : List ASt} (h : OkS g st) {i : Nat} {x y : ASt} (hx : st[i]? = some x) (hi : y.items = x.items) : OkS g (st.set i y) := by
  have hil := (List.getElem?_eq_some_iff.1 hx).1
  refine ⟨fun u hu => ?_, fun k u hu => ?_⟩
  · rcases List.mem_or_eq_of_mem_set hu with hu | rfl
    · exact h.ok u hu
    · rw [hi]; exact h.ok x (List.mem_of_getElem? hx)
  · by_cases hk : k = i
    · subst hk
      rw [List.getElem?_set_self hil] at hu; cases hu
      rw [hi]; exact h.len k x hx
    · rw [List.getElem?_set_ne (fun hh => hk hh.symm)] at hu
      exact h.len k u hu
theorem arcS_ok {g : GD} (hG : GoodG g) (hN : g.names ≤ 128) (hP : g.prods.length ≤ 512) {st : List ASt} (h : OkS g st) {a : Nat} {z : Sym} {x : ASt} (hx : st[a]? = some x) (ha : a < 1024) :
    OkS g (arcS g a st z) ∧ st.length ≤ (arcS g a st z).length ∧ (arcS g a st z).length ≤ st.length + 1 ∧ ∃ y, (arcS g a st z)[a]? = some y ∧ y.items = x.items := by
  have hal := (List.getElem?_eq_some_iff.1 hx).1
  have hxl := h.len a x hx
  have hok : ∀ y ∈ overG g z x.items, okJ g y := overG_okJ (h.ok x (List.mem_of_getElem? hx))
  have hol : (overG g z x.items).length ≤ x.items.length := overG_len
  have hadd := OkS.add hG hN hP h (z := z) (fr := (a : Nat)) hok (a := a) (by omega) hal ha
  have hg : (addA g st (overG g z x.items) z (a : Nat)).1[a]? = some x := (addA_get hal).trans hx
  have he : arcS g a st z = (addA g st (overG g z x.items) z (a : Nat)).1.set a { x with arcs := x.arcs ++ [⟨z, (addA g st (overG g z x.items) z (a : Nat)).2⟩] } := by
    unfold arcS
    simp only [bangA hx, bangA hg]
  rw [he]
  refine ⟨hadd.1.set hg rfl, by rw [List.length_set]; exact hadd.2.1, by rw [List.length_set]; exact hadd.2.2, ⟨_, List.getElem?_set_self (by omega), rfl⟩⟩
theorem arcS_eq {g : GD} {st : List ASt} {a : Nat} {z : Sym} {x : ASt} (hx : st[a]? = some x) : arcS g a st z = (addA g st (overG g z x.items) z (a : Nat)).1.set a { x with arcs := x.arcs ++ [⟨z, (addA g st (overG g z x.items) z (a : Nat)).2⟩] } := by
  have hal := (List.getElem?_eq_some_iff.1 hx).1
  have hg : (addA g st (overG g z x.items) z (a : Nat)).1[a]? = some x := (addA_get hal).trans hx
  unfold arcS
  simp only [bangA hx, bangA hg]
theorem fold_ok {g : GD} (hG : GoodG g) (hN : g.names ≤ 128) (hP : g.prods.length ≤ 512) {a : Nat} (ha : a < 1024) : ∀ (zs : List Sym) {st : List ASt} {x : ASt}, OkS g st → st[a]? = some x → OkS g (zs.foldl (arcS g a) st) ∧ st.length ≤ (zs.foldl (arcS g a) st).length ∧ (zs.foldl (arcS g a) st).length ≤ st.length + zs.length
  | [], st, x, h, hx => ⟨h, Nat.le_refl _, Nat.le_refl _⟩
  | z :: zs, st, x, h, hx => by
    obtain ⟨h1, h2, h3, y, hy, _⟩ := arcS_ok hG hN hP h (z := z) hx ha
    obtain ⟨k1, k2, k3⟩ := fold_ok hG hN hP ha zs h1 hy
    rw [List.foldl_cons, List.length_cons]
    exact ⟨k1, by omega, by omega⟩
end Go.Proofs.YtnnmdkglgnlenaaGreatDoor
set_option linter.unusedVariables false
set_option linter.unusedSimpArgs false
set_option maxRecDepth 100000
set_option maxHeartbeats 4000000
namespace Go.Proofs.YtnnmdkglgnlenaaGreatDoor
open Go Go.RowKit Go.Vx
theorem cmpP_len : ∀ (l : List Sym) (p : Sym), (cmpP p l).length ≤ l.length
  | [], _ => Nat.le_refl _
  | x :: l, p => by
    rw [cmpP]
    split
    · have := cmpP_len l p; rw [List.length_cons]; omega
    · have := cmpP_len l x; rw [List.length_cons, List.length_cons]; omega
theorem symsG_len {g : GD} {l : List Itm} : (symsG g l).length ≤ l.length := by
  have h1 : ∀ m : List Sym, (compL m).length ≤ m.length := fun m => by
    cases m with
    | nil => exact Nat.le_refl _
    | cons x m => rw [compL, List.length_cons, List.length_cons]; have := cmpP_len m x; omega
  unfold symsG
  have h2 := h1 (srtSym (l.filterMap (behindG g)))
  have h3 := List.length_filterMap_le (behindG g) l
  rw [srtSym_len] at h2
  omega
structure OkP (st : List ASt) : Prop where
  frm : ∀ (k : Nat) (x : ASt), st[k]? = some x → k ≠ 0 → 0 ≤ x.frm ∧ x.frm < (k : Int)
  kern : ∀ x ∈ st, 0 ≤ x.kern ∧ x.kern ≤ (x.items.length : Int)
theorem closG_le {g : GD} {l : List Itm} : l.length ≤ (closG g l).length := by
  have := congrArg List.length (closG_pre (closF_pre g l))
  rw [List.length_take] at this; omega
theorem OkP.add {g : GD} {st : List ASt} (h : OkP st) {l : List Itm} {z : Sym} {a : Nat} (ha : a < st.length) : OkP (addA g st l z (a : Nat)).1 := by
  unfold addA
  split
  · exact h
  · refine ⟨fun k x hx hk => ?_, fun x hx => ?_⟩
    · by_cases hl : k < st.length
      · rw [List.getElem?_append_left hl] at hx; exact h.frm k x hx hk
      · have hi := (List.getElem?_eq_some_iff.1 hx).1
        simp only [List.length_append, List.length_singleton] at hi
        have : k = st.length := by omega
        subst this
        rw [List.getElem?_append_right (Nat.le_refl _), Nat.sub_self] at hx
        simp only [List.getElem?_cons_zero, Option.some.injEq] at hx
        subst hx
        simp only; omega
    · rcases List.mem_append.1 hx with hx | hx
      · exact h.kern x hx
      · rw [List.mem_singleton.1 hx]
        have := closG_le (g := g) (l := l)
        simp only; omega
theorem OkP.set {st : List ASt} (h : OkP st) {i : Nat} {x y : ASt} (hx : st[i]? = some x) (hi : y.items = x.items) (hk : y.kern = x.kern) (hf : y.frm = x.frm) : OkP (st.set i y) := by
  have hil := (List.getElem?_eq_some_iff.1 hx).1
  refine ⟨fun k u hu hk0 => ?_, fun u hu => ?_⟩
  · by_cases hki : k = i
    · subst hki
      rw [List.getElem?_set_self hil] at hu; cases hu
      rw [hf]; exact h.frm k x hx hk0
    · rw [List.getElem?_set_ne (fun hh => hki hh.symm)] at hu
      exact h.frm k u hu hk0
  · rcases List.mem_or_eq_of_mem_set hu with hu | rfl
    · exact h.kern u hu
    · rw [hi, hk]; exact h.kern x (List.mem_of_getElem? hx)
theorem OkP.arc {g : GD} {st : List ASt} (h : OkP st) {a : Nat} {z : Sym} {x : ASt} (hx : st[a]? = some x) : OkP (arcS g a st z) := by
  have hal := (List.getElem?_eq_some_iff.1 hx).1
  rw [arcS_eq hx]
  exact (h.add hal).set ((addA_get hal).trans hx) rfl rfl rfl
theorem OkP.start {g : GD} : OkP (addA g [] [⟨-1, 0⟩] ⟨0, 0⟩ 0).1 := by
  have he : (addA g [] [⟨-1, 0⟩] ⟨0, 0⟩ 0).1 = [⟨closG g [⟨-1, 0⟩], 1, [], ⟨0, 0⟩, 0⟩] := rfl
  rw [he]
  refine ⟨fun k x hx hk => ?_, fun x hx => ?_⟩
  · have hi := (List.getElem?_eq_some_iff.1 hx).1
    simp only [List.length_singleton] at hi; omega
  · rw [List.mem_singleton.1 hx]
    have := closG_le (g := g) (l := [⟨-1, 0⟩])
    simp only [List.length_singleton] at this
    simp only; omega
end Go.Proofs.YtnnmdkglgnlenaaGreatDoor
set_option linter.unusedVariables false
set_option linter.unusedSimpArgs false
set_option maxRecDepth 100000
set_option maxHeartbeats 4000000
namespace Go.Proofs.YtnnmdkglgnlenaaGreatDoor
open Go Go.RowKit Go.Vx
structure OkW (g : GD) (q k : Nat) (st : List ASt) : Prop where
  ok : OkS g st
  lt : q < st.length
  rest : ∀ (j : Nat) (x : ASt), q < j → st[j]? = some x → x.arcs = []
  now : ∀ x : ASt, st[q]? = some x → x.arcs.length = k
structure OkV (g : GD) (q : Nat) (st : List ASt) : Prop where
  ok : OkS g st
  rest : ∀ (j : Nat) (x : ASt), q ≤ j → st[j]? = some x → x.arcs = []
theorem OkV.start {g : GD} (hG : GoodG g) (hN : g.names ≤ 128) (hP : g.prods.length ≤ 512) : OkV g 0 (addA g [] [⟨-1, 0⟩] ⟨0, 0⟩ 0).1 := by
  refine ⟨OkS.start hG hN hP, fun j x _ hx => ?_⟩
  have he : (addA g [] [⟨-1, 0⟩] ⟨0, 0⟩ 0).1 = [⟨closG g [⟨-1, 0⟩], 1, [], ⟨0, 0⟩, 0⟩] := rfl
  rw [he] at hx
  have := List.mem_of_getElem? hx
  rw [List.mem_singleton.1 this]
theorem OkV.enter {g : GD} {q : Nat} {st : List ASt} (h : OkV g q st) (hq : q < st.length) : OkW g q 0 st :=
  ⟨h.ok, hq, fun j x hj hx => h.rest j x (Nat.le_of_lt hj) hx, fun x hx => by rw [h.rest q x (Nat.le_refl _) hx]; rfl⟩
theorem OkW.leave {g : GD} {q k : Nat} {st : List ASt} (h : OkW g q k st) : OkV g (q + 1) st := ⟨h.ok, fun j x hj hx => h.rest j x hj hx⟩
theorem addA_new {g : GD} {st : List ASt} {l : List Itm} {z : Sym} {fr : Int} {j : Nat} {x : ASt} (hj : st.length ≤ j) (hx : (addA g st l z fr).1[j]? = some x) : x.arcs = [] := by
  unfold addA at hx
  split at hx
  · have := (List.getElem?_eq_some_iff.1 hx).1
    simp only at this; omega
  · rw [List.getElem?_append_right hj] at hx
    have := List.mem_of_getElem? hx
    rw [List.mem_singleton.1 this]
theorem OkW.arc {g : GD} (hG : GoodG g) (hN : g.names ≤ 128) (hP : g.prods.length ≤ 512) {q k : Nat} {st : List ASt} {z : Sym} (h : OkW g q k st) (hq : q < 1024) : OkW g q (k + 1) (arcS g q st z) ∧ (arcS g q st z).length ≤ st.length + 1 := by
  have hlt0 := h.lt
  have hx : st[q]? = some st[q] := List.getElem?_eq_getElem h.lt
  obtain ⟨h1, h2, h3, y, hy, _⟩ := arcS_ok hG hN hP h.ok (z := z) hx hq
  have hlt := h.lt
  refine ⟨⟨h1, by omega, fun j x hj hxj => ?_, fun x hxq => ?_⟩, h3⟩
  · rw [arcS_eq hx, List.getElem?_set_ne (by omega)] at hxj
    by_cases hjl : j < st.length
    · rw [addA_get hjl] at hxj; exact h.rest j x hj hxj
    · exact addA_new (by omega) hxj
  · rw [arcS_eq hx, List.getElem?_set_self (by rw [arcS_eq hx, List.length_set] at h2; omega)] at hxq
    cases hxq
    have := h.now _ hx
    simp only [List.length_append, List.length_singleton]; omega
theorem addA_at {g : GD} {sts sts2 : List StD} {q : Nat} {l : List Itm} {z : Sym} {fr : Int} {x y : StD} {i : Int} (hx : sts[q]? = some x) (ha : addA g (sts.map StD.d) l z fr = (sts2.map StD.d, i)) (hy : sts2[q]? = some y) : y.d = x.d := by
  have hql := (List.getElem?_eq_some_iff.1 hx).1
  have h1 : (sts2.map StD.d)[q]? = some y.d := map_get hy
  have h2 := addA_get (g := g) (l := l) (z := z) (fr := fr) (st := sts.map StD.d) (k := q) (by rw [List.length_map]; exact hql)
  rw [ha] at h2
  rw [h1, map_get hx] at h2
  exact Option.some.inj h2
theorem arcS_walk {g : GD} {sts sts2 : List StD} {q : Nat} {z : Sym} {x y : StD} {i : Int} {A : Option Addr} {c : Nat} (hx : sts[q]? = some x) (ha : addA g (sts.map StD.d) (overG g z x.items) z (q : Nat) = (sts2.map StD.d, i)) (hy : sts2[q]? = some y) :
    (sts2.set q ⟨y.iA, y.ic, y.items, y.kern, A, c, y.arcs ++ [⟨z, i⟩], y.sym, y.frm⟩).map StD.d = arcS g q (sts.map StD.d) z ∧ y.d = x.d := by
  have hx' : (sts.map StD.d)[q]? = some x.d := map_get hx
  have hql := (List.getElem?_eq_some_iff.1 hx).1
  have hyd : y.d = x.d := by
    have h1 : (sts2.map StD.d)[q]? = some y.d := map_get hy
    have h2 := addA_get (g := g) (l := overG g z x.items) (z := z) (fr := (q : Nat)) (st := sts.map StD.d) (k := q) (by rw [List.length_map]; exact hql)
    rw [ha] at h2
    rw [h1, hx'] at h2
    exact Option.some.inj h2
  refine ⟨?_, hyd⟩
  rw [arcS_eq hx', List.map_set]
  have e1 : x.d.items = x.items := rfl
  have e2 : ({ x.d with arcs := x.d.arcs ++ [(⟨z, i⟩ : Arc)] } : ASt) = StD.d ⟨y.iA, y.ic, y.items, y.kern, A, c, y.arcs ++ [⟨z, i⟩], y.sym, y.frm⟩ := by
    rw [← hyd]; rfl
  rw [e1, ha, ← e2]; rfl
theorem add_lens {g : GD} {sts sts' : List StD} {l : List Itm} {z : Sym} {fr i : Int} (h : addA g (sts.map StD.d) l z fr = (sts'.map StD.d, i)) : sts.length ≤ sts'.length ∧ sts'.length ≤ sts.length + 1 := by
  have h1 := congrArg (fun p : List ASt × Int => p.1.length) h
  unfold addA at h1
  split at h1 <;> simp at h1 <;> omega
theorem okJ_small {g : GD} {x : Itm} (h : okJ g x) (hP : g.prods.length ≤ 512) (hR : ∀ p ∈ g.prods, p.2.length ≤ 16) : smallI x := by
  have h1 := h.1.1
  have h2 := h.1.2
  have h3 := h.2
  have h4 : (rightG g x.p).length ≤ 16 := by
    rcases h1 with h1 | ⟨h1, h5⟩
    · rw [rightG, if_pos h1]; simp
    · have hx : g.prods[x.p.toNat]? = some g.prods[x.p.toNat] := List.getElem?_eq_getElem (by omega)
      have h6 := hR _ (List.mem_of_getElem? hx)
      unfold rightG
      rw [if_neg (by omega)]
      rw [List.getElem!_eq_getElem?_getD, hx]; exact h6
  unfold smallI
  omega
theorem keysM_set {sts : List StD} {q : Nat} {x y : StD} : ∀ {i : Nat}, sts[q]? = some x → y.items = x.items → y.kern = x.kern → keysM (sts.set q y) i = keysM sts i := by
  induction sts generalizing q with
  | nil => intro i h; simp at h
  | cons a l ih =>
    intro i h hi hk
    cases q with
    | zero =>
      simp only [List.getElem?_cons_zero, Option.some.injEq] at h
      subst h
      rw [List.set_cons_zero, keysM, keysM, stKey, stKey, hi, hk]
    | succ q =>
      rw [List.set_cons_succ, keysM, keysM, ih (by simpa using h) hi hk]
theorem buildF_end {g : GD} {q : Nat} {st : List ASt} (hq : ¬ q < st.length) (hq2 : q ≤ 1024) : buildF g (1025 - q) q st = some st := by
  obtain ⟨f, hf⟩ : ∃ f, 1025 - q = f + 1 := ⟨1024 - q, by omega⟩
  rw [hf, buildF, if_neg hq]
theorem buildF_full {g : GD} {q : Nat} {st : List ASt} (hq : q < st.length) (hq2 : q ≤ 1024) (h : 1024 ≤ q) : buildF g (1025 - q) q st = none := by
  obtain ⟨f, hf⟩ : ∃ f, 1025 - q = f + 1 := ⟨1024 - q, by omega⟩
  rw [hf, buildF, if_pos hq, if_pos h]
theorem buildF_row {g : GD} {q : Nat} {st : List ASt} (hq : q < st.length) (h : q < 1024) : buildF g (1025 - q) q st = buildF g (1025 - (q + 1)) (q + 1) (rowS g q st) := by
  have hf : 1025 - q = (1025 - (q + 1)) + 1 := by omega
  rw [hf, buildF, if_pos hq, if_neg (by omega)]
theorem fold_take {α β : Type} {f : β → α → β} {l : List α} {k : Nat} {x : α} {b : β} (hx : l[k]? = some x) : (l.take (k + 1)).foldl f b = f ((l.take k).foldl f b) x := by
  rw [List.take_add_one, hx, List.foldl_append]; rfl
end Go.Proofs.YtnnmdkglgnlenaaGreatDoor
set_option linter.unusedVariables false
set_option linter.unusedSimpArgs false
set_option maxRecDepth 100000
set_option maxHeartbeats 4000000
namespace Go.Proofs.YtnnmdkglgnlenaaGreatDoor
open Go Go.RowKit Go.Vx
structure AutW (s2 : SP) (ba bm bp mb fb B : Nat) (sA : Option Addr) (sc : Nat) (sts : List StD) (w : World) : Prop where
  bm : Blk w bm #[.map (some mb)] 120
  bp : Blk w bp #[.pointer (some ⟨ba, 0, none⟩)] 28
  ba : Blk w ba #[(.slice s2.lA s2.lex.length s2.lc), (.slice s2.nA s2.names.length s2.nc), (.int .i64 s2.start), (.slice s2.pA s2.prods.length s2.pc), (.slice sA sts.length sc)] 97
  fb : Blk w fb #[.int .i64 0, .int .i64 0, .string ⟨#[]⟩] 75
  mp : MapB (fun s : ByteArray => .string s) w mb (keysM sts 0)
  st : Vx.Own w 94 6 (.slice sA sts.length sc) sts.length (sts.flatMap StD.cs)
  low : ∀ k, (Value.slice sA sts.length sc).ownBlock = some k → B ≤ k
  F : StF B w sts
theorem AutW.set {s2 : SP} {ba bm bp mb fb B q : Nat} {sA : Option Addr} {sc : Nat} {sts : List StD} {w : World} {x y : StD} (hx : sts[q]? = some x) (hi : y.items = x.items) (hk : y.kern = x.kern) (h1 : Blk w bm #[.map (some mb)] 120) (h2 : Blk w bp #[.pointer (some ⟨ba, 0, none⟩)] 28) (h3 : Blk w ba #[(.slice s2.lA s2.lex.length s2.lc), (.slice s2.nA s2.names.length s2.nc), (.int .i64 s2.start), (.slice s2.pA s2.prods.length s2.pc), (.slice sA sts.length sc)] 97) (h4 : Blk w fb #[.int .i64 0, .int .i64 0, .string ⟨#[]⟩] 75) (h5 : MapB (fun s : ByteArray => .string s) w mb (keysM sts 0))
    (h6 : Vx.Own w 94 6 (.slice sA sts.length sc) sts.length ((sts.set q y).flatMap StD.cs)) (h7 : ∀ k, (Value.slice sA sts.length sc).ownBlock = some k → B ≤ k) (h8 : StF B w (sts.set q y)) : AutW s2 ba bm bp mb fb B sA sc (sts.set q y) w := by
  refine ⟨h1, h2, ?_, h4, ?_, ?_, ?_, h8⟩
  · rw [List.length_set]; exact h3
  · rw [keysM_set hx hi hk]; exact h5
  · rw [List.length_set]; exact h6
  · rw [List.length_set]; exact h7
structure AutR (B : Nat) (w : World) (s : SP) (ba : Nat) (sA : Option Addr) (sc : Nat) (sts : List StD) : Prop where
  lowb : B ≤ ba
  ba : Blk w ba #[(.slice s.lA s.lex.length s.lc), (.slice s.nA s.names.length s.nc), (.int .i64 s.start), (.slice s.pA s.prods.length s.pc), (.slice sA sts.length sc)] 97
  st : Vx.Own w 94 6 (.slice sA sts.length sc) sts.length (sts.flatMap StD.cs)
  low : ∀ k, (Value.slice sA sts.length sc).ownBlock = some k → B ≤ k
  F : StF B w sts
theorem StF.mono {B B' : Nat} {w : World} {l : List StD} (hB : B' ≤ B) (h : StF B w l) : StF B' w l := ⟨fun x hx => have q := h.all x hx; ⟨q.items, fun k hk => Nat.le_trans hB (q.lowI k hk), q.arcs, fun k hk => Nat.le_trans hB (q.lowA k hk)⟩, h.apart⟩
theorem StF.nil {B : Nat} {w : World} : StF B w [] := ⟨fun x hx => (List.not_mem_nil hx).elim, fun i j x y _ hx => by simp at hx⟩
theorem OwnS.mono {B B' : Nat} {w : World} {s s' : SP} (hB : B' ≤ B) (h : OwnS B w s s') : OwnS B' w s s' :=
  ⟨h.lex.mono hB, h.lexL, fun j x y hx hy => (h.lexR j x y hx hy).mono hB, h.names.mono hB, h.nameq, h.start, h.prods.mono hB, h.prodsL, fun j x y hx hy => have q := h.prodsR j x y hx hy; ⟨q.left, q.right, q.row.mono hB, q.nil, q.few⟩, h.nilL, h.nilN, h.nilP, h.fl, h.fn, h.fp⟩
theorem OwnS.ext {B : Nat} {w w' : World} {s s' : SP} (h : OwnS B w s s') (c : Ext w w') : OwnS B w' s s' := h.keepC c fun _ _ _ hk => hk
theorem add_calls2 (s : SP) (ba bm bp mb : Nat) (sA : Option Addr) (sc : Nat) (sts : List StD) (l : List Itm) (A : Option Addr) (c : Nat) (z : Sym) (fr : Int) (w0 : World) (w : World) (hE0 : Ext w0 w) (hS : SpR w0 s) (hG : GoodG s.g) (hT : TabP w0) (hbm : Blk w bm #[.map (some mb)] 120) (hbp : Blk w bp #[.pointer (some ⟨ba, 0, none⟩)] 28) (hba : Blk w ba #[(.slice s.lA s.lex.length s.lc), (.slice s.nA s.names.length s.nc), (.int .i64 s.start), (.slice s.pA s.prods.length s.pc), (.slice sA sts.length sc)] 97) (hm : MapB (fun s : ByteArray => .string s) w mb (keysM sts 0)) (ho : Vx.Own w 94 6 (.slice sA sts.length sc) sts.length (sts.flatMap StD.cs)) (hlo : ∀ k, (Value.slice sA sts.length sc).ownBlock = some k → w0.heap.size ≤ k) (hF : StF w0.heap.size w sts) (hA : Vx.Own w 42 2 (.slice A l.length c) l.length (l.flatMap Itm.cs)) (hn : l.length ≤ 100000000) (hst : sts.length ≤ 100000000000) (hI : ∀ x ∈ l, smallI x) (hO : ∀ x ∈ l, okI s.g x) (hN : s.names.length ≤ 128) (hP : s.prods.length ≤ 512) (hb0 : w0.heap.size ≤ ba ∧ w0.heap.size ≤ mb) :
    Calls Tryz.prog 63 #[(.slice A l.length c), (.agg #[(.int .i64 z.kind), (.int .i64 z.n)]), (.int .i64 fr), (.pointer (some ⟨bm, 0, none⟩)), (.pointer (some ⟨bp, 0, none⟩))] w (Ret (fun v w' => ∃ i sts' sA' sc', v = .int .i64 i ∧ addA s.g (sts.map StD.d) l z fr = (sts'.map StD.d, i) ∧ Blk w' bm #[.map (some mb)] 120 ∧ Blk w' bp #[.pointer (some ⟨ba, 0, none⟩)] 28 ∧ Blk w' ba #[(.slice s.lA s.lex.length s.lc), (.slice s.nA s.names.length s.nc), (.int .i64 s.start), (.slice s.pA s.prods.length s.pc), (.slice sA' sts'.length sc')] 97 ∧ MapB (fun s : ByteArray => .string s) w' mb (keysM sts' 0) ∧ Vx.Own w' 94 6 (.slice sA' sts'.length sc') sts'.length (sts'.flatMap StD.cs) ∧ (∀ k, (Value.slice sA' sts'.length sc').ownBlock = some k → w0.heap.size ≤ k) ∧ StF w0.heap.size w' sts' ∧ Chg (fun k => k = ba ∨ k = mb ∨ (Value.slice sA sts.length sc).ownBlock = some k) w w')) := by
  refine ret_mono (add_calls s ba bm bp mb sA sc sts l A c z fr w0 w hE0 hS hG hT hbm hbp hba hm ho hlo hF hA hn hst hI hO hN hP hb0) ?_
  rintro v w' ⟨sts', sA', sc', hR, h⟩
  obtain ⟨i, rfl, hi⟩ := addR_d hR
  exact ⟨i, sts', sA', sc', rfl, hi, h⟩
theorem pf_61 : plainF Tryz.prog 61 = true := by kernel_rfl
theorem pf_62 : plainF Tryz.prog 62 = true := by kernel_rfl
theorem pf_63 : plainF Tryz.prog 63 = true := by kernel_rfl
theorem pf_65 : plainF Tryz.prog 65 = true := by kernel_rfl
theorem pf_66 : plainF Tryz.prog 66 = true := by kernel_rfl
theorem tA_39 : isAggT Tryz.prog 39 = some false := by kernel_rfl
theorem tA_92 : isAggT Tryz.prog 92 = some false := by kernel_rfl
theorem tE_92 : sliceT Tryz.prog 92 = some (101, 3, 24, (.agg #[(.int .i64 0), (.int .i64 0), (.int .i64 0)])) := by kernel_rfl
theorem tF_94_0 : fieldT Tryz.prog 94 0 = some 0 := by kernel_rfl
theorem tF_94_2 : fieldT Tryz.prog 94 2 = some 2 := by kernel_rfl
theorem tP_101 : placesT Tryz.prog 101 = some #[(0, 2), (2, 1)] := by kernel_rfl
theorem tP_97 : placesT Tryz.prog 97 = some #[(0, 4), (4, 1)] := by kernel_rfl
theorem tS_120 : sizeT Tryz.prog 120 = some 1 := by kernel_rfl
theorem tS_28 : sizeT Tryz.prog 28 = some 1 := by kernel_rfl
theorem tS_92 : sizeT Tryz.prog 92 = some 1 := by kernel_rfl
theorem tZ_101 : zeroOf Tryz.prog 101 = some (.agg #[(.int .i64 0), (.int .i64 0), (.int .i64 0)]) := by kernel_rfl
theorem tZ_120 : zeroOf Tryz.prog 120 = some (.map none) := by kernel_rfl
theorem tZ_28 : zeroOf Tryz.prog 28 = some (.pointer none) := by kernel_rfl
theorem tZ_97 : zeroOf Tryz.prog 97 = some (.agg #[(.slice none 0 0), (.slice none 0 0), (.int .i64 0), (.slice none 0 0), (.slice none 0 0)]) := by kernel_rfl
theorem build_calls (s : SP) (w : World) (hS : SpR w s) (hT : TabP w) :
    Calls Tryz.prog 34 #[(.agg #[(.slice s.lA s.lex.length s.lc), (.slice s.nA s.names.length s.nc), (.int .i64 s.start), (.slice s.pA s.prods.length s.pc)])] w (Ret (fun v w' => Ext w w' ∧ ((¬ (checkE s.g).1 = 0 ∧ v = .tuple #[.pointer none, .agg #[.int .i64 (checkE s.g).1, .int .i64 (checkE s.g).2, .string ⟨#[]⟩]]) ∨ ((checkE s.g).1 = 0 ∧ buildG s.g = none ∧ v = .tuple #[.pointer none, .agg #[.int .i64 80, .int .i64 0, .string ⟨#[]⟩]]) ∨ ((checkE s.g).1 = 0 ∧ ∃ s2 ba sA sc sts, buildG s.g = some (sts.map StD.d) ∧ OwnS w.heap.size w' s s2 ∧ AutR w.heap.size w' s2 ba sA sc sts ∧ v = .tuple #[.pointer (some ⟨ba, 0, none⟩), .agg #[.int .i64 0, .int .i64 0, .string ⟨#[]⟩]])))) := by
  have hfn := hS.fn.le; have hfl := hS.fl.le
  refine calls_xc (n := 94) (f := fun s_ => [(.agg #[(.slice s.lA s.lex.length s.lc), (.slice s.nA s.names.length s.nc), (.int .i64 s.start), (.slice s.pA s.prods.length s.pc)])].getD s_ undef) Tryz.func34 rfl rfl (by simp) (fun s_ => by simp) ?_
  refine xc_seq ?_
  refine xc_region ?_
  refine xl_op (P := Tryz.prog) (some 1) rfl rfl (ox_box (v := (.agg #[(.slice s.lA s.lex.length s.lc), (.slice s.nA s.names.length s.nc), (.int .i64 s.start), (.slice s.pA s.prods.length s.pc)])) rfl ?_)
  intro w1 e1 z1 b1
  replace b1 : Blk w1 w.heap.size #[(.slice s.lA s.lex.length s.lc), (.slice s.nA s.names.length s.nc), (.int .i64 s.start), (.slice s.pA s.prods.length s.pc)] 26 := b1
  refine xl_op (P := Tryz.prog) (some 2) rfl rfl (ox_assign (v := (.pointer none)) rfl ?_)
  refine xl_op (P := Tryz.prog) (some 3) rfl rfl (ox_alloc tZ_75 ?_)
  intro w2 e2 z2 b2
  replace b2 : Blk w2 w1.heap.size #[(.int .i64 0), (.int .i64 0), (.string (⟨#[]⟩))] 75 := b2
  refine xl_nil ?_
  refine xc_seq ?_
  refine xc_seq ?_
  refine xc_region ?_
  refine xl_op (P := Tryz.prog) (some 12) rfl rfl (ox_loadN (vs := [(.slice s.lA s.lex.length s.lc), (.slice s.nA s.names.length s.nc), (.int .i64 s.start), (.slice s.pA s.prods.length s.pc)]) tA_26 tS_26 rfl rfl ⟨(b1.ext e2).cell rfl, (b1.ext e2).cell rfl, (b1.ext e2).cell rfl, (b1.ext e2).cell rfl, trivial⟩ ?_)
  have x1 : Ext w w2 := (Ext.trans e1 e2)
  refine xl_op (P := Tryz.prog) (some 13) rfl rfl (ox_callE (al := [(.agg #[(.slice s.lA s.lex.length s.lc), (.slice s.nA s.names.length s.nc), (.int .i64 s.start), (.slice s.pA s.prods.length s.pc)])]) pf_62 rfl (ret_mono ((by have h9 := check_calls s w2 (hS.ext x1); unfold faultV at h9; exact h9)) ?_))
  rintro _ w3 ⟨rfl, e3⟩
  have he3 := e3.size
  refine xl_op (P := Tryz.prog) (some 4) rfl rfl (ox_alloc tZ_75 ?_)
  intro w4 e4 z3 b3
  replace b3 : Blk w4 w3.heap.size #[(.int .i64 0), (.int .i64 0), (.string (⟨#[]⟩))] 75 := b3
  refine xl_op (P := Tryz.prog) none rfl rfl (ox_store (n := 3) (vs := [(.int .i64 ((checkE s.g).1)), (.int .i64 ((checkE s.g).2)), (.string ((⟨#[]⟩ : ByteArray)))]) tS_75 rfl (v := (.agg #[(.int .i64 ((checkE s.g).1)), (.int .i64 ((checkE s.g).2)), (.string ((⟨#[]⟩ : ByteArray)))])) rfl rfl rfl rfl b3 (Nat.le_of_ble_eq_true rfl) ?_)
  intro w5 e5 z4 b4
  replace b4 : Blk w5 w3.heap.size #[(.int .i64 ((checkE s.g).1)), (.int .i64 ((checkE s.g).2)), (.string ((⟨#[]⟩ : ByteArray)))] 75 := blk_full b4 rfl
  refine xl_nil ?_
  refine xc_seq ?_
  refine xc_region ?_
  refine xl_op (P := Tryz.prog) (some 14) rfl rfl (ox_fieldAddr (b := w3.heap.size) (o := 0) tF_75_0 rfl ?_)
  refine xl_op (P := Tryz.prog) (some 15) rfl rfl (ox_load (v := (.int .i64 ((checkE s.g).1))) tA_73 rfl (b4.cell rfl) ?_)
  refine xl_op (P := Tryz.prog) (some 16) rfl rfl (ox_neq (k := .i64) (a := ((checkE s.g).1)) (b := 0) rfl rfl ?_)
  refine xl_nil ?_
  refine xc_if (p := ((checkE s.g).1 : Int) ≠ 0) rfl (fun h1 => ?_) (fun h1 => ?_)
  · skip
    refine xc_seq ?_
    refine xc_regionE [2] (fun W_ => Chg (fun _ => False) w5 W_) hmix ?_
    intro w6 e6 z5
    have hS1 : Chg (fun _ => False) w5 w6 := Ext.to e6
    refine xd_take 0 (some 17) rfl rfl (by kernel_rfl) (v := (.agg #[(.int .i64 ((checkE s.g).1)), (.int .i64 ((checkE s.g).2)), (.string ((⟨#[]⟩ : ByteArray)))])) (.inl ⟨rfl, fun W_ hW_ => ox_loadN (vs := [(.int .i64 ((checkE s.g).1)), (.int .i64 ((checkE s.g).2)), (.string ((⟨#[]⟩ : ByteArray)))]) tA_75 tS_75 rfl rfl ⟨(b4.ext hW_).cell rfl, (b4.ext hW_).cell rfl, (b4.ext hW_).cell rfl, trivial⟩ ⟨rfl, rfl⟩⟩) hS1 ?_
    refine xd_pure 1 (some 2) rfl rfl (by kernel_rfl) (v := (.pointer none)) (.inl ⟨rfl, fun W_ hW_ => ox_assign (v := (.pointer none)) rfl ⟨rfl, rfl⟩⟩) ?_
    have q1 := (((b2.ext e3).ext e4).keep1 e5 (by have _q := b2.lt; omega))
    refine xd_one 2 none rfl rfl (by kernel_rfl) rfl (ox_store (n := 3) (vs := [(.int .i64 ((checkE s.g).1)), (.int .i64 ((checkE s.g).2)), (.string ((⟨#[]⟩ : ByteArray)))]) tS_75 rfl (v := (.agg #[(.int .i64 ((checkE s.g).1)), (.int .i64 ((checkE s.g).2)), (.string ((⟨#[]⟩ : ByteArray)))])) rfl rfl rfl rfl (q1.ext e6) (Nat.le_of_ble_eq_true rfl) ?_)
    intro w7 e7 z6 b5
    replace b5 : Blk w7 w1.heap.size #[(.int .i64 ((checkE s.g).1)), (.int .i64 ((checkE s.g).2)), (.string ((⟨#[]⟩ : ByteArray)))] 75 := blk_full b5 rfl
    refine ⟨.inl (by decide), ?_⟩
    refine xd_done (by kernel_rfl) ?_ _
    refine xc_ret ?_
    change leaves _ _ _ _ _ _ _
    refine leaves_nil (n := 94) (rs := [.tmp 2, .cell 3 75]) (vs := [(.pointer none), (.agg #[(.int .i64 ((checkE s.g).1)), (.int .i64 ((checkE s.g).2)), (.string ((⟨#[]⟩ : ByteArray)))])]) rfl ⟨⟨by decide, rfl⟩, ⟨by decide, w1.heap.size, 0, 3, [(.int .i64 ((checkE s.g).1)), (.int .i64 ((checkE s.g).2)), (.string ((⟨#[]⟩ : ByteArray)))], rfl, tA_75, tS_75, rfl, ⟨b5.cell rfl, b5.cell rfl, b5.cell rfl, trivial⟩, rfl⟩, trivial⟩ ?_
    have x2 : Ext w w7 := (Ext.chg1 (Ext.trans (Ext.chg1 (Ext.trans (Ext.trans x1 e3) e4) e5 (by omega)) e6) e7 (by omega))
    exact ⟨x2, .inl ⟨by omega, rfl⟩⟩
  · skip
    have hck : (checkE s.g).1 = 0 := by omega
    have hgd := check_good hck
    refine xc_skip ?_
    refine xc_seq ?_
    refine xc_region ?_
    have q2 := ((((b1.ext e2).ext e3).ext e4).keep1 e5 ((((b1.ext e2).ext e3).ext e4).ne b3 (by decide)))
    refine xl_op (P := Tryz.prog) (some 18) rfl rfl (ox_loadN (vs := [(.slice s.lA s.lex.length s.lc), (.slice s.nA s.names.length s.nc), (.int .i64 s.start), (.slice s.pA s.prods.length s.pc)]) tA_26 tS_26 rfl rfl ⟨q2.cell rfl, q2.cell rfl, q2.cell rfl, q2.cell rfl, trivial⟩ ?_)
    have x3 : Ext w w5 := (Ext.chg1 (Ext.trans (Ext.trans x1 e3) e4) e5 (by omega))
    refine xl_op (P := Tryz.prog) (some 19) rfl rfl (ox_callE (al := [(.agg #[(.slice s.lA s.lex.length s.lc), (.slice s.nA s.names.length s.nc), (.int .i64 s.start), (.slice s.pA s.prods.length s.pc)])]) pf_61 rfl (ret_mono (own_calls s w5 (hS.ext x3)) ?_))
    rintro _ w8 ⟨s2, rfl, hOw, e8⟩
    have he8 := e8.size
    have x4 : Ext w w8 := (Ext.trans x3 e8)
    have hSpr : SpR w8 s2 := OwnS.spr (w0 := w) hOw
    have hg2 := OwnS.g hOw
    have hG2 : GoodG s2.g := by rw [hg2]; exact hgd.1
    have hNg : s2.g.names ≤ 128 := by rw [hg2]; exact hgd.2.1
    have hPg : s2.g.prods.length ≤ 512 := by rw [hg2]; exact hgd.2.2.1
    have hRg : ∀ p ∈ s2.g.prods, p.2.length ≤ 16 := by rw [hg2]; exact hgd.2.2.2
    have hN2 : s2.names.length ≤ 128 := hNg
    have hP2 : s2.prods.length ≤ 512 := by rw [← s2.gprods]; exact hPg
    have hT2 : TabP w8 := TabIs.ext hT x4
    have hB0 : w.heap.size ≤ w8.heap.size := (x4).size
    refine xl_op (P := Tryz.prog) (some 20) rfl rfl (ox_mkStruct (ps := [(0, (.agg #[(.slice s2.lA s2.lex.length s2.lc), (.slice s2.nA s2.names.length s2.nc), (.int .i64 s2.start), (.slice s2.pA s2.prods.length s2.pc)]))]) (cs := #[(.slice s2.lA s2.lex.length s2.lc), (.slice s2.nA s2.names.length s2.nc), (.int .i64 s2.start), (.slice s2.pA s2.prods.length s2.pc), (.slice none 0 0)]) tZ_97 tP_97 rfl (by kernel_rfl) ?_)
    refine xl_op (P := Tryz.prog) (some 21) rfl rfl (ox_box (v := (.agg #[(.slice s2.lA s2.lex.length s2.lc), (.slice s2.nA s2.names.length s2.nc), (.int .i64 s2.start), (.slice s2.pA s2.prods.length s2.pc), (.slice none 0 0)])) rfl ?_)
    intro w9 e9 z7 b6
    replace b6 : Blk w9 w8.heap.size #[(.slice s2.lA s2.lex.length s2.lc), (.slice s2.nA s2.names.length s2.nc), (.int .i64 s2.start), (.slice s2.pA s2.prods.length s2.pc), (.slice none 0 0)] 97 := b6
    refine xl_op (P := Tryz.prog) (some 5) rfl rfl (ox_alloc tZ_28 ?_)
    intro w10 e10 z8 b7
    replace b7 : Blk w10 w9.heap.size #[(.pointer none)] 28 := b7
    refine xl_op (P := Tryz.prog) none rfl rfl (ox_store (n := 1) (vs := [(.pointer (some ⟨w8.heap.size, 0, none⟩))]) tS_28 rfl (v := (.pointer (some ⟨w8.heap.size, 0, none⟩))) rfl rfl rfl rfl b7 (Nat.le_of_ble_eq_true rfl) ?_)
    intro w11 e11 z9 b8
    replace b8 : Blk w11 w9.heap.size #[(.pointer (some ⟨w8.heap.size, 0, none⟩))] 28 := b8
    refine xl_nil ?_
    refine xc_seq ?_
    refine xc_region ?_
    refine xl_op (P := Tryz.prog) (some 22) rfl rfl (ox_makeMap (enc := (fun s : ByteArray => .string s)) rfl ?_)
    intro w12 e12 z10 m1
    have he12 := e12.size
    refine xl_op (P := Tryz.prog) (some 6) rfl rfl (ox_alloc tZ_120 ?_)
    intro w13 e13 z11 b9
    replace b9 : Blk w13 w12.heap.size #[(.map none)] 120 := b9
    refine xl_op (P := Tryz.prog) none rfl rfl (ox_store (n := 1) (vs := [(.map (some w11.heap.size))]) tS_120 rfl (v := (.map (some w11.heap.size))) rfl rfl rfl rfl b9 (Nat.le_of_ble_eq_true rfl) ?_)
    intro w14 e14 z12 b10
    replace b10 : Blk w14 w12.heap.size #[(.map (some w11.heap.size))] 120 := b10
    refine xl_nil ?_
    refine xc_seq ?_
    refine xc_region ?_
    refine xl_op (P := Tryz.prog) (some 23) rfl rfl (ox_mkFunc (cs := [(.pointer (some ⟨w12.heap.size, 0, none⟩)), (.pointer (some ⟨w9.heap.size, 0, none⟩))]) rfl ?_)
    refine xl_op (P := Tryz.prog) (some 7) rfl rfl (ox_assign (v := (.func (.func 63) #[] #[(.pointer (some ⟨w12.heap.size, 0, none⟩)), (.pointer (some ⟨w9.heap.size, 0, none⟩))])) rfl ?_)
    refine xl_nil ?_
    refine xc_seq ?_
    refine xc_region ?_
    refine xl_op (P := Tryz.prog) (some 24) rfl rfl (ox_move (v := (.func (.func 63) #[] #[(.pointer (some ⟨w12.heap.size, 0, none⟩)), (.pointer (some ⟨w9.heap.size, 0, none⟩))])) rfl ?_)
    refine xl_op (P := Tryz.prog) (some 25) rfl rfl (ox_mkStruct (ps := [(0, (.int .i64 (-1)))]) (cs := #[(.int .i64 (-1)), (.int .i64 0)]) tZ_42 tP_42 rfl (by kernel_rfl) ?_)
    refine xl_op (P := Tryz.prog) (some 26) rfl rfl (ox_mkSlice (ps := [(0, (.agg #[(.int .i64 (-1)), (.int .i64 0)]))]) (zs := #[(.int .i64 0), (.int .i64 0)]) (cs := #[(.int .i64 (-1)), (.int .i64 0)]) tE_39 rfl (by decide) (by kernel_rfl) (by kernel_rfl) ?_)
    intro w15 e15 z13 b11
    replace b11 : Blk w15 w14.heap.size #[(.int .i64 (-1)), (.int .i64 0)] 42 := b11
    refine xl_op (P := Tryz.prog) (some 27) rfl rfl (ox_mkStruct (ps := []) (cs := #[(.int .i64 0), (.int .i64 0)]) tZ_32 tP_32 rfl (by kernel_rfl) ?_)
    have q3 := ((b6.ext e10).keep1 e11 ((b6.ext e10).ne b7 (by decide)))
    have q4 := (((q3.ext e12).ext e13).keep1 e14 (((q3.ext e12).ext e13).ne b9 (by decide)))
    have q5 := ((m1.ext e13).keep1 e14 (fun _h => (m1.ext e13).ne_blk b9 _h))
    have x5 : Ext w8 w15 := (Ext.trans (Ext.chg1 (Ext.trans (Ext.trans (Ext.chg1 (Ext.trans e9 e10) e11 (by omega)) e12) e13) e14 (by omega)) e15)
    have q6 := (((b8.ext e12).ext e13).keep1 e14 (((b8.ext e12).ext e13).ne b9 (by decide)))
    refine xl_op (P := Tryz.prog) (some 28) rfl rfl (ox_callV (cap := [(.pointer (some ⟨w12.heap.size, 0, none⟩)), (.pointer (some ⟨w9.heap.size, 0, none⟩))]) (al := [(.slice (some ⟨w14.heap.size, 0, none⟩) 1 1), (.agg #[(.int .i64 0), (.int .i64 0)]), (.int .i64 0)]) pf_63 rfl rfl (ret_mono (add_calls2 s2 w8.heap.size w12.heap.size w9.heap.size w11.heap.size none 0 ([] : List StD) [(⟨-1, 0⟩ : Itm)] ((some ⟨w14.heap.size, 0, none⟩)) 1 (⟨0, 0⟩ : Sym) 0 w8 w15 x5 hSpr hG2 hT2 (b10.ext e15) (q6.ext e15) (q4.ext e15) (q5.ext e15) (Vx.Own.nil _ _ _) (fun k hk => by simp [Value.ownBlock] at hk) StF.nil (Vx.Own.lit (n := 1) (sz := 2) b11 rfl (by decide)) (by decide) (by decide) (fun x hx => by rw [List.mem_singleton.1 hx]; exact ⟨by decide, by decide⟩) (fun x hx => by rw [List.mem_singleton.1 hx]; exact ⟨.inl rfl, by decide⟩) hN2 hP2 ⟨by omega, by omega⟩) ?_))
    rintro _ w16 ⟨i1, sts1, sA1, sc1, rfl, hR1, hbm1, hbp1, hba1, hm1, ho1, hlo1, hF1, c1⟩
    have hc1 := c1.size
    have hs0 : (addA s2.g [] [⟨-1, 0⟩] ⟨0, 0⟩ 0).1 = sts1.map StD.d := congrArg Prod.fst hR1
    have hl0 : sts1.length = 1 := by have := congrArg List.length hs0; rw [List.length_map] at this; exact this.symm
    refine xl_nil ?_
    refine xc_seq ?_
    refine xc_seq ?_
    refine xc_region ?_
    refine xl_op (P := Tryz.prog) (some 8) rfl rfl (ox_assign (v := (.int .i64 0)) rfl ?_)
    refine xl_nil ?_
    refine xc_block ?_
    have q7 := (((b2.ext e3).ext e4).keep1 e5 (by have _q := b2.lt; omega))
    have q8 := ((((q7.ext e8).ext e9).ext e10).keep1 e11 ((((q7.ext e8).ext e9).ext e10).ne b7 (by decide)))
    have q9 := (((q8.ext e12).ext e13).keep1 e14 (((q8.ext e12).ext e13).ne b9 (by decide)))
    have q10 := ((q9.ext e15).keep c1 (fun hb => by rcases hb with hb | hb | hb <;> first | omega | simp [Value.ownBlock] at hb))
    have x7 : Ext w8 w16 := (Chg.trans x5 c1 (fun b hb hl => absurd hl (by have _h := (show w8.heap.size ≤ b from by rcases hb with hb | hb | hb <;> first | omega | exact (fun k hk => by simp [Value.ownBlock] at hk) b hb); omega)))
    refine xc_loopN (fun m_ f_ Wx => ∃ (q : Nat) (ts : List StD) (tA : Option Addr) (tc : Nat), m_ = 1024 - q ∧ (q ≤ 1024) ∧ (OkV s2.g q (ts.map StD.d)) ∧ (buildF s2.g (1025 - q) q (ts.map StD.d) = buildG s2.g) ∧ (ts.length ≤ 1 + q * 67240962) ∧ f_ 3 = (.pointer (some ⟨w1.heap.size, 0, none⟩)) ∧ f_ 5 = (.pointer (some ⟨w9.heap.size, 0, none⟩)) ∧ f_ 7 = (.func (.func 63) #[] #[(.pointer (some ⟨w12.heap.size, 0, none⟩)), (.pointer (some ⟨w9.heap.size, 0, none⟩))]) ∧ f_ 8 = (.int .i64 ((q : Nat))) ∧ (AutW s2 w8.heap.size w12.heap.size w9.heap.size w11.heap.size w1.heap.size w8.heap.size tA tc ts Wx) ∧ Ext w8 Wx) (1024) ?_ ?_
    · exact ⟨0, sts1, sA1, sc1, (by omega), (by omega), (by rw [← hs0]; exact OkV.start hG2 hNg hPg), (by rw [← hs0]; rfl), (by omega), rfl, rfl, rfl, (by first | exact rfl | exact (congrArg (Value.int .i64) (by omega))), ⟨hbm1, hbp1, hba1, q10, hm1, ho1, hlo1, hF1⟩, x7⟩
    · rintro m_ f1 w17 ⟨q, ts, tA, tc, hm_f1, hq, hV, hbd, htl, g3_f1, g5_f1, g7_f1, g8_f1, t0_f1, x6⟩
      have hx6 := x6.size
      have := t0_f1.bm.lt
      have := t0_f1.bp.lt
      have := t0_f1.ba.lt
      have := t0_f1.fb.lt
      have := t0_f1.mp.lt
      refine xc_seq ?_
      refine xc_seq ?_
      refine xc_region ?_
      refine xl_op (P := Tryz.prog) (some 29) rfl rfl (ox_move (v := (.int .i64 ((q : Nat)))) g8_f1 ?_)
      refine xl_op (P := Tryz.prog) (some 30) rfl rfl (ox_load (v := (.pointer (some ⟨w8.heap.size, 0, none⟩))) tA_28 g5_f1 (t0_f1.bp.cell rfl) ?_)
      refine xl_op (P := Tryz.prog) (some 31) rfl rfl (ox_nilCheck (p := ⟨w8.heap.size, 0, none⟩) rfl ?_)
      refine xl_op (P := Tryz.prog) (some 32) rfl rfl (ox_fieldAddr (b := w8.heap.size) (o := 0) tF_97_1 rfl ?_)
      refine xl_op (P := Tryz.prog) (some 33) rfl rfl (ox_load (v := (.slice tA ts.length tc)) tA_95 rfl (t0_f1.ba.cell rfl) ?_)
      refine xl_op (P := Tryz.prog) (some 34) rfl rfl (ox_len (A := tA) (n := ts.length) (cp := tc) rfl tU_95 rfl ?_)
      refine xl_op (P := Tryz.prog) (some 35) rfl rfl (ox_lss (k := .i64) (a := ((q : Nat))) (b := (((ts.length : Nat) : Int))) rfl rfl ?_)
      refine xl_nil ?_
      refine xc_if (p := ((q : Nat) : Int) < (((ts.length : Nat) : Int))) rfl (fun h2 => ?_) (fun h2 => ?_)
      · skip
        have hql : q < ts.length := by omega
        refine xc_skip ?_
        refine xc_seq ?_
        refine xc_block ?_
        refine xc_seq ?_
        refine xc_seq ?_
        refine xc_region ?_
        refine xl_op (P := Tryz.prog) (some 38) rfl rfl (ox_move (v := (.int .i64 ((q : Nat)))) g8_f1 ?_)
        refine xl_op (P := Tryz.prog) (some 39) rfl rfl (ox_geq (k := .i64) (a := ((q : Nat))) (b := 1024) rfl rfl ?_)
        refine xl_nil ?_
        refine xc_if (p := (1024 : Int) ≤ ((q : Nat))) rfl (fun h3 => ?_) (fun h3 => ?_)
        · skip
          refine xc_seq ?_
          refine xc_region ?_
          refine xl_op (P := Tryz.prog) (some 40) rfl rfl (ox_mkStruct (ps := [(0, (.int .i64 80))]) (cs := #[(.int .i64 80), (.int .i64 0), (.string (⟨#[]⟩))]) tZ_75 tP_75 rfl (by kernel_rfl) ?_)
          refine xl_op (P := Tryz.prog) (some 2) rfl rfl (ox_assign (v := (.pointer none)) rfl ?_)
          refine xl_op (P := Tryz.prog) none rfl rfl (ox_store (n := 3) (vs := [(.int .i64 80), (.int .i64 0), (.string (⟨#[]⟩))]) tS_75 g3_f1 (v := (.agg #[(.int .i64 80), (.int .i64 0), (.string (⟨#[]⟩))])) rfl rfl rfl rfl t0_f1.fb (Nat.le_of_ble_eq_true rfl) ?_)
          intro w18 e16 z14 b12
          replace b12 : Blk w18 w1.heap.size #[(.int .i64 80), (.int .i64 0), (.string (⟨#[]⟩))] 75 := blk_full b12 rfl
          refine xl_nil ?_
          refine xc_ret ?_
          change leaves _ _ _ _ _ _ _
          refine leaves_nil (n := 94) (rs := [.tmp 2, .cell 3 75]) (vs := [(.pointer none), (.agg #[(.int .i64 80), (.int .i64 0), (.string (⟨#[]⟩))])]) rfl ⟨⟨by decide, rfl⟩, ⟨by decide, w1.heap.size, 0, 3, [(.int .i64 80), (.int .i64 0), (.string (⟨#[]⟩))], g3_f1, tA_75, tS_75, rfl, ⟨b12.cell rfl, b12.cell rfl, b12.cell rfl, trivial⟩, rfl⟩, trivial⟩ ?_
          have x8 : Ext w w18 := (Ext.chg1 (Ext.trans x4 x6) e16 (by omega))
          exact ⟨x8, .inr (.inl ⟨hck, by rw [← hg2, ← hbd]; exact buildF_full (by rw [List.length_map]; exact hql) (by omega) (by omega), rfl⟩)⟩
        · skip
          refine xc_skip ?_
          refine xc_seq ?_
          refine xc_regionE [] (fun W_ => Chg (fun _ => False) w17 W_) hmix ?_
          intro w19 e17 z15
          have hS2 : Chg (fun _ => False) w17 w19 := Ext.to e17
          refine xd_take 0 (some 41) rfl rfl (by kernel_rfl) (v := (.pointer (some ⟨w8.heap.size, 0, none⟩))) (.inl ⟨rfl, fun W_ hW_ => ox_load (v := (.pointer (some ⟨w8.heap.size, 0, none⟩))) tA_28 g5_f1 ((t0_f1.bp.ext hW_).cell rfl) ⟨rfl, rfl⟩⟩) hS2 ?_
          refine xd_take 1 (some 42) rfl rfl (by kernel_rfl) (v := (.pointer (some ⟨w8.heap.size, 0, none⟩))) (.inl ⟨rfl, fun W_ hW_ => ox_load (v := (.pointer (some ⟨w8.heap.size, 0, none⟩))) tA_28 g5_f1 ((t0_f1.bp.ext hW_).cell rfl) ⟨rfl, rfl⟩⟩) hS2 ?_
          refine xd_pure 2 (some 43) rfl rfl (by kernel_rfl) (v := (.pointer (some ⟨w8.heap.size, 0, none⟩))) (.inl ⟨rfl, fun W_ hW_ => ox_nilCheck (p := ⟨w8.heap.size, 0, none⟩) rfl ⟨rfl, rfl⟩⟩) ?_
          refine xd_pure 3 (some 44) rfl rfl (by kernel_rfl) (v := (.pointer (some ⟨w8.heap.size, 4, none⟩))) (.inl ⟨rfl, fun W_ hW_ => ox_fieldAddr (b := w8.heap.size) (o := 0) tF_97_1 rfl ⟨rfl, rfl⟩⟩) ?_
          refine xd_take 4 (some 45) rfl rfl (by kernel_rfl) (v := (.slice tA ts.length tc)) (.inl ⟨rfl, fun W_ hW_ => ox_load (v := (.slice tA ts.length tc)) tA_95 rfl ((t0_f1.ba.ext hW_).cell rfl) ⟨rfl, rfl⟩⟩) hS2 ?_
          refine xd_pure 5 (some 46) rfl rfl (by kernel_rfl) (v := (.int .i64 ((q : Nat)))) (.inl ⟨rfl, fun W_ hW_ => ox_move (v := (.int .i64 ((q : Nat)))) g8_f1 ⟨rfl, rfl⟩⟩) ?_
          obtain ⟨x_1, g_1, hx_1⟩ := own_may (A := tA) q StD.len (by decide) t0_f1.st
          obtain ⟨hx_2, hA_1, hc_1⟩ := hx_1 (by first | omega | (simp only [List.length_drop, List.length_replicate, List.length_set, List.length_append, List.length_map, List.length_singleton] at *; omega))
          refine xd_pure 6 (some 47) rfl rfl (by kernel_rfl) (v := (.pointer (some ⟨g_1, 0 + q * 6, none⟩))) (.inl ⟨rfl, fun W_ hW_ => ox_ixA (b := g_1) (o := 0) (i := ((q : Nat))) q tE_95 hA_1 rfl rfl rfl (by omega) ⟨rfl, rfl⟩⟩) ?_
          refine xd_pure 7 (some 48) rfl rfl (by kernel_rfl) (v := (.pointer (some ⟨g_1, 0 + q * 6, none⟩))) (.inl ⟨rfl, fun W_ hW_ => ox_fieldAddr (b := g_1) (o := (0 + q * 6)) tF_94_0 rfl ⟨rfl, rfl⟩⟩) ?_
          refine xd_take 8 (some 49) rfl rfl (by kernel_rfl) (v := (.slice x_1.iA x_1.items.length x_1.ic)) (.inl ⟨rfl, fun W_ hW_ => ox_load (v := (.slice x_1.iA x_1.items.length x_1.ic)) tA_39 rfl (CellsL.at1 (CellsL.keep hW_ not_false hc_1) 0 rfl) ⟨rfl, rfl⟩⟩) hS2 ?_
          refine xd_pure 11 (some 52) rfl rfl (by kernel_rfl) (v := (.int .i64 0)) (.inl ⟨rfl, fun W_ hW_ => ox_move (v := (.int .i64 0)) rfl ⟨rfl, rfl⟩⟩) ?_
          have hxl := (hV.ok.len q _ (map_get hx_2)).2
          have hxk : ∀ y ∈ x_1.items, okI s2.g y := fun y hy => (hV.ok.ok x_1.d (List.mem_of_getElem? (map_get hx_2)) y hy).1
          have x9 : Ext w8 w19 := (Ext.trans x6 e17)
          refine xd_one 9 (some 50) rfl rfl (by kernel_rfl) rfl (ox_callE (al := [(.pointer (some ⟨w8.heap.size, 0, none⟩)), (.slice x_1.iA x_1.items.length x_1.ic)]) pf_65 rfl (ret_mono (symbols_calls s2 w8.heap.size tA ts.length tc x_1.items x_1.iA x_1.ic w19 (t0_f1.ba.ext e17) (hSpr.ext x9) (StF.at (StF.ext t0_f1.F e17) hx_2).items.rowO (Nat.le_trans hxl (by decide)) hxk) ?_))
          rintro _ w20 ⟨A1, c2, rfl, hn1, e18⟩
          have he18 := e18.size
          have hzl : (symsG s2.g x_1.items).length ≤ 67240962 := Nat.le_trans symsG_len hxl
          have hS3 : Chg (fun _ => False) w17 w20 := Chg.ext hS2 e18
          refine ⟨.inr fun _ => hS3, ?_⟩
          refine xd_pure 10 (some 51) rfl rfl (by kernel_rfl) (v := (.int .i64 ((((symsG s2.g x_1.items).length : Nat) : Int)))) (.inl ⟨rfl, fun W_ hW_ => ox_len (A := A1) (n := ((symsG s2.g x_1.items).length)) (cp := c2) rfl tU_33 rfl ⟨rfl, rfl⟩⟩) ?_
          refine xd_done (by kernel_rfl) ?_ _
          refine xc_block ?_
          have x11 : Ext w8 w20 := (Ext.trans x9 e18)
          refine xc_loopN (fun m_ f_ Wx => ∃ (k : Nat) (us : List StD) (uA : Option Addr) (uc : Nat), m_ = (symsG s2.g x_1.items).length - k ∧ (k ≤ (symsG s2.g x_1.items).length) ∧ (OkW s2.g q k (us.map StD.d)) ∧ (us.map StD.d = ((symsG s2.g x_1.items).take k).foldl (arcS s2.g q) (ts.map StD.d)) ∧ (us.length ≤ ts.length + k) ∧ f_ 3 = (.pointer (some ⟨w1.heap.size, 0, none⟩)) ∧ f_ 5 = (.pointer (some ⟨w9.heap.size, 0, none⟩)) ∧ f_ 7 = (.func (.func 63) #[] #[(.pointer (some ⟨w12.heap.size, 0, none⟩)), (.pointer (some ⟨w9.heap.size, 0, none⟩))]) ∧ f_ 8 = (.int .i64 ((q : Nat))) ∧ f_ 29 = (.int .i64 ((q : Nat))) ∧ f_ 30 = (.pointer (some ⟨w8.heap.size, 0, none⟩)) ∧ f_ 31 = (.pointer (some ⟨w8.heap.size, 0, none⟩)) ∧ f_ 32 = (.pointer (some ⟨w8.heap.size, 4, none⟩)) ∧ f_ 33 = (.slice tA ts.length tc) ∧ f_ 34 = (.int .i64 (((ts.length : Nat) : Int))) ∧ f_ 35 = (.bool (decide (((q : Nat) : Int) < (((ts.length : Nat) : Int))))) ∧ f_ 38 = (.int .i64 ((q : Nat))) ∧ f_ 39 = (.bool (decide ((1024 : Int) ≤ ((q : Nat))))) ∧ f_ 41 = (.pointer (some ⟨w8.heap.size, 0, none⟩)) ∧ f_ 42 = (.pointer (some ⟨w8.heap.size, 0, none⟩)) ∧ f_ 43 = (.pointer (some ⟨w8.heap.size, 0, none⟩)) ∧ f_ 44 = (.pointer (some ⟨w8.heap.size, 4, none⟩)) ∧ f_ 45 = (.slice tA ts.length tc) ∧ f_ 46 = (.int .i64 ((q : Nat))) ∧ f_ 47 = (.pointer (some ⟨g_1, 0 + q * 6, none⟩)) ∧ f_ 48 = (.pointer (some ⟨g_1, 0 + q * 6, none⟩)) ∧ f_ 49 = (.slice x_1.iA x_1.items.length x_1.ic) ∧ f_ 50 = (.slice A1 ((symsG s2.g x_1.items).length) c2) ∧ f_ 51 = (.int .i64 ((((symsG s2.g x_1.items).length : Nat) : Int))) ∧ f_ 52 = (.int .i64 ((k : Nat))) ∧ (AutW s2 w8.heap.size w12.heap.size w9.heap.size w11.heap.size w1.heap.size w8.heap.size uA uc us Wx) ∧ (Vx.Own Wx 32 2 (.slice A1 ((symsG s2.g x_1.items).length) c2) (symsG s2.g x_1.items).length ((symsG s2.g x_1.items).flatMap Sym.cs)) ∧ Ext w8 Wx) ((symsG s2.g x_1.items).length) ?_ ?_
          · exact ⟨0, ts, tA, tc, (by omega), (by omega), (hV.enter (by rw [List.length_map]; exact hql)), rfl, (by omega), g3_f1, g5_f1, g7_f1, g8_f1, rfl, rfl, rfl, rfl, rfl, rfl, rfl, rfl, rfl, rfl, rfl, rfl, rfl, rfl, rfl, rfl, rfl, rfl, rfl, rfl, (by first | exact rfl | exact (congrArg (Value.int .i64) (by omega))), ⟨((t0_f1.bm.ext e17).ext e18), ((t0_f1.bp.ext e17).ext e18), ((t0_f1.ba.ext e17).ext e18), ((t0_f1.fb.ext e17).ext e18), ((t0_f1.mp.ext e17).ext e18), ((t0_f1.st.ext e17).ext e18), t0_f1.low, (StF.ext (StF.ext t0_f1.F e17) e18)⟩, hn1.1, x11⟩
          · rintro m_ f2 w21 ⟨k, us, uA, uc, hm_f2, hk, hW, hfo, hul, g3_f2, g5_f2, g7_f2, g8_f2, g29_f2, g30_f2, g31_f2, g32_f2, g33_f2, g34_f2, g35_f2, g38_f2, g39_f2, g41_f2, g42_f2, g43_f2, g44_f2, g45_f2, g46_f2, g47_f2, g48_f2, g49_f2, g50_f2, g51_f2, g52_f2, t0_f2, t1_f2, x10⟩
            have hx10 := x10.size
            have := t0_f2.bm.lt
            have := t0_f2.bp.lt
            have := t0_f2.ba.lt
            have := t0_f2.fb.lt
            have := t0_f2.mp.lt
            have hWlt := hW.lt
            rw [List.length_map] at hWlt
            refine xc_seq ?_
            refine xc_region ?_
            refine xl_op (P := Tryz.prog) (some 53) rfl rfl (ox_lss (k := .i64) (a := ((k : Nat))) (b := ((((symsG s2.g x_1.items).length : Nat) : Int))) g52_f2 g51_f2 ?_)
            refine xl_nil ?_
            refine xc_seq ?_
            refine xc_if (p := ((k : Nat) : Int) < ((((symsG s2.g x_1.items).length : Nat) : Int))) rfl (fun h4 => ?_) (fun h4 => ?_)
            · skip
              refine xc_skip ?_
              refine xc_seq ?_
              refine xc_block ?_
              refine xc_seq ?_
              refine xc_region ?_
              obtain ⟨x_2, g_2, hx_3⟩ := own_may (A := A1) k Sym.len (by decide) t1_f2
              obtain ⟨hx_4, hA_2, hc_2⟩ := hx_3 (by first | omega | (simp only [List.length_drop, List.length_replicate, List.length_set, List.length_append, List.length_map, List.length_singleton] at *; omega))
              refine xl_op (P := Tryz.prog) (some 54) rfl rfl (ox_ixA (b := g_2) (o := 0) (i := ((k : Nat))) k tE_33 hA_2 g50_f2 g52_f2 rfl (by omega) ?_)
              refine xl_op (P := Tryz.prog) (some 55) rfl rfl (ox_loadN (vs := [(.int .i64 x_2.kind), (.int .i64 x_2.n)]) tA_32 tS_32 rfl rfl hc_2 ?_)
              refine xl_op (P := Tryz.prog) (some 10) rfl rfl (ox_alloc tZ_32 ?_)
              intro w22 e19 z16 b13
              replace b13 : Blk w22 w21.heap.size #[(.int .i64 0), (.int .i64 0)] 32 := b13
              refine xl_op (P := Tryz.prog) none rfl rfl (ox_store (n := 2) (vs := [(.int .i64 x_2.kind), (.int .i64 x_2.n)]) tS_32 rfl (v := (.agg #[(.int .i64 x_2.kind), (.int .i64 x_2.n)])) rfl rfl rfl rfl b13 (Nat.le_of_ble_eq_true rfl) ?_)
              intro w23 e20 z17 b14
              replace b14 : Blk w23 w21.heap.size #[(.int .i64 x_2.kind), (.int .i64 x_2.n)] 32 := blk_full b14 rfl
              refine xl_nil ?_
              refine xc_seq ?_
              refine xc_regionE [14] (fun W_ => Chg (fun _ => False) w23 W_) hmix ?_
              intro w24 e21 z18
              have hS4 : Chg (fun _ => False) w23 w24 := Ext.to e21
              refine xd_pure 0 (some 56) rfl rfl (by kernel_rfl) (v := (.func (.func 63) #[] #[(.pointer (some ⟨w12.heap.size, 0, none⟩)), (.pointer (some ⟨w9.heap.size, 0, none⟩))])) (.inl ⟨rfl, fun W_ hW_ => ox_move (v := (.func (.func 63) #[] #[(.pointer (some ⟨w12.heap.size, 0, none⟩)), (.pointer (some ⟨w9.heap.size, 0, none⟩))])) g7_f2 ⟨rfl, rfl⟩⟩) ?_
              have q11 := ((t0_f2.bp.ext e19).keep1 e20 ((t0_f2.bp.ext e19).ne b13 (by decide)))
              refine xd_takeU 1 (some 57) [11, 15, 14] rfl rfl (by kernel_rfl) (v := (.pointer (some ⟨w8.heap.size, 0, none⟩))) (.inl ⟨rfl, fun W_ hW_ => ox_load (v := (.pointer (some ⟨w8.heap.size, 0, none⟩))) tA_28 g5_f2 ((q11.ext hW_).cell rfl) ⟨rfl, rfl⟩⟩) hS4 ?_
              have q12 := ((t0_f2.bp.ext e19).keep1 e20 ((t0_f2.bp.ext e19).ne b13 (by decide)))
              refine xd_takeU 2 (some 58) [3, 15, 4, 5, 7, 8, 9, 11, 14] rfl rfl (by kernel_rfl) (v := (.pointer (some ⟨w8.heap.size, 0, none⟩))) (.inl ⟨rfl, fun W_ hW_ => ox_load (v := (.pointer (some ⟨w8.heap.size, 0, none⟩))) tA_28 g5_f2 ((q12.ext hW_).cell rfl) ⟨rfl, rfl⟩⟩) hS4 ?_
              refine xd_pure 3 (some 59) rfl rfl (by kernel_rfl) (v := (.pointer (some ⟨w8.heap.size, 0, none⟩))) (.inl ⟨rfl, fun W_ hW_ => ox_nilCheck (p := ⟨w8.heap.size, 0, none⟩) rfl ⟨rfl, rfl⟩⟩) ?_
              refine xd_pure 4 (some 60) rfl rfl (by kernel_rfl) (v := (.pointer (some ⟨w8.heap.size, 4, none⟩))) (.inl ⟨rfl, fun W_ hW_ => ox_fieldAddr (b := w8.heap.size) (o := 0) tF_97_1 rfl ⟨rfl, rfl⟩⟩) ?_
              have q13 := ((t0_f2.ba.ext e19).keep1 e20 ((t0_f2.ba.ext e19).ne b13 (by decide)))
              refine xd_takeU 5 (some 61) [7, 15, 8, 9, 11, 14] rfl rfl (by kernel_rfl) (v := (.slice uA us.length uc)) (.inl ⟨rfl, fun W_ hW_ => ox_load (v := (.slice uA us.length uc)) tA_95 rfl ((q13.ext hW_).cell rfl) ⟨rfl, rfl⟩⟩) hS4 ?_
              refine xd_pure 6 (some 62) rfl rfl (by kernel_rfl) (v := (.int .i64 ((q : Nat)))) (.inl ⟨rfl, fun W_ hW_ => ox_move (v := (.int .i64 ((q : Nat)))) g8_f2 ⟨rfl, rfl⟩⟩) ?_
              have q14 := ((t0_f2.st.ext e19).keep1 e20 (fun k hk => (t0_f2.st.ext e19).ne_blk b13 (by decide) k hk))
              obtain ⟨x_3, g_3, hx_5⟩ := own_may (A := uA) q StD.len (by decide) q14
              obtain ⟨hx_6, hA_3, hc_3⟩ := hx_5 (by first | omega | (simp only [List.length_drop, List.length_replicate, List.length_set, List.length_append, List.length_map, List.length_singleton] at *; omega))
              refine xd_pure 7 (some 63) rfl rfl (by kernel_rfl) (v := (.pointer (some ⟨g_3, 0 + q * 6, none⟩))) (.inl ⟨rfl, fun W_ hW_ => ox_ixA (b := g_3) (o := 0) (i := ((q : Nat))) q tE_95 hA_3 rfl rfl rfl (by omega) ⟨rfl, rfl⟩⟩) ?_
              refine xd_pure 8 (some 64) rfl rfl (by kernel_rfl) (v := (.pointer (some ⟨g_3, 0 + q * 6, none⟩))) (.inl ⟨rfl, fun W_ hW_ => ox_fieldAddr (b := g_3) (o := (0 + q * 6)) tF_94_0 rfl ⟨rfl, rfl⟩⟩) ?_
              refine xd_takeU 9 (some 65) [11, 15, 14] rfl rfl (by kernel_rfl) (v := (.slice x_3.iA x_3.items.length x_3.ic)) (.inl ⟨rfl, fun W_ hW_ => ox_load (v := (.slice x_3.iA x_3.items.length x_3.ic)) tA_39 rfl (CellsL.at1 (CellsL.keep hW_ not_false hc_3) 0 rfl) ⟨rfl, rfl⟩⟩) hS4 ?_
              refine xd_takeU 10 (some 66) [11, 15, 14] rfl rfl (by kernel_rfl) (v := (.agg #[(.int .i64 x_2.kind), (.int .i64 x_2.n)])) (.inl ⟨rfl, fun W_ hW_ => ox_loadN (vs := [(.int .i64 x_2.kind), (.int .i64 x_2.n)]) tA_32 tS_32 rfl rfl ⟨(b14.ext hW_).cell rfl, (b14.ext hW_).cell rfl, trivial⟩ ⟨rfl, rfl⟩⟩) hS4 ?_
              refine xd_takeU 12 (some 68) [14, 15] rfl rfl (by kernel_rfl) (v := (.agg #[(.int .i64 x_2.kind), (.int .i64 x_2.n)])) (.inl ⟨rfl, fun W_ hW_ => ox_loadN (vs := [(.int .i64 x_2.kind), (.int .i64 x_2.n)]) tA_32 tS_32 rfl rfl ⟨(b14.ext hW_).cell rfl, (b14.ext hW_).cell rfl, trivial⟩ ⟨rfl, rfl⟩⟩) hS4 ?_
              refine xd_pure 13 (some 69) rfl rfl (by kernel_rfl) (v := (.int .i64 ((q : Nat)))) (.inl ⟨rfl, fun W_ hW_ => ox_move (v := (.int .i64 ((q : Nat)))) g8_f2 ⟨rfl, rfl⟩⟩) ?_
              have hxl9 := (hW.ok.len q _ (map_get hx_6)).2
              have hxj : ∀ y ∈ x_3.items, okJ s2.g y := fun y hy => hW.ok.ok x_3.d (List.mem_of_getElem? (map_get hx_6)) y hy
              have q15 := ((t0_f2.ba.ext e19).keep1 e20 ((t0_f2.ba.ext e19).ne b13 (by decide)))
              have x12 : Ext w8 w24 := (Ext.trans (Ext.chg1 (Ext.trans x10 e19) e20 (by omega)) e21)
              have x13 : Ext w21 w24 := (Ext.trans (Ext.chg1 e19 e20 (by omega)) e21)
              refine xd_one 11 (some 67) rfl rfl (by kernel_rfl) rfl (ox_callE (al := [(.pointer (some ⟨w8.heap.size, 0, none⟩)), (.slice x_3.iA x_3.items.length x_3.ic), (.agg #[(.int .i64 x_2.kind), (.int .i64 x_2.n)])]) pf_66 rfl (ret_mono (over_calls s2 w8.heap.size uA us.length uc x_3.items x_3.iA x_3.ic (⟨x_2.kind, x_2.n⟩ : Sym) w24 (q15.ext e21) (hSpr.ext x12) (StF.at (StF.ext t0_f2.F x13) hx_6).items.rowO (Nat.le_trans hxl9 (by decide)) (fun y hy => (hxj y hy).1)) ?_))
              rintro _ w25 ⟨A2, c3, rfl, hn2, e22⟩
              have he22 := e22.size
              have hok9 : ∀ y ∈ (overG s2.g (⟨x_2.kind, x_2.n⟩ : Sym) x_3.items), okJ s2.g y := overG_okJ hxj
              have hol9 : (overG s2.g (⟨x_2.kind, x_2.n⟩ : Sym) x_3.items).length ≤ x_3.items.length := overG_len
              have hxl8 : x_3.items.length ≤ 67240962 := hxl9
              have hS5 : Chg (fun _ => False) w23 w25 := Chg.ext hS4 e22
              refine ⟨.inr fun _ => hS5, ?_⟩
              have q16 := ((t0_f2.mp.ext e19).keep1 e20 (fun _h => (t0_f2.mp.ext e19).ne_blk b13 _h))
              have x14 : Ext w8 w25 := (Ext.trans x12 e22)
              have q17 := ((t0_f2.bm.ext e19).keep1 e20 ((t0_f2.bm.ext e19).ne b13 (by decide)))
              have q18 := ((t0_f2.bp.ext e19).keep1 e20 ((t0_f2.bp.ext e19).ne b13 (by decide)))
              refine xd_one 14 (some 70) rfl rfl (by kernel_rfl) rfl (ox_callV (cap := [(.pointer (some ⟨w12.heap.size, 0, none⟩)), (.pointer (some ⟨w9.heap.size, 0, none⟩))]) (al := [(.slice A2 ((overG s2.g (⟨x_2.kind, x_2.n⟩ : Sym) x_3.items).length) c3), (.agg #[(.int .i64 x_2.kind), (.int .i64 x_2.n)]), (.int .i64 ((q : Nat)))]) pf_63 rfl rfl (ret_mono (add_calls2 s2 w8.heap.size w12.heap.size w9.heap.size w11.heap.size uA uc us (overG s2.g (⟨x_2.kind, x_2.n⟩ : Sym) x_3.items) A2 c3 (⟨x_2.kind, x_2.n⟩ : Sym) ((q : Nat)) w8 w25 x14 hSpr hG2 hT2 ((q17.ext e21).ext e22) ((q18.ext e21).ext e22) ((q15.ext e21).ext e22) ((q16.ext e21).ext e22) ((q14.ext e21).ext e22) t0_f2.low (StF.ext (StF.ext t0_f2.F x13) e22) hn2.1 (by omega) (by omega) (fun x hx => okJ_small (hok9 x hx) hPg hRg) (fun x hx => (hok9 x hx).1) hN2 hP2 ⟨by omega, by omega⟩) ?_))
              rintro _ w26 ⟨i2, sts2, sA2, sc2, rfl, hR2, hbm2, hbp2, hba2, hm2, ho2, hlo2, hF2, c4⟩
              have hc4 := c4.size
              have hls := add_lens hR2
              obtain ⟨x_4, g_4, hx_7⟩ := own_may (A := sA2) q StD.len (by decide) ho2
              obtain ⟨hx_8, hA_4, hc_4⟩ := hx_7 (by first | omega | (simp only [List.length_drop, List.length_replicate, List.length_set, List.length_append, List.length_map, List.length_singleton] at *; omega))
              have hyd : x_4.d = x_3.d := addA_at hx_6 hR2 hx_8
              have hya : x_4.arcs.length = k := by rw [show x_4.arcs = x_3.arcs from congrArg ASt.arcs hyd]; exact hW.now _ (map_get hx_6)
              refine ⟨.inl (by decide), ?_⟩
              refine xd_pure 15 (some 11) rfl rfl (by kernel_rfl) (v := (.int .i64 i2)) (.inl ⟨rfl, fun W_ hW_ => ox_assign (v := (.int .i64 i2)) rfl ⟨rfl, rfl⟩⟩) ?_
              refine xd_done (by kernel_rfl) ?_ _
              refine xc_regionE [20] (fun W_ => Chg (fun x => ((.slice x_4.aA x_4.arcs.length x_4.ac) : Value).ownBlock = some x) w26 W_) hmix ?_
              intro w27 e23 z19
              have hS6 : Chg (fun x => ((.slice x_4.aA x_4.arcs.length x_4.ac) : Value).ownBlock = some x) w26 w27 := Ext.to e23
              refine xd_take 0 (some 71) rfl rfl (by kernel_rfl) (v := (.pointer (some ⟨w8.heap.size, 0, none⟩))) (.inl ⟨rfl, fun W_ hW_ => ox_load (v := (.pointer (some ⟨w8.heap.size, 0, none⟩))) tA_28 g5_f2 ((hbp2.keep hW_ (fun _h => ((StF.at hF2 hx_8).arcs).ne_blk hbp2 (by decide) _ _h rfl)).cell rfl) ⟨rfl, rfl⟩⟩) hS6 ?_
              refine xd_pure 1 (some 72) rfl rfl (by kernel_rfl) (v := (.pointer (some ⟨w8.heap.size, 0, none⟩))) (.inl ⟨rfl, fun W_ hW_ => ox_nilCheck (p := ⟨w8.heap.size, 0, none⟩) rfl ⟨rfl, rfl⟩⟩) ?_
              refine xd_pure 2 (some 73) rfl rfl (by kernel_rfl) (v := (.pointer (some ⟨w8.heap.size, 4, none⟩))) (.inl ⟨rfl, fun W_ hW_ => ox_fieldAddr (b := w8.heap.size) (o := 0) tF_97_1 rfl ⟨rfl, rfl⟩⟩) ?_
              refine xd_take 3 (some 74) rfl rfl (by kernel_rfl) (v := (.slice sA2 sts2.length sc2)) (.inl ⟨rfl, fun W_ hW_ => ox_load (v := (.slice sA2 sts2.length sc2)) tA_95 rfl ((hba2.keep hW_ (fun _h => ((StF.at hF2 hx_8).arcs).ne_blk hba2 (by decide) _ _h rfl)).cell rfl) ⟨rfl, rfl⟩⟩) hS6 ?_
              refine xd_pure 4 (some 75) rfl rfl (by kernel_rfl) (v := (.int .i64 ((q : Nat)))) (.inl ⟨rfl, fun W_ hW_ => ox_move (v := (.int .i64 ((q : Nat)))) g8_f2 ⟨rfl, rfl⟩⟩) ?_
              refine xd_take 5 (some 76) rfl rfl (by kernel_rfl) (v := (.pointer (some ⟨w8.heap.size, 0, none⟩))) (.inl ⟨rfl, fun W_ hW_ => ox_load (v := (.pointer (some ⟨w8.heap.size, 0, none⟩))) tA_28 g5_f2 ((hbp2.keep hW_ (fun _h => ((StF.at hF2 hx_8).arcs).ne_blk hbp2 (by decide) _ _h rfl)).cell rfl) ⟨rfl, rfl⟩⟩) hS6 ?_
              refine xd_pure 6 (some 77) rfl rfl (by kernel_rfl) (v := (.pointer (some ⟨w8.heap.size, 0, none⟩))) (.inl ⟨rfl, fun W_ hW_ => ox_nilCheck (p := ⟨w8.heap.size, 0, none⟩) rfl ⟨rfl, rfl⟩⟩) ?_
              refine xd_pure 7 (some 78) rfl rfl (by kernel_rfl) (v := (.pointer (some ⟨w8.heap.size, 4, none⟩))) (.inl ⟨rfl, fun W_ hW_ => ox_fieldAddr (b := w8.heap.size) (o := 0) tF_97_1 rfl ⟨rfl, rfl⟩⟩) ?_
              refine xd_take 8 (some 79) rfl rfl (by kernel_rfl) (v := (.slice sA2 sts2.length sc2)) (.inl ⟨rfl, fun W_ hW_ => ox_load (v := (.slice sA2 sts2.length sc2)) tA_95 rfl ((hba2.keep hW_ (fun _h => ((StF.at hF2 hx_8).arcs).ne_blk hba2 (by decide) _ _h rfl)).cell rfl) ⟨rfl, rfl⟩⟩) hS6 ?_
              refine xd_pure 9 (some 80) rfl rfl (by kernel_rfl) (v := (.int .i64 ((q : Nat)))) (.inl ⟨rfl, fun W_ hW_ => ox_move (v := (.int .i64 ((q : Nat)))) g8_f2 ⟨rfl, rfl⟩⟩) ?_
              refine xd_pure 10 (some 81) rfl rfl (by kernel_rfl) (v := (.pointer (some ⟨g_4, 0 + q * 6, none⟩))) (.inl ⟨rfl, fun W_ hW_ => ox_ixA (b := g_4) (o := 0) (i := ((q : Nat))) q tE_95 hA_4 rfl rfl rfl (by omega) ⟨rfl, rfl⟩⟩) ?_
              refine xd_pure 11 (some 82) rfl rfl (by kernel_rfl) (v := (.pointer (some ⟨g_4, 0 + q * 6 + 2, none⟩))) (.inl ⟨rfl, fun W_ hW_ => ox_fieldAddr (b := g_4) (o := (0 + q * 6)) tF_94_2 rfl ⟨rfl, rfl⟩⟩) ?_
              refine xd_take 12 (some 83) rfl rfl (by kernel_rfl) (v := (.slice x_4.aA x_4.arcs.length x_4.ac)) (.inl ⟨rfl, fun W_ hW_ => ox_load (v := (.slice x_4.aA x_4.arcs.length x_4.ac)) tA_92 rfl (CellsL.at1 (CellsL.keep hW_ (fun _h => (ho2).ne_own (StF.at hF2 hx_8).arcs (by decide) _ (by rw [hA_4]; rfl) _h) hc_4) 2 rfl) ⟨rfl, rfl⟩⟩) hS6 ?_
              have q19 := (((b14.ext e21).ext e22).keep c4 (fun hb => by rcases hb with hb | hb | hb <;> first | omega | exact ((q14.ext e21).ext e22).ne_blk ((b14.ext e21).ext e22) (by decide) _ hb rfl))
              refine xd_take 13 (some 84) rfl rfl (by kernel_rfl) (v := (.agg #[(.int .i64 x_2.kind), (.int .i64 x_2.n)])) (.inl ⟨rfl, fun W_ hW_ => ox_loadN (vs := [(.int .i64 x_2.kind), (.int .i64 x_2.n)]) tA_32 tS_32 rfl rfl ⟨(q19.keep hW_ (fun _h => ((StF.at hF2 hx_8).arcs).ne_blk q19 (by decide) _ _h rfl)).cell rfl, (q19.keep hW_ (fun _h => ((StF.at hF2 hx_8).arcs).ne_blk q19 (by decide) _ _h rfl)).cell rfl, trivial⟩ ⟨rfl, rfl⟩⟩) hS6 ?_
              refine xd_pure 14 (some 85) rfl rfl (by kernel_rfl) (v := (.int .i64 i2)) (.inl ⟨rfl, fun W_ hW_ => ox_move (v := (.int .i64 i2)) rfl ⟨rfl, rfl⟩⟩) ?_
              refine xd_pure 15 (some 86) rfl rfl (by kernel_rfl) (v := (.agg #[(.int .i64 x_2.kind), (.int .i64 x_2.n), (.int .i64 i2)])) (.inl ⟨rfl, fun W_ hW_ => ox_mkStruct (ps := [(0, (.agg #[(.int .i64 x_2.kind), (.int .i64 x_2.n)])), (1, (.int .i64 i2))]) (cs := #[(.int .i64 x_2.kind), (.int .i64 x_2.n), (.int .i64 i2)]) tZ_101 tP_101 rfl (by kernel_rfl) ⟨rfl, rfl⟩⟩) ?_
              refine xd_one 16 (some 87) rfl rfl (by kernel_rfl) rfl (ox_mkSlice (ps := [(0, (.agg #[(.int .i64 x_2.kind), (.int .i64 x_2.n), (.int .i64 i2)]))]) (zs := #[(.int .i64 0), (.int .i64 0), (.int .i64 0)]) (cs := #[(.int .i64 x_2.kind), (.int .i64 x_2.n), (.int .i64 i2)]) tE_92 rfl (by decide) (by kernel_rfl) (by kernel_rfl) ?_)
              intro w28 e24 z20 b15
              replace b15 : Blk w28 w27.heap.size #[(.int .i64 x_2.kind), (.int .i64 x_2.n), (.int .i64 i2)] 101 := b15
              have hS7 : Chg (fun x => ((.slice x_4.aA x_4.arcs.length x_4.ac) : Value).ownBlock = some x) w26 w28 := Chg.ext hS6 e24
              refine ⟨.inr fun _ => hS7, ?_⟩
              have q20 := (((StF.at hF2 hx_8).arcs.ext e23).ext e24)
              have x15 : Ext w26 w28 := (Ext.trans e23 e24)
              refine xd_one 17 (some 88) rfl rfl (by kernel_rfl) rfl (ox_appD (l := x_4.arcs) (r := [(⟨⟨x_2.kind, x_2.n⟩, i2⟩ : Arc)]) (cs := Arc.cs) rfl tE_92 rfl (by decide) Arc.len Arc.one (v := (.slice x_4.aA x_4.arcs.length x_4.ac)) rfl rfl (m := 1) rfl q20 b15.all (by first | omega | (simp only [List.length_append, List.length_cons, List.length_nil]; omega)) (by decide) ?_)
              intro A3 c5 w29 o1 e25 at1 hc1
              have he25 := e25.size
              have low1 : ∀ _k, (Value.slice A3 (x_4.arcs ++ [(⟨⟨x_2.kind, x_2.n⟩, i2⟩ : Arc)]).length c5).ownBlock = some _k → w8.heap.size ≤ _k := fun _k _h => by rcases at1 with _e | _e <;> rw [_e] at _h; exact (StF.at hF2 hx_8).lowA _k _h; exact (by cases _h; omega)
              have hS8 : Chg (fun x => ((.slice x_4.aA x_4.arcs.length x_4.ac) : Value).ownBlock = some x) w26 w29 := Chg.trans hS7 e25 (fun x hx hl => hx)
              refine ⟨.inr fun _ => hS8, ?_⟩
              refine xd_pure 18 (some 89) rfl rfl (by kernel_rfl) (v := (.pointer (some ⟨g_4, 0 + q * 6, none⟩))) (.inl ⟨rfl, fun W_ hW_ => ox_ixA (b := g_4) (o := 0) (i := ((q : Nat))) q tE_95 hA_4 rfl rfl rfl (by omega) ⟨rfl, rfl⟩⟩) ?_
              refine xd_pure 19 (some 90) rfl rfl (by kernel_rfl) (v := (.pointer (some ⟨g_4, 0 + q * 6 + 2, none⟩))) (.inl ⟨rfl, fun W_ hW_ => ox_fieldAddr (b := g_4) (o := (0 + q * 6)) tF_94_2 rfl ⟨rfl, rfl⟩⟩) ?_
              have q21 := (((ho2.ext e23).ext e24).keep e25 (fun _k _hk => ((ho2.ext e23).ext e24).ne_own q20 (by decide) _k _hk))
              refine xd_one 20 none rfl rfl (by kernel_rfl) rfl (ox_stE (i := q) (off := 2) (vs := [(.slice A3 ((x_4.arcs ++ [(⟨⟨x_2.kind, x_2.n⟩, i2⟩ : Arc)]).length) c5)]) (b := ((StD.mk x_4.iA x_4.ic x_4.items x_4.kern A3 c5 (x_4.arcs ++ [(⟨⟨x_2.kind, x_2.n⟩, i2⟩ : Arc)]) (⟨x_4.sym.kind, x_4.sym.n⟩ : Sym) x_4.frm) : StD)) StD.len tS_92 hA_4 rfl (v := (.slice A3 ((x_4.arcs ++ [(⟨⟨x_2.kind, x_2.n⟩, i2⟩ : Arc)]).length) c5)) rfl rfl rfl rfl q21 hx_8 rfl (by decide) (by omega) ?_)
              intro w30 e26 z21 o2
              refine ⟨.inl (by decide), ?_⟩
              refine xd_done (by kernel_rfl) ?_ _
              refine xc_region ?_
              refine xl_op (P := Tryz.prog) (some 91) rfl rfl (ox_add64 (a := ((k : Nat))) (b := 1) g52_f2 rfl (by omega) ?_)
              refine xl_op (P := Tryz.prog) (some 52) rfl rfl (ox_move (v := (.int .i64 ((k : Nat) + 1))) rfl ?_)
              refine xl_nil ?_
              have haw := (arcS_walk (A := A3) (c := c5) hx_6 hR2 hx_8).1
              have hW2 := hW.arc hG2 hNg hPg (z := (⟨x_2.kind, x_2.n⟩ : Sym)) (by omega)
              have q22 := (((hbm2.ext e23).ext e24).keep e25 (fun _h => q20.ne_blk ((hbm2.ext e23).ext e24) (by decide) _ _h rfl))
              have q23 := (q22.keep e26 (fun _h => q21.ne_blk q22 (by decide) _ _h rfl))
              have q24 := (((hbp2.ext e23).ext e24).keep e25 (fun _h => q20.ne_blk ((hbp2.ext e23).ext e24) (by decide) _ _h rfl))
              have q25 := (q24.keep e26 (fun _h => q21.ne_blk q24 (by decide) _ _h rfl))
              have q26 := (((hba2.ext e23).ext e24).keep e25 (fun _h => q20.ne_blk ((hba2.ext e23).ext e24) (by decide) _ _h rfl))
              have q27 := (q26.keep e26 (fun _h => q21.ne_blk q26 (by decide) _ _h rfl))
              have q28 := ((t0_f2.fb.ext e19).keep1 e20 ((t0_f2.fb.ext e19).ne b13 (by decide)))
              have q29 := (((q28.ext e21).ext e22).keep c4 (fun hb => by rcases hb with hb | hb | hb <;> first | omega | exact ((q14.ext e21).ext e22).ne_blk ((q28.ext e21).ext e22) (by decide) _ hb rfl))
              have q30 := (((q29.ext e23).ext e24).keep e25 (fun _h => q20.ne_blk ((q29.ext e23).ext e24) (by decide) _ _h rfl))
              have q31 := (q30.keep e26 (fun _h => q21.ne_blk q30 (by decide) _ _h rfl))
              have q32 := (((hm2.ext e23).ext e24).keep e25 (fun _h => by rcases q20.form with ⟨_e, _⟩ | ⟨_g, _c, _cur, _e, _hb, _⟩ <;> rw [_e] at _h <;> simp [Value.ownBlock] at _h; exact ((hm2.ext e23).ext e24).ne_blk _hb _h.symm))
              have q33 := (q32.keep e26 (fun _h => by rcases q21.form with ⟨_e, _⟩ | ⟨_g, _c, _cur, _e, _hb, _⟩ <;> rw [_e] at _h <;> simp [Value.ownBlock] at _h; exact q32.ne_blk _hb _h.symm))
              have q34 := (StF.keepO (StF.arcs (StF.ext hF2 x15) hx_8 e25 o1 low1 at1) e26 q21 (by decide) (by decide))
              have q35 := ((t1_f2.ext e19).keep1 e20 (fun k hk => by have _q := (t1_f2.lt) k hk; omega))
              have q36 := (((q35.ext e21).ext e22).keep c4 (fun k hk hb => by rcases hb with hb | hb | hb <;> first | exact ((q35.ext e21).ext e22).ne_blk ((q15.ext e21).ext e22) (by decide) k hk hb | exact ((q35.ext e21).ext e22).ne_map ((q16.ext e21).ext e22) k hk hb | exact ((q35.ext e21).ext e22).ne_own ((q14.ext e21).ext e22) (by decide) k hk hb))
              have q37 := (((q36.ext e23).ext e24).keep e25 (fun _k _hk => ((q36.ext e23).ext e24).ne_own q20 (by decide) _k _hk))
              have q38 := (q37.keep e26 (fun _k _hk => q37.ne_own q21 (by decide) _k _hk))
              have x16 : Ext w8 w30 := (Chg.trans (Chg.trans (Ext.trans (Ext.trans (Chg.trans x14 c4 (fun b hb hl => absurd hl (by have _h := (show w8.heap.size ≤ b from by rcases hb with hb | hb | hb <;> first | omega | exact t0_f2.low b hb); omega))) e23) e24) e25 (fun b hb hl => (absurd hl (by have _h := (StF.at hF2 hx_8).lowA b hb; omega)))) e26 (fun b hb hl => (absurd hl (by have _h := hlo2 b hb; omega))))
              exact ⟨rfl, (symsG s2.g x_1.items).length - (k + 1), by omega, k + 1, (sts2.set q ((StD.mk x_4.iA x_4.ic x_4.items x_4.kern A3 c5 (x_4.arcs ++ [(⟨⟨x_2.kind, x_2.n⟩, i2⟩ : Arc)]) (⟨x_4.sym.kind, x_4.sym.n⟩ : Sym) x_4.frm))), sA2, sc2, by omega, (by omega), (by show OkW s2.g q (k + 1) ((List.set _ _ _).map StD.d); exact haw ▸ hW2.1), (haw.trans (by rw [hfo]; exact (fold_take hx_4).symm)), (by have h9 := hW2.2; rw [List.length_map] at h9; show (List.set _ _ _).length ≤ _; rw [List.length_set]; omega), g3_f2, g5_f2, g7_f2, g8_f2, g29_f2, g30_f2, g31_f2, g32_f2, g33_f2, g34_f2, g35_f2, g38_f2, g39_f2, g41_f2, g42_f2, g43_f2, g44_f2, g45_f2, g46_f2, g47_f2, g48_f2, g49_f2, g50_f2, g51_f2, (by first | exact rfl | exact (congrArg (Value.int .i64) (by omega))), (AutW.set hx_8 rfl rfl q23 q25 q27 q31 q33 o2 hlo2 q34), q38, x16⟩
            · skip
              refine xc_exit ?_
              refine xc_region ?_
              refine xl_op (P := Tryz.prog) (some 36) rfl rfl (ox_move (v := (.int .i64 ((q : Nat)))) g8_f2 ?_)
              refine xl_op (P := Tryz.prog) (some 37) rfl rfl (ox_add64 (a := ((q : Nat))) (b := 1) rfl rfl (by omega) ?_)
              refine xl_op (P := Tryz.prog) (some 8) rfl rfl (ox_assign (v := (.int .i64 ((q : Nat) + 1))) rfl ?_)
              refine xl_nil ?_
              have hrow : rowS s2.g q (ts.map StD.d) = us.map StD.d := by unfold rowS; rw [bangA (map_get hx_2), hfo, List.take_of_length_le (by omega)]; rfl
              exact ⟨rfl, 1024 - (q + 1), by omega, q + 1, us, uA, uc, by omega, (by omega), hW.leave, (by rw [← hrow, ← buildF_row (by rw [List.length_map]; exact hql) (by omega)]; exact hbd), (by omega), g3_f2, g5_f2, g7_f2, (by first | exact rfl | exact (congrArg (Value.int .i64) (by omega))), ⟨t0_f2.bm, t0_f2.bp, t0_f2.ba, t0_f2.fb, t0_f2.mp, t0_f2.st, t0_f2.low, t0_f2.F⟩, x10⟩
      · skip
        refine xc_exit ?_
        refine xc_seq ?_
        refine xc_region ?_
        refine xl_op (P := Tryz.prog) (some 92) rfl rfl (ox_load (v := (.pointer (some ⟨w8.heap.size, 0, none⟩))) tA_28 g5_f1 (t0_f1.bp.cell rfl) ?_)
        refine xl_op (P := Tryz.prog) (some 93) rfl rfl (ox_mkStruct (ps := []) (cs := #[(.int .i64 0), (.int .i64 0), (.string (⟨#[]⟩))]) tZ_75 tP_75 rfl (by kernel_rfl) ?_)
        refine xl_op (P := Tryz.prog) (some 2) rfl rfl (ox_assign (v := (.pointer (some ⟨w8.heap.size, 0, none⟩))) rfl ?_)
        refine xl_op (P := Tryz.prog) none rfl rfl (ox_store (n := 3) (vs := [(.int .i64 0), (.int .i64 0), (.string (⟨#[]⟩))]) tS_75 g3_f1 (v := (.agg #[(.int .i64 0), (.int .i64 0), (.string (⟨#[]⟩))])) rfl rfl rfl rfl t0_f1.fb (Nat.le_of_ble_eq_true rfl) ?_)
        intro w31 e27 z22 b16
        replace b16 : Blk w31 w1.heap.size #[(.int .i64 0), (.int .i64 0), (.string (⟨#[]⟩))] 75 := blk_full b16 rfl
        refine xl_nil ?_
        refine xc_ret ?_
        change leaves _ _ _ _ _ _ _
        refine leaves_nil (n := 94) (rs := [.tmp 2, .cell 3 75]) (vs := [(.pointer (some ⟨w8.heap.size, 0, none⟩)), (.agg #[(.int .i64 0), (.int .i64 0), (.string (⟨#[]⟩))])]) rfl ⟨⟨by decide, rfl⟩, ⟨by decide, w1.heap.size, 0, 3, [(.int .i64 0), (.int .i64 0), (.string (⟨#[]⟩))], g3_f1, tA_75, tS_75, rfl, ⟨b16.cell rfl, b16.cell rfl, b16.cell rfl, trivial⟩, rfl⟩, trivial⟩ ?_
        have hOw9 := OwnS.mono (B' := w.heap.size) (by omega) ((hOw.ext x6).keepC e27 (fun b hb _ hk => by have hk : b = _ := hk; omega))
        have x17 : Ext w w31 := (Ext.chg1 (Ext.trans x4 x6) e27 (by omega))
        have q39 := (t0_f1.ba.keep1 e27 (t0_f1.ba.ne t0_f1.fb (by decide)))
        have q40 := (t0_f1.st.keep1 e27 (fun k hk => t0_f1.st.ne_blk t0_f1.fb (by decide) k hk))
        exact ⟨x17, .inr (.inr ⟨hck, s2, _, tA, tc, ts, by rw [← hg2, ← hbd]; exact buildF_end (by rw [List.length_map]; omega) (by omega), hOw9, ⟨by omega, q39, q40, (fun k hk => Nat.le_trans hB0 (t0_f1.low k hk)), StF.mono hB0 (StF.keepB t0_f1.F e27 t0_f1.fb (by decide) (by decide))⟩, rfl⟩)⟩
end Go.Proofs.YtnnmdkglgnlenaaGreatDoor
set_option linter.unusedVariables false
set_option linter.unusedSimpArgs false
set_option maxRecDepth 100000
set_option maxHeartbeats 4000000
namespace Go.Proofs.YtnnmdkglgnlenaaGreatDoor
open Go Go.RowKit Go.Vx
def ASt.kernel (x : ASt) : List Itm := x.items.take x.kern.toNat
theorem key_eq {x : ASt} {l : List Itm} (hx : ∀ y ∈ x.items, smallI y) (hl : ∀ y ∈ l, smallI y) : x.key = ⟨(wkey l).toArray⟩ ↔ x.kernel = l := by
  unfold ASt.key ASt.kernel
  constructor
  · intro h
    have h1 : (wkey (x.items.take x.kern.toNat)).toArray = (wkey l).toArray := congrArg ByteArray.data h
    exact wkey_inj (fun y hy => hx y (List.mem_of_mem_take hy)) hl (by simpa using congrArg Array.toList h1)
  · intro h; rw [h]
theorem look_key : ∀ {st : List ASt} {l : List Itm} (i : Nat), (∀ x ∈ st, ∀ y ∈ x.items, smallI y) → (∀ y ∈ l, smallI y) →
    (∃ j x, st[j]? = some x ∧ x.kernel = l ∧ (∀ k y, k < j → st[k]? = some y → y.kernel ≠ l) ∧ lookM (keysA st i) ⟨(wkey l).toArray⟩ = some (.int .i64 ((i + j : Nat) : Int))) ∨ ((∀ x ∈ st, x.kernel ≠ l) ∧ lookM (keysA st i) ⟨(wkey l).toArray⟩ = none)
  | [], l, i, _, _ => .inr ⟨(fun x hx => by cases hx), rfl⟩
  | x :: st, l, i, hs, hl => by
    by_cases hk : x.kernel = l
    · refine .inl ⟨0, x, rfl, hk, fun k y hk0 => by omega, ?_⟩
      have := (key_eq (hs x (by simp)) hl).2 hk
      simp [keysA, lookM, List.find?_cons, this]
    · have hn : ¬ x.key = ⟨(wkey l).toArray⟩ := fun hh => hk ((key_eq (hs x (by simp)) hl).1 hh)
      have he : lookM (keysA (x :: st) i) ⟨(wkey l).toArray⟩ = lookM (keysA st (i + 1)) ⟨(wkey l).toArray⟩ := by
        simp [keysA, lookM, List.find?_cons, hn]
      rcases look_key (st := st) (l := l) (i + 1) (fun z hz => hs z (by simp [hz])) hl with ⟨j, y, h1, h2, h3, h4⟩ | ⟨h1, h2⟩
      · refine .inl ⟨j + 1, y, by simpa using h1, h2, fun k z hkj hz => ?_, ?_⟩
        · cases k with
          | zero => simp at hz; subst hz; exact hk
          | succ k => exact h3 k z (by omega) (by simpa using hz)
        · rw [he, h4, show i + 1 + j = i + (j + 1) by omega]
      · refine .inr ⟨fun z hz => ?_, by rw [he, h2]⟩
        rcases List.mem_cons.1 hz with rfl | hz
        · exact hk
        · exact h1 z hz
theorem addA_cases {g : GD} {st : List ASt} {l : List Itm} {z : Sym} {fr : Int} (hs : ∀ x ∈ st, ∀ y ∈ x.items, smallI y) (hl : ∀ y ∈ l, smallI y) :
    (∃ j x, st[j]? = some x ∧ x.kernel = l ∧ (∀ k y, k < j → st[k]? = some y → y.kernel ≠ l) ∧ addA g st l z fr = (st, ((j : Nat) : Int))) ∨ ((∀ x ∈ st, x.kernel ≠ l) ∧ addA g st l z fr = (st ++ [⟨closG g l, (l.length : Int), [], z, fr⟩], ((st.length : Nat) : Int))) := by
  rcases look_key 0 hs hl with ⟨j, x, h1, h2, h3, h4⟩ | ⟨h1, h2⟩
  · refine .inl ⟨j, x, h1, h2, h3, ?_⟩
    unfold addA keyA
    rw [h4]
    simp
  · refine .inr ⟨h1, ?_⟩
    unfold addA
    rw [h2, if_neg (by decide)]
end Go.Proofs.YtnnmdkglgnlenaaGreatDoor
set_option linter.unusedVariables false
set_option linter.unusedSimpArgs false
set_option maxRecDepth 100000
set_option maxHeartbeats 4000000
namespace Go.Proofs.YtnnmdkglgnlenaaGreatDoor
open Go Go.RowKit Go.Vx
def smallG : GD := ⟨[false, false, true, false], 3, 0, [(0, [⟨3, 1⟩, ⟨3, 2⟩, ⟨1, 3⟩]), (0, [⟨2, 0⟩]), (1, [⟨1, 0⟩, ⟨3, 1⟩]), (1, []), (2, [⟨1, 1⟩]), (2, [⟨3, 1⟩])]⟩
theorem small_check : checkE smallG = (0, 0) := by kernel_rfl
def insX {α : Type} (le : α → α → Bool) (x : α) : List α → List α
  | [] => [x]
  | y :: l => if le x y then x :: y :: l else y :: insX le x l
def srtX {α : Type} (le : α → α → Bool) : List α → List α
  | [] => []
  | x :: l => insX le x (srtX le l)
theorem insX_perm {α : Type} (le : α → α → Bool) (x : α) : ∀ l : List α, (insX le x l).Perm (x :: l)
  | [] => .refl _
  | y :: l => by
    unfold insX
    split
    · exact .refl _
    · exact ((insX_perm le x l).cons y).trans (.swap _ _ _)
theorem srtX_perm {α : Type} (le : α → α → Bool) : ∀ l : List α, (srtX le l).Perm l
  | [] => .refl _
  | x :: l => (insX_perm le x _).trans ((srtX_perm le l).cons x)
section
variable {α : Type} {le : α → α → Bool} (ht : ∀ a b c, le a b = true → le b c = true → le a c = true) (htot : ∀ a b, (le a b || le b a) = true)
include ht htot
theorem insX_sorted {x : α} : ∀ {l : List α}, l.Pairwise (le · · = true) → (insX le x l).Pairwise (le · · = true)
  | [], _ => by simp [insX]
  | y :: l, h => by
    have h1 := List.pairwise_cons.1 h
    unfold insX
    split
    · rename_i hxy
      refine List.pairwise_cons.2 ⟨fun z hz => ?_, h⟩
      rcases List.mem_cons.1 hz with rfl | hz
      · exact hxy
      · exact ht _ _ _ hxy (h1.1 z hz)
    · rename_i hxy
      refine List.pairwise_cons.2 ⟨fun z hz => ?_, insX_sorted h1.2⟩
      rcases List.mem_cons.1 ((insX_perm le x l).mem_iff.1 hz) with rfl | hz
      · have := htot z y
        simp only [Bool.or_eq_true] at this
        exact this.resolve_left hxy
      · exact h1.1 z hz
theorem srtX_sorted : ∀ l : List α, (srtX le l).Pairwise (le · · = true)
  | [] => List.Pairwise.nil
  | x :: l => insX_sorted ht htot (srtX_sorted l)
theorem srtX_eq (hanti : ∀ a b, le a b = true → le b a = true → a = b) (l : List α) : l.mergeSort le = srtX le l :=
  ((List.mergeSort_perm l le).trans (srtX_perm le l).symm).eq_of_pairwise (fun a b _ _ => hanti a b) (List.pairwise_mergeSort ht htot l) (srtX_sorted ht htot l)
end
theorem leItm_spec {x y : Itm} : leItm x y = true ↔ (x.p < y.p ∨ (x.p = y.p ∧ x.dot ≤ y.dot)) := by unfold leItm; simp
theorem leSym_spec {x y : Sym} : leSym x y = true ↔ (x.kind < y.kind ∨ (x.kind = y.kind ∧ x.n ≤ y.n)) := by unfold leSym; simp
theorem srtItm_x (l : List Itm) : srtItm l = srtX leItm l := by
  refine srtX_eq (fun a b c h1 h2 => ?_) (fun a b => ?_) (fun a b h1 h2 => ?_) l
  · rw [leItm_spec] at *; omega
  · rw [Bool.or_eq_true, leItm_spec, leItm_spec]; omega
  · rw [leItm_spec] at *
    cases a; cases b; simp only at h1 h2; congr 1 <;> omega
theorem srtSym_x (l : List Sym) : srtSym l = srtX leSym l := by
  refine srtX_eq (fun a b c h1 h2 => ?_) (fun a b => ?_) (fun a b h1 h2 => ?_) l
  · rw [leSym_spec] at *; omega
  · rw [Bool.or_eq_true, leSym_spec, leSym_spec]; omega
  · rw [leSym_spec] at *
    cases a; cases b; simp only at h1 h2; congr 1 <;> omega
def closC (g : GD) (K : List Itm) : List Itm := (closF g K).1.take K.length ++ srtX leItm ((closF g K).1.drop K.length)
def overC (g : GD) (z : Sym) (l : List Itm) : List Itm := srtX leItm (overM g z l)
def symsC (g : GD) (l : List Itm) : List Sym := compL (srtX leSym (l.filterMap (behindG g)))
theorem closC_eq (g : GD) (K : List Itm) : closG g K = closC g K := by unfold closG closC; rw [srtItm_x]
theorem overC_eq (g : GD) (z : Sym) (l : List Itm) : overG g z l = overC g z l := by unfold overG overC; rw [srtItm_x]
theorem symsC_eq (g : GD) (l : List Itm) : symsG g l = symsC g l := by unfold symsG symsC; rw [srtSym_x]
def findK (l : List Itm) : List ASt → Nat → Option Nat
  | [], _ => none
  | x :: r, i => if x.kernel = l then some i else findK l r (i + 1)
def addC (g : GD) (st : List ASt) (l : List Itm) (z : Sym) (fr : Int) : List ASt × Int := match findK l st 0 with
  | some j => (st, (j : Nat))
  | none => (st ++ [⟨closC g l, (l.length : Int), [], z, fr⟩], (st.length : Nat))
theorem findK_some {l : List Itm} : ∀ {st : List ASt} {j : Nat} {x : ASt} (i : Nat), st[j]? = some x → x.kernel = l → (∀ k y, k < j → st[k]? = some y → y.kernel ≠ l) → findK l st i = some (i + j)
  | [], j, x, i, h, _, _ => by simp at h
  | a :: st, j, x, i, h, hk, hn => by
    cases j with
    | zero =>
      simp only [List.getElem?_cons_zero, Option.some.injEq] at h
      subst h
      rw [findK, if_pos hk]; rfl
    | succ j =>
      rw [findK, if_neg (hn 0 a (by omega) rfl), findK_some (i + 1) (by simpa using h) hk fun k y hkj hy => hn (k + 1) y (by omega) (by simpa using hy)]
      congr 1; omega
theorem findK_none {l : List Itm} : ∀ {st : List ASt} (i : Nat), (∀ x ∈ st, x.kernel ≠ l) → findK l st i = none
  | [], _, _ => rfl
  | a :: st, i, h => by rw [findK, if_neg (h a (by simp)), findK_none (i + 1) fun x hx => h x (by simp [hx])]
theorem addC_eq {g : GD} {st : List ASt} {l : List Itm} {z : Sym} {fr : Int} (hs : ∀ x ∈ st, ∀ y ∈ x.items, smallI y) (hl : ∀ y ∈ l, smallI y) : addA g st l z fr = addC g st l z fr := by
  unfold addC
  rcases addA_cases (g := g) (z := z) (fr := fr) hs hl with ⟨j, x, h1, h2, h3, h4⟩ | ⟨h1, h2⟩
  · rw [h4, findK_some 0 h1 h2 h3, Nat.zero_add]
  · rw [h2, findK_none 0 h1, closC_eq]
def arcC (g : GD) (at_ : Nat) (st : List ASt) (z : Sym) : List ASt :=
  let r := addC g st (overC g z (st[at_]!).items) z (at_ : Nat)
  r.1.set at_ { (r.1[at_]!) with arcs := (r.1[at_]!).arcs ++ [⟨z, r.2⟩] }
def rowC (g : GD) (at_ : Nat) (st : List ASt) : List ASt := (symsC g (st[at_]!).items).foldl (arcC g at_) st
def buildC (g : GD) : Nat → Nat → List ASt → Option (List ASt)
  | 0, _, _ => none
  | f + 1, at_, st => if at_ < st.length then (if 1024 ≤ at_ then none else buildC g f (at_ + 1) (rowC g at_ st)) else some st
structure GoodL (g : GD) : Prop where
  good : GoodG g
  names : g.names ≤ 128
  prods : g.prods.length ≤ 512
  rights : ∀ p ∈ g.prods, p.2.length ≤ 16
  triv : g.triv.length ≤ 64
theorem check_triv {g : GD} (h : (checkE g).1 = 0) : g.triv.length ≤ 64 := by
  unfold checkE at h
  split at h
  · simp at h
  · rename_i hl
    have h3 : longG g = false := by simpa using hl
    unfold longG at h3
    simp only [Bool.or_eq_false_iff, decide_eq_false_iff_not] at h3
    omega
theorem GoodL.of {g : GD} (h : (checkE g).1 = 0) : GoodL g := by
  obtain ⟨h1, h2, h3, h4⟩ := check_good h
  exact ⟨h1, h2, h3, h4, check_triv h⟩
theorem arcC_eq {g : GD} (hg : GoodL g) {a : Nat} {st : List ASt} {z : Sym} (h : OkS g st) (ha : a < st.length) : arcS g a st z = arcC g a st z := by
  have hx : st[a]? = some st[a] := List.getElem?_eq_getElem ha
  have hok : ∀ y ∈ overG g z st[a].items, okJ g y := overG_okJ (h.ok _ (List.mem_of_getElem? hx))
  have e := addC_eq (g := g) (st := st) (l := overG g z st[a].items) (z := z) (fr := (a : Nat)) (fun x hx y hy => okJ_small (h.ok x hx y hy) hg.prods hg.rights) (fun y hy => okJ_small (hok y hy) hg.prods hg.rights)
  unfold arcS arcC
  simp only [bangA hx]
  rw [e, overC_eq]
theorem foldC_eq {g : GD} (hg : GoodL g) {a : Nat} (ha : a < 1024) : ∀ (zs : List Sym) {st : List ASt}, OkS g st → a < st.length → zs.foldl (arcS g a) st = zs.foldl (arcC g a) st
  | [], _, _, _ => rfl
  | z :: zs, st, h, hl => by
    have hx : st[a]? = some st[a] := List.getElem?_eq_getElem hl
    obtain ⟨h1, h2, _, _⟩ := arcS_ok hg.good hg.names hg.prods h (z := z) hx ha
    rw [List.foldl_cons, List.foldl_cons, foldC_eq hg ha zs h1 (by omega), arcC_eq hg h hl]
theorem buildC_eq {g : GD} (hg : GoodL g) : ∀ (f a : Nat) {st : List ASt}, OkS g st → buildF g f a st = buildC g f a st
  | 0, _, _, _ => rfl
  | f + 1, a, st, h => by
    rw [buildF, buildC]
    split
    · rename_i hl
      split
      · rfl
      · rename_i ha
        have hx : st[a]? = some st[a] := List.getElem?_eq_getElem hl
        have h1 := fold_ok hg.good hg.names hg.prods (a := a) (by omega) (symsG g st[a].items) h hx
        have e : rowS g a st = rowC g a st := by
          unfold rowS rowC
          rw [bangA hx, ← symsC_eq]
          exact foldC_eq hg (by omega) _ h hl
        rw [← e]
        refine buildC_eq hg f (a + 1) ?_
        unfold rowS
        rw [bangA hx]; exact h1.1
    · rfl
theorem buildG_c {g : GD} (hg : GoodL g) : buildG g = buildC g 1025 0 [⟨closC g [⟨-1, 0⟩], 1, [], ⟨0, 0⟩, 0⟩] := by
  unfold buildG
  rw [buildC_eq hg _ _ (OkS.start hg.good hg.names hg.prods)]
  rw [← closC_eq]; rfl
def smallA : List ASt := (buildC smallG 1025 0 [⟨closC smallG [⟨-1, 0⟩], 1, [], ⟨0, 0⟩, 0⟩]).getD []
theorem small_some : (buildC smallG 1025 0 [⟨closC smallG [⟨-1, 0⟩], 1, [], ⟨0, 0⟩, 0⟩]).isSome = true := by kernel_rfl
theorem small_built : buildG smallG = some smallA := by
  rw [buildG_c (GoodL.of (by rw [small_check]))]
  have h := small_some
  unfold smallA
  cases h9 : buildC smallG 1025 0 [⟨closC smallG [⟨-1, 0⟩], 1, [], ⟨0, 0⟩, 0⟩] with
  | none => rw [h9] at h; cases h
  | some x => rfl
end Go.Proofs.YtnnmdkglgnlenaaGreatDoor
set_option linter.unusedVariables false
set_option linter.unusedSimpArgs false
set_option maxRecDepth 100000
set_option maxHeartbeats 4000000
namespace Go.Proofs.YtnnmdkglgnlenaaGreatDoor
open Go Go.RowKit Go.Vx
def isA (sts : List StD) (i : Int) : Bool := decide (0 ≤ i) && decide (i < (sts.length : Int))
theorem isA_of {sts : List StD} {i : Int} (h : isA sts i = true) : 0 ≤ i ∧ i < (sts.length : Int) := by
  unfold isA at h; simpa using h
theorem isA_get {sts : List StD} {i : Int} {x : StD} (h0 : 0 ≤ i) (hx : sts[i.toNat]? = some x) : isA sts i = true := by
  have := (List.getElem?_eq_some_iff.1 hx).1
  unfold isA; simp; omega
def arcTo (z : Sym) : List Arc → Int
  | [] => -1
  | a :: l => if a.sym.kind = z.kind ∧ a.sym.n = z.n then a.to else arcTo z l
theorem arcTo_hit {z : Sym} {l : List Arc} {k : Nat} {a : Arc} (h : l[k]? = some a) (e : a.sym.kind = z.kind ∧ a.sym.n = z.n) : arcTo z (l.drop k) = a.to := by rw [drop_get h, arcTo, if_pos e]
theorem arcTo_no {z : Sym} {l : List Arc} {k : Nat} {a : Arc} (h : l[k]? = some a) (e : ¬ (a.sym.kind = z.kind ∧ a.sym.n = z.n)) : arcTo z (l.drop k) = arcTo z (l.drop (k + 1)) := by rw [drop_get h, arcTo, if_neg e]
def goA (sts : List StD) (i : Int) (z : Sym) : Int := if isA sts i = true then arcTo z (sts[i.toNat]!).arcs else -1
theorem goA_no {sts : List StD} {i : Int} {z : Sym} (h : isA sts i = false) : goA sts i z = -1 := by unfold goA; rw [if_neg (by rw [h]; decide)]
theorem goA_at {sts : List StD} {i : Int} {z : Sym} {x : StD} (h0 : 0 ≤ i) (hx : sts[i.toNat]? = some x) : goA sts i z = arcTo z x.arcs := by
  unfold goA; rw [if_pos (isA_get h0 hx), List.getElem!_eq_getElem?_getD, hx]; rfl
theorem pf_45 : plainF Tryz.prog 45 = true := by kernel_rfl
theorem tA_101 : isAggT Tryz.prog 101 = some true := by kernel_rfl
theorem tF_101_0 : fieldT Tryz.prog 101 0 = some 0 := by kernel_rfl
theorem tF_101_1 : fieldT Tryz.prog 101 1 = some 2 := by kernel_rfl
theorem tS_101 : sizeT Tryz.prog 101 = some 3 := by kernel_rfl
theorem tU_92 : Tryz.prog.underlying 92 = some (.slice 101) := by kernel_rfl
theorem len_calls (s : SP) (ba : Nat) (sA : Option Addr) (sc : Nat) (sts : List StD) (B : Nat) (w : World) (hb : Blk w ba #[(.slice s.lA s.lex.length s.lc), (.slice s.nA s.names.length s.nc), (.int .i64 s.start), (.slice s.pA s.prods.length s.pc), (.slice sA sts.length sc)] 97) (ho : Vx.Own w 94 6 (.slice sA sts.length sc) sts.length (sts.flatMap StD.cs)) (hF : StF B w sts) (hB : ∀ x ∈ sts, x.items.length ≤ 67240962 ∧ x.arcs.length ≤ 67240962) (hst : sts.length ≤ 100000000000) :
    Calls Tryz.prog 23 #[(.pointer (some ⟨ba, 0, none⟩))] w (Ret (fun v w' => v = .int .i64 (sts.length : Nat) ∧ Ext w w')) := by
  refine calls_xc (n := 8) (f := fun s_ => [(.pointer (some ⟨ba, 0, none⟩))].getD s_ undef) Tryz.func23 rfl rfl (by simp) (fun s_ => by simp) ?_
  refine xc_seq ?_
  refine xc_region ?_
  refine xl_op (P := Tryz.prog) (some 2) rfl rfl (ox_assign (v := (.int .i64 0)) rfl ?_)
  refine xl_nil ?_
  refine xc_seq ?_
  refine xc_region ?_
  refine xl_op (P := Tryz.prog) (some 3) rfl rfl (ox_move (v := (.pointer (some ⟨ba, 0, none⟩))) rfl ?_)
  refine xl_op (P := Tryz.prog) (some 4) rfl rfl (ox_nilCheck (p := ⟨ba, 0, none⟩) rfl ?_)
  refine xl_op (P := Tryz.prog) (some 5) rfl rfl (ox_fieldAddr (b := ba) (o := 0) tF_97_1 rfl ?_)
  refine xl_op (P := Tryz.prog) (some 6) rfl rfl (ox_load (v := (.slice sA sts.length sc)) tA_95 rfl (hb.cell rfl) ?_)
  refine xl_op (P := Tryz.prog) (some 7) rfl rfl (ox_len (A := sA) (n := sts.length) (cp := sc) rfl tU_95 rfl ?_)
  refine xl_op (P := Tryz.prog) (some 2) rfl rfl (ox_assign (v := (.int .i64 (((sts.length : Nat) : Int)))) rfl ?_)
  refine xl_nil ?_
  refine xc_ret ?_
  change leaves _ _ _ _ _ _ _
  refine leaves_nil (n := 8) (rs := [.tmp 2]) (vs := [(.int .i64 (((sts.length : Nat) : Int)))]) rfl ⟨⟨by decide, rfl⟩, trivial⟩ ?_
  exact ⟨rfl, (Chg.refl _ _)⟩
theorem is_calls (s : SP) (ba : Nat) (sA : Option Addr) (sc : Nat) (sts : List StD) (B : Nat) (i : Int) (w : World) (hb : Blk w ba #[(.slice s.lA s.lex.length s.lc), (.slice s.nA s.names.length s.nc), (.int .i64 s.start), (.slice s.pA s.prods.length s.pc), (.slice sA sts.length sc)] 97) (ho : Vx.Own w 94 6 (.slice sA sts.length sc) sts.length (sts.flatMap StD.cs)) (hF : StF B w sts) (hB : ∀ x ∈ sts, x.items.length ≤ 67240962 ∧ x.arcs.length ≤ 67240962) (hst : sts.length ≤ 100000000000) :
    Calls Tryz.prog 45 #[(.pointer (some ⟨ba, 0, none⟩)), (.int .i64 i)] w (Ret (fun v w' => v = .bool (isA sts i) ∧ Ext w w')) := by
  refine calls_xc (n := 16) (f := fun s_ => [(.pointer (some ⟨ba, 0, none⟩)), (.int .i64 i)].getD s_ undef) Tryz.func45 rfl rfl (by simp) (fun s_ => by simp) ?_
  refine xc_seq ?_
  refine xc_region ?_
  refine xl_op (P := Tryz.prog) (some 4) rfl rfl (ox_assign (v := (.bool false)) rfl ?_)
  refine xl_nil ?_
  refine xc_seq ?_
  refine xc_region ?_
  refine xl_op (P := Tryz.prog) (some 5) rfl rfl (ox_move (v := (.int .i64 i)) rfl ?_)
  refine xl_op (P := Tryz.prog) (some 6) rfl rfl (ox_geq (k := .i64) (a := i) (b := 0) rfl rfl ?_)
  refine xl_op (P := Tryz.prog) (some 7) rfl rfl (ox_move (v := (.bool (decide ((0 : Int) ≤ i)))) rfl ?_)
  by_cases h1 : (0 : Int) ≤ i
  · skip
    refine xl_opg (P := Tryz.prog) (some 8) (j := 2) (b := true) rfl rfl (congrArg some (decide_eq_true h1)) (ox_move (v := (.int .i64 i)) rfl ?_)
    refine xl_opg (P := Tryz.prog) (some 9) (j := 2) (b := true) rfl rfl (congrArg some (decide_eq_true h1)) (ox_move (v := (.pointer (some ⟨ba, 0, none⟩))) rfl ?_)
    refine xl_opg (P := Tryz.prog) (some 10) (j := 2) (b := true) rfl rfl (congrArg some (decide_eq_true h1)) (ox_nilCheck (p := ⟨ba, 0, none⟩) rfl ?_)
    refine xl_opg (P := Tryz.prog) (some 11) (j := 2) (b := true) rfl rfl (congrArg some (decide_eq_true h1)) (ox_fieldAddr (b := ba) (o := 0) tF_97_1 rfl ?_)
    refine xl_opg (P := Tryz.prog) (some 12) (j := 2) (b := true) rfl rfl (congrArg some (decide_eq_true h1)) (ox_load (v := (.slice sA sts.length sc)) tA_95 rfl (hb.cell rfl) ?_)
    refine xl_opg (P := Tryz.prog) (some 13) (j := 2) (b := true) rfl rfl (congrArg some (decide_eq_true h1)) (ox_len (A := sA) (n := sts.length) (cp := sc) rfl tU_95 rfl ?_)
    refine xl_opg (P := Tryz.prog) (some 14) (j := 2) (b := true) rfl rfl (congrArg some (decide_eq_true h1)) (ox_lss (k := .i64) (a := i) (b := (((sts.length : Nat) : Int))) rfl rfl ?_)
    refine xl_op (P := Tryz.prog) (some 15) rfl rfl (ox_pick_t (v := (.bool (decide ((i : Int) < (((sts.length : Nat) : Int)))))) (congrArg Value.bool (decide_eq_true h1)) rfl ?_)
    refine xl_op (P := Tryz.prog) (some 4) rfl rfl (ox_assign (v := (.bool (decide ((i : Int) < (((sts.length : Nat) : Int)))))) rfl ?_)
    refine xl_nil ?_
    refine xc_ret ?_
    change leaves _ _ _ _ _ _ _
    refine leaves_nil (n := 16) (rs := [.tmp 4]) (vs := [(.bool (decide ((i : Int) < (((sts.length : Nat) : Int)))))]) rfl ⟨⟨by decide, rfl⟩, trivial⟩ ?_
    exact ⟨congrArg Value.bool (by unfold isA; rw [Bool.eq_iff_iff]; simp; omega), (Chg.refl _ _)⟩
  · skip
    refine xl_skip (some 8) (j := 2) (b := true) false rfl rfl (congrArg some (decide_eq_false h1)) (by decide) ?_
    refine xl_skip (some 9) (j := 2) (b := true) false rfl rfl (congrArg some (decide_eq_false h1)) (by decide) ?_
    refine xl_skip (some 10) (j := 2) (b := true) false rfl rfl (congrArg some (decide_eq_false h1)) (by decide) ?_
    refine xl_skip (some 11) (j := 2) (b := true) false rfl rfl (congrArg some (decide_eq_false h1)) (by decide) ?_
    refine xl_skip (some 12) (j := 2) (b := true) false rfl rfl (congrArg some (decide_eq_false h1)) (by decide) ?_
    refine xl_skip (some 13) (j := 2) (b := true) false rfl rfl (congrArg some (decide_eq_false h1)) (by decide) ?_
    refine xl_skip (some 14) (j := 2) (b := true) false rfl rfl (congrArg some (decide_eq_false h1)) (by decide) ?_
    refine xl_op (P := Tryz.prog) (some 15) rfl rfl (ox_pick_f (v := (.bool false)) (congrArg Value.bool (decide_eq_false h1)) rfl ?_)
    refine xl_op (P := Tryz.prog) (some 4) rfl rfl (ox_assign (v := (.bool false)) rfl ?_)
    refine xl_nil ?_
    refine xc_ret ?_
    change leaves _ _ _ _ _ _ _
    refine leaves_nil (n := 16) (rs := [.tmp 4]) (vs := [(.bool false)]) rfl ⟨⟨by decide, rfl⟩, trivial⟩ ?_
    exact ⟨congrArg Value.bool (by unfold isA; rw [Bool.eq_iff_iff]; simp; omega), (Chg.refl _ _)⟩
theorem go_calls (s : SP) (ba : Nat) (sA : Option Addr) (sc : Nat) (sts : List StD) (B : Nat) (i : Int) (z : Sym) (w : World) (hb : Blk w ba #[(.slice s.lA s.lex.length s.lc), (.slice s.nA s.names.length s.nc), (.int .i64 s.start), (.slice s.pA s.prods.length s.pc), (.slice sA sts.length sc)] 97) (ho : Vx.Own w 94 6 (.slice sA sts.length sc) sts.length (sts.flatMap StD.cs)) (hF : StF B w sts) (hB : ∀ x ∈ sts, x.items.length ≤ 67240962 ∧ x.arcs.length ≤ 67240962) (hst : sts.length ≤ 100000000000) :
    Calls Tryz.prog 19 #[(.pointer (some ⟨ba, 0, none⟩)), (.int .i64 i), (.agg #[(.int .i64 z.kind), (.int .i64 z.n)])] w (Ret (fun v w' => v = .int .i64 (goA sts i z) ∧ Ext w w')) := by
  refine calls_xc (n := 33) (f := fun s_ => [(.pointer (some ⟨ba, 0, none⟩)), (.int .i64 i), (.agg #[(.int .i64 z.kind), (.int .i64 z.n)])].getD s_ undef) Tryz.func19 rfl rfl (by simp) (fun s_ => by simp) ?_
  refine xc_seq ?_
  refine xc_region ?_
  refine xl_op (P := Tryz.prog) (some 5) rfl rfl (ox_box (v := (.agg #[(.int .i64 z.kind), (.int .i64 z.n)])) rfl ?_)
  intro w1 e1 z1 b1
  replace b1 : Blk w1 w.heap.size #[(.int .i64 z.kind), (.int .i64 z.n)] 32 := b1
  refine xl_op (P := Tryz.prog) (some 6) rfl rfl (ox_assign (v := (.int .i64 0)) rfl ?_)
  refine xl_nil ?_
  refine xc_seq ?_
  refine xc_seq ?_
  refine xc_region ?_
  refine xl_op (P := Tryz.prog) (some 9) rfl rfl (ox_move (v := (.pointer (some ⟨ba, 0, none⟩))) rfl ?_)
  refine xl_op (P := Tryz.prog) (some 10) rfl rfl (ox_move (v := (.int .i64 i)) rfl ?_)
  refine xl_op (P := Tryz.prog) (some 11) rfl rfl (ox_callE (al := [(.pointer (some ⟨ba, 0, none⟩)), (.int .i64 i)]) pf_45 rfl (ret_mono (is_calls s ba sA sc sts B i w1 (hb.ext e1) (Vx.Own.keep ho e1 (fun _ _ => not_false)) (hF.ext e1) hB hst) ?_))
  rintro _ w2 ⟨rfl, e2⟩
  have he2 := e2.size
  refine xl_op (P := Tryz.prog) (some 12) rfl rfl (ox_not (b := ((isA sts i))) rfl ?_)
  refine xl_nil ?_
  refine xc_cond (b := (!(isA sts i))) rfl (fun h1 => ?_) (fun h1 => ?_)
  · skip
    have h1' := h1
    try simp only [Bool.or_eq_true, Bool.and_eq_true, decide_eq_true_eq, Bool.or_eq_false_iff, Bool.and_eq_false_iff, decide_eq_false_iff_not, Bool.not_eq_true', Bool.not_eq_false'] at h1'
    have hia : isA sts i = false := by revert h1; cases isA sts i <;> simp
    refine xc_seq ?_
    refine xc_region ?_
    refine xl_op (P := Tryz.prog) (some 6) rfl rfl (ox_assign (v := (.int .i64 (-1))) rfl ?_)
    refine xl_nil ?_
    refine xc_ret ?_
    change leaves _ _ _ _ _ _ _
    refine leaves_nil (n := 33) (rs := [.tmp 6]) (vs := [(.int .i64 (-1))]) rfl ⟨⟨by decide, rfl⟩, trivial⟩ ?_
    have x1 : Ext w w2 := (Ext.trans e1 e2)
    exact ⟨by rw [goA_no hia]; rfl, x1⟩
  · skip
    have h1' := h1
    try simp only [Bool.or_eq_true, Bool.and_eq_true, decide_eq_true_eq, Bool.or_eq_false_iff, Bool.and_eq_false_iff, decide_eq_false_iff_not, Bool.not_eq_true', Bool.not_eq_false'] at h1'
    have hia : isA sts i = true := by revert h1; cases isA sts i <;> simp
    have hir := isA_of hia
    refine xc_skip ?_
    refine xc_seq ?_
    refine xc_seq ?_
    refine xc_region ?_
    refine xl_op (P := Tryz.prog) (some 13) rfl rfl (ox_move (v := (.pointer (some ⟨ba, 0, none⟩))) rfl ?_)
    refine xl_op (P := Tryz.prog) (some 14) rfl rfl (ox_nilCheck (p := ⟨ba, 0, none⟩) rfl ?_)
    refine xl_op (P := Tryz.prog) (some 15) rfl rfl (ox_fieldAddr (b := ba) (o := 0) tF_97_1 rfl ?_)
    refine xl_op (P := Tryz.prog) (some 16) rfl rfl (ox_load (v := (.slice sA sts.length sc)) tA_95 rfl (((hb.ext e1).ext e2).cell rfl) ?_)
    refine xl_op (P := Tryz.prog) (some 17) rfl rfl (ox_move (v := (.int .i64 i)) rfl ?_)
    have x2 : Ext w w2 := (Ext.trans e1 e2)
    obtain ⟨x_1, g_1, o_1, hx_1⟩ := row_may (A := sA) (cs := StD.cs) i.toNat StD.len (by decide) (RowA.ext ho.rowO x2)
    obtain ⟨hx_2, hA_1, hc_1⟩ := hx_1 (by first | omega | (simp only [List.length_drop, List.length_replicate, List.length_set, List.length_append, List.length_map, List.length_singleton] at *; omega))
    have hb_x_1 := hB _ (List.mem_of_getElem? hx_2)
    refine xl_op (P := Tryz.prog) (some 18) rfl rfl (ox_ixA (b := g_1) (o := o_1) (i := i) i.toNat tE_95 hA_1 rfl rfl (by omega) (by omega) ?_)
    refine xl_op (P := Tryz.prog) (some 19) rfl rfl (ox_fieldAddr (b := g_1) (o := (o_1 + i.toNat * 6)) tF_94_2 rfl ?_)
    refine xl_op (P := Tryz.prog) (some 20) rfl rfl (ox_load (v := (.slice x_1.aA x_1.arcs.length x_1.ac)) tA_92 rfl (CellsL.at1 hc_1 2 rfl) ?_)
    refine xl_op (P := Tryz.prog) (some 21) rfl rfl (ox_len (A := x_1.aA) (n := x_1.arcs.length) (cp := x_1.ac) rfl tU_92 rfl ?_)
    refine xl_op (P := Tryz.prog) (some 22) rfl rfl (ox_move (v := (.int .i64 0)) rfl ?_)
    refine xl_nil ?_
    refine xc_block ?_
    refine xc_loopN (fun m_ f_ Wx => ∃ (k : Nat), m_ = x_1.arcs.length - k ∧ (k ≤ x_1.arcs.length) ∧ (arcTo z x_1.arcs = arcTo z (x_1.arcs.drop k)) ∧ f_ 5 = (.pointer (some ⟨w.heap.size, 0, none⟩)) ∧ f_ 20 = (.slice x_1.aA x_1.arcs.length x_1.ac) ∧ f_ 21 = (.int .i64 (((x_1.arcs.length : Nat) : Int))) ∧ f_ 22 = (.int .i64 ((k : Nat))) ∧ Ext w2 Wx) (x_1.arcs.length) ?_ ?_
    · exact ⟨0, (by omega), (by omega), rfl, rfl, rfl, rfl, (by first | exact rfl | exact (congrArg (Value.int .i64) (by omega))), (Chg.refl _ _)⟩
    · rintro m_ f1 w3 ⟨k, hm_f1, hk, hq, g5_f1, g20_f1, g21_f1, g22_f1, x3⟩
      have hx3 := x3.size
      refine xc_seq ?_
      refine xc_region ?_
      refine xl_op (P := Tryz.prog) (some 23) rfl rfl (ox_lss (k := .i64) (a := ((k : Nat))) (b := (((x_1.arcs.length : Nat) : Int))) g22_f1 g21_f1 ?_)
      refine xl_nil ?_
      refine xc_seq ?_
      refine xc_if (p := ((k : Nat) : Int) < (((x_1.arcs.length : Nat) : Int))) rfl (fun h2 => ?_) (fun h2 => ?_)
      · skip
        refine xc_skip ?_
        refine xc_seq ?_
        refine xc_block ?_
        refine xc_seq ?_
        refine xc_region ?_
        have x4 : Ext w w3 := (Ext.trans x2 x3)
        obtain ⟨x_2, g_2, o_2, hx_3⟩ := row_may (A := x_1.aA) (cs := Arc.cs) k Arc.len (by decide) (RowA.ext ((StF.at hF hx_2).arcs.rowO) x4)
        obtain ⟨hx_4, hA_2, hc_2⟩ := hx_3 (by first | omega | (simp only [List.length_drop, List.length_replicate, List.length_set, List.length_append, List.length_map, List.length_singleton] at *; omega))
        refine xl_op (P := Tryz.prog) (some 24) rfl rfl (ox_ixA (b := g_2) (o := o_2) (i := ((k : Nat))) k tE_92 hA_2 g20_f1 g22_f1 rfl (by omega) ?_)
        refine xl_op (P := Tryz.prog) (some 25) rfl rfl (ox_loadN (vs := [(.int .i64 x_2.sym.kind), (.int .i64 x_2.sym.n), (.int .i64 x_2.to)]) tA_101 tS_101 rfl rfl hc_2 ?_)
        refine xl_op (P := Tryz.prog) (some 8) rfl rfl (ox_alloc tZ_101 ?_)
        intro w4 e3 z2 b2
        replace b2 : Blk w4 w3.heap.size #[(.int .i64 0), (.int .i64 0), (.int .i64 0)] 101 := b2
        refine xl_op (P := Tryz.prog) none rfl rfl (ox_store (n := 3) (vs := [(.int .i64 x_2.sym.kind), (.int .i64 x_2.sym.n), (.int .i64 x_2.to)]) tS_101 rfl (v := (.agg #[(.int .i64 x_2.sym.kind), (.int .i64 x_2.sym.n), (.int .i64 x_2.to)])) rfl rfl rfl rfl b2 (Nat.le_of_ble_eq_true rfl) ?_)
        intro w5 e4 z3 b3
        replace b3 : Blk w5 w3.heap.size #[(.int .i64 x_2.sym.kind), (.int .i64 x_2.sym.n), (.int .i64 x_2.to)] 101 := blk_full b3 rfl
        refine xl_nil ?_
        refine xc_seq ?_
        refine xc_region ?_
        refine xl_op (P := Tryz.prog) (some 26) rfl rfl (ox_fieldAddr (b := w3.heap.size) (o := 0) tF_101_0 rfl ?_)
        refine xl_op (P := Tryz.prog) (some 27) rfl rfl (ox_loadN (vs := [(.int .i64 x_2.sym.kind), (.int .i64 x_2.sym.n)]) tA_32 tS_32 rfl rfl ⟨b3.cell rfl, b3.cell rfl, trivial⟩ ?_)
        have q1 := ((((b1.ext e2).ext x3).ext e3).keep1 e4 ((((b1.ext e2).ext x3).ext e3).ne b2 (by decide)))
        refine xl_op (P := Tryz.prog) (some 28) rfl rfl (ox_loadN (vs := [(.int .i64 z.kind), (.int .i64 z.n)]) tA_32 tS_32 g5_f1 rfl ⟨q1.cell rfl, q1.cell rfl, trivial⟩ ?_)
        refine xl_op (P := Tryz.prog) (some 29) rfl rfl (ox_eqlF (xs := [(.int .i64 x_2.sym.kind), (.int .i64 x_2.sym.n)]) (ys := [(.int .i64 z.kind), (.int .i64 z.n)]) (p := ((x_2.sym.kind : Int) = z.kind ∧ (x_2.sym.n : Int) = z.n)) fS_32 rfl rfl rfl rfl (by simp) ?_)
        refine xl_nil ?_
        refine xc_if (p := ((x_2.sym.kind : Int) = z.kind ∧ (x_2.sym.n : Int) = z.n)) rfl (fun h3 => ?_) (fun h3 => ?_)
        · skip
          refine xc_seq ?_
          refine xc_region ?_
          refine xl_op (P := Tryz.prog) (some 30) rfl rfl (ox_fieldAddr (b := w3.heap.size) (o := 0) tF_101_1 rfl ?_)
          refine xl_op (P := Tryz.prog) (some 31) rfl rfl (ox_load (v := (.int .i64 x_2.to)) tA_3 rfl (b3.cell rfl) ?_)
          refine xl_op (P := Tryz.prog) (some 6) rfl rfl (ox_assign (v := (.int .i64 x_2.to)) rfl ?_)
          refine xl_nil ?_
          refine xc_ret ?_
          change leaves _ _ _ _ _ _ _
          refine leaves_nil (n := 33) (rs := [.tmp 6]) (vs := [(.int .i64 x_2.to)]) rfl ⟨⟨by decide, rfl⟩, trivial⟩ ?_
          have x5 : Ext w w5 := (Ext.chg1 (Ext.trans x4 e3) e4 (by omega))
          exact ⟨by rw [goA_at hir.1 hx_2, hq, arcTo_hit hx_4 h3]; rfl, x5⟩
        · skip
          refine xc_skip ?_
          refine xc_region ?_
          refine xl_op (P := Tryz.prog) (some 32) rfl rfl (ox_add64 (a := ((k : Nat))) (b := 1) g22_f1 rfl (by omega) ?_)
          refine xl_op (P := Tryz.prog) (some 22) rfl rfl (ox_move (v := (.int .i64 ((k : Nat) + 1))) rfl ?_)
          refine xl_nil ?_
          have x6 : Ext w2 w5 := (Ext.chg1 (Ext.trans x3 e3) e4 (by omega))
          exact ⟨rfl, x_1.arcs.length - (k + 1), by omega, k + 1, by omega, (by omega), (hq.trans (arcTo_no hx_4 h3)), g5_f1, g20_f1, g21_f1, (by first | exact rfl | exact (congrArg (Value.int .i64) (by omega))), x6⟩
      · skip
        refine xc_exit ?_
        refine xc_seq ?_
        refine xc_region ?_
        refine xl_op (P := Tryz.prog) (some 6) rfl rfl (ox_assign (v := (.int .i64 (-1))) rfl ?_)
        refine xl_nil ?_
        refine xc_ret ?_
        change leaves _ _ _ _ _ _ _
        refine leaves_nil (n := 33) (rs := [.tmp 6]) (vs := [(.int .i64 (-1))]) rfl ⟨⟨by decide, rfl⟩, trivial⟩ ?_
        have x7 : Ext w w3 := (Ext.trans x2 x3)
        exact ⟨by rw [goA_at hir.1 hx_2, hq, List.drop_of_length_le (by omega)]; rfl, x7⟩
end Go.Proofs.YtnnmdkglgnlenaaGreatDoor
set_option linter.unusedVariables false
set_option linter.unusedSimpArgs false
set_option maxRecDepth 100000
set_option maxHeartbeats 4000000
namespace Go.Proofs.YtnnmdkglgnlenaaGreatDoor
open Go Go.RowKit Go.Vx
def runA (sts : List StD) : Int → List Sym → Int
  | q, [] => q
  | q, z :: r => if goA sts q z < 0 then goA sts q z else runA sts (goA sts q z) r
theorem runA_next {sts : List StD} {l : List Sym} {q : Int} {k : Nat} {z : Sym} (h : l[k]? = some z) (e : ¬ goA sts q z < 0) : runA sts q (l.drop k) = runA sts (goA sts q z) (l.drop (k + 1)) := by rw [drop_get h, runA, if_neg e]
theorem runA_stop {sts : List StD} {l : List Sym} {q : Int} {k : Nat} {z : Sym} (h : l[k]? = some z) (e : goA sts q z < 0) : runA sts q (l.drop k) = goA sts q z := by rw [drop_get h, runA, if_pos e]
theorem pf_19 : plainF Tryz.prog 19 = true := by kernel_rfl
theorem tF_94_3 : fieldT Tryz.prog 94 3 = some 3 := by kernel_rfl
theorem run_calls (s : SP) (ba : Nat) (sA : Option Addr) (sc : Nat) (sts : List StD) (B : Nat) (l : List Sym) (A : Option Addr) (c : Nat) (w : World) (hb : Blk w ba #[(.slice s.lA s.lex.length s.lc), (.slice s.nA s.names.length s.nc), (.int .i64 s.start), (.slice s.pA s.prods.length s.pc), (.slice sA sts.length sc)] 97) (ho : Vx.Own w 94 6 (.slice sA sts.length sc) sts.length (sts.flatMap StD.cs)) (hF : StF B w sts) (hB : ∀ x ∈ sts, x.items.length ≤ 67240962 ∧ x.arcs.length ≤ 67240962) (hst : sts.length ≤ 100000000000) (hA : RowA w A (l.flatMap Sym.cs)) (hn : l.length ≤ 8796093022208) :
    Calls Tryz.prog 13 #[(.pointer (some ⟨ba, 0, none⟩)), (.slice A l.length c)] w (Ret (fun v w' => v = .int .i64 (runA sts 0 l) ∧ Ext w w')) := by
  refine calls_xc (n := 22) (f := fun s_ => [(.pointer (some ⟨ba, 0, none⟩)), (.slice A l.length c)].getD s_ undef) Tryz.func13 rfl rfl (by simp) (fun s_ => by simp) ?_
  refine xc_seq ?_
  refine xc_region ?_
  refine xl_op (P := Tryz.prog) (some 4) rfl rfl (ox_assign (v := (.int .i64 0)) rfl ?_)
  refine xl_nil ?_
  refine xc_seq ?_
  refine xc_region ?_
  refine xl_op (P := Tryz.prog) (some 5) rfl rfl (ox_assign (v := (.int .i64 0)) rfl ?_)
  refine xl_nil ?_
  refine xc_seq ?_
  refine xc_seq ?_
  refine xc_region ?_
  refine xl_op (P := Tryz.prog) (some 8) rfl rfl (ox_move (v := (.slice A l.length c)) rfl ?_)
  refine xl_op (P := Tryz.prog) (some 9) rfl rfl (ox_len (A := A) (n := l.length) (cp := c) rfl tU_33 rfl ?_)
  refine xl_op (P := Tryz.prog) (some 10) rfl rfl (ox_move (v := (.int .i64 0)) rfl ?_)
  refine xl_nil ?_
  refine xc_block ?_
  refine xc_loopN (fun m_ f_ Wx => ∃ (k : Nat) (q : Int), m_ = l.length - k ∧ (k ≤ l.length) ∧ (runA sts 0 l = runA sts q (l.drop k)) ∧ f_ 0 = (.pointer (some ⟨ba, 0, none⟩)) ∧ f_ 4 = (.int .i64 0) ∧ f_ 8 = (.slice A l.length c) ∧ f_ 9 = (.int .i64 (((l.length : Nat) : Int))) ∧ f_ 10 = (.int .i64 ((k : Nat))) ∧ f_ 5 = (.int .i64 q) ∧ Ext w Wx) (l.length) ?_ ?_
  · exact ⟨0, 0, (by omega), (by omega), rfl, rfl, rfl, rfl, rfl, (by first | exact rfl | exact (congrArg (Value.int .i64) (by omega))), (by first | exact rfl | exact (congrArg (Value.int .i64) (by omega))), (Chg.refl _ _)⟩
  · rintro m_ f1 w1 ⟨k, q, hm_f1, hk, hq, g0_f1, g4_f1, g8_f1, g9_f1, g10_f1, g5_f1, x1⟩
    have hx1 := x1.size
    refine xc_seq ?_
    refine xc_region ?_
    refine xl_op (P := Tryz.prog) (some 11) rfl rfl (ox_lss (k := .i64) (a := ((k : Nat))) (b := (((l.length : Nat) : Int))) g10_f1 g9_f1 ?_)
    refine xl_nil ?_
    refine xc_seq ?_
    refine xc_if (p := ((k : Nat) : Int) < (((l.length : Nat) : Int))) rfl (fun h1 => ?_) (fun h1 => ?_)
    · skip
      refine xc_skip ?_
      refine xc_seq ?_
      refine xc_block ?_
      refine xc_seq ?_
      refine xc_region ?_
      obtain ⟨x_1, g_1, o_1, hx_1⟩ := row_may (A := A) (cs := Sym.cs) k Sym.len (by decide) (RowA.ext hA x1)
      obtain ⟨hx_2, hA_1, hc_1⟩ := hx_1 (by first | omega | (simp only [List.length_drop, List.length_replicate, List.length_set, List.length_append, List.length_map, List.length_singleton] at *; omega))
      refine xl_op (P := Tryz.prog) (some 12) rfl rfl (ox_ixA (b := g_1) (o := o_1) (i := ((k : Nat))) k tE_33 hA_1 g8_f1 g10_f1 rfl (by omega) ?_)
      refine xl_op (P := Tryz.prog) (some 13) rfl rfl (ox_loadN (vs := [(.int .i64 x_1.kind), (.int .i64 x_1.n)]) tA_32 tS_32 rfl rfl hc_1 ?_)
      refine xl_op (P := Tryz.prog) (some 7) rfl rfl (ox_alloc tZ_32 ?_)
      intro w2 e1 z1 b1
      replace b1 : Blk w2 w1.heap.size #[(.int .i64 0), (.int .i64 0)] 32 := b1
      refine xl_op (P := Tryz.prog) none rfl rfl (ox_store (n := 2) (vs := [(.int .i64 x_1.kind), (.int .i64 x_1.n)]) tS_32 rfl (v := (.agg #[(.int .i64 x_1.kind), (.int .i64 x_1.n)])) rfl rfl rfl rfl b1 (Nat.le_of_ble_eq_true rfl) ?_)
      intro w3 e2 z2 b2
      replace b2 : Blk w3 w1.heap.size #[(.int .i64 x_1.kind), (.int .i64 x_1.n)] 32 := blk_full b2 rfl
      refine xl_nil ?_
      refine xc_seq ?_
      refine xc_region ?_
      refine xl_op (P := Tryz.prog) (some 14) rfl rfl (ox_move (v := (.pointer (some ⟨ba, 0, none⟩))) g0_f1 ?_)
      refine xl_op (P := Tryz.prog) (some 15) rfl rfl (ox_move (v := (.int .i64 q)) g5_f1 ?_)
      refine xl_op (P := Tryz.prog) (some 16) rfl rfl (ox_loadN (vs := [(.int .i64 x_1.kind), (.int .i64 x_1.n)]) tA_32 tS_32 rfl rfl ⟨b2.cell rfl, b2.cell rfl, trivial⟩ ?_)
      have q1 := (((hb.ext x1).ext e1).keep1 e2 (((hb.ext x1).ext e1).ne b1 (by decide)))
      have x2 : Ext w w3 := (Ext.chg1 (Ext.trans x1 e1) e2 (by omega))
      refine xl_op (P := Tryz.prog) (some 17) rfl rfl (ox_callE (al := [(.pointer (some ⟨ba, 0, none⟩)), (.int .i64 q), (.agg #[(.int .i64 x_1.kind), (.int .i64 x_1.n)])]) pf_19 rfl (ret_mono (go_calls s ba sA sc sts B q (⟨x_1.kind, x_1.n⟩ : Sym) w3 q1 (Vx.Own.keep ho x2 (fun _ _ => not_false)) (hF.ext x2) hB hst) ?_))
      rintro _ w4 ⟨rfl, e3⟩
      have he3 := e3.size
      refine xl_op (P := Tryz.prog) (some 5) rfl rfl (ox_assign (v := (.int .i64 ((goA sts q x_1)))) rfl ?_)
      refine xl_nil ?_
      refine xc_seq ?_
      refine xc_region ?_
      refine xl_op (P := Tryz.prog) (some 18) rfl rfl (ox_move (v := (.int .i64 ((goA sts q x_1)))) rfl ?_)
      refine xl_op (P := Tryz.prog) (some 19) rfl rfl (ox_lss (k := .i64) (a := ((goA sts q x_1))) (b := 0) rfl rfl ?_)
      refine xl_nil ?_
      refine xc_if (p := ((goA sts q x_1) : Int) < 0) rfl (fun h2 => ?_) (fun h2 => ?_)
      · skip
        refine xc_exit ?_
        refine xc_seq ?_
        refine xc_region ?_
        refine xl_op (P := Tryz.prog) (some 21) rfl rfl (ox_move (v := (.int .i64 ((goA sts q x_1)))) rfl ?_)
        refine xl_op (P := Tryz.prog) (some 4) rfl rfl (ox_assign (v := (.int .i64 ((goA sts q x_1)))) rfl ?_)
        refine xl_nil ?_
        refine xc_ret ?_
        change leaves _ _ _ _ _ _ _
        refine leaves_nil (n := 22) (rs := [.tmp 4]) (vs := [(.int .i64 ((goA sts q x_1)))]) rfl ⟨⟨by decide, rfl⟩, trivial⟩ ?_
        have x3 : Ext w w4 := (Ext.trans x2 e3)
        exact ⟨by rw [hq, runA_stop hx_2 h2]; rfl, x3⟩
      · skip
        refine xc_skip ?_
        refine xc_region ?_
        refine xl_op (P := Tryz.prog) (some 20) rfl rfl (ox_add64 (a := ((k : Nat))) (b := 1) g10_f1 rfl (by omega) ?_)
        refine xl_op (P := Tryz.prog) (some 10) rfl rfl (ox_move (v := (.int .i64 ((k : Nat) + 1))) rfl ?_)
        refine xl_nil ?_
        have x4 : Ext w w4 := (Ext.trans x2 e3)
        exact ⟨rfl, l.length - (k + 1), by omega, k + 1, ((goA sts q x_1)), by omega, (by omega), (hq.trans (runA_next hx_2 h2)), g0_f1, g4_f1, g8_f1, g9_f1, (by first | exact rfl | exact (congrArg (Value.int .i64) (by omega))), (by first | exact rfl | exact (congrArg (Value.int .i64) (by omega))), x4⟩
    · skip
      refine xc_exit ?_
      refine xc_seq ?_
      refine xc_region ?_
      refine xl_op (P := Tryz.prog) (some 21) rfl rfl (ox_move (v := (.int .i64 q)) g5_f1 ?_)
      refine xl_op (P := Tryz.prog) (some 4) rfl rfl (ox_assign (v := (.int .i64 q)) rfl ?_)
      refine xl_nil ?_
      refine xc_ret ?_
      change leaves _ _ _ _ _ _ _
      refine leaves_nil (n := 22) (rs := [.tmp 4]) (vs := [(.int .i64 q)]) rfl ⟨⟨by decide, rfl⟩, trivial⟩ ?_
      exact ⟨by rw [hq, List.drop_of_length_le (by omega)]; rfl, x1⟩
end Go.Proofs.YtnnmdkglgnlenaaGreatDoor
set_option linter.unusedVariables false
set_option linter.unusedSimpArgs false
set_option maxRecDepth 100000
set_option maxHeartbeats 4000000
namespace Go.Proofs.YtnnmdkglgnlenaaGreatDoor
open Go Go.RowKit Go.Vx
def kernA (sts : List StD) (i : Int) : List Itm := if isA sts i = true then (sts[i.toNat]!).items.take (sts[i.toNat]!).kern.toNat else []
theorem kernA_no {sts : List StD} {i : Int} (h : isA sts i = false) : kernA sts i = [] := by unfold kernA; rw [if_neg (by rw [h]; decide)]
theorem kernA_at {sts : List StD} {i : Int} {x : StD} (h0 : 0 ≤ i) (hx : sts[i.toNat]? = some x) : kernA sts i = x.items.take x.kern.toNat := by
  unfold kernA; rw [if_pos (isA_get h0 hx), List.getElem!_eq_getElem?_getD, hx]; rfl
theorem tF_94_1 : fieldT Tryz.prog 94 1 = some 1 := by kernel_rfl
theorem kernel_calls (s : SP) (ba : Nat) (sA : Option Addr) (sc : Nat) (sts : List StD) (B : Nat) (i : Int) (w : World) (hb : Blk w ba #[(.slice s.lA s.lex.length s.lc), (.slice s.nA s.names.length s.nc), (.int .i64 s.start), (.slice s.pA s.prods.length s.pc), (.slice sA sts.length sc)] 97) (ho : Vx.Own w 94 6 (.slice sA sts.length sc) sts.length (sts.flatMap StD.cs)) (hF : StF B w sts) (hB : ∀ x ∈ sts, x.items.length ≤ 67240962 ∧ x.arcs.length ≤ 67240962) (hst : sts.length ≤ 100000000000) (hK : ∀ x ∈ sts, 0 ≤ x.kern ∧ x.kern ≤ (x.items.length : Int)) :
    Calls Tryz.prog 25 #[(.pointer (some ⟨ba, 0, none⟩)), (.int .i64 i)] w (Ret (fun v w' => ∃ A' c', v = .slice A' (kernA sts i).length c' ∧ NewRow w w' 42 2 Itm.cs (kernA sts i) A' c' ∧ Ext w w')) := by
  refine calls_xc (n := 27) (f := fun s_ => [(.pointer (some ⟨ba, 0, none⟩)), (.int .i64 i)].getD s_ undef) Tryz.func25 rfl rfl (by simp) (fun s_ => by simp) ?_
  refine xc_seq ?_
  refine xc_region ?_
  refine xl_op (P := Tryz.prog) (some 4) rfl rfl (ox_assign (v := (.slice none 0 0)) rfl ?_)
  refine xl_nil ?_
  refine xc_seq ?_
  refine xc_seq ?_
  refine xc_region ?_
  refine xl_op (P := Tryz.prog) (some 5) rfl rfl (ox_move (v := (.pointer (some ⟨ba, 0, none⟩))) rfl ?_)
  refine xl_op (P := Tryz.prog) (some 6) rfl rfl (ox_move (v := (.int .i64 i)) rfl ?_)
  refine xl_op (P := Tryz.prog) (some 7) rfl rfl (ox_callE (al := [(.pointer (some ⟨ba, 0, none⟩)), (.int .i64 i)]) pf_45 rfl (ret_mono (is_calls s ba sA sc sts B i w hb (Vx.Own.keep ho (Chg.refl _ _) (fun _ _ => not_false)) (hF.ext (Chg.refl _ _)) hB hst) ?_))
  rintro _ w1 ⟨rfl, e1⟩
  have he1 := e1.size
  refine xl_op (P := Tryz.prog) (some 8) rfl rfl (ox_not (b := ((isA sts i))) rfl ?_)
  refine xl_nil ?_
  refine xc_cond (b := (!(isA sts i))) rfl (fun h1 => ?_) (fun h1 => ?_)
  · skip
    have h1' := h1
    try simp only [Bool.or_eq_true, Bool.and_eq_true, decide_eq_true_eq, Bool.or_eq_false_iff, Bool.and_eq_false_iff, decide_eq_false_iff_not, Bool.not_eq_true', Bool.not_eq_false'] at h1'
    have hia : isA sts i = false := by revert h1; cases isA sts i <;> simp
    refine xc_seq ?_
    refine xc_region ?_
    refine xl_op (P := Tryz.prog) (some 4) rfl rfl (ox_assign (v := (.slice none 0 0)) rfl ?_)
    refine xl_nil ?_
    refine xc_ret ?_
    change leaves _ _ _ _ _ _ _
    refine leaves_nil (n := 27) (rs := [.tmp 4]) (vs := [(.slice none 0 0)]) rfl ⟨⟨by decide, rfl⟩, trivial⟩ ?_
    exact ⟨none, 0, by rw [kernA_no hia]; rfl, by rw [kernA_no hia]; exact ⟨Vx.Own.nil _ _ _, fun k hk => by simp [Value.ownBlock] at hk⟩, e1⟩
  · skip
    have h1' := h1
    try simp only [Bool.or_eq_true, Bool.and_eq_true, decide_eq_true_eq, Bool.or_eq_false_iff, Bool.and_eq_false_iff, decide_eq_false_iff_not, Bool.not_eq_true', Bool.not_eq_false'] at h1'
    have hia : isA sts i = true := by revert h1; cases isA sts i <;> simp
    have hir := isA_of hia
    refine xc_skip ?_
    refine xc_seq ?_
    refine xc_regionE [] (fun W_ => Chg (fun _ => False) w1 W_) hmix ?_
    intro w2 e2 z1
    have hS1 : Chg (fun _ => False) w1 w2 := Ext.to e2
    refine xd_pure 0 (some 9) rfl rfl (by kernel_rfl) (v := (.pointer (some ⟨ba, 0, none⟩))) (.inl ⟨rfl, fun W_ hW_ => ox_move (v := (.pointer (some ⟨ba, 0, none⟩))) rfl ⟨rfl, rfl⟩⟩) ?_
    refine xd_pure 1 (some 10) rfl rfl (by kernel_rfl) (v := (.pointer (some ⟨ba, 0, none⟩))) (.inl ⟨rfl, fun W_ hW_ => ox_nilCheck (p := ⟨ba, 0, none⟩) rfl ⟨rfl, rfl⟩⟩) ?_
    refine xd_pure 2 (some 11) rfl rfl (by kernel_rfl) (v := (.pointer (some ⟨ba, 4, none⟩))) (.inl ⟨rfl, fun W_ hW_ => ox_fieldAddr (b := ba) (o := 0) tF_97_1 rfl ⟨rfl, rfl⟩⟩) ?_
    refine xd_take 3 (some 12) rfl rfl (by kernel_rfl) (v := (.slice sA sts.length sc)) (.inl ⟨rfl, fun W_ hW_ => ox_load (v := (.slice sA sts.length sc)) tA_95 rfl (((hb.ext e1).ext hW_).cell rfl) ⟨rfl, rfl⟩⟩) hS1 ?_
    refine xd_pure 4 (some 13) rfl rfl (by kernel_rfl) (v := (.int .i64 i)) (.inl ⟨rfl, fun W_ hW_ => ox_move (v := (.int .i64 i)) rfl ⟨rfl, rfl⟩⟩) ?_
    obtain ⟨x_1, g_1, o_1, hx_1⟩ := row_may (A := sA) (cs := StD.cs) i.toNat StD.len (by decide) (RowA.ext ho.rowO e1)
    obtain ⟨hx_2, hA_1, hc_1⟩ := hx_1 (by first | omega | (simp only [List.length_drop, List.length_replicate, List.length_set, List.length_append, List.length_map, List.length_singleton] at *; omega))
    have hb_x_1 := hB _ (List.mem_of_getElem? hx_2)
    have hk_x_1 := hK _ (List.mem_of_getElem? hx_2)
    have hcp_x_1 := Own.capn (StF.at hF hx_2).items
    refine xd_pure 5 (some 14) rfl rfl (by kernel_rfl) (v := (.pointer (some ⟨g_1, o_1 + i.toNat * 6, none⟩))) (.inl ⟨rfl, fun W_ hW_ => ox_ixA (b := g_1) (o := o_1) (i := i) i.toNat tE_95 hA_1 rfl rfl (by omega) (by omega) ⟨rfl, rfl⟩⟩) ?_
    refine xd_pure 6 (some 15) rfl rfl (by kernel_rfl) (v := (.pointer (some ⟨g_1, o_1 + i.toNat * 6, none⟩))) (.inl ⟨rfl, fun W_ hW_ => ox_fieldAddr (b := g_1) (o := (o_1 + i.toNat * 6)) tF_94_0 rfl ⟨rfl, rfl⟩⟩) ?_
    refine xd_take 7 (some 16) rfl rfl (by kernel_rfl) (v := (.slice x_1.iA x_1.items.length x_1.ic)) (.inl ⟨rfl, fun W_ hW_ => ox_load (v := (.slice x_1.iA x_1.items.length x_1.ic)) tA_39 rfl (CellsL.at1 (CellsL.keep hW_ not_false hc_1) 0 rfl) ⟨rfl, rfl⟩⟩) hS1 ?_
    refine xd_pure 8 (some 17) rfl rfl (by kernel_rfl) (v := (.pointer (some ⟨ba, 0, none⟩))) (.inl ⟨rfl, fun W_ hW_ => ox_move (v := (.pointer (some ⟨ba, 0, none⟩))) rfl ⟨rfl, rfl⟩⟩) ?_
    refine xd_pure 9 (some 18) rfl rfl (by kernel_rfl) (v := (.pointer (some ⟨ba, 0, none⟩))) (.inl ⟨rfl, fun W_ hW_ => ox_nilCheck (p := ⟨ba, 0, none⟩) rfl ⟨rfl, rfl⟩⟩) ?_
    refine xd_pure 10 (some 19) rfl rfl (by kernel_rfl) (v := (.pointer (some ⟨ba, 4, none⟩))) (.inl ⟨rfl, fun W_ hW_ => ox_fieldAddr (b := ba) (o := 0) tF_97_1 rfl ⟨rfl, rfl⟩⟩) ?_
    refine xd_take 11 (some 20) rfl rfl (by kernel_rfl) (v := (.slice sA sts.length sc)) (.inl ⟨rfl, fun W_ hW_ => ox_load (v := (.slice sA sts.length sc)) tA_95 rfl (((hb.ext e1).ext hW_).cell rfl) ⟨rfl, rfl⟩⟩) hS1 ?_
    refine xd_pure 12 (some 21) rfl rfl (by kernel_rfl) (v := (.int .i64 i)) (.inl ⟨rfl, fun W_ hW_ => ox_move (v := (.int .i64 i)) rfl ⟨rfl, rfl⟩⟩) ?_
    refine xd_pure 13 (some 22) rfl rfl (by kernel_rfl) (v := (.pointer (some ⟨g_1, o_1 + i.toNat * 6, none⟩))) (.inl ⟨rfl, fun W_ hW_ => ox_ixA (b := g_1) (o := o_1) (i := i) i.toNat tE_95 hA_1 rfl rfl (by omega) (by omega) ⟨rfl, rfl⟩⟩) ?_
    refine xd_pure 14 (some 23) rfl rfl (by kernel_rfl) (v := (.pointer (some ⟨g_1, o_1 + i.toNat * 6 + 1, none⟩))) (.inl ⟨rfl, fun W_ hW_ => ox_fieldAddr (b := g_1) (o := (o_1 + i.toNat * 6)) tF_94_1 rfl ⟨rfl, rfl⟩⟩) ?_
    refine xd_take 15 (some 24) rfl rfl (by kernel_rfl) (v := (.int .i64 x_1.kern)) (.inl ⟨rfl, fun W_ hW_ => ox_load (v := (.int .i64 x_1.kern)) tA_3 rfl (CellsL.at1 (CellsL.keep hW_ not_false hc_1) 1 rfl) ⟨rfl, rfl⟩⟩) hS1 ?_
    refine xd_pure 16 (some 25) rfl rfl (by kernel_rfl) (v := (.slice x_1.iA x_1.kern.toNat x_1.ic)) (.inl ⟨rfl, fun W_ hW_ => ox_sliceToN (A := x_1.iA) (cp := x_1.ic) (i := x_1.kern) x_1.kern.toNat tE_39 rfl rfl (by omega) (by omega) (by omega) ⟨rfl, rfl⟩⟩) ?_
    have hlk : (x_1.items.take x_1.kern.toNat).length = x_1.kern.toNat := by rw [List.length_take]; omega
    have x1 : Ext w w2 := (Ext.trans e1 e2)
    refine xd_one 17 (some 26) rfl rfl (by kernel_rfl) rfl (ox_callE (al := [(.slice x_1.iA x_1.kern.toNat x_1.ic)]) pf_46 rfl (ret_mono ((by have h9 := cloneItm (x_1.items.take x_1.kern.toNat) x_1.iA x_1.ic w2 (RowA.ext (Own.takeD Itm.len (by decide) (StF.at hF hx_2).items (by omega)).rowO x1) (by omega); rw [hlk] at h9; exact h9)) ?_))
    rintro _ w3 ⟨A1, c1, rfl, hn1, hnil1, e3⟩
    have he3 := e3.size
    have hS2 : Chg (fun _ => False) w1 w3 := Chg.ext hS1 e3
    refine ⟨.inr fun _ => hS2, ?_⟩
    refine xd_pure 18 (some 4) rfl rfl (by kernel_rfl) (v := (.slice A1 x_1.kern.toNat c1)) (.inl ⟨rfl, fun W_ hW_ => ox_assign (v := (.slice A1 x_1.kern.toNat c1)) rfl ⟨rfl, rfl⟩⟩) ?_
    refine xd_done (by kernel_rfl) ?_ _
    refine xc_ret ?_
    change leaves _ _ _ _ _ _ _
    refine leaves_nil (n := 27) (rs := [.tmp 4]) (vs := [(.slice A1 x_1.kern.toNat c1)]) rfl ⟨⟨by decide, rfl⟩, trivial⟩ ?_
    have x2 : Ext w w3 := (Ext.trans x1 e3)
    exact ⟨A1, c1, by rw [kernA_at hir.1 hx_2, hlk]; rfl, by rw [kernA_at hir.1 hx_2]; exact ⟨hn1.1, fun k hk => by have _h := hn1.2 k hk; omega⟩, x2⟩
end Go.Proofs.YtnnmdkglgnlenaaGreatDoor
set_option linter.unusedVariables false
set_option linter.unusedSimpArgs false
set_option maxRecDepth 100000
set_option maxHeartbeats 4000000
namespace Go.Proofs.YtnnmdkglgnlenaaGreatDoor
open Go Go.RowKit Go.Vx
def pathU (sts : List StD) : Nat → Int → List Sym
  | 0, _ => []
  | f + 1, i => if i = 0 then [] else (sts[i.toNat]!).sym :: pathU sts f (sts[i.toNat]!).frm
def pathA (sts : List StD) (i : Int) : List Sym := if isA sts i = true then (pathU sts i.toNat i).reverse else []
theorem pathA_no {sts : List StD} {i : Int} (h : isA sts i = false) : pathA sts i = [] := by unfold pathA; rw [if_neg (by rw [h]; decide)]
theorem pathA_yes {sts : List StD} {i : Int} (h : isA sts i = true) : pathA sts i = (pathU sts i.toNat i).reverse := by unfold pathA; rw [if_pos h]
theorem pathU_two {sts : List StD} (hfr : ∀ (k : Nat) (x : StD), sts[k]? = some x → k ≠ 0 → 0 ≤ x.frm ∧ x.frm < (k : Int)) : ∀ (f f' : Nat) (i : Int), 0 ≤ i → i < (sts.length : Int) → i.toNat ≤ f → i.toNat ≤ f' → pathU sts f i = pathU sts f' i := by
  intro f
  induction f with
  | zero =>
    intro f' i h0 hl hf hf'
    have : i = 0 := by omega
    subst this
    cases f' <;> simp [pathU]
  | succ f ih =>
    intro f' i h0 hl hf hf'
    by_cases hi : i = 0
    · subst hi; cases f' <;> simp [pathU]
    · have hx : sts[i.toNat]? = some sts[i.toNat] := List.getElem?_eq_getElem (by omega)
      have hb : sts[i.toNat]! = sts[i.toNat] := by rw [List.getElem!_eq_getElem?_getD, hx]; rfl
      have h1 := hfr _ _ hx (by omega)
      obtain ⟨m, rfl⟩ : ∃ m, f' = m + 1 := ⟨f' - 1, by omega⟩
      rw [pathU, pathU, if_neg hi, if_neg hi, hb, ih m _ h1.1 (by omega) (by omega) (by omega)]
theorem pathU_next {sts : List StD} (hfr : ∀ (k : Nat) (x : StD), sts[k]? = some x → k ≠ 0 → 0 ≤ x.frm ∧ x.frm < (k : Int)) {q : Int} {x : StD} (h0 : 0 < q) (hx : sts[q.toNat]? = some x) : pathU sts q.toNat q = [(⟨x.sym.kind, x.sym.n⟩ : Sym)] ++ pathU sts x.frm.toNat x.frm := by
  have hl := (List.getElem?_eq_some_iff.1 hx).1
  have h1 := hfr _ _ hx (by omega)
  have hb : sts[q.toNat]! = x := by rw [List.getElem!_eq_getElem?_getD, hx]; rfl
  obtain ⟨m, hm⟩ : ∃ m, q.toNat = m + 1 := ⟨q.toNat - 1, by omega⟩
  rw [hm, pathU, if_neg (by omega), hb, pathU_two hfr m x.frm.toNat x.frm h1.1 (by omega) (by omega) (by omega)]; rfl
theorem pf_52 : plainF Tryz.prog 52 = true := by kernel_rfl
theorem tF_94_4 : fieldT Tryz.prog 94 4 = some 5 := by kernel_rfl
theorem path_calls (s : SP) (ba : Nat) (sA : Option Addr) (sc : Nat) (sts : List StD) (B : Nat) (i : Int) (w : World) (hb : Blk w ba #[(.slice s.lA s.lex.length s.lc), (.slice s.nA s.names.length s.nc), (.int .i64 s.start), (.slice s.pA s.prods.length s.pc), (.slice sA sts.length sc)] 97) (ho : Vx.Own w 94 6 (.slice sA sts.length sc) sts.length (sts.flatMap StD.cs)) (hF : StF B w sts) (hB : ∀ x ∈ sts, x.items.length ≤ 67240962 ∧ x.arcs.length ≤ 67240962) (hst : sts.length ≤ 100000000000) (hfr : ∀ (k : Nat) (x : StD), sts[k]? = some x → k ≠ 0 → 0 ≤ x.frm ∧ x.frm < (k : Int)) :
    Calls Tryz.prog 24 #[(.pointer (some ⟨ba, 0, none⟩)), (.int .i64 i)] w (Ret (fun v w' => ∃ A' c', v = .slice A' (pathA sts i).length c' ∧ NewRow w w' 32 2 Sym.cs (pathA sts i) A' c' ∧ Ext w w')) := by
  refine calls_xc (n := 34) (f := fun s_ => [(.pointer (some ⟨ba, 0, none⟩)), (.int .i64 i)].getD s_ undef) Tryz.func24 rfl rfl (by simp) (fun s_ => by simp) ?_
  refine xc_seq ?_
  refine xc_region ?_
  refine xl_op (P := Tryz.prog) (some 4) rfl rfl (ox_assign (v := (.slice none 0 0)) rfl ?_)
  refine xl_nil ?_
  refine xc_seq ?_
  refine xc_seq ?_
  refine xc_region ?_
  refine xl_op (P := Tryz.prog) (some 6) rfl rfl (ox_move (v := (.pointer (some ⟨ba, 0, none⟩))) rfl ?_)
  refine xl_op (P := Tryz.prog) (some 7) rfl rfl (ox_move (v := (.int .i64 i)) rfl ?_)
  refine xl_op (P := Tryz.prog) (some 8) rfl rfl (ox_callE (al := [(.pointer (some ⟨ba, 0, none⟩)), (.int .i64 i)]) pf_45 rfl (ret_mono (is_calls s ba sA sc sts B i w hb (Vx.Own.keep ho (Chg.refl _ _) (fun _ _ => not_false)) (hF.ext (Chg.refl _ _)) hB hst) ?_))
  rintro _ w1 ⟨rfl, e1⟩
  have he1 := e1.size
  refine xl_op (P := Tryz.prog) (some 9) rfl rfl (ox_not (b := ((isA sts i))) rfl ?_)
  refine xl_nil ?_
  refine xc_cond (b := (!(isA sts i))) rfl (fun h1 => ?_) (fun h1 => ?_)
  · skip
    have h1' := h1
    try simp only [Bool.or_eq_true, Bool.and_eq_true, decide_eq_true_eq, Bool.or_eq_false_iff, Bool.and_eq_false_iff, decide_eq_false_iff_not, Bool.not_eq_true', Bool.not_eq_false'] at h1'
    have hia : isA sts i = false := by revert h1; cases isA sts i <;> simp
    refine xc_seq ?_
    refine xc_region ?_
    refine xl_op (P := Tryz.prog) (some 4) rfl rfl (ox_assign (v := (.slice none 0 0)) rfl ?_)
    refine xl_nil ?_
    refine xc_ret ?_
    change leaves _ _ _ _ _ _ _
    refine leaves_nil (n := 34) (rs := [.tmp 4]) (vs := [(.slice none 0 0)]) rfl ⟨⟨by decide, rfl⟩, trivial⟩ ?_
    exact ⟨none, 0, by rw [pathA_no hia]; rfl, by rw [pathA_no hia]; exact ⟨Vx.Own.nil _ _ _, fun k hk => by simp [Value.ownBlock] at hk⟩, e1⟩
  · skip
    have h1' := h1
    try simp only [Bool.or_eq_true, Bool.and_eq_true, decide_eq_true_eq, Bool.or_eq_false_iff, Bool.and_eq_false_iff, decide_eq_false_iff_not, Bool.not_eq_true', Bool.not_eq_false'] at h1'
    have hia : isA sts i = true := by revert h1; cases isA sts i <;> simp
    have hir := isA_of hia
    refine xc_skip ?_
    refine xc_seq ?_
    refine xc_region ?_
    refine xl_op (P := Tryz.prog) (some 5) rfl rfl (ox_assign (v := (.slice none 0 0)) rfl ?_)
    refine xl_nil ?_
    refine xc_seq ?_
    refine xc_block ?_
    refine xc_loopN (fun m_ f_ Wx => ∃ (q : Int) (y : List Sym) (Ay : Option Addr) (cy : Nat), m_ = q.toNat ∧ (0 ≤ q ∧ q < (sts.length : Int)) ∧ (pathU sts i.toNat i = y ++ pathU sts q.toNat q) ∧ ((y.length : Int) + q ≤ i) ∧ f_ 0 = (.pointer (some ⟨ba, 0, none⟩)) ∧ f_ 4 = (.slice none 0 0) ∧ f_ 1 = (.int .i64 q) ∧ f_ 5 = (.slice Ay y.length cy) ∧ Vx.Own Wx 32 2 (.slice Ay y.length cy) y.length (y.flatMap Sym.cs) ∧ (∀ k, ((.slice Ay y.length cy) : Value).ownBlock = some k → w1.heap.size ≤ k) ∧ Ext w1 Wx) (i.toNat) ?_ ?_
    · exact ⟨i, [], none, 0, (by omega), (by omega), (by simp), (by simp), rfl, rfl, (by first | exact rfl | exact (congrArg (Value.int .i64) (by omega))), rfl, (Vx.Own.nil _ _ _), (fun _k _h => by simp [Value.ownBlock] at _h), (Chg.refl _ _)⟩
    · rintro m_ f1 w2 ⟨q, y, Ay, cy, hm_f1, hqr, hq, hyl, g0_f1, g4_f1, g1_f1, g5_f1, a0_f1, l0_f1, x1⟩
      have hx1 := x1.size
      refine xc_seq ?_
      refine xc_seq ?_
      refine xc_region ?_
      refine xl_op (P := Tryz.prog) (some 10) rfl rfl (ox_move (v := (.int .i64 q)) g1_f1 ?_)
      refine xl_op (P := Tryz.prog) (some 11) rfl rfl (ox_neq (k := .i64) (a := q) (b := 0) rfl rfl ?_)
      refine xl_nil ?_
      refine xc_if (p := (q : Int) ≠ 0) rfl (fun h2 => ?_) (fun h2 => ?_)
      · skip
        refine xc_skip ?_
        refine xc_seq ?_
        refine xc_block ?_
        refine xc_region ?_
        refine xl_op (P := Tryz.prog) (some 20) rfl rfl (ox_move (v := (.slice Ay y.length cy)) g5_f1 ?_)
        refine xl_op (P := Tryz.prog) (some 21) rfl rfl (ox_move (v := (.pointer (some ⟨ba, 0, none⟩))) g0_f1 ?_)
        refine xl_op (P := Tryz.prog) (some 22) rfl rfl (ox_nilCheck (p := ⟨ba, 0, none⟩) rfl ?_)
        refine xl_op (P := Tryz.prog) (some 23) rfl rfl (ox_fieldAddr (b := ba) (o := 0) tF_97_1 rfl ?_)
        refine xl_op (P := Tryz.prog) (some 24) rfl rfl (ox_load (v := (.slice sA sts.length sc)) tA_95 rfl (((hb.ext e1).ext x1).cell rfl) ?_)
        refine xl_op (P := Tryz.prog) (some 25) rfl rfl (ox_move (v := (.int .i64 q)) g1_f1 ?_)
        have x2 : Ext w w2 := (Ext.trans e1 x1)
        obtain ⟨x_1, g_1, o_1, hx_1⟩ := row_may (A := sA) (cs := StD.cs) q.toNat StD.len (by decide) (RowA.ext ho.rowO x2)
        obtain ⟨hx_2, hA_1, hc_1⟩ := hx_1 (by first | omega | (simp only [List.length_drop, List.length_replicate, List.length_set, List.length_append, List.length_map, List.length_singleton] at *; omega))
        have hb_x_1 := hB _ (List.mem_of_getElem? hx_2)
        refine xl_op (P := Tryz.prog) (some 26) rfl rfl (ox_ixA (b := g_1) (o := o_1) (i := q) q.toNat tE_95 hA_1 rfl rfl (by omega) (by omega) ?_)
        refine xl_op (P := Tryz.prog) (some 27) rfl rfl (ox_fieldAddr (b := g_1) (o := (o_1 + q.toNat * 6)) tF_94_3 rfl ?_)
        refine xl_op (P := Tryz.prog) (some 28) rfl rfl (ox_loadN (vs := [(.int .i64 x_1.sym.kind), (.int .i64 x_1.sym.n)]) tA_32 tS_32 rfl rfl (CellsL.sub hc_1 3 2 rfl) ?_)
        refine xl_op (P := Tryz.prog) (some 29) rfl rfl (ox_mkSlice (ps := [(0, (.agg #[(.int .i64 x_1.sym.kind), (.int .i64 x_1.sym.n)]))]) (zs := #[(.int .i64 0), (.int .i64 0)]) (cs := #[(.int .i64 x_1.sym.kind), (.int .i64 x_1.sym.n)]) tE_33 rfl (by decide) (by kernel_rfl) (by kernel_rfl) ?_)
        intro w3 e2 z1 b1
        replace b1 : Blk w3 w2.heap.size #[(.int .i64 x_1.sym.kind), (.int .i64 x_1.sym.n)] 32 := b1
        refine xl_op (P := Tryz.prog) (some 30) rfl rfl (ox_appD (l := y) (r := [(⟨x_1.sym.kind, x_1.sym.n⟩ : Sym)]) (cs := Sym.cs) rfl tE_33 rfl (by decide) Sym.len Sym.one (v := (.slice Ay y.length cy)) rfl rfl (m := 1) rfl (a0_f1.ext e2) b1.all (by first | omega | (simp only [List.length_append, List.length_cons, List.length_nil]; omega)) (by decide) ?_)
        intro A1 c1 w4 o1 e3 at1 hc1
        have he3 := e3.size
        have low1 : ∀ _k, (Value.slice A1 (y ++ [(⟨x_1.sym.kind, x_1.sym.n⟩ : Sym)]).length c1).ownBlock = some _k → w1.heap.size ≤ _k := fun _k _h => by rcases at1 with _e | _e <;> rw [_e] at _h; exact l0_f1 _k _h; exact (by cases _h; omega)
        refine xl_op (P := Tryz.prog) (some 5) rfl rfl (ox_assign (v := (.slice A1 ((y ++ [(⟨x_1.sym.kind, x_1.sym.n⟩ : Sym)]).length) c1)) rfl ?_)
        refine xl_nil ?_
        refine xc_region ?_
        refine xl_op (P := Tryz.prog) (some 12) rfl rfl (ox_move (v := (.pointer (some ⟨ba, 0, none⟩))) g0_f1 ?_)
        refine xl_op (P := Tryz.prog) (some 13) rfl rfl (ox_nilCheck (p := ⟨ba, 0, none⟩) rfl ?_)
        refine xl_op (P := Tryz.prog) (some 14) rfl rfl (ox_fieldAddr (b := ba) (o := 0) tF_97_1 rfl ?_)
        have q1 := ((((hb.ext e1).ext x1).ext e2).keep e3 (fun _h => (a0_f1.ext e2).ne_blk (((hb.ext e1).ext x1).ext e2) (by decide) _ _h rfl))
        refine xl_op (P := Tryz.prog) (some 15) rfl rfl (ox_load (v := (.slice sA sts.length sc)) tA_95 rfl (q1.cell rfl) ?_)
        refine xl_op (P := Tryz.prog) (some 16) rfl rfl (ox_move (v := (.int .i64 q)) g1_f1 ?_)
        have x3 : Ext w w4 := (Chg.trans (Ext.trans x2 e2) e3 (fun b hb hl => (absurd hl (by have _h := l0_f1 b hb; omega))))
        obtain ⟨x_2, g_2, o_2, hx_3⟩ := row_may (A := sA) (cs := StD.cs) q.toNat StD.len (by decide) (RowA.ext ho.rowO x3)
        obtain ⟨hx_4, hA_2, hc_2⟩ := hx_3 (by first | omega | (simp only [List.length_drop, List.length_replicate, List.length_set, List.length_append, List.length_map, List.length_singleton] at *; omega))
        have hb_x_2 := hB _ (List.mem_of_getElem? hx_4)
        refine xl_op (P := Tryz.prog) (some 17) rfl rfl (ox_ixA (b := g_2) (o := o_2) (i := q) q.toNat tE_95 hA_2 rfl rfl (by omega) (by omega) ?_)
        refine xl_op (P := Tryz.prog) (some 18) rfl rfl (ox_fieldAddr (b := g_2) (o := (o_2 + q.toNat * 6)) tF_94_4 rfl ?_)
        refine xl_op (P := Tryz.prog) (some 19) rfl rfl (ox_load (v := (.int .i64 x_2.frm)) tA_3 rfl (CellsL.at1 hc_2 5 rfl) ?_)
        refine xl_op (P := Tryz.prog) (some 1) rfl rfl (ox_assign (v := (.int .i64 x_2.frm)) rfl ?_)
        refine xl_nil ?_
        have hxx9 : x_1 = x_2 := Option.some.inj (hx_2.symm.trans hx_4)
        skip
        have x4 : Ext w1 w4 := (Chg.trans (Ext.trans x1 e2) e3 (fun b hb hl => (absurd hl (by have _h := l0_f1 b hb; omega))))
        exact ⟨rfl, x_2.frm.toNat, by (have h9 := hfr _ _ hx_4 (by omega); rw [hm_f1]; omega), x_2.frm, y ++ [(⟨x_1.sym.kind, x_1.sym.n⟩ : Sym)], A1, c1, by omega, (by have h9 := hfr _ _ hx_4 (by omega); omega), (hq.trans (by rw [pathU_next hfr (by omega) hx_4, List.append_assoc]; rw [hxx9])), (by have h9 := hfr _ _ hx_4 (by omega); simp only [List.length_append, List.length_cons, List.length_nil]; omega), g0_f1, g4_f1, (by first | exact rfl | exact (congrArg (Value.int .i64) (by omega))), rfl, o1, low1, x4⟩
      · skip
        refine xc_exit ?_
        refine xc_seq ?_
        refine xc_region ?_
        refine xl_op (P := Tryz.prog) (some 31) rfl rfl (ox_move (v := (.slice Ay y.length cy)) g5_f1 ?_)
        refine xl_op (P := Tryz.prog) (some 32) rfl rfl (ox_callE (al := [(.slice Ay y.length cy)]) pf_52 rfl (ret_mono (reverse_calls y Ay cy w2 a0_f1 (by omega)) ?_))
        rintro _ w5 ⟨rfl, o2, y1⟩
        have hy1 := y1.size
        refine xl_nil ?_
        refine xc_seq ?_
        refine xc_region ?_
        refine xl_op (P := Tryz.prog) (some 33) rfl rfl (ox_move (v := (.slice Ay y.length cy)) g5_f1 ?_)
        refine xl_op (P := Tryz.prog) (some 4) rfl rfl (ox_assign (v := (.slice Ay y.length cy)) rfl ?_)
        refine xl_nil ?_
        refine xc_ret ?_
        change leaves _ _ _ _ _ _ _
        refine leaves_nil (n := 34) (rs := [.tmp 4]) (vs := [(.slice Ay y.length cy)]) rfl ⟨⟨by decide, rfl⟩, trivial⟩ ?_
        have hp9 : pathA sts i = y.reverse := by rw [pathA_yes hia, hq, show q = 0 by omega]; simp [pathU]
        have x5 : Ext w w5 := (Chg.trans (Ext.trans e1 x1) y1 (fun b hb hl => (absurd hl (by have _h := l0_f1 b hb; omega))))
        exact ⟨_, _, by rw [hp9, List.length_reverse]; rfl, by rw [hp9]; exact ⟨by rw [List.length_reverse]; exact o2, fun k hk => by rw [List.length_reverse] at hk; have _h := l0_f1 k hk; omega⟩, x5⟩
end Go.Proofs.YtnnmdkglgnlenaaGreatDoor
set_option linter.unusedVariables false
set_option linter.unusedSimpArgs false
set_option maxRecDepth 100000
set_option maxHeartbeats 4000000
namespace Go.Proofs.YtnnmdkglgnlenaaGreatDoor
open Go Go.RowKit Go.Vx
def isS (st : List ASt) (i : Int) : Bool := decide (0 ≤ i) && decide (i < (st.length : Int))
def kernS (st : List ASt) (i : Int) : List Itm := if isS st i = true then (st[i.toNat]!).kernel else []
def goS (st : List ASt) (i : Int) (z : Sym) : Int := if isS st i = true then arcTo z (st[i.toNat]!).arcs else -1
def runS (st : List ASt) : Int → List Sym → Int
  | q, [] => q
  | q, z :: r => if goS st q z < 0 then goS st q z else runS st (goS st q z) r
def wayS (st : List ASt) : Nat → Int → List Sym
  | 0, _ => []
  | f + 1, i => if i = 0 then [] else (st[i.toNat]!).sym :: wayS st f (st[i.toNat]!).frm
def pathS (st : List ASt) (i : Int) : List Sym := if isS st i = true then (wayS st i.toNat i).reverse else []
section
variable (sts : List StD)
theorem bang_d {sts : List StD} {i : Int} (h : isA sts i = true) : (sts.map StD.d)[i.toNat]! = (sts[i.toNat]!).d := by
  have hi := isA_of h
  have hx : sts[i.toNat]? = some sts[i.toNat] := List.getElem?_eq_getElem (by omega)
  rw [List.getElem!_eq_getElem?_getD, map_get hx, List.getElem!_eq_getElem?_getD, hx]; rfl
theorem isA_d (i : Int) : isA sts i = isS (sts.map StD.d) i := by unfold isA isS; rw [List.length_map]
theorem kernA_d (i : Int) : kernA sts i = kernS (sts.map StD.d) i := by
  unfold kernA kernS; rw [← isA_d]
  split
  · rename_i h; rw [bang_d h]; rfl
  · rfl
theorem goA_d (i : Int) (z : Sym) : goA sts i z = goS (sts.map StD.d) i z := by
  unfold goA goS; rw [← isA_d]
  split
  · rename_i h; rw [bang_d h]; rfl
  · rfl
theorem runA_d : ∀ (l : List Sym) (q : Int), runA sts q l = runS (sts.map StD.d) q l
  | [], _ => rfl
  | z :: r, q => by rw [runA, runS, ← goA_d, runA_d r]
theorem pathU_d {sts : List StD} (hfr : ∀ (k : Nat) (x : StD), sts[k]? = some x → k ≠ 0 → 0 ≤ x.frm ∧ x.frm < (k : Int)) : ∀ (f : Nat) (i : Int), 0 ≤ i → i < (sts.length : Int) → pathU sts f i = wayS (sts.map StD.d) f i
  | 0, _, _, _ => rfl
  | f + 1, i, h0, hl => by
    rw [pathU, wayS]
    split
    · rfl
    · rename_i hi
      have hx : sts[i.toNat]? = some sts[i.toNat] := List.getElem?_eq_getElem (by omega)
      have hb : sts[i.toNat]! = sts[i.toNat] := by rw [List.getElem!_eq_getElem?_getD, hx]; rfl
      have h1 := hfr _ _ hx (by omega)
      rw [bang_d (by unfold isA; simp; omega), hb, pathU_d hfr f _ h1.1 (by omega)]; rfl
theorem pathA_d {sts : List StD} (hfr : ∀ (k : Nat) (x : StD), sts[k]? = some x → k ≠ 0 → 0 ≤ x.frm ∧ x.frm < (k : Int)) (i : Int) : pathA sts i = pathS (sts.map StD.d) i := by
  unfold pathA pathS; rw [← isA_d]
  split
  · rename_i h
    have := isA_of h
    rw [pathU_d hfr _ _ this.1 this.2]
  · rfl
end
theorem small_facts : (smallA.length > 5 ∧ runS smallA 0 [⟨3, 1⟩] > 0 ∧ runS smallA 0 [⟨1, 3⟩] = -1 ∧ kernS smallA 0 = [⟨-1, 0⟩]) ∧ (pathS smallA (runS smallA 0 [⟨3, 1⟩])).length = 1 := by
  have h1 : decide (smallA.length > 5 ∧ runS smallA 0 [⟨3, 1⟩] > 0 ∧ runS smallA 0 [⟨1, 3⟩] = -1 ∧ kernS smallA 0 = [⟨-1, 0⟩]) = true := by kernel_rfl
  have h2 : decide ((pathS smallA (runS smallA 0 [⟨3, 1⟩])).length = 1) = true := by kernel_rfl
  exact ⟨of_decide_eq_true h1, of_decide_eq_true h2⟩
end Go.Proofs.YtnnmdkglgnlenaaGreatDoor
set_option linter.unusedVariables false
set_option linter.unusedSimpArgs false
set_option maxRecDepth 100000
set_option maxHeartbeats 4000000
namespace Go.Proofs.YtnnmdkglgnlenaaGreatDoor
open Go Go.RowKit Go.Vx
def ASt.same (y x : ASt) : Prop := y.items = x.items ∧ y.kern = x.kern ∧ y.sym = x.sym ∧ y.frm = x.frm
theorem ASt.same.kernel {x y : ASt} (h : y.same x) : y.kernel = x.kernel := by unfold ASt.kernel; rw [h.1, h.2.1]
structure StepA (g : GD) (q : Nat) (z : Sym) (l : List Itm) (st st' : List ASt) (to : Int) : Prop where
  old : ∀ (k : Nat) (x : ASt), st[k]? = some x → ∃ y, st'[k]? = some y ∧ y.same x ∧ y.arcs = if k = q then x.arcs ++ [⟨z, to⟩] else x.arcs
  inv : ∀ (k : Nat) (y : ASt), st'[k]? = some y → (∃ x, st[k]? = some x ∧ y.same x ∧ y.arcs = if k = q then x.arcs ++ [⟨z, to⟩] else x.arcs) ∨ (k = st.length ∧ y = ⟨closG g l, (l.length : Int), [], z, (q : Nat)⟩ ∧ to = ((st.length : Nat) : Int) ∧ ∀ x ∈ st, x.kernel ≠ l)
  tgt : ∃ (j : Nat) (y : ASt), to = (j : Nat) ∧ st'[j]? = some y ∧ y.kernel = l ∧ ((∃ x, st[j]? = some x ∧ y.frm = x.frm) ∨ y.frm = (q : Nat))
theorem same_set {st : List ASt} {q : Nat} {x : ASt} {a : Arc} (hx : st[q]? = some x) (k : Nat) (u : ASt) (hu : st[k]? = some u) : ∃ y, (st.set q { x with arcs := x.arcs ++ [a] })[k]? = some y ∧ y.same u ∧ y.arcs = if k = q then u.arcs ++ [a] else u.arcs := by
  have hl := (List.getElem?_eq_some_iff.1 hx).1
  by_cases hk : k = q
  · subst hk
    rw [hx] at hu; cases hu
    exact ⟨_, List.getElem?_set_self hl, ⟨rfl, rfl, rfl, rfl⟩, by rw [if_pos rfl]⟩
  · exact ⟨u, by rw [List.getElem?_set_ne (fun h => hk h.symm)]; exact hu, ⟨rfl, rfl, rfl, rfl⟩, by rw [if_neg hk]⟩
theorem set_inv {st : List ASt} {q : Nat} {x y : ASt} {a : Arc} (hx : st[q]? = some x) (k : Nat) (hy : (st.set q { x with arcs := x.arcs ++ [a] })[k]? = some y) : ∃ u, st[k]? = some u ∧ y.same u ∧ y.arcs = if k = q then u.arcs ++ [a] else u.arcs := by
  have hl := (List.getElem?_eq_some_iff.1 hx).1
  have hk := (List.getElem?_eq_some_iff.1 hy).1
  rw [List.length_set] at hk
  obtain ⟨y', h1, h2, h3⟩ := same_set (a := a) hx k st[k] (List.getElem?_eq_getElem hk)
  rw [hy] at h1; cases h1
  exact ⟨_, List.getElem?_eq_getElem hk, h2, h3⟩
theorem closG_kernel {g : GD} {l : List Itm} {z : Sym} {fr : Int} : (⟨closG g l, (l.length : Int), [], z, fr⟩ : ASt).kernel = l := by
  unfold ASt.kernel
  simp only [Int.toNat_natCast]
  exact closG_pre (closF_pre g l)
theorem arcS_step {g : GD} (hg : GoodL g) {q : Nat} {z : Sym} {st : List ASt} {x : ASt} (h : OkS g st) (hx : st[q]? = some x) : ∃ to, StepA g q z (overG g z x.items) st (arcS g q st z) to := by
  have hql := (List.getElem?_eq_some_iff.1 hx).1
  have hok : ∀ y ∈ overG g z x.items, okJ g y := overG_okJ (h.ok _ (List.mem_of_getElem? hx))
  rw [arcS_eq hx]
  rcases addA_cases (g := g) (st := st) (l := overG g z x.items) (z := z) (fr := (q : Nat)) (fun u hu y hy => okJ_small (h.ok u hu y hy) hg.prods hg.rights) (fun y hy => okJ_small (hok y hy) hg.prods hg.rights) with ⟨j, y, h1, h2, _, h4⟩ | ⟨h1, h2⟩
  · rw [h4]
    refine ⟨(j : Nat), fun k u hu => same_set hx k u hu, fun k y hy => .inl (set_inv hx k hy), ?_⟩
    obtain ⟨y', k1, k2, k3⟩ := same_set (a := ⟨z, ((j : Nat) : Int)⟩) hx j y h1
    exact ⟨j, y', rfl, k1, by rw [k2.kernel]; exact h2, .inl ⟨y, h1, k2.2.2.2⟩⟩
  · rw [h2]
    have hx2 : (st ++ [(⟨closG g (overG g z x.items), ((overG g z x.items).length : Int), [], z, ((q : Nat) : Int)⟩ : ASt)])[q]? = some x := by rw [List.getElem?_append_left hql]; exact hx
    refine ⟨((st.length : Nat) : Int), fun k u hu => ?_, fun k y hy => ?_, ?_⟩
    · have hkl := (List.getElem?_eq_some_iff.1 hu).1
      exact same_set hx2 k u (by rw [List.getElem?_append_left hkl]; exact hu)
    · obtain ⟨u, k1, k2, k3⟩ := set_inv hx2 k hy
      have hkl := (List.getElem?_eq_some_iff.1 k1).1
      rw [List.length_append, List.length_singleton] at hkl
      by_cases hk : k < st.length
      · rw [List.getElem?_append_left hk] at k1; exact .inl ⟨u, k1, k2, k3⟩
      · have : k = st.length := by omega
        subst this
        rw [List.getElem?_append_right (Nat.le_refl _), Nat.sub_self] at k1
        simp only [List.getElem?_cons_zero, Option.some.injEq] at k1
        subst k1
        refine .inr ⟨rfl, ?_, rfl, h1⟩
        rw [if_neg (by omega)] at k3
        obtain ⟨e1, e2, e3, e4⟩ := k2
        cases y; simp only at e1 e2 e3 e4 k3; subst e1 e2 e3 e4 k3; rfl
    · obtain ⟨y', k1, k2, k3⟩ := same_set (a := ⟨z, ((st.length : Nat) : Int)⟩) hx2 st.length ⟨closG g (overG g z x.items), ((overG g z x.items).length : Int), [], z, ((q : Nat) : Int)⟩ (by rw [List.getElem?_append_right (Nat.le_refl _), Nat.sub_self]; rfl)
      exact ⟨st.length, y', rfl, k1, by rw [k2.kernel]; exact closG_kernel, .inr k2.2.2.2⟩
structure AutQ (g : GD) (q : Nat) (zs : List Sym) (st : List ASt) : Prop where
  ok : OkS g st
  p : OkP st
  shape : ∀ (k : Nat) (x : ASt), st[k]? = some x → x.items = closG g x.kernel
  first : ∃ x, st[0]? = some x ∧ x.kernel = [⟨-1, 0⟩] ∧ x.frm = 0
  done : ∀ (k : Nat) (x : ASt), k < q → st[k]? = some x → x.arcs.map Arc.sym = symsG g x.items
  now : ∀ x : ASt, st[q]? = some x → x.arcs.map Arc.sym = zs
  rest : ∀ (k : Nat) (x : ASt), q < k → st[k]? = some x → x.arcs = []
  to : ∀ (k : Nat) (x : ASt) (a : Arc), st[k]? = some x → a ∈ x.arcs → ∃ (j : Nat) (y : ASt), a.to = (j : Nat) ∧ st[j]? = some y ∧ y.kernel = overG g a.sym x.items ∧ y.frm ≤ ((k : Nat) : Int)
  frm : ∀ (k : Nat) (x : ASt), st[k]? = some x → k ≠ 0 → ∃ (m : Nat) (y : ASt), x.frm = (m : Nat) ∧ m < k ∧ st[m]? = some y ∧ (⟨x.sym, (k : Nat)⟩ : Arc) ∈ y.arcs ∧ x.kernel = overG g x.sym y.items
  le : ∀ (k : Nat) (x : ASt), st[k]? = some x → x.frm ≤ ((q : Nat) : Int)
  mono : ∀ (j k : Nat) (x y : ASt), j ≤ k → st[j]? = some x → st[k]? = some y → x.frm ≤ y.frm
  apart : ∀ (j k : Nat) (x y : ASt), j < k → st[j]? = some x → st[k]? = some y → x.kernel ≠ y.kernel
  big : st.length ≤ 1 + q * 67240962 + zs.length
theorem AutQ.step {g : GD} (hg : GoodL g) {q : Nat} {zs : List Sym} {st : List ASt} {z : Sym} (h : AutQ g q zs st) (hq : q < st.length) (hq2 : q < 1024) : AutQ g q (zs ++ [z]) (arcS g q st z) := by
  have hx : st[q]? = some st[q] := List.getElem?_eq_getElem hq
  generalize st[q] = x at hx
  obtain ⟨to, hs⟩ := arcS_step hg (z := z) h.ok hx
  have hlen := (arcS_ok hg.good hg.names hg.prods h.ok (z := z) hx hq2)
  refine ⟨hlen.1, h.p.arc hx, fun k y hy => ?_, ?_, fun k y hk hy => ?_, fun y hy => ?_, fun k y hk hy => ?_, fun k y a hy ha => ?_, fun k y hy hk => ?_, fun k y hy => ?_, fun j k u y hjk hu hy => ?_, fun j k u y hjk hu hy => ?_, ?_⟩
  · rcases hs.inv k y hy with ⟨u, h1, h2, _⟩ | ⟨_, rfl, _⟩
    · rw [h2.1, h2.kernel]; exact h.shape k u h1
    · rw [closG_kernel]
  · obtain ⟨u, h1, h2, h3⟩ := h.first
    obtain ⟨y, k1, k2, _⟩ := hs.old 0 u h1
    exact ⟨y, k1, by rw [k2.kernel]; exact h2, by rw [k2.2.2.2]; exact h3⟩
  · rcases hs.inv k y hy with ⟨u, h1, h2, h3⟩ | ⟨h1, _⟩
    · rw [h3, if_neg (by omega), h2.1]; exact h.done k u hk h1
    · omega
  · rcases hs.inv q y hy with ⟨u, h1, h2, h3⟩ | ⟨h1, _⟩
    · rw [h3, if_pos rfl, List.map_append, h.now u h1]; rfl
    · omega
  · rcases hs.inv k y hy with ⟨u, h1, h2, h3⟩ | ⟨_, rfl, _⟩
    · rw [h3, if_neg (by omega)]; exact h.rest k u hk h1
    · rfl
  · rcases hs.inv k y hy with ⟨u, h1, h2, h3⟩ | ⟨_, rfl, _⟩
    · have old : a ∈ u.arcs → ∃ (j : Nat) (y' : ASt), a.to = (j : Nat) ∧ (arcS g q st z)[j]? = some y' ∧ y'.kernel = overG g a.sym y.items ∧ y'.frm ≤ ((k : Nat) : Int) := fun ha => by
        obtain ⟨j, v, e1, e2, e3, e4⟩ := h.to k u a h1 ha
        obtain ⟨v', k1, k2, _⟩ := hs.old j v e2
        exact ⟨j, v', e1, k1, by rw [k2.kernel, h2.1]; exact e3, by rw [k2.2.2.2]; exact e4⟩
      by_cases hk : k = q
      · subst hk
        rw [h3, if_pos rfl] at ha
        rcases List.mem_append.1 ha with ha | ha
        · exact old ha
        · rw [List.mem_singleton] at ha
          subst ha
          rw [hx] at h1; cases h1
          obtain ⟨j, v, e1, e2, e3, e4⟩ := hs.tgt
          refine ⟨j, v, e1, e2, by rw [h2.1]; exact e3, ?_⟩
          rcases e4 with ⟨v0, e5, e6⟩ | e4
          · rw [e6]; exact h.le j v0 e5
          · omega
      · rw [h3, if_neg hk] at ha; exact old ha
    · cases ha
  · rcases hs.inv k y hy with ⟨u, h1, h2, _⟩ | ⟨h1, rfl, h3, _⟩
    · obtain ⟨m, v, e1, e2, e3, e4, e5⟩ := h.frm k u h1 hk
      obtain ⟨v', k1, k2, k3⟩ := hs.old m v e3
      refine ⟨m, v', by rw [h2.2.2.2]; exact e1, e2, k1, ?_, by rw [h2.kernel, h2.2.2.1, k2.1]; exact e5⟩
      rw [h2.2.2.1, k3]
      split
      · exact List.mem_append_left _ e4
      · exact e4
    · obtain ⟨v', k1, k2, k3⟩ := hs.old q x hx
      refine ⟨q, v', rfl, by omega, k1, ?_, by rw [closG_kernel, k2.1]⟩
      rw [k3, if_pos rfl, h3, h1]
      exact List.mem_append_right _ (by simp)
  · rcases hs.inv k y hy with ⟨u, h1, h2, _⟩ | ⟨_, rfl, _⟩
    · rw [h2.2.2.2]; exact h.le k u h1
    · exact Int.le_refl _
  · rcases hs.inv k y hy with ⟨y0, h1, h2, _⟩ | ⟨h1, rfl, _⟩
    · rcases hs.inv j u hu with ⟨u0, k1, k2, _⟩ | ⟨k1, _⟩
      · rw [h2.2.2.2, k2.2.2.2]; exact h.mono j k u0 y0 hjk k1 h1
      · have := (List.getElem?_eq_some_iff.1 h1).1
        omega
    · rcases hs.inv j u hu with ⟨u0, k1, k2, _⟩ | ⟨_, rfl, _⟩
      · rw [k2.2.2.2]; exact h.le j u0 k1
      · exact Int.le_refl _
  · rcases hs.inv k y hy with ⟨y0, h1, h2, _⟩ | ⟨h1, rfl, _, h4⟩
    · rcases hs.inv j u hu with ⟨u0, k1, k2, _⟩ | ⟨k1, _⟩
      · rw [h2.kernel, k2.kernel]; exact h.apart j k u0 y0 hjk k1 h1
      · have := (List.getElem?_eq_some_iff.1 h1).1
        omega
    · rcases hs.inv j u hu with ⟨u0, k1, k2, _⟩ | ⟨k1, _⟩
      · rw [closG_kernel, k2.kernel]; exact h4 u0 (List.mem_of_getElem? k1)
      · omega
  · have := h.big
    rw [List.length_append, List.length_singleton]
    have := hlen.2.2.1
    omega
theorem AutQ.start {g : GD} (hg : GoodL g) : AutQ g 0 [] (addA g [] [⟨-1, 0⟩] ⟨0, 0⟩ 0).1 := by
  have h1 := OkS.start hg.good hg.names hg.prods
  have h2 := OkP.start (g := g)
  have he : (addA g [] [⟨-1, 0⟩] ⟨0, 0⟩ 0).1 = [⟨closG g [⟨-1, 0⟩], 1, [], ⟨0, 0⟩, 0⟩] := rfl
  rw [he] at h1 h2 ⊢
  have one : ∀ (k : Nat) (x : ASt), [(⟨closG g [⟨-1, 0⟩], 1, [], ⟨0, 0⟩, 0⟩ : ASt)][k]? = some x → k = 0 ∧ x = ⟨closG g [⟨-1, 0⟩], 1, [], ⟨0, 0⟩, 0⟩ := fun k x hx => by
    have hk := (List.getElem?_eq_some_iff.1 hx).1
    rw [List.length_singleton] at hk
    have : k = 0 := by omega
    subst this
    exact ⟨rfl, (Option.some.inj hx).symm⟩
  have hk : (⟨closG g [⟨-1, 0⟩], 1, [], ⟨0, 0⟩, 0⟩ : ASt).kernel = [⟨-1, 0⟩] := closG_kernel (l := [⟨-1, 0⟩])
  refine ⟨h1, h2, fun k x hx => ?_, ⟨_, rfl, hk, rfl⟩, fun k x h => by omega, fun x hx => ?_, fun k x hk hx => ?_, fun k x a hx ha => ?_, fun k x hx h0 => ?_, fun k x hx => ?_, fun j k x y _ hx hy => ?_, fun j k x y hjk hx hy => ?_, by simp⟩
  · rw [(one k x hx).2, hk]
  · rw [(one 0 x hx).2]; rfl
  · have := (one k x hx).1; omega
  · rw [(one k x hx).2] at ha; cases ha
  · exact absurd (one k x hx).1 h0
  · rw [(one k x hx).2]; exact Int.le_refl _
  · rw [(one j x hx).2, (one k y hy).2]; exact Int.le_refl _
  · have := (one j x hx).1; have := (one k y hy).1; omega
theorem AutQ.fold {g : GD} (hg : GoodL g) {q : Nat} (hq2 : q < 1024) : ∀ (ws : List Sym) {zs : List Sym} {st : List ASt}, AutQ g q zs st → q < st.length → AutQ g q (zs ++ ws) (ws.foldl (arcS g q) st) ∧ st.length ≤ (ws.foldl (arcS g q) st).length
  | [], zs, st, h, _ => ⟨by rw [List.append_nil]; exact h, Nat.le_refl _⟩
  | w :: ws, zs, st, h, hl => by
    have h1 := h.step hg (z := w) hl hq2
    have h2 := (arcS_ok hg.good hg.names hg.prods h.ok (z := w) (List.getElem?_eq_getElem hl) hq2).2.1
    have h3 := AutQ.fold hg hq2 ws h1 (by omega)
    rw [List.foldl_cons]
    exact ⟨by rw [List.append_cons]; exact h3.1, by omega⟩
theorem AutQ.next {g : GD} {q : Nat} {x : ASt} {st : List ASt} (h : AutQ g q (symsG g x.items) st) (hq : q < st.length) (hit : ∀ y, st[q]? = some y → y.items = x.items) (hl : (symsG g x.items).length ≤ 67240962) : AutQ g (q + 1) [] st := by
  refine ⟨h.ok, h.p, h.shape, h.first, fun k y hk hy => ?_, fun y hy => ?_, fun k y hk hy => ?_, h.to, h.frm, fun k y hy => ?_, h.mono, h.apart, ?_⟩
  · by_cases hkq : k = q
    · subst hkq
      rw [h.now y hy, hit y hy]
    · exact h.done k y (by omega) hy
  · rw [h.rest (q + 1) y (by omega) hy]; rfl
  · exact h.rest k y (by omega) hy
  · have := h.le k y hy; omega
  · have h9 := h.big
    rw [List.length_nil, Nat.succ_mul]
    generalize q * 67240962 = m at h9 ⊢
    generalize (symsG g x.items).length = n at h9 hl
    omega
theorem AutQ.row {g : GD} (hg : GoodL g) {q : Nat} {st : List ASt} (h : AutQ g q [] st) (hq : q < st.length) (hq2 : q < 1024) : AutQ g (q + 1) [] (rowS g q st) := by
  have hx : st[q]? = some st[q] := List.getElem?_eq_getElem hq
  generalize st[q] = x at hx
  unfold rowS
  rw [bangA hx]
  have h1 := AutQ.fold hg hq2 (symsG g x.items) h hq
  rw [List.nil_append] at h1
  refine h1.1.next (x := x) (by omega) ?_ (Nat.le_trans symsG_len (h.ok.len q x hx).2)
  have key : ∀ (ws : List Sym) (st : List ASt) (u : ASt), OkS g st → st[q]? = some u → ∀ y, (ws.foldl (arcS g q) st)[q]? = some y → y.items = u.items := by
    intro ws
    induction ws with
    | nil => intro st u _ hu y hy; rw [List.foldl_nil, hu] at hy; cases hy; rfl
    | cons w ws ih =>
      intro st u hok hu y hy
      obtain ⟨k1, _, _, v, k2, k3⟩ := arcS_ok hg.good hg.names hg.prods hok (z := w) hu hq2
      rw [List.foldl_cons] at hy
      rw [ih _ v k1 k2 y hy, k3]
  exact key _ st x h.ok hx
theorem build_aut {g : GD} (hg : GoodL g) : ∀ (f q : Nat) {st st' : List ASt}, AutQ g q [] st → buildF g f q st = some st' → ∃ q', st'.length ≤ q' ∧ q' ≤ q + f ∧ AutQ g q' [] st'
  | 0, _, _, _, _, h => by simp [buildF] at h
  | f + 1, q, st, st', h, hb => by
    rw [buildF] at hb
    split at hb
    · rename_i hl
      split at hb
      · cases hb
      · rename_i hq
        obtain ⟨q', h1, h2, h3⟩ := build_aut hg f (q + 1) (h.row hg hl (by omega)) hb
        exact ⟨q', h1, by omega, h3⟩
    · cases hb
      exact ⟨q, by omega, by omega, h⟩
structure Aut (g : GD) (st : List ASt) : Prop where
  good : GoodL g
  ok : OkS g st
  p : OkP st
  shape : ∀ (k : Nat) (x : ASt), st[k]? = some x → x.items = closG g x.kernel
  first : ∃ x, st[0]? = some x ∧ x.kernel = [⟨-1, 0⟩] ∧ x.frm = 0
  arcs : ∀ (k : Nat) (x : ASt), st[k]? = some x → x.arcs.map Arc.sym = symsG g x.items
  to : ∀ (k : Nat) (x : ASt) (a : Arc), st[k]? = some x → a ∈ x.arcs → ∃ (j : Nat) (y : ASt), a.to = (j : Nat) ∧ st[j]? = some y ∧ y.kernel = overG g a.sym x.items ∧ y.frm ≤ ((k : Nat) : Int)
  frm : ∀ (k : Nat) (x : ASt), st[k]? = some x → k ≠ 0 → ∃ (m : Nat) (y : ASt), x.frm = (m : Nat) ∧ m < k ∧ st[m]? = some y ∧ (⟨x.sym, (k : Nat)⟩ : Arc) ∈ y.arcs ∧ x.kernel = overG g x.sym y.items
  mono : ∀ (j k : Nat) (x y : ASt), j ≤ k → st[j]? = some x → st[k]? = some y → x.frm ≤ y.frm
  apart : ∀ (j k : Nat) (x y : ASt), j < k → st[j]? = some x → st[k]? = some y → x.kernel ≠ y.kernel
  big : st.length ≤ 100000000000
  few : st.length ≤ 1025
theorem Aut.of {g : GD} {st : List ASt} (hc : (checkE g).1 = 0) (hb : buildG g = some st) : Aut g st := by
  have hg := GoodL.of hc
  obtain ⟨q, h1, h2, h⟩ := build_aut hg 1025 0 (st' := st) (AutQ.start hg) hb
  refine ⟨hg, h.ok, h.p, h.shape, h.first, fun k x hx => ?_, h.to, h.frm, h.mono, h.apart, ?_, by omega⟩
  · have := (List.getElem?_eq_some_iff.1 hx).1
    exact h.done k x (by omega) hx
  · have := h.big
    simp only [List.length_nil] at this; omega
theorem Aut.lens {g : GD} {st : List ASt} (h : Aut g st) (x : ASt) (hx : x ∈ st) : x.items.length ≤ 67240962 ∧ x.arcs.length ≤ 67240962 := by
  obtain ⟨k, hk⟩ := List.mem_iff_getElem?.1 hx
  have h1 := (h.ok.len k x hk).2
  have h2 := congrArg List.length (h.arcs k x hk)
  rw [List.length_map] at h2
  have h3 := symsG_len (g := g) (l := x.items)
  omega
end Go.Proofs.YtnnmdkglgnlenaaGreatDoor
set_option linter.unusedVariables false
set_option linter.unusedSimpArgs false
set_option maxRecDepth 100000
set_option maxHeartbeats 4000000
namespace Go.Proofs.YtnnmdkglgnlenaaGreatDoor
open Go Go.RowKit Go.Vx
mutual
theorem TwL.len {B : Nat} {w : World} : ∀ {l l' : List EX}, TwL B w l l' → l'.length = l.length
  | [], l', h => by
    have h : l' = [] := h
    rw [h]
  | x :: l, l', h => by
    obtain ⟨y, r, rfl, _, h3⟩ := h
    rw [List.length_cons, List.length_cons, TwL.len h3]
end
mutual
theorem TwR.exr {B : Nat} {w w0 : World} : ∀ {e e' : EX}, ExR w0 e → TwR B w e e' → ExR w e'
  | .mk k a b m n A c l, .mk k' a' b' m' n' A' c' l', hE, h => by
    simp only [TwR, ExR, EX.list, EX.A, EX.c] at hE h ⊢
    obtain ⟨_, h1, h2, h3⟩ := h
    have hl := TwL.len h3
    refine ⟨?_, ?_, TwL.exr hE.2.2 h3⟩
    · cases l with
      | nil =>
        have h3 : l' = [] := h3
        rw [(h1 rfl).1, h3]; rfl
      | cons x l =>
        obtain ⟨_, g, rfl, _, _, h7⟩ := h2 (by simp)
        rw [List.flatMap_append] at h7
        exact ⟨fun _ => rfl, (cellsL_app h7).1⟩
    · have hf := hE.2.1
      cases l with
      | nil => rw [hl, (h1 rfl).2]; exact ⟨by simp, by simp⟩
      | cons x l => rw [hl, (h2 (by simp)).1]; exact ⟨Nat.le_succ _, hf.2⟩
theorem TwL.exr {B : Nat} {w w0 : World} : ∀ {l l' : List EX}, ExRL w0 l → TwL B w l l' → ExRL w l'
  | [], l', _, h => by
    have h : l' = [] := h
    rw [h]; trivial
  | x :: l, l', hE, h => by
    obtain ⟨y, r, rfl, h2, h3⟩ := h
    exact ⟨TwR.exr hE.1 h2, TwL.exr hE.2 h3⟩
end
section
variable {B : Nat} {w w0 : World} {s s' : SP}
theorem LendR.spr (h : LendR B w s s') (hS : SpR w s) : SpR w s' := by
  refine ⟨?_, ?_, ?_, fun y hy => ?_, fun y hy => ?_, ?_, ?_, ?_, fun y hy => ?_⟩
  · have h9 := (Own.takeD LR.len (by decide) h.lexO (Nat.le_succ _)).rowO
    rw [← h.lexL, List.take_left] at h9; exact h9
  · have h9 := (Own.takeD strs_len (by decide) h.namesO (Nat.le_succ _)).rowO
    rw [List.take_left] at h9; rw [h.names]; exact h9
  · have h9 := (Own.takeD PD.len (by decide) h.prodsO (Nat.le_succ _)).rowO
    rw [← h.prodsL, List.take_left] at h9; exact h9
  · obtain ⟨j, x, hx, hy⟩ := pair_mem h.lexL hy
    have hE := hS.ex _ (List.mem_of_getElem? hx)
    rcases (h.lexR j x y hx hy).2.2 with ⟨_, e⟩ | ⟨_, h9⟩
    · rw [e]; exact hE
    · exact h9.exr hE
  · obtain ⟨j, x, hx, hy⟩ := pair_mem h.prodsL hy
    have hj := (List.getElem?_eq_some_iff.1 hx).1
    have hp := h.prodsR.all j x y hj hx hy
    have h9 := (Own.takeD Sym.len (by decide) hp.own (Nat.le_succ _)).rowO
    rw [List.take_left] at h9
    rw [hp.right]; exact h9
  · rw [h.lexL, h.lexC]; exact ⟨Nat.le_succ _, hS.fl.2⟩
  · rw [h.names, h.namesC]; exact ⟨Nat.le_succ _, hS.fn.2⟩
  · rw [h.prodsL, h.prodsC]; exact ⟨Nat.le_succ _, hS.fp.2⟩
  · obtain ⟨j, x, hx, hy⟩ := pair_mem h.prodsL hy
    have hj := (List.getElem?_eq_some_iff.1 hx).1
    have hp := h.prodsR.all j x y hj hx hy
    rw [hp.right, hp.rc]; exact ⟨Nat.le_succ _, (hS.fr _ (List.mem_of_getElem? hx)).2⟩
theorem LendR.g (h : LendR B w s s') : s'.g = s.g := by
  unfold SP.g
  rw [h.names, h.start, map_pair (f := LR.trivia) h.lexL fun j x y hx hy => (h.lexR j x y hx hy).2.1, map_pair (f := PD.d) h.prodsL fun j x y hx hy => by
    have hr := h.prodsR.all j x y (List.getElem?_eq_some_iff.1 hx).1 hx hy
    unfold PD.d; rw [hr.left, hr.right]]
end
theorem StF.keepC {B : Nat} {K : Nat → Prop} {w w' : World} {l : List StD} (h : StF B w l) (c : Chg K w w') (hk : ∀ b, B ≤ b → b < w.heap.size → ¬ K b) : StF B w' l :=
  ⟨fun x hx => have q := h.all x hx; ⟨q.items.keep c fun k h1 h2 => hk k (q.lowI k h1) (q.items.lt k h1) h2, q.lowI, q.arcs.keep c fun k h1 h2 => hk k (q.lowA k h1) (q.arcs.lt k h1) h2, q.lowA⟩, h.apart⟩
theorem AutR.keepC {B : Nat} {K : Nat → Prop} {w w' : World} {s : SP} {ba : Nat} {sA : Option Addr} {sc : Nat} {sts : List StD} (h : AutR B w s ba sA sc sts) (c : Chg K w w') (hk : ∀ b, B ≤ b → b < w.heap.size → ¬ K b) : AutR B w' s ba sA sc sts :=
  ⟨h.lowb, h.ba.keep c (hk ba h.lowb h.ba.lt), h.st.keep c fun k h1 h2 => hk k (h.low k h1) (h.st.lt k h1) h2, h.low, h.F.keepC c hk⟩
structure AutX (B : Nat) (w : World) (s0 : SP) (ba : Nat) (st : List ASt) : Prop where
  ex : ∃ s sA sc sts, sts.map StD.d = st ∧ OwnS B w s0 s ∧ AutR B w s ba sA sc sts
  aut : Aut s0.g st
theorem AutX.keepC {B : Nat} {K : Nat → Prop} {w w' : World} {s0 : SP} {ba : Nat} {st : List ASt} (h : AutX B w s0 ba st) (c : Chg K w w') (hk : ∀ b, B ≤ b → b < w.heap.size → ¬ K b) : AutX B w' s0 ba st := by
  obtain ⟨⟨s, sA, sc, sts, h1, h2, h3⟩, h4⟩ := h
  exact ⟨⟨s, sA, sc, sts, h1, h2.keepC c hk, h3.keepC c hk⟩, h4⟩
theorem AutX.ext {B : Nat} {w w' : World} {s0 : SP} {ba : Nat} {st : List ASt} (h : AutX B w s0 ba st) (c : Ext w w') : AutX B w' s0 ba st := h.keepC c fun _ _ _ hk => hk
section
variable {g : GD} {sts : List StD} (ha : Aut g (sts.map StD.d))
include ha
theorem lens_d (x : StD) (hx : x ∈ sts) : x.items.length ≤ 67240962 ∧ x.arcs.length ≤ 67240962 := ha.lens x.d (List.mem_map_of_mem hx)
theorem big_d : sts.length ≤ 100000000000 := by have := ha.big; rw [List.length_map] at this; exact this
theorem kern_d (x : StD) (hx : x ∈ sts) : 0 ≤ x.kern ∧ x.kern ≤ (x.items.length : Int) := ha.p.kern x.d (List.mem_map_of_mem hx)
theorem frm_d (k : Nat) (x : StD) (hx : sts[k]? = some x) (hk : k ≠ 0) : 0 ≤ x.frm ∧ x.frm < (k : Int) := ha.p.frm k x.d (map_get hx) hk
end
def builtG (g : GD) : Option (List ASt) := if (checkE g).1 = 0 then buildG g else none
theorem autx_len {B : Nat} {w : World} {s0 : SP} {ba : Nat} {st : List ASt} (h : AutX B w s0 ba st)   : Calls Tryz.prog 23 #[.pointer (some ⟨ba, 0, none⟩)] w (Ret (fun v w' => v = .int .i64 (st.length : Nat) ∧ Ext w w')) := by
  obtain ⟨⟨s, sA, sc, sts, rfl, hO, hA⟩, ha⟩ := h
  refine ret_mono (len_calls s ba sA sc sts B  w hA.ba hA.st hA.F (lens_d ha) (big_d ha)) ?_
  rintro v w' ⟨rfl, h⟩
  exact ⟨by rw [List.length_map], h⟩
theorem autx_kern {B : Nat} {w : World} {s0 : SP} {ba : Nat} {st : List ASt} (h : AutX B w s0 ba st) (i : Int)  : Calls Tryz.prog 25 #[.pointer (some ⟨ba, 0, none⟩), .int .i64 i] w (Ret (fun v w' => ∃ A' c', v = .slice A' (kernS st i).length c' ∧ NewRow w w' 42 2 Itm.cs (kernS st i) A' c' ∧ Ext w w')) := by
  obtain ⟨⟨s, sA, sc, sts, rfl, hO, hA⟩, ha⟩ := h
  refine ret_mono (kernel_calls s ba sA sc sts B i w hA.ba hA.st hA.F (lens_d ha) (big_d ha) (kern_d ha)) ?_
  rintro v w' ⟨A', c', rfl, h1, h2⟩
  rw [← kernA_d]
  exact ⟨A', c', rfl, h1, h2⟩
theorem autx_path {B : Nat} {w : World} {s0 : SP} {ba : Nat} {st : List ASt} (h : AutX B w s0 ba st) (i : Int)  : Calls Tryz.prog 24 #[.pointer (some ⟨ba, 0, none⟩), .int .i64 i] w (Ret (fun v w' => ∃ A' c', v = .slice A' (pathS st i).length c' ∧ NewRow w w' 32 2 Sym.cs (pathS st i) A' c' ∧ Ext w w')) := by
  obtain ⟨⟨s, sA, sc, sts, rfl, hO, hA⟩, ha⟩ := h
  refine ret_mono (path_calls s ba sA sc sts B i w hA.ba hA.st hA.F (lens_d ha) (big_d ha) (frm_d ha)) ?_
  rintro v w' ⟨A', c', rfl, h1, h2⟩
  rw [← pathA_d (frm_d ha)]
  exact ⟨A', c', rfl, h1, h2⟩
theorem autx_run {B : Nat} {w : World} {s0 : SP} {ba : Nat} {st : List ASt} (h : AutX B w s0 ba st) (l : List Sym) (A : Option Addr) (c : Nat) (hR : RowA w A (l.flatMap Sym.cs)) (hn : l.length ≤ 8796093022208) : Calls Tryz.prog 13 #[.pointer (some ⟨ba, 0, none⟩), .slice A l.length c] w (Ret (fun v w' => v = .int .i64 (runS st 0 l) ∧ Ext w w')) := by
  obtain ⟨⟨s, sA, sc, sts, rfl, hO, hA⟩, ha⟩ := h
  refine ret_mono (run_calls s ba sA sc sts B l A c w hA.ba hA.st hA.F (lens_d ha) (big_d ha) hR hn) ?_
  rintro v w' ⟨rfl, h⟩
  rw [← runA_d]
  exact ⟨rfl, h⟩
end Go.Proofs.YtnnmdkglgnlenaaGreatDoor
set_option linter.unusedVariables false
set_option linter.unusedSimpArgs false
set_option maxRecDepth 100000
set_option maxHeartbeats 4000000
namespace Go.Proofs.YtnnmdkglgnlenaaGreatDoor
open Go Go.RowKit Go.Vx
theorem cmpP_mem : ∀ (l : List Sym) (p z : Sym), z ∈ cmpP p l → z ∈ l
  | [], _, _, h => h
  | x :: l, p, z, h => by
    rw [cmpP] at h
    split at h
    · exact List.mem_cons_of_mem _ (cmpP_mem l p z h)
    · rcases List.mem_cons.1 h with rfl | h
      · exact List.mem_cons_self
      · exact List.mem_cons_of_mem _ (cmpP_mem l x z h)
theorem cmpP_has : ∀ (l : List Sym) (p z : Sym), z ∈ l → z = p ∨ z ∈ cmpP p l
  | [], _, _, h => by cases h
  | x :: l, p, z, h => by
    rw [cmpP]
    rcases List.mem_cons.1 h with rfl | h
    · split
      · rename_i e; exact .inl e
      · exact .inr List.mem_cons_self
    · split
      · exact cmpP_has l p z h
      · rcases cmpP_has l x z h with rfl | h
        · exact .inr List.mem_cons_self
        · exact .inr (List.mem_cons_of_mem _ h)
theorem leSym_anti {a b : Sym} (h1 : leSym a b = true) (h2 : leSym b a = true) : a = b := by
  rw [leSym_spec] at *
  cases a; cases b; simp only at h1 h2; congr 1 <;> omega
theorem cmpP_nodup : ∀ (l : List Sym) (p : Sym), l.Pairwise (leSym · · = true) → (∀ x ∈ l, leSym p x = true) → (cmpP p l).Nodup ∧ p ∉ cmpP p l
  | [], _, _, _ => ⟨List.nodup_nil, by intro h; cases h⟩
  | x :: l, p, hs, hp => by
    have h1 := List.pairwise_cons.1 hs
    rw [cmpP]
    split
    · exact cmpP_nodup l p h1.2 fun y hy => hp y (List.mem_cons_of_mem _ hy)
    · rename_i hne
      have ih := cmpP_nodup l x h1.2 h1.1
      refine ⟨List.nodup_cons.2 ⟨ih.2, ih.1⟩, fun hh => ?_⟩
      rcases List.mem_cons.1 hh with rfl | hh
      · exact hne rfl
      · exact hne (leSym_anti (h1.1 p (cmpP_mem l x p hh)) (hp x List.mem_cons_self))
theorem srtSym_sorted (l : List Sym) : (srtSym l).Pairwise (leSym · · = true) := by
  rw [srtSym_x]
  refine srtX_sorted (fun a b c h1 h2 => ?_) (fun a b => ?_) l
  · rw [leSym_spec] at *; omega
  · rw [Bool.or_eq_true, leSym_spec, leSym_spec]; omega
theorem srtSym_mem {l : List Sym} {x : Sym} : x ∈ srtSym l ↔ x ∈ l := List.mem_mergeSort
theorem compL_nodup {l : List Sym} (h : l.Pairwise (leSym · · = true)) : (compL l).Nodup := by
  cases l with
  | nil => exact List.nodup_nil
  | cons x l =>
    have h1 := List.pairwise_cons.1 h
    have := cmpP_nodup l x h1.2 h1.1
    exact List.nodup_cons.2 ⟨this.2, this.1⟩
theorem compL_mem {l : List Sym} {z : Sym} : z ∈ compL l ↔ z ∈ l := by
  cases l with
  | nil => exact Iff.rfl
  | cons x l =>
    rw [compL]
    constructor
    · intro h
      rcases List.mem_cons.1 h with rfl | h
      · exact List.mem_cons_self
      · exact List.mem_cons_of_mem _ (cmpP_mem l x z h)
    · intro h
      rcases List.mem_cons.1 h with rfl | h
      · exact List.mem_cons_self
      · rcases cmpP_has l x z h with rfl | h
        · exact List.mem_cons_self
        · exact List.mem_cons_of_mem _ h
theorem symsG_nodup (g : GD) (l : List Itm) : (symsG g l).Nodup := compL_nodup (srtSym_sorted _)
theorem symsG_mem {g : GD} {l : List Itm} {z : Sym} : z ∈ symsG g l ↔ ∃ x ∈ l, behindG g x = some z := by
  unfold symsG
  rw [compL_mem, srtSym_mem, List.mem_filterMap]
theorem arcTo_mem : ∀ {l : List Arc} {a : Arc}, (l.map Arc.sym).Nodup → a ∈ l → arcTo a.sym l = a.to
  | [], _, _, h => by cases h
  | b :: l, a, hn, h => by
    rw [List.map_cons] at hn
    have h1 := List.nodup_cons.1 hn
    rw [arcTo]
    rcases List.mem_cons.1 h with rfl | h
    · rw [if_pos ⟨rfl, rfl⟩]
    · rw [if_neg, arcTo_mem h1.2 h]
      rintro ⟨e1, e2⟩
      refine h1.1 ?_
      have : b.sym = a.sym := by
        cases hb : b.sym; cases ha : a.sym; rw [hb, ha] at e1 e2; simp only at e1 e2; rw [e1, e2]
      rw [this]; exact List.mem_map_of_mem h
theorem arcTo_some : ∀ {l : List Arc} {z : Sym}, 0 ≤ arcTo z l → ∃ a ∈ l, a.sym = z ∧ a.to = arcTo z l
  | [], _, h => by simp [arcTo] at h
  | b :: l, z, h => by
    rw [arcTo] at h ⊢
    split
    · rename_i e
      refine ⟨b, List.mem_cons_self, ?_, rfl⟩
      cases hb : b.sym; cases z; rw [hb] at e; simp only at e; rw [e.1, e.2]
    · rename_i e
      rw [if_neg e] at h
      obtain ⟨a, h1, h2, h3⟩ := arcTo_some h
      exact ⟨a, List.mem_cons_of_mem _ h1, h2, h3⟩
section
variable {st : List ASt} {k : Nat} {x : ASt}
theorem isS_of (hx : st[k]? = some x) : isS st (k : Nat) = true := by
  have := (List.getElem?_eq_some_iff.1 hx).1
  unfold isS; simp; omega
theorem kernS_at (hx : st[k]? = some x) : kernS st (k : Nat) = x.kernel := by unfold kernS; rw [if_pos (isS_of hx)]; simp only [Int.toNat_natCast]; rw [bangA hx]
theorem goS_at (hx : st[k]? = some x) (z : Sym) : goS st (k : Nat) z = arcTo z x.arcs := by unfold goS; rw [if_pos (isS_of hx)]; simp only [Int.toNat_natCast]; rw [bangA hx]
theorem pathS_at (hx : st[k]? = some x) : pathS st (k : Nat) = (wayS st k (k : Nat)).reverse := by unfold pathS; rw [if_pos (isS_of hx)]; simp only [Int.toNat_natCast]
end
section
variable {g : GD} {st : List ASt} (h : Aut g st)
include h
theorem wayS_two : ∀ (f f' k : Nat) (x : ASt), st[k]? = some x → k ≤ f → k ≤ f' → wayS st f (k : Nat) = wayS st f' (k : Nat) := by
  intro f
  induction f with
  | zero =>
    intro f' k x hx h1 h2
    have : k = 0 := by omega
    subst this
    cases f' <;> simp [wayS]
  | succ f ih =>
    intro f' k x hx h1 h2
    by_cases hk : k = 0
    · subst hk; cases f' <;> simp [wayS]
    · obtain ⟨f'', rfl⟩ : ∃ n, f' = n + 1 := ⟨f' - 1, by omega⟩
      obtain ⟨m, y, e1, e2, e3, _⟩ := h.frm k x hx hk
      rw [wayS, wayS, if_neg (by omega), if_neg (by omega)]
      simp only [Int.toNat_natCast]
      rw [bangA hx, e1, ih f'' m y e3 (by omega) (by omega)]
theorem path_zero : pathS st 0 = [] := by
  obtain ⟨x, hx, _⟩ := h.first
  have := pathS_at hx
  simpa [wayS] using this
theorem path_next {k m : Nat} {x y : ASt} (hx : st[k]? = some x) (hk : k ≠ 0) (e1 : x.frm = (m : Nat)) (e2 : m < k) (e3 : st[m]? = some y) : pathS st (k : Nat) = pathS st (m : Nat) ++ [x.sym] := by
  rw [pathS_at hx, pathS_at e3]
  obtain ⟨f, hf⟩ : ∃ f, k = f + 1 := ⟨k - 1, by omega⟩
  have : wayS st k (k : Nat) = x.sym :: wayS st m (m : Nat) := by
    rw [← wayS_two h f m m y e3 (by omega) (Nat.le_refl _)]
    conv => lhs; rw [show wayS st k (k : Nat) = wayS st (f + 1) (k : Nat) by rw [← hf]]
    rw [wayS, if_neg (by omega)]
    simp only [Int.toNat_natCast]
    rw [bangA hx, e1]
  rw [this, List.reverse_cons]
theorem arcs_nodup {k : Nat} {x : ASt} (hx : st[k]? = some x) : (x.arcs.map Arc.sym).Nodup := by rw [h.arcs k x hx]; exact symsG_nodup _ _
theorem path_len {k m : Nat} {x y : ASt} (hx : st[k]? = some x) (hk : k ≠ 0) (e1 : x.frm = (m : Nat)) (e2 : m < k) (e3 : st[m]? = some y) : (pathS st (k : Nat)).length = (pathS st (m : Nat)).length + 1 := by
  rw [path_next h hx hk e1 e2 e3, List.length_append]; rfl
theorem path_mono : ∀ (k j : Nat) (x y : ASt), j ≤ k → st[j]? = some x → st[k]? = some y → (pathS st (j : Nat)).length ≤ (pathS st (k : Nat)).length := by
  intro k
  induction k using Nat.strongRecOn with
  | ind k ih =>
    intro j x y hjk hx hy
    by_cases hj : j = 0
    · subst hj
      have := path_zero h
      rw [show ((0 : Nat) : Int) = 0 from rfl, this]; exact Nat.zero_le _
    · obtain ⟨m, u, e1, e2, e3, _⟩ := h.frm j x hx hj
      obtain ⟨m', u', d1, d2, d3, _⟩ := h.frm k y hy (by omega)
      rw [path_len h hx hj e1 e2 e3, path_len h hy (by omega) d1 d2 d3]
      have hm := h.mono j k x y hjk hx hy
      have := ih m' d2 m u u' (by omega) e3 d3
      omega
theorem kern_len {k : Nat} {x : ASt} (hx : st[k]? = some x) : x.kernel.length = x.kern.toNat ∧ x.kernel.length ≤ x.items.length ∧ x.items.take x.kernel.length = x.kernel := by
  have hk := h.p.kern x (List.mem_of_getElem? hx)
  have h1 : x.kernel.length = x.kern.toNat := by unfold ASt.kernel; rw [List.length_take]; omega
  exact ⟨h1, by omega, by rw [h1]; rfl⟩
end
section
variable {g : GD} {st : List ASt} (h : Aut g st)
include h
theorem go_stands {k : Nat} {x : ASt} (hx : st[k]? = some x) (z : Sym) : 0 ≤ goS st (k : Nat) z ↔ ∃ y ∈ x.items, behindG g y = some z := by
  rw [goS_at hx, ← symsG_mem, ← h.arcs k x hx]
  constructor
  · intro h9
    obtain ⟨a, h1, h2, _⟩ := arcTo_some h9
    rw [← h2]; exact List.mem_map_of_mem h1
  · intro h9
    obtain ⟨a, h1, rfl⟩ := List.mem_map.1 h9
    rw [arcTo_mem (arcs_nodup h hx) h1]
    obtain ⟨j, _, e, _⟩ := h.to k x a hx h1
    omega
theorem go_to {k : Nat} {x : ASt} (hx : st[k]? = some x) {z : Sym} (hz : 0 ≤ goS st (k : Nat) z) : ∃ (j : Nat) (y : ASt), goS st (k : Nat) z = (j : Nat) ∧ st[j]? = some y ∧ j ≠ 0 ∧ y.sym = z ∧ y.kernel = overG g z x.items ∧ (pathS st (j : Nat)).length ≤ (pathS st (k : Nat)).length + 1 := by
  obtain ⟨e, he, hb⟩ := (go_stands h hx z).1 hz
  rw [goS_at hx] at hz ⊢
  obtain ⟨a, h1, h2, h3⟩ := arcTo_some hz
  obtain ⟨j, y, e1, e2, e3, e4⟩ := h.to k x a hx h1
  rw [h2] at e3
  have hm : (⟨e.p, e.dot + 1⟩ : Itm) ∈ y.kernel := by rw [e3]; exact overG_mem.2 ⟨e, he, hb, rfl⟩
  have hed := (h.ok.ok x (List.mem_of_getElem? hx) e he).1.2
  have hj : j ≠ 0 := by
    rintro rfl
    obtain ⟨x0, d1, d2, _⟩ := h.first
    rw [e2] at d1; cases d1
    rw [d2, List.mem_singleton] at hm
    have : e.dot + 1 = 0 := congrArg Itm.dot hm
    omega
  obtain ⟨m, u, d1, d2, d3, _, d5⟩ := h.frm j y e2 hj
  have hs : y.sym = z := by
    rw [d5] at hm
    obtain ⟨v, c1, c2, c3⟩ := overG_mem.1 hm
    rw [Itm.mk.injEq] at c3
    obtain ⟨p1, p2⟩ := c3
    have : e = v := by
      cases e; cases v; simp only at p1 p2; congr 1; omega
    rw [this, c2] at hb
    exact Option.some.inj hb
  refine ⟨j, y, by rw [← h3, e1], e2, hj, hs, e3, ?_⟩
  rw [path_len h e2 hj d1 d2 d3]
  have := path_mono h k m u x (by omega) d3 hx
  omega
end
end Go.Proofs.YtnnmdkglgnlenaaGreatDoor
set_option linter.unusedVariables false
set_option linter.unusedSimpArgs false
set_option maxRecDepth 100000
set_option maxHeartbeats 4000000
namespace Go.Proofs.YtnnmdkglgnlenaaGreatDoor
open Go Go.RowKit Go.Vx
section
variable {g : GD} {st : List ASt} (h : Aut g st)
include h
omit h in
theorem closG_kmem {g : GD} {K : List Itm} {x : Itm} (hx : x ∈ K) : x ∈ closG g K := by
  have := closG_pre (closF_pre g K)
  rw [← this] at hx
  exact List.mem_of_mem_take hx
end
end Go.Proofs.YtnnmdkglgnlenaaGreatDoor
set_option linter.unusedVariables false
set_option linter.unusedSimpArgs false
set_option maxRecDepth 100000
set_option maxHeartbeats 4000000
namespace Go.Proofs.YtnnmdkglgnlenaaGreatDoor
open Go Go.RowKit Go.Vx
theorem pf_70 : plainF Tryz.prog 70 = true := by kernel_rfl
theorem pf_71 : plainF Tryz.prog 71 = true := by kernel_rfl
theorem smallT (n : Int) (w : World)  :
    Calls Tryz.prog 70 #[(.int .i64 n)] w (Ret (fun v w' => v = .agg #[.int .i64 1, .int .i64 n] ∧ Ext w w')) := by
  refine calls_xc (n := 5) (f := fun s_ => [(.int .i64 n)].getD s_ undef) Tryz.func70 rfl rfl (by simp) (fun s_ => by simp) ?_
  refine xc_seq ?_
  refine xc_region ?_
  refine xl_op (P := Tryz.prog) (some 2) rfl rfl (ox_alloc tZ_32 ?_)
  intro w1 e1 z1 b1
  replace b1 : Blk w1 w.heap.size #[(.int .i64 0), (.int .i64 0)] 32 := b1
  refine xl_nil ?_
  refine xc_seq ?_
  refine xc_region ?_
  refine xl_op (P := Tryz.prog) (some 3) rfl rfl (ox_move (v := (.int .i64 n)) rfl ?_)
  refine xl_op (P := Tryz.prog) (some 4) rfl rfl (ox_mkStruct (ps := [(0, (.int .i64 1)), (1, (.int .i64 n))]) (cs := #[(.int .i64 1), (.int .i64 n)]) tZ_32 tP_32 rfl (by kernel_rfl) ?_)
  refine xl_op (P := Tryz.prog) none rfl rfl (ox_store (n := 2) (vs := [(.int .i64 1), (.int .i64 n)]) tS_32 rfl (v := (.agg #[(.int .i64 1), (.int .i64 n)])) rfl rfl rfl rfl b1 (Nat.le_of_ble_eq_true rfl) ?_)
  intro w2 e2 z2 b2
  replace b2 : Blk w2 w.heap.size #[(.int .i64 1), (.int .i64 n)] 32 := blk_full b2 rfl
  refine xl_nil ?_
  refine xc_ret ?_
  change leaves _ _ _ _ _ _ _
  refine leaves_nil (n := 5) (rs := [.cell 2 32]) (vs := [(.agg #[(.int .i64 1), (.int .i64 n)])]) rfl ⟨⟨by decide, w.heap.size, 0, 2, [(.int .i64 1), (.int .i64 n)], rfl, tA_32, tS_32, rfl, ⟨b2.cell rfl, b2.cell rfl, trivial⟩, rfl⟩, trivial⟩ ?_
  have x1 : Ext w w2 := (Ext.chg1 e1 e2 (by omega))
  exact ⟨rfl, x1⟩
theorem smallN (n : Int) (w : World)  :
    Calls Tryz.prog 71 #[(.int .i64 n)] w (Ret (fun v w' => v = .agg #[.int .i64 3, .int .i64 n] ∧ Ext w w')) := by
  refine calls_xc (n := 5) (f := fun s_ => [(.int .i64 n)].getD s_ undef) Tryz.func71 rfl rfl (by simp) (fun s_ => by simp) ?_
  refine xc_seq ?_
  refine xc_region ?_
  refine xl_op (P := Tryz.prog) (some 2) rfl rfl (ox_alloc tZ_32 ?_)
  intro w1 e1 z1 b1
  replace b1 : Blk w1 w.heap.size #[(.int .i64 0), (.int .i64 0)] 32 := b1
  refine xl_nil ?_
  refine xc_seq ?_
  refine xc_region ?_
  refine xl_op (P := Tryz.prog) (some 3) rfl rfl (ox_move (v := (.int .i64 n)) rfl ?_)
  refine xl_op (P := Tryz.prog) (some 4) rfl rfl (ox_mkStruct (ps := [(0, (.int .i64 3)), (1, (.int .i64 n))]) (cs := #[(.int .i64 3), (.int .i64 n)]) tZ_32 tP_32 rfl (by kernel_rfl) ?_)
  refine xl_op (P := Tryz.prog) none rfl rfl (ox_store (n := 2) (vs := [(.int .i64 3), (.int .i64 n)]) tS_32 rfl (v := (.agg #[(.int .i64 3), (.int .i64 n)])) rfl rfl rfl rfl b1 (Nat.le_of_ble_eq_true rfl) ?_)
  intro w2 e2 z2 b2
  replace b2 : Blk w2 w.heap.size #[(.int .i64 3), (.int .i64 n)] 32 := blk_full b2 rfl
  refine xl_nil ?_
  refine xc_ret ?_
  change leaves _ _ _ _ _ _ _
  refine leaves_nil (n := 5) (rs := [.cell 2 32]) (vs := [(.agg #[(.int .i64 3), (.int .i64 n)])]) rfl ⟨⟨by decide, w.heap.size, 0, 2, [(.int .i64 3), (.int .i64 n)], rfl, tA_32, tS_32, rfl, ⟨b2.cell rfl, b2.cell rfl, trivial⟩, rfl⟩, trivial⟩ ?_
  have x1 : Ext w w2 := (Ext.chg1 e1 e2 (by omega))
  exact ⟨rfl, x1⟩
theorem small_calls  (w : World)  :
    Calls Tryz.prog 44 #[] w (Ret (fun v w' => ∃ s : SP, v = (.agg #[(.slice s.lA s.lex.length s.lc), (.slice s.nA s.names.length s.nc), (.int .i64 s.start), (.slice s.pA s.prods.length s.pc)]) ∧ SpR w' s ∧ s.g = smallG ∧ Ext w w')) := by
  refine calls_xc (n := 37) (f := fun s_ => [].getD s_ undef) Tryz.func44 rfl rfl (by simp) (fun s_ => by simp) ?_
  refine xc_seq ?_
  refine xc_region ?_
  refine xl_op (P := Tryz.prog) (some 0) rfl rfl (ox_alloc tZ_26 ?_)
  intro w1 e1 z1 b1
  replace b1 : Blk w1 w.heap.size #[(.slice none 0 0), (.slice none 0 0), (.int .i64 0), (.slice none 0 0)] 26 := b1
  refine xl_nil ?_
  refine xc_seq ?_
  refine xc_region ?_
  refine xl_op (P := Tryz.prog) (some 1) rfl rfl (ox_assign (v := (.func (.func 70) #[] #[])) rfl ?_)
  refine xl_nil ?_
  refine xc_seq ?_
  refine xc_region ?_
  refine xl_op (P := Tryz.prog) (some 2) rfl rfl (ox_assign (v := (.func (.func 71) #[] #[])) rfl ?_)
  refine xl_nil ?_
  refine xc_seq ?_
  refine xc_region ?_
  refine xl_op (P := Tryz.prog) (some 3) rfl rfl (ox_mkStruct (ps := [(0, (.string (⟨#[97]⟩)))]) (cs := #[(.string (⟨#[97]⟩)), (.bool false), (.int .i64 0), (.int .i64 0), (.int .i64 0), (.int .i64 0), (.int .i64 0), (.slice none 0 0)]) tZ_66 tP_66 rfl (by kernel_rfl) ?_)
  refine xl_op (P := Tryz.prog) (some 4) rfl rfl (ox_mkStruct (ps := [(0, (.string (⟨#[98]⟩)))]) (cs := #[(.string (⟨#[98]⟩)), (.bool false), (.int .i64 0), (.int .i64 0), (.int .i64 0), (.int .i64 0), (.int .i64 0), (.slice none 0 0)]) tZ_66 tP_66 rfl (by kernel_rfl) ?_)
  refine xl_op (P := Tryz.prog) (some 5) rfl rfl (ox_mkStruct (ps := [(0, (.string (⟨#[119]⟩))), (1, (.bool true))]) (cs := #[(.string (⟨#[119]⟩)), (.bool true), (.int .i64 0), (.int .i64 0), (.int .i64 0), (.int .i64 0), (.int .i64 0), (.slice none 0 0)]) tZ_66 tP_66 rfl (by kernel_rfl) ?_)
  refine xl_op (P := Tryz.prog) (some 6) rfl rfl (ox_mkStruct (ps := [(0, (.string (⟨#[99]⟩)))]) (cs := #[(.string (⟨#[99]⟩)), (.bool false), (.int .i64 0), (.int .i64 0), (.int .i64 0), (.int .i64 0), (.int .i64 0), (.slice none 0 0)]) tZ_66 tP_66 rfl (by kernel_rfl) ?_)
  refine xl_op (P := Tryz.prog) (some 7) rfl rfl (ox_mkSlice (ps := [(0, (.agg #[(.string (⟨#[97]⟩)), (.bool false), (.int .i64 0), (.int .i64 0), (.int .i64 0), (.int .i64 0), (.int .i64 0), (.slice none 0 0)])), (1, (.agg #[(.string (⟨#[98]⟩)), (.bool false), (.int .i64 0), (.int .i64 0), (.int .i64 0), (.int .i64 0), (.int .i64 0), (.slice none 0 0)])), (2, (.agg #[(.string (⟨#[119]⟩)), (.bool true), (.int .i64 0), (.int .i64 0), (.int .i64 0), (.int .i64 0), (.int .i64 0), (.slice none 0 0)])), (3, (.agg #[(.string (⟨#[99]⟩)), (.bool false), (.int .i64 0), (.int .i64 0), (.int .i64 0), (.int .i64 0), (.int .i64 0), (.slice none 0 0)]))]) (zs := #[(.string (⟨#[]⟩)), (.bool false), (.int .i64 0), (.int .i64 0), (.int .i64 0), (.int .i64 0), (.int .i64 0), (.slice none 0 0), (.string (⟨#[]⟩)), (.bool false), (.int .i64 0), (.int .i64 0), (.int .i64 0), (.int .i64 0), (.int .i64 0), (.slice none 0 0), (.string (⟨#[]⟩)), (.bool false), (.int .i64 0), (.int .i64 0), (.int .i64 0), (.int .i64 0), (.int .i64 0), (.slice none 0 0), (.string (⟨#[]⟩)), (.bool false), (.int .i64 0), (.int .i64 0), (.int .i64 0), (.int .i64 0), (.int .i64 0), (.slice none 0 0)]) (cs := #[(.string (⟨#[97]⟩)), (.bool false), (.int .i64 0), (.int .i64 0), (.int .i64 0), (.int .i64 0), (.int .i64 0), (.slice none 0 0), (.string (⟨#[98]⟩)), (.bool false), (.int .i64 0), (.int .i64 0), (.int .i64 0), (.int .i64 0), (.int .i64 0), (.slice none 0 0), (.string (⟨#[119]⟩)), (.bool true), (.int .i64 0), (.int .i64 0), (.int .i64 0), (.int .i64 0), (.int .i64 0), (.slice none 0 0), (.string (⟨#[99]⟩)), (.bool false), (.int .i64 0), (.int .i64 0), (.int .i64 0), (.int .i64 0), (.int .i64 0), (.slice none 0 0)]) tE_22 rfl (by decide) (by kernel_rfl) (by kernel_rfl) ?_)
  intro w2 e2 z2 b2
  replace b2 : Blk w2 w1.heap.size #[(.string (⟨#[97]⟩)), (.bool false), (.int .i64 0), (.int .i64 0), (.int .i64 0), (.int .i64 0), (.int .i64 0), (.slice none 0 0), (.string (⟨#[98]⟩)), (.bool false), (.int .i64 0), (.int .i64 0), (.int .i64 0), (.int .i64 0), (.int .i64 0), (.slice none 0 0), (.string (⟨#[119]⟩)), (.bool true), (.int .i64 0), (.int .i64 0), (.int .i64 0), (.int .i64 0), (.int .i64 0), (.slice none 0 0), (.string (⟨#[99]⟩)), (.bool false), (.int .i64 0), (.int .i64 0), (.int .i64 0), (.int .i64 0), (.int .i64 0), (.slice none 0 0)] 66 := b2
  refine xl_op (P := Tryz.prog) (some 8) rfl rfl (ox_mkSlice (ps := [(0, (.string (⟨#[83]⟩))), (1, (.string (⟨#[65]⟩))), (2, (.string (⟨#[66]⟩)))]) (zs := #[(.string (⟨#[]⟩)), (.string (⟨#[]⟩)), (.string (⟨#[]⟩))]) (cs := #[(.string (⟨#[83]⟩)), (.string (⟨#[65]⟩)), (.string (⟨#[66]⟩))]) tE_23 rfl (by decide) (by kernel_rfl) (by kernel_rfl) ?_)
  intro w3 e3 z3 b3
  replace b3 : Blk w3 w2.heap.size #[(.string (⟨#[83]⟩)), (.string (⟨#[65]⟩)), (.string (⟨#[66]⟩))] 9 := b3
  refine xl_op (P := Tryz.prog) (some 9) rfl rfl (ox_move (v := (.func (.func 71) #[] #[])) rfl ?_)
  refine xl_op (P := Tryz.prog) (some 10) rfl rfl (ox_callV (cap := []) (al := [(.int .i64 1)]) pf_71 rfl rfl (ret_mono (smallN 1 w3) ?_))
  rintro _ w4 ⟨rfl, e4⟩
  have he4 := e4.size
  refine xl_op (P := Tryz.prog) (some 11) rfl rfl (ox_move (v := (.func (.func 71) #[] #[])) rfl ?_)
  refine xl_op (P := Tryz.prog) (some 12) rfl rfl (ox_callV (cap := []) (al := [(.int .i64 2)]) pf_71 rfl rfl (ret_mono (smallN 2 w4) ?_))
  rintro _ w5 ⟨rfl, e5⟩
  have he5 := e5.size
  refine xl_op (P := Tryz.prog) (some 13) rfl rfl (ox_move (v := (.func (.func 70) #[] #[])) rfl ?_)
  refine xl_op (P := Tryz.prog) (some 14) rfl rfl (ox_callV (cap := []) (al := [(.int .i64 3)]) pf_70 rfl rfl (ret_mono (smallT 3 w5) ?_))
  rintro _ w6 ⟨rfl, e6⟩
  have he6 := e6.size
  refine xl_op (P := Tryz.prog) (some 15) rfl rfl (ox_mkSlice (ps := [(0, (.agg #[(.int .i64 3), (.int .i64 1)])), (1, (.agg #[(.int .i64 3), (.int .i64 2)])), (2, (.agg #[(.int .i64 1), (.int .i64 3)]))]) (zs := #[(.int .i64 0), (.int .i64 0), (.int .i64 0), (.int .i64 0), (.int .i64 0), (.int .i64 0)]) (cs := #[(.int .i64 3), (.int .i64 1), (.int .i64 3), (.int .i64 2), (.int .i64 1), (.int .i64 3)]) tE_33 rfl (by decide) (by kernel_rfl) (by kernel_rfl) ?_)
  intro w7 e7 z4 b4
  replace b4 : Blk w7 w6.heap.size #[(.int .i64 3), (.int .i64 1), (.int .i64 3), (.int .i64 2), (.int .i64 1), (.int .i64 3)] 32 := b4
  refine xl_op (P := Tryz.prog) (some 16) rfl rfl (ox_mkStruct (ps := [(0, (.int .i64 0)), (1, (.slice (some ⟨w6.heap.size, 0, none⟩) 3 3))]) (cs := #[(.int .i64 0), (.slice (some ⟨w6.heap.size, 0, none⟩) 3 3)]) tZ_37 tP_37 rfl (by kernel_rfl) ?_)
  refine xl_op (P := Tryz.prog) (some 17) rfl rfl (ox_mkStruct (ps := [(0, (.int .i64 2))]) (cs := #[(.int .i64 2), (.int .i64 0)]) tZ_32 tP_32 rfl (by kernel_rfl) ?_)
  refine xl_op (P := Tryz.prog) (some 18) rfl rfl (ox_mkSlice (ps := [(0, (.agg #[(.int .i64 2), (.int .i64 0)]))]) (zs := #[(.int .i64 0), (.int .i64 0)]) (cs := #[(.int .i64 2), (.int .i64 0)]) tE_33 rfl (by decide) (by kernel_rfl) (by kernel_rfl) ?_)
  intro w8 e8 z5 b5
  replace b5 : Blk w8 w7.heap.size #[(.int .i64 2), (.int .i64 0)] 32 := b5
  refine xl_op (P := Tryz.prog) (some 19) rfl rfl (ox_mkStruct (ps := [(0, (.int .i64 0)), (1, (.slice (some ⟨w7.heap.size, 0, none⟩) 1 1))]) (cs := #[(.int .i64 0), (.slice (some ⟨w7.heap.size, 0, none⟩) 1 1)]) tZ_37 tP_37 rfl (by kernel_rfl) ?_)
  refine xl_op (P := Tryz.prog) (some 20) rfl rfl (ox_move (v := (.func (.func 70) #[] #[])) rfl ?_)
  refine xl_op (P := Tryz.prog) (some 21) rfl rfl (ox_callV (cap := []) (al := [(.int .i64 0)]) pf_70 rfl rfl (ret_mono (smallT 0 w8) ?_))
  rintro _ w9 ⟨rfl, e9⟩
  have he9 := e9.size
  refine xl_op (P := Tryz.prog) (some 22) rfl rfl (ox_move (v := (.func (.func 71) #[] #[])) rfl ?_)
  refine xl_op (P := Tryz.prog) (some 23) rfl rfl (ox_callV (cap := []) (al := [(.int .i64 1)]) pf_71 rfl rfl (ret_mono (smallN 1 w9) ?_))
  rintro _ w10 ⟨rfl, e10⟩
  have he10 := e10.size
  refine xl_op (P := Tryz.prog) (some 24) rfl rfl (ox_mkSlice (ps := [(0, (.agg #[(.int .i64 1), (.int .i64 0)])), (1, (.agg #[(.int .i64 3), (.int .i64 1)]))]) (zs := #[(.int .i64 0), (.int .i64 0), (.int .i64 0), (.int .i64 0)]) (cs := #[(.int .i64 1), (.int .i64 0), (.int .i64 3), (.int .i64 1)]) tE_33 rfl (by decide) (by kernel_rfl) (by kernel_rfl) ?_)
  intro w11 e11 z6 b6
  replace b6 : Blk w11 w10.heap.size #[(.int .i64 1), (.int .i64 0), (.int .i64 3), (.int .i64 1)] 32 := b6
  refine xl_op (P := Tryz.prog) (some 25) rfl rfl (ox_mkStruct (ps := [(0, (.int .i64 1)), (1, (.slice (some ⟨w10.heap.size, 0, none⟩) 2 2))]) (cs := #[(.int .i64 1), (.slice (some ⟨w10.heap.size, 0, none⟩) 2 2)]) tZ_37 tP_37 rfl (by kernel_rfl) ?_)
  refine xl_op (P := Tryz.prog) (some 26) rfl rfl (ox_mkStruct (ps := [(0, (.int .i64 1))]) (cs := #[(.int .i64 1), (.slice none 0 0)]) tZ_37 tP_37 rfl (by kernel_rfl) ?_)
  refine xl_op (P := Tryz.prog) (some 27) rfl rfl (ox_move (v := (.func (.func 70) #[] #[])) rfl ?_)
  refine xl_op (P := Tryz.prog) (some 28) rfl rfl (ox_callV (cap := []) (al := [(.int .i64 1)]) pf_70 rfl rfl (ret_mono (smallT 1 w11) ?_))
  rintro _ w12 ⟨rfl, e12⟩
  have he12 := e12.size
  refine xl_op (P := Tryz.prog) (some 29) rfl rfl (ox_mkSlice (ps := [(0, (.agg #[(.int .i64 1), (.int .i64 1)]))]) (zs := #[(.int .i64 0), (.int .i64 0)]) (cs := #[(.int .i64 1), (.int .i64 1)]) tE_33 rfl (by decide) (by kernel_rfl) (by kernel_rfl) ?_)
  intro w13 e13 z7 b7
  replace b7 : Blk w13 w12.heap.size #[(.int .i64 1), (.int .i64 1)] 32 := b7
  refine xl_op (P := Tryz.prog) (some 30) rfl rfl (ox_mkStruct (ps := [(0, (.int .i64 2)), (1, (.slice (some ⟨w12.heap.size, 0, none⟩) 1 1))]) (cs := #[(.int .i64 2), (.slice (some ⟨w12.heap.size, 0, none⟩) 1 1)]) tZ_37 tP_37 rfl (by kernel_rfl) ?_)
  refine xl_op (P := Tryz.prog) (some 31) rfl rfl (ox_move (v := (.func (.func 71) #[] #[])) rfl ?_)
  refine xl_op (P := Tryz.prog) (some 32) rfl rfl (ox_callV (cap := []) (al := [(.int .i64 1)]) pf_71 rfl rfl (ret_mono (smallN 1 w13) ?_))
  rintro _ w14 ⟨rfl, e14⟩
  have he14 := e14.size
  refine xl_op (P := Tryz.prog) (some 33) rfl rfl (ox_mkSlice (ps := [(0, (.agg #[(.int .i64 3), (.int .i64 1)]))]) (zs := #[(.int .i64 0), (.int .i64 0)]) (cs := #[(.int .i64 3), (.int .i64 1)]) tE_33 rfl (by decide) (by kernel_rfl) (by kernel_rfl) ?_)
  intro w15 e15 z8 b8
  replace b8 : Blk w15 w14.heap.size #[(.int .i64 3), (.int .i64 1)] 32 := b8
  refine xl_op (P := Tryz.prog) (some 34) rfl rfl (ox_mkStruct (ps := [(0, (.int .i64 2)), (1, (.slice (some ⟨w14.heap.size, 0, none⟩) 1 1))]) (cs := #[(.int .i64 2), (.slice (some ⟨w14.heap.size, 0, none⟩) 1 1)]) tZ_37 tP_37 rfl (by kernel_rfl) ?_)
  refine xl_op (P := Tryz.prog) (some 35) rfl rfl (ox_mkSlice (ps := [(0, (.agg #[(.int .i64 0), (.slice (some ⟨w6.heap.size, 0, none⟩) 3 3)])), (1, (.agg #[(.int .i64 0), (.slice (some ⟨w7.heap.size, 0, none⟩) 1 1)])), (2, (.agg #[(.int .i64 1), (.slice (some ⟨w10.heap.size, 0, none⟩) 2 2)])), (3, (.agg #[(.int .i64 1), (.slice none 0 0)])), (4, (.agg #[(.int .i64 2), (.slice (some ⟨w12.heap.size, 0, none⟩) 1 1)])), (5, (.agg #[(.int .i64 2), (.slice (some ⟨w14.heap.size, 0, none⟩) 1 1)]))]) (zs := #[(.int .i64 0), (.slice none 0 0), (.int .i64 0), (.slice none 0 0), (.int .i64 0), (.slice none 0 0), (.int .i64 0), (.slice none 0 0), (.int .i64 0), (.slice none 0 0), (.int .i64 0), (.slice none 0 0)]) (cs := #[(.int .i64 0), (.slice (some ⟨w6.heap.size, 0, none⟩) 3 3), (.int .i64 0), (.slice (some ⟨w7.heap.size, 0, none⟩) 1 1), (.int .i64 1), (.slice (some ⟨w10.heap.size, 0, none⟩) 2 2), (.int .i64 1), (.slice none 0 0), (.int .i64 2), (.slice (some ⟨w12.heap.size, 0, none⟩) 1 1), (.int .i64 2), (.slice (some ⟨w14.heap.size, 0, none⟩) 1 1)]) tE_24 rfl (by decide) (by kernel_rfl) (by kernel_rfl) ?_)
  intro w16 e16 z9 b9
  replace b9 : Blk w16 w15.heap.size #[(.int .i64 0), (.slice (some ⟨w6.heap.size, 0, none⟩) 3 3), (.int .i64 0), (.slice (some ⟨w7.heap.size, 0, none⟩) 1 1), (.int .i64 1), (.slice (some ⟨w10.heap.size, 0, none⟩) 2 2), (.int .i64 1), (.slice none 0 0), (.int .i64 2), (.slice (some ⟨w12.heap.size, 0, none⟩) 1 1), (.int .i64 2), (.slice (some ⟨w14.heap.size, 0, none⟩) 1 1)] 37 := b9
  refine xl_op (P := Tryz.prog) (some 36) rfl rfl (ox_mkStruct (ps := [(0, (.slice (some ⟨w1.heap.size, 0, none⟩) 4 4)), (1, (.slice (some ⟨w2.heap.size, 0, none⟩) 3 3)), (3, (.slice (some ⟨w15.heap.size, 0, none⟩) 6 6))]) (cs := #[(.slice (some ⟨w1.heap.size, 0, none⟩) 4 4), (.slice (some ⟨w2.heap.size, 0, none⟩) 3 3), (.int .i64 0), (.slice (some ⟨w15.heap.size, 0, none⟩) 6 6)]) tZ_26 tP_26 rfl (by kernel_rfl) ?_)
  have q1 := (((((b1.ext e2).ext e3).ext e4).ext e5).ext e6)
  have q2 := (((((q1.ext e7).ext e8).ext e9).ext e10).ext e11)
  have q3 := ((((q2.ext e12).ext e13).ext e14).ext e15)
  refine xl_op (P := Tryz.prog) none rfl rfl (ox_store (n := 4) (vs := [(.slice (some ⟨w1.heap.size, 0, none⟩) 4 4), (.slice (some ⟨w2.heap.size, 0, none⟩) 3 3), (.int .i64 0), (.slice (some ⟨w15.heap.size, 0, none⟩) 6 6)]) tS_26 rfl (v := (.agg #[(.slice (some ⟨w1.heap.size, 0, none⟩) 4 4), (.slice (some ⟨w2.heap.size, 0, none⟩) 3 3), (.int .i64 0), (.slice (some ⟨w15.heap.size, 0, none⟩) 6 6)])) rfl rfl rfl rfl (q3.ext e16) (Nat.le_of_ble_eq_true rfl) ?_)
  intro w17 e17 z10 b10
  replace b10 : Blk w17 w.heap.size #[(.slice (some ⟨w1.heap.size, 0, none⟩) 4 4), (.slice (some ⟨w2.heap.size, 0, none⟩) 3 3), (.int .i64 0), (.slice (some ⟨w15.heap.size, 0, none⟩) 6 6)] 26 := blk_full b10 rfl
  refine xl_nil ?_
  refine xc_ret ?_
  change leaves _ _ _ _ _ _ _
  refine leaves_nil (n := 37) (rs := [.cell 0 26]) (vs := [(.agg #[(.slice (some ⟨w1.heap.size, 0, none⟩) 4 4), (.slice (some ⟨w2.heap.size, 0, none⟩) 3 3), (.int .i64 0), (.slice (some ⟨w15.heap.size, 0, none⟩) 6 6)])]) rfl ⟨⟨by decide, w.heap.size, 0, 4, [(.slice (some ⟨w1.heap.size, 0, none⟩) 4 4), (.slice (some ⟨w2.heap.size, 0, none⟩) 3 3), (.int .i64 0), (.slice (some ⟨w15.heap.size, 0, none⟩) 6 6)], rfl, tA_26, tS_26, rfl, ⟨b10.cell rfl, b10.cell rfl, b10.cell rfl, b10.cell rfl, trivial⟩, rfl⟩, trivial⟩ ?_
  have q4 := (((((b4.ext e8).ext e9).ext e10).ext e11).ext e12)
  have q5 := ((((q4.ext e13).ext e14).ext e15).ext e16)
  have q6 := (q5.keep1 e17 (q5.ne (q3.ext e16) (by decide)))
  have q7 := ((((b5.ext e9).ext e10).ext e11).ext e12)
  have q8 := ((((q7.ext e13).ext e14).ext e15).ext e16)
  have q9 := (q8.keep1 e17 (q8.ne (q3.ext e16) (by decide)))
  have q10 := ((((b6.ext e12).ext e13).ext e14).ext e15)
  have q11 := ((q10.ext e16).keep1 e17 ((q10.ext e16).ne (q3.ext e16) (by decide)))
  have q12 := ((((b7.ext e14).ext e15).ext e16).keep1 e17 ((((b7.ext e14).ext e15).ext e16).ne (q3.ext e16) (by decide)))
  have q13 := ((b8.ext e16).keep1 e17 ((b8.ext e16).ne (q3.ext e16) (by decide)))
  have q14 := (((((b2.ext e3).ext e4).ext e5).ext e6).ext e7)
  have q15 := ((((q14.ext e8).ext e9).ext e10).ext e11)
  have q16 := ((((q15.ext e12).ext e13).ext e14).ext e15)
  have q17 := ((q16.ext e16).keep1 e17 ((q16.ext e16).ne (q3.ext e16) (by decide)))
  have q18 := (((((b3.ext e4).ext e5).ext e6).ext e7).ext e8)
  have q19 := ((((q18.ext e9).ext e10).ext e11).ext e12)
  have q20 := ((((q19.ext e13).ext e14).ext e15).ext e16)
  have q21 := (q20.keep1 e17 (q20.ne (q3.ext e16) (by decide)))
  have q22 := (b9.keep1 e17 (b9.ne (q3.ext e16) (by decide)))
  have hrow : ∀ y ∈ ([⟨0, some ⟨w6.heap.size, 0, none⟩, 3, [⟨3, 1⟩, ⟨3, 2⟩, ⟨1, 3⟩]⟩, ⟨0, some ⟨w7.heap.size, 0, none⟩, 1, [⟨2, 0⟩]⟩, ⟨1, some ⟨w10.heap.size, 0, none⟩, 2, [⟨1, 0⟩, ⟨3, 1⟩]⟩, ⟨1, none, 0, []⟩, ⟨2, some ⟨w12.heap.size, 0, none⟩, 1, [⟨1, 1⟩]⟩, ⟨2, some ⟨w14.heap.size, 0, none⟩, 1, [⟨3, 1⟩]⟩] : List PD), RowA w17 y.rA (y.right.flatMap Sym.cs) ∧ few 16 y.right.length y.rc := by
    intro y hy
    simp only [List.mem_cons, List.not_mem_nil, or_false] at hy
    rcases hy with rfl | rfl | rfl | rfl | rfl | rfl
    · exact ⟨⟨fun _ => rfl, q6.cell rfl, q6.cell rfl, q6.cell rfl, q6.cell rfl, q6.cell rfl, q6.cell rfl, trivial⟩, (by show 3 ≤ 3; decide), (by show 3 * 16 ≤ 140737488355328; decide)⟩
    · exact ⟨⟨fun _ => rfl, q9.cell rfl, q9.cell rfl, trivial⟩, (by show 1 ≤ 1; decide), (by show 1 * 16 ≤ 140737488355328; decide)⟩
    · exact ⟨⟨fun _ => rfl, q11.cell rfl, q11.cell rfl, q11.cell rfl, q11.cell rfl, trivial⟩, (by show 2 ≤ 2; decide), (by show 2 * 16 ≤ 140737488355328; decide)⟩
    · exact ⟨rfl, (by show 0 ≤ 0; decide), (by show 0 * 16 ≤ 140737488355328; decide)⟩
    · exact ⟨⟨fun _ => rfl, q12.cell rfl, q12.cell rfl, trivial⟩, (by show 1 ≤ 1; decide), (by show 1 * 16 ≤ 140737488355328; decide)⟩
    · exact ⟨⟨fun _ => rfl, q13.cell rfl, q13.cell rfl, trivial⟩, (by show 1 ≤ 1; decide), (by show 1 * 16 ≤ 140737488355328; decide)⟩
  have x1 : Ext w w17 := (Ext.chg1 (Ext.trans (Ext.trans (Ext.trans (Ext.trans (Ext.trans (Ext.trans (Ext.trans (Ext.trans (Ext.trans (Ext.trans (Ext.trans (Ext.trans (Ext.trans (Ext.trans (Ext.trans e1 e2) e3) e4) e5) e6) e7) e8) e9) e10) e11) e12) e13) e14) e15) e16) e17 (by omega))
  refine ⟨⟨some ⟨w1.heap.size, 0, none⟩, 4, [⟨⟨#[97]⟩, false, exZero⟩, ⟨⟨#[98]⟩, false, exZero⟩, ⟨⟨#[119]⟩, true, exZero⟩, ⟨⟨#[99]⟩, false, exZero⟩], some ⟨w2.heap.size, 0, none⟩, 3, [⟨#[83]⟩, ⟨#[65]⟩, ⟨#[66]⟩], 0, some ⟨w15.heap.size, 0, none⟩, 6, [⟨0, some ⟨w6.heap.size, 0, none⟩, 3, [⟨3, 1⟩, ⟨3, 2⟩, ⟨1, 3⟩]⟩, ⟨0, some ⟨w7.heap.size, 0, none⟩, 1, [⟨2, 0⟩]⟩, ⟨1, some ⟨w10.heap.size, 0, none⟩, 2, [⟨1, 0⟩, ⟨3, 1⟩]⟩, ⟨1, none, 0, []⟩, ⟨2, some ⟨w12.heap.size, 0, none⟩, 1, [⟨1, 1⟩]⟩, ⟨2, some ⟨w14.heap.size, 0, none⟩, 1, [⟨3, 1⟩]⟩]⟩, rfl, ⟨⟨fun _ => rfl, q17.cell rfl, q17.cell rfl, q17.cell rfl, q17.cell rfl, q17.cell rfl, q17.cell rfl, q17.cell rfl, q17.cell rfl, q17.cell rfl, q17.cell rfl, q17.cell rfl, q17.cell rfl, q17.cell rfl, q17.cell rfl, q17.cell rfl, q17.cell rfl, q17.cell rfl, q17.cell rfl, q17.cell rfl, q17.cell rfl, q17.cell rfl, q17.cell rfl, q17.cell rfl, q17.cell rfl, q17.cell rfl, q17.cell rfl, q17.cell rfl, q17.cell rfl, q17.cell rfl, q17.cell rfl, q17.cell rfl, q17.cell rfl, trivial⟩, ⟨fun _ => rfl, q21.cell rfl, q21.cell rfl, q21.cell rfl, trivial⟩, ⟨fun _ => rfl, q22.cell rfl, q22.cell rfl, q22.cell rfl, q22.cell rfl, q22.cell rfl, q22.cell rfl, q22.cell rfl, q22.cell rfl, q22.cell rfl, q22.cell rfl, q22.cell rfl, q22.cell rfl, trivial⟩, fun y hy => ?_, fun y hy => (hrow y hy).1, ⟨by show 4 ≤ 4; decide, by show 4 * 88 ≤ 140737488355328; decide⟩, ⟨by show 3 ≤ 3; decide, by show 3 * 16 ≤ 140737488355328; decide⟩, ⟨by show 6 ≤ 6; decide, by show 6 * 32 ≤ 140737488355328; decide⟩, fun y hy => (hrow y hy).2⟩, rfl, x1⟩
  simp only [List.mem_cons, List.not_mem_nil, or_false] at hy
  rcases hy with rfl | rfl | rfl | rfl <;> exact ⟨rfl, ⟨by decide, by decide⟩, trivial⟩
end Go.Proofs.YtnnmdkglgnlenaaGreatDoor
