/-
  Part 16 of the proof: texts Tb Tc Td Te Ts Tt Tu Tf Tq Tv Tg Th Tk Tp Tw Ua Ty Wr Ws Ub Uc Uf Wb. No conditions.
-/
import Derived.Test.YtnnmdkglgnlenaaGreatDoorRows
import Derived.Test.YtnnmdkglgnlenaaGreatDoorPbf
import Derived.Test.YtnnmdkglgnlenaaGreatDoorPbg
import Derived.Test.YtnnmdkglgnlenaaGreatDoorPbh
import Derived.Test.YtnnmdkglgnlenaaGreatDoorPbm
import Derived.Test.YtnnmdkglgnlenaaGreatDoorPbn
set_option linter.unusedVariables false
set_option linter.unusedSimpArgs false
set_option linter.unusedSectionVars false
set_option maxRecDepth 100000
set_option maxHeartbeats 4000000
namespace Go.Proofs.YtnnmdkglgnlenaaGreatDoor
open Go Go.RowKit Go.Vx
structure Arc where
  sym : Sym
  to : Int
deriving Inhabited
def Arc.cs (x : Arc) : List Value := [.int .i64 x.sym.kind, .int .i64 x.sym.n, .int .i64 x.to]
theorem Arc.len (x : Arc) : x.cs.length = 3 := rfl
theorem Arc.one (x : Arc) : x.cs.all Value.oneCell' = true := rfl
structure StD where
  iA : Option Addr
  ic : Nat
  items : List Itm
  kern : Int
  aA : Option Addr
  ac : Nat
  arcs : List Arc
  sym : Sym
  frm : Int
deriving Inhabited
def StD.cs (x : StD) : List Value := [.slice x.iA x.items.length x.ic, .int .i64 x.kern, .slice x.aA x.arcs.length x.ac, .int .i64 x.sym.kind, .int .i64 x.sym.n, .int .i64 x.frm]
theorem StD.len (x : StD) : x.cs.length = 6 := rfl
theorem StD.one (x : StD) : x.cs.all Value.oneCell' = true := rfl
structure StR (B : Nat) (w : World) (x : StD) : Prop where
  items : Vx.Own w 42 2 (.slice x.iA x.items.length x.ic) x.items.length (x.items.flatMap Itm.cs)
  lowI : ∀ k, (Value.slice x.iA x.items.length x.ic).ownBlock = some k → B ≤ k
  arcs : Vx.Own w 101 3 (.slice x.aA x.arcs.length x.ac) x.arcs.length (x.arcs.flatMap Arc.cs)
  lowA : ∀ k, (Value.slice x.aA x.arcs.length x.ac).ownBlock = some k → B ≤ k
structure StF (B : Nat) (w : World) (l : List StD) : Prop where
  all : ∀ x ∈ l, StR B w x
  apart : ∀ (i j : Nat) (x y : StD), i < j → l[i]? = some x → l[j]? = some y → ∀ k, (Value.slice x.aA x.arcs.length x.ac).ownBlock = some k → (Value.slice y.aA y.arcs.length y.ac).ownBlock = some k → False
section
variable {B : Nat} {K : Nat → Prop} {w w' : World} {l : List StD}
theorem own_type {e sz n k : Nat} {v : Value} {xs : List Value} (h : Vx.Own w e sz v n xs) (hk : v.ownBlock = some k) : ∃ cs, w.heap[k]? = some (.cells cs e (0, 0)) := by
  rcases h.form with ⟨rfl, _⟩ | ⟨g, cap, cur, rfl, hb, _⟩
  · simp [Value.ownBlock] at hk
  · cases hk; exact ⟨cur, hb⟩
theorem StF.keepT (h : StF B w l) (c : Chg K w w') (hk : ∀ k, K k → ∀ cs, w.heap[k]? ≠ some (.cells cs 42 (0, 0)) ∧ w.heap[k]? ≠ some (.cells cs 101 (0, 0))) : StF B w' l := by
  refine ⟨fun x hx => ?_, h.apart⟩
  have hr := h.all x hx
  refine ⟨hr.items.keep c fun k h1 h2 => ?_, hr.lowI, hr.arcs.keep c fun k h1 h2 => ?_, hr.lowA⟩
  · obtain ⟨cs, h3⟩ := own_type hr.items h1; exact (hk k h2 cs).1 h3
  · obtain ⟨cs, h3⟩ := own_type hr.arcs h1; exact (hk k h2 cs).2 h3
theorem StF.ext (h : StF B w l) (c : Ext w w') : StF B w' l := h.keepT c fun _ hk => hk.elim
theorem StF.keepB {b t : Nat} {cs : Array Value} (h : StF B w l) (c : Chg1 b w w') (hb : Blk w b cs t) (h1 : t ≠ 42) (h2 : t ≠ 101) : StF B w' l := h.keepT c fun k hk cs' => by
  have hk : k = b := hk
  subst hk; unfold Blk at hb; rw [hb]
  exact ⟨fun hh => by cases hh; exact h1 rfl, fun hh => by cases hh; exact h2 rfl⟩
theorem StF.keepM {κ : Type} {enc : κ → Value} {b : Nat} {m : List (κ × Value)} (h : StF B w l) (c : Chg1 b w w') (hb : MapB enc w b m) : StF B w' l := h.keepT c fun k hk cs' => by
  have hk : k = b := hk
  subst hk
  obtain ⟨es, cl, hb, _⟩ := hb
  rw [hb]; exact ⟨by simp, by simp⟩
theorem StF.keepO {e sz n : Nat} {v : Value} {xs : List Value} (h : StF B w l) (c : Chg (fun b => v.ownBlock = some b) w w') (ho : Vx.Own w e sz v n xs) (h1 : e ≠ 42) (h2 : e ≠ 101) : StF B w' l := h.keepT c fun k hk cs' => by
  obtain ⟨cs, h3⟩ := own_type ho hk
  rw [h3]
  exact ⟨fun hh => by cases hh; exact h1 rfl, fun hh => by cases hh; exact h2 rfl⟩
theorem StF.snoc {x : StD} (h : StF B w l) (hx : StR B w x) (hn : (Value.slice x.aA x.arcs.length x.ac).ownBlock = none) : StF B w (l ++ [x]) := by
  refine ⟨fun y hy => ?_, fun i j a b hij ha hb k h1 h2 => ?_⟩
  · rcases List.mem_append.1 hy with hy | hy
    · exact h.all y hy
    · rw [List.mem_singleton.1 hy]; exact hx
  · have hj := (List.getElem?_eq_some_iff.1 hb).1
    rw [List.length_append, List.length_singleton] at hj
    by_cases hjl : j < l.length
    · rw [List.getElem?_append_left hjl] at hb
      rw [List.getElem?_append_left (by omega)] at ha
      exact h.apart i j a b hij ha hb k h1 h2
    · have : j = l.length := by omega
      subst this
      rw [List.getElem?_append_right (Nat.le_refl _), Nat.sub_self] at hb
      cases hb
      rw [hn] at h2; cases h2
end
def stKey (x : StD) : ByteArray := ⟨(wkey (x.items.take x.kern.toNat)).toArray⟩
def keysM : List StD → Nat → List (ByteArray × Value)
  | [], _ => []
  | x :: l, i => (stKey x, .int .i64 (i : Nat)) :: keysM l (i + 1)
theorem keysM_snoc {l : List StD} {x : StD} : ∀ {i : Nat}, lookM (keysM l i) (stKey x) = none → setM (keysM l i) (stKey x) (.int .i64 ((i + l.length : Nat) : Int)) = keysM (l ++ [x]) i := by
  induction l with
  | nil => intro i _; rfl
  | cons y l ih =>
    intro i h
    simp only [keysM, lookM, List.find?_cons] at h
    by_cases hy : stKey y = stKey x
    · simp [hy] at h
    · simp only [hy, decide_false] at h
      have := ih (i := i + 1) (by simpa [lookM] using h)
      simp only [keysM, setM, hy, if_false, List.cons_append]
      rw [← this]; congr 2
      rw [List.length_cons]; congr 1; omega
theorem keysM_val : ∀ (l : List StD) (i : Nat) (k : ByteArray), ∀ v ∈ lookM (keysM l i) k, ∃ j : Nat, v = .int .i64 (j : Nat)
  | [], i, k, v, h => by simp [keysM, lookM] at h
  | x :: l, i, k, v, h => by
    simp only [keysM, lookM, List.find?_cons] at h
    by_cases hx : stKey x = k
    · simp [hx] at h; exact ⟨i, h.symm⟩
    · simp only [hx, decide_false] at h
      exact keysM_val l (i + 1) k v (by simpa [lookM] using h)
def keyAt (l : List StD) (k : ByteArray) : Int := match lookM (keysM l 0) k with
  | some (.int _ i) => i
  | _ => 0
theorem lookM_keys (l : List StD) (k : ByteArray) : (lookM (keysM l 0) k).getD (.int .i64 0) = .int .i64 (keyAt l k) := by
  unfold keyAt
  cases h : lookM (keysM l 0) k with
  | none => rfl
  | some v =>
    obtain ⟨j, rfl⟩ := keysM_val l 0 k v (by rw [h]; rfl)
    rfl
def AddR (g : GD) (sts : List StD) (l : List Itm) (z : Sym) (fr : Int) (sts' : List StD) (v : Value) : Prop :=
  ((lookM (keysM sts 0) ⟨(wkey l).toArray⟩).isSome = true ∧ sts' = sts ∧ v = .int .i64 (keyAt sts ⟨(wkey l).toArray⟩)) ∨
  ((lookM (keysM sts 0) ⟨(wkey l).toArray⟩).isSome = false ∧ ∃ A c, sts' = sts ++ [⟨A, c, closG g l, (l.length : Int), none, 0, [], z, fr⟩] ∧ v = .int .i64 (sts.length : Nat))
theorem closG_pre {g : GD} {l : List Itm} (h : ((closF g l).1).take l.length = l) : (closG g l).take l.length = l := by
  unfold closG
  have hl : l.length ≤ (closF g l).1.length := by
    have := congrArg List.length h
    rw [List.length_take] at this; omega
  rw [List.take_append_of_le_length (by rw [List.length_take]; omega), List.take_take, Nat.min_self, h]
theorem closF_pre (g : GD) (K : List Itm) : ((closF g K).1).take K.length = K := by
  refine fixN_inv (P := fun h : CS => h.1.take K.length = K) (fun h hp => ?_) _ _ List.take_length
  have hl : K.length ≤ h.1.length := by
    have := congrArg List.length hp
    rw [List.length_take] at this; omega
  unfold stepC
  split
  · split
    · show (h.1 ++ _).take K.length = K
      rw [List.take_append_of_le_length hl]; exact hp
    · exact hp
  · exact hp
theorem stKey_new {g : GD} {l : List Itm} {A : Option Addr} {c : Nat} {z : Sym} {fr : Int} : stKey ⟨A, c, closG g l, (l.length : Int), none, 0, [], z, fr⟩ = ⟨(wkey l).toArray⟩ := by
  unfold stKey
  simp only [Int.toNat_natCast]
  rw [closG_pre (closF_pre g l)]
instance pf_57 : PlF Tryz.prog 57 := ⟨by kernel_rfl⟩
instance pf_64 : PlF Tryz.prog 64 := ⟨by kernel_rfl⟩
instance tA_120 : AggF Tryz.prog 120 := ⟨by kernel_rfl⟩
instance tA_28 : AggF Tryz.prog 28 := ⟨by kernel_rfl⟩
instance tA_95 : AggF Tryz.prog 95 := ⟨by kernel_rfl⟩
instance tE_95 : SlT Tryz.prog 95 (94, 6, 80, (.agg #[(.slice none 0 0), (.int .i64 0), (.slice none 0 0), (.int .i64 0), (.int .i64 0), (.int .i64 0)])) := ⟨by kernel_rfl⟩
instance tF_97_1 : FdT Tryz.prog 97 1 4 := ⟨by kernel_rfl⟩
instance tP_94 : PcT Tryz.prog 94 #[(0, 1), (1, 1), (2, 1), (3, 2), (5, 1)] := ⟨by kernel_rfl⟩
instance tS_95 : SzT Tryz.prog 95 1 := ⟨by kernel_rfl⟩
theorem tU_120 : Tryz.prog.underlying 120 = some (.map 9 3) := by kernel_rfl
instance tU_95 : UnS Tryz.prog 95 94 := ⟨by kernel_rfl⟩
instance tZ_94 : ZrT Tryz.prog 94 (.agg #[(.slice none 0 0), (.int .i64 0), (.slice none 0 0), (.int .i64 0), (.int .i64 0), (.int .i64 0)]) := ⟨by kernel_rfl⟩
theorem add_calls (s : SP) (ba bm bp mb : Nat) (sA : Option Addr) (sc : Nat) (sts : List StD) (l : List Itm) (A : Option Addr) (c : Nat) (z : Sym) (fr : Int) (w0 : World) (w : World) (hE0 : Ext w0 w) (hS : SpR w0 s) (hG : GoodG s.g) (hT : TabP w0) (hbm : Blk w bm #[.map (some mb)] 120) (hbp : Blk w bp #[.pointer (some ⟨ba, 0, none⟩)] 28) (hba : Blk w ba #[(.slice s.lA s.lex.length s.lc), (.slice s.nA s.names.length s.nc), (.int .i64 s.start), (.slice s.pA s.prods.length s.pc), (.slice sA sts.length sc)] 97) (hm : MapB (fun s : ByteArray => .string s) w mb (keysM sts 0)) (ho : Vx.Own w 94 6 (.slice sA sts.length sc) sts.length (sts.flatMap StD.cs)) (hlo : ∀ k, (Value.slice sA sts.length sc).ownBlock = some k → w0.heap.size ≤ k) (hF : StF w0.heap.size w sts) (hA : Vx.Own w 42 2 (.slice A l.length c) l.length (l.flatMap Itm.cs)) (hn : l.length ≤ 100000000) (hst : sts.length ≤ 100000000000) (hI : ∀ x ∈ l, smallI x) (hO : ∀ x ∈ l, okI s.g x) (hN : s.names.length ≤ 128) (hP : s.prods.length ≤ 512) (hb0 : w0.heap.size ≤ ba ∧ w0.heap.size ≤ mb) :
    Calls Tryz.prog 63 #[(.slice A l.length c), (.agg #[(.int .i64 z.kind), (.int .i64 z.n)]), (.int .i64 fr), (.pointer (some ⟨bm, 0, none⟩)), (.pointer (some ⟨bp, 0, none⟩))] w (Ret (fun v w' => ∃ sts' sA' sc', AddR s.g sts l z fr sts' v ∧ Blk w' bm #[.map (some mb)] 120 ∧ Blk w' bp #[.pointer (some ⟨ba, 0, none⟩)] 28 ∧ Blk w' ba #[(.slice s.lA s.lex.length s.lc), (.slice s.nA s.names.length s.nc), (.int .i64 s.start), (.slice s.pA s.prods.length s.pc), (.slice sA' sts'.length sc')] 97 ∧ MapB (fun s : ByteArray => .string s) w' mb (keysM sts' 0) ∧ Vx.Own w' 94 6 (.slice sA' sts'.length sc') sts'.length (sts'.flatMap StD.cs) ∧ (∀ k, (Value.slice sA' sts'.length sc').ownBlock = some k → w0.heap.size ≤ k) ∧ StF w0.heap.size w' sts' ∧ Chg (fun k => k = ba ∨ k = mb ∨ (Value.slice sA sts.length sc).ownBlock = some k) w w')) := by
 have hsz0_ := hE0.size
 refine calls_y (n := 49) Tryz.func63 ?_
 refine go ?_
 refine y_bx ?_
 intro w1 e1 z1 b1
 have x1 : Ext w0 w1 := (Ext.trans hE0 e1)
 refine go ?_
 refine yCa (ret_mono (write_calls l A c w1 (Own.rowO (hA.ext e1)) (by omega) hI (TabIs.ext hT x1)) ?_)
 rintro _ w2 ⟨rfl, e2⟩
 have he2 := e2.size
 refine go ?_
 refine y_ld ((hbm.ext e1).ext e2) ?_
 refine go ?_
 refine yOp (ox_lookup2V (enc := (fun s : ByteArray => .string s)) (.int .i64 ((keyAt sts (⟨(wkey l).toArray⟩ : ByteArray)))) ((lookM (keysM sts 0) (⟨(wkey l).toArray⟩ : ByteArray)).isSome) (keyT_string tU_9) tU_120 tZ_3.h ((hm.ext e1).ext e2) rfl rfl (lookM_keys _ _) rfl ?_)
 refine go ?_
 refine xc_cond (b := ((lookM (keysM sts 0) (⟨(wkey l).toArray⟩ : ByteArray)).isSome)) rfl (fun h1 => ?_) (fun h1 => ?_)
 ·
  have h1' := bS h1
  refine go ?_
  refine y_r1 ?_
  have x2 : Ext w w2 := (Ext.trans e1 e2)
  exact ⟨sts, sA, sc, (show AddR s.g sts l z fr sts _ from .inl ⟨h1, rfl, rfl⟩), ((hbm.ext e1).ext e2), ((hbp.ext e1).ext e2), ((hba.ext e1).ext e2), ((hm.ext e1).ext e2), ((ho.ext e1).ext e2), hlo, (StF.ext hF x2), (Chg.ext (Chg.ext (Chg.refl (fun k => k = ba ∨ k = mb ∨ (Value.slice sA sts.length sc).ownBlock = some k) w) e1) e2)⟩
 ·
  have h1' := bS h1
  refine go ?_
  refine y_ld ((hbp.ext e1).ext e2) ?_
  refine go ?_
  refine y_ld ((hba.ext e1).ext e2) ?_
  refine go ?_
  refine y_ld ((hbm.ext e1).ext e2) ?_
  refine go ?_
  refine yNp (ox_mapUpdate (enc := (fun s : ByteArray => .string s)) (k := (⟨(wkey l).toArray⟩)) (v := (.int .i64 (((sts.length : Nat) : Int)))) (keyT_string tU_9) tU_120 ((hm.ext e1).ext e2) rfl rfl rfl ?_)
  intro w3 e3 z2 m1
  refine go ?_
  refine xc_regionE [17] (fun W_ => Chg (fun x => ((.slice sA sts.length sc) : Value).ownBlock = some x) w3 W_) hmix ?_
  intro w4 e4 z3
  have hS1 : Chg (fun x => ((.slice sA sts.length sc) : Value).ownBlock = some x) w3 w4 := Ext.to e4
  have q1 := (((hbp.ext e1).ext e2).keep1 e3 (fun _h => ((hm.ext e1).ext e2).ne_blk ((hbp.ext e1).ext e2) _h.symm))
  have q2 := (((ho.ext e1).ext e2).keep1 e3 (fun k hk => ((ho.ext e1).ext e2).ne_map ((hm.ext e1).ext e2) k hk))
  refine yDt (i := 0) rfl hS1 (fun W_ hW_ => ox_load tA_28.h rfl ((q1.keep hW_ (fun _h => (q2).ne_blk q1 (by decide) _ _h rfl)).cell rfl) ⟨rfl, rfl⟩) ?_
  have q3 := (((hbp.ext e1).ext e2).keep1 e3 (fun _h => ((hm.ext e1).ext e2).ne_blk ((hbp.ext e1).ext e2) _h.symm))
  have q4 := (((ho.ext e1).ext e2).keep1 e3 (fun k hk => ((ho.ext e1).ext e2).ne_map ((hm.ext e1).ext e2) k hk))
  refine yDt (i := 1) rfl hS1 (fun W_ hW_ => ox_load tA_28.h rfl ((q3.keep hW_ (fun _h => (q4).ne_blk q3 (by decide) _ _h rfl)).cell rfl) ⟨rfl, rfl⟩) ?_
  refine yDp 2 ?_
  refine yDp 3 ?_
  have q5 := (((hba.ext e1).ext e2).keep1 e3 (fun _h => ((hm.ext e1).ext e2).ne_blk ((hba.ext e1).ext e2) _h.symm))
  have q6 := (((ho.ext e1).ext e2).keep1 e3 (fun k hk => ((ho.ext e1).ext e2).ne_map ((hm.ext e1).ext e2) k hk))
  refine yDt (i := 4) rfl hS1 (fun W_ hW_ => ox_load tA_95.h rfl ((q5.keep hW_ (fun _h => (q6).ne_blk q5 (by decide) _ _h rfl)).cell rfl) ⟨rfl, rfl⟩) ?_
  have q7 := (((hbp.ext e1).ext e2).keep1 e3 (fun _h => ((hm.ext e1).ext e2).ne_blk ((hbp.ext e1).ext e2) _h.symm))
  have q8 := (((ho.ext e1).ext e2).keep1 e3 (fun k hk => ((ho.ext e1).ext e2).ne_map ((hm.ext e1).ext e2) k hk))
  refine yDt (i := 5) rfl hS1 (fun W_ hW_ => ox_load tA_28.h rfl ((q7.keep hW_ (fun _h => (q8).ne_blk q7 (by decide) _ _h rfl)).cell rfl) ⟨rfl, rfl⟩) ?_
  refine yDp 6 ?_
  refine yDp 8 ?_
  refine yDp 9 ?_
  have q9 := ((b1.ext e2).keep1 e3 (fun _h => ((hm.ext e1).ext e2).ne_blk (b1.ext e2) _h.symm))
  have q10 := (((ho.ext e1).ext e2).keep1 e3 (fun k hk => ((ho.ext e1).ext e2).ne_map ((hm.ext e1).ext e2) k hk))
  refine yDt (i := 10) rfl hS1 (fun W_ hW_ => ox_loadN (vs := [(.int .i64 z.kind), (.int .i64 z.n)]) tA_32.h tS_32.h rfl rfl ⟨(q9.keep hW_ (fun _h => (q10).ne_blk q9 (by decide) _ _h rfl)).cell rfl, (q9.keep hW_ (fun _h => (q10).ne_blk q9 (by decide) _ _h rfl)).cell rfl, trivial⟩ ⟨rfl, rfl⟩) ?_
  refine yDp 11 ?_
  have q11 := (((hba.ext e1).ext e2).keep1 e3 (fun _h => ((hm.ext e1).ext e2).ne_blk ((hba.ext e1).ext e2) _h.symm))
  have x3 : Ext w0 w4 := (Ext.trans (Ext.chg1 (Ext.trans x1 e2) e3 (by omega)) e4)
  have q12 := (((hA.ext e1).ext e2).keep1 e3 (fun k hk => ((hA.ext e1).ext e2).ne_map ((hm.ext e1).ext e2) k hk))
  refine yD1 (i := 7) rfl (yCx (ret_mono (closure_calls s ba sA sts.length sc l A c w4 (q11.ext e4) (hS.ext x3) hG (Own.rowO (q12.ext e4)) (by omega) hN hP hO) ?_))
  rintro _ w5 ⟨A1, c1, rfl, hn1, e5⟩
  have he5 := e5.size
  have hS2 : Chg (fun x => ((.slice sA sts.length sc) : Value).ownBlock = some x) w3 w5 := Chg.ext hS1 e5
  refine ⟨.inr fun _ => hS2, ?_⟩
  refine yDq (i := 12) rfl (fun W_ hW_ => ox_mkStruct (ps := [(0, (.slice A1 ((closG s.g l).length) c1)), (1, (.int .i64 (((l.length : Nat) : Int)))), (3, (.agg #[(.int .i64 z.kind), (.int .i64 z.n)])), (4, (.int .i64 fr))]) (cs := #[(.slice A1 ((closG s.g l).length) c1), (.int .i64 (((l.length : Nat) : Int))), (.slice none 0 0), (.int .i64 z.kind), (.int .i64 z.n), (.int .i64 fr)]) tZ_94.h tP_94.h rfl (by kernel_rfl) ⟨rfl, rfl⟩) ?_
  refine yD1 (i := 13) rfl (ox_mkSlice (ps := [(0, (.agg #[(.slice A1 ((closG s.g l).length) c1), (.int .i64 (((l.length : Nat) : Int))), (.slice none 0 0), (.int .i64 z.kind), (.int .i64 z.n), (.int .i64 fr)]))]) (zs := #[(.slice none 0 0), (.int .i64 0), (.slice none 0 0), (.int .i64 0), (.int .i64 0), (.int .i64 0)]) (cs := #[(.slice A1 ((closG s.g l).length) c1), (.int .i64 (((l.length : Nat) : Int))), (.slice none 0 0), (.int .i64 z.kind), (.int .i64 z.n), (.int .i64 fr)]) tE_95.h rfl (by decide) (by kernel_rfl) (by kernel_rfl) ?_)
  intro w6 e6 z4 b2
  replace b2 : Blk w6 w5.heap.size #[(.slice A1 ((closG s.g l).length) c1), (.int .i64 (((l.length : Nat) : Int))), (.slice none 0 0), (.int .i64 z.kind), (.int .i64 z.n), (.int .i64 fr)] 94 := b2
  have hS3 : Chg (fun x => ((.slice sA sts.length sc) : Value).ownBlock = some x) w3 w6 := Chg.ext hS2 e6
  refine ⟨.inr fun _ => hS3, ?_⟩
  have q13 := (((ho.ext e1).ext e2).keep1 e3 (fun k hk => ((ho.ext e1).ext e2).ne_map ((hm.ext e1).ext e2) k hk))
  refine yD1 (i := 14) rfl (ox_appD (l := sts) (r := [(StD.mk A1 c1 ((closG s.g l)) (((l.length : Nat) : Int)) none 0 [] (⟨z.kind, z.n⟩ : Sym) fr)]) (cs := StD.cs) rfl tE_95.h rfl (by decide) StD.len StD.one (v := (.slice sA sts.length sc)) rfl rfl (m := 1) rfl (((q13.ext e4).ext e5).ext e6) b2.all aM (by decide) ?_)
  intro A2 c2 w7 o1 e7 at1 hc1
  have he7 := e7.size
  have low1 : ∀ _k, (Value.slice A2 (sts ++ [(StD.mk A1 c1 ((closG s.g l)) (((l.length : Nat) : Int)) none 0 [] (⟨z.kind, z.n⟩ : Sym) fr)]).length c2).ownBlock = some _k → w0.heap.size ≤ _k := fun _k _h => by rcases at1 with _e | _e <;> rw [_e] at _h; exact hlo _k _h; exact (by cases _h; omega)
  have hS4 : Chg (fun x => ((.slice sA sts.length sc) : Value).ownBlock = some x) w3 w7 := Chg.trans hS3 e7 (fun x hx hl => hx)
  refine ⟨.inr fun _ => hS4, ?_⟩
  refine yDp 15 ?_
  refine yDp 16 ?_
  have q14 := ((((q11.ext e4).ext e5).ext e6).keep e7 (fun _h => (((q13.ext e4).ext e5).ext e6).ne_blk (((q11.ext e4).ext e5).ext e6) (by decide) _ _h rfl))
  refine yD1 (i := 17) rfl (ox_store (n := 1) (vs := [(.slice A2 ((sts ++ [(StD.mk A1 c1 ((closG s.g l)) (((l.length : Nat) : Int)) none 0 [] (⟨z.kind, z.n⟩ : Sym) fr)]).length) c2)]) tS_95.h rfl (v := (.slice A2 ((sts ++ [(StD.mk A1 c1 ((closG s.g l)) (((l.length : Nat) : Int)) none 0 [] (⟨z.kind, z.n⟩ : Sym) fr)]).length) c2)) rfl rfl rfl rfl q14 (Nat.le_of_ble_eq_true rfl) ?_)
  intro w8 e8 z5 b3
  replace b3 : Blk w8 ba #[(.slice s.lA s.lex.length s.lc), (.slice s.nA s.names.length s.nc), (.int .i64 s.start), (.slice s.pA s.prods.length s.pc), (.slice A2 ((sts ++ [(StD.mk A1 c1 ((closG s.g l)) (((l.length : Nat) : Int)) none 0 [] (⟨z.kind, z.n⟩ : Sym) fr)]).length) c2)] 97 := b3
  refine ⟨.inl (by decide), ?_⟩
  refine xd_done (by kernel_rfl) ?_ _
  refine go ?_
  refine y_r1 ?_
  have q15 := (((hbm.ext e1).ext e2).keep1 e3 (fun _h => ((hm.ext e1).ext e2).ne_blk ((hbm.ext e1).ext e2) _h.symm))
  have q16 := ((((q15.ext e4).ext e5).ext e6).keep e7 (fun _h => (((q13.ext e4).ext e5).ext e6).ne_blk (((q15.ext e4).ext e5).ext e6) (by decide) _ _h rfl))
  have q17 := (((hbp.ext e1).ext e2).keep1 e3 (fun _h => ((hm.ext e1).ext e2).ne_blk ((hbp.ext e1).ext e2) _h.symm))
  have q18 := ((((q17.ext e4).ext e5).ext e6).keep e7 (fun _h => (((q13.ext e4).ext e5).ext e6).ne_blk (((q17.ext e4).ext e5).ext e6) (by decide) _ _h rfl))
  have q19 := ((((m1.ext e4).ext e5).ext e6).keep e7 (fun _h => by rcases (((q13.ext e4).ext e5).ext e6).form with ⟨_e, _⟩ | ⟨_g, _c, _cur, _e, _hb, _⟩ <;> rw [_e] at _h <;> simp [Value.ownBlock] at _h; exact (((m1.ext e4).ext e5).ext e6).ne_blk _hb _h.symm))
  have q20 := (q19.keep1 e8 (fun _h => q19.ne_blk q14 _h))
  have hk9 : stKey (⟨A1, c1, closG s.g l, (l.length : Int), none, 0, [], ⟨z.kind, z.n⟩, fr⟩ : StD) = (⟨(wkey l).toArray⟩ : ByteArray) := stKey_new
  have hm9 := q20
  rw [← hk9] at hm9
  have hnn : lookM (keysM sts 0) (stKey (⟨A1, c1, closG s.g l, (l.length : Int), none, 0, [], ⟨z.kind, z.n⟩, fr⟩ : StD)) = none := by rw [hk9]; simpa using h1
  have hks := keysM_snoc hnn
  rw [Nat.zero_add] at hks
  rw [hks] at hm9
  have q21 := (o1.keep1 e8 (fun k hk => o1.ne_blk q14 (by decide) k hk))
  have x4 : Ext w w2 := (Ext.trans e1 e2)
  have x5 : Ext w3 w6 := (Ext.trans (Ext.trans e4 e5) e6)
  have q22 := (StF.ext (StF.keepM (StF.ext hF x4) e3 ((hm.ext e1).ext e2)) x5)
  have q23 := (StF.keepO q22 e7 (((q13.ext e4).ext e5).ext e6) (by decide) (by decide))
  have q24 := ((hn1.1.ext e6).keep e7 (fun _k _hk => (hn1.1.ext e6).ne_own (((q13.ext e4).ext e5).ext e6) (by decide) _k _hk))
  have q25 := (q24.keep1 e8 (fun k hk => q24.ne_blk q14 (by decide) k hk))
  exact ⟨sts ++ [(⟨A1, c1, closG s.g l, (l.length : Int), none, 0, [], ⟨z.kind, z.n⟩, fr⟩ : StD)], A2, c2, (show AddR s.g sts l z fr _ _ from .inr ⟨by simpa using h1, _, _, rfl, rfl⟩), (q16.keep1 e8 (q16.ne q14 (by decide))), (q18.keep1 e8 (q18.ne q14 (by decide))), b3, hm9, q21, (fun k hk => by have _h := low1 k hk; omega), StF.snoc (StF.keepB q23 e8 q14 (by decide) (by decide)) ⟨q25, (fun k hk => by have _h := hn1.2 k hk; omega), Vx.Own.nil _ _ _, (fun k hk => by simp [Value.ownBlock] at hk)⟩ rfl, (Chg.trans (Chg.trans (Chg.ext (Chg.ext (Chg.ext (Chg.trans (Chg.ext (Chg.ext (Chg.refl (fun k => k = ba ∨ k = mb ∨ (Value.slice sA sts.length sc).ownBlock = some k) w) e1) e2) e3 (fun k hk hl => .inr (.inl hk))) e4) e5) e6) e7 (fun k hk hl => .inr (.inr hk))) e8 (fun k hk hl => .inl hk))⟩
structure ASt where
  items : List Itm
  kern : Int
  arcs : List Arc
  sym : Sym
  frm : Int
deriving Inhabited
def StD.d (x : StD) : ASt := ⟨x.items, x.kern, x.arcs, x.sym, x.frm⟩
def ASt.key (x : ASt) : ByteArray := ⟨(wkey (x.items.take x.kern.toNat)).toArray⟩
def keysA : List ASt → Nat → List (ByteArray × Value)
  | [], _ => []
  | x :: l, i => (x.key, .int .i64 (i : Nat)) :: keysA l (i + 1)
theorem keysM_d : ∀ (l : List StD) (i : Nat), keysM l i = keysA (l.map StD.d) i
  | [], _ => rfl
  | x :: l, i => by rw [keysM, List.map_cons, keysA, keysM_d l (i + 1)]; rfl
def keyA (l : List ASt) (k : ByteArray) : Int := match lookM (keysA l 0) k with
  | some (.int _ i) => i
  | _ => 0
theorem keyAt_d (l : List StD) (k : ByteArray) : keyAt l k = keyA (l.map StD.d) k := by
  unfold keyAt keyA; rw [keysM_d]
  try (rcases lookM (keysA (l.map StD.d) 0) k with _ | v; rfl; cases v <;> rfl)
def addA (g : GD) (st : List ASt) (l : List Itm) (z : Sym) (fr : Int) : List ASt × Int :=
  if (lookM (keysA st 0) ⟨(wkey l).toArray⟩).isSome = true then (st, keyA st ⟨(wkey l).toArray⟩)
  else (st ++ [⟨closG g l, (l.length : Int), [], z, fr⟩], (st.length : Nat))
theorem addR_d {g : GD} {sts sts' : List StD} {l : List Itm} {z : Sym} {fr : Int} {v : Value} (h : AddR g sts l z fr sts' v) : ∃ i, v = .int .i64 i ∧ addA g (sts.map StD.d) l z fr = (sts'.map StD.d, i) := by
  unfold addA
  rcases h with ⟨h1, rfl, rfl⟩ | ⟨h1, A, c, rfl, rfl⟩
  · rw [keysM_d] at h1
    exact ⟨_, rfl, by rw [if_pos h1, ← keyAt_d]⟩
  · rw [keysM_d] at h1
    exact ⟨_, rfl, by rw [if_neg (by rw [h1]; decide), List.map_append, List.length_map]; rfl⟩
def arcS (g : GD) (at_ : Nat) (st : List ASt) (z : Sym) : List ASt :=
  let r := addA g st (overG g z (st[at_]!).items) z (at_ : Nat)
  r.1.set at_ { (r.1[at_]!) with arcs := (r.1[at_]!).arcs ++ [⟨z, r.2⟩] }
def rowS (g : GD) (at_ : Nat) (st : List ASt) : List ASt := (symsG g (st[at_]!).items).foldl (arcS g at_) st
def buildF (g : GD) : Nat → Nat → List ASt → Option (List ASt)
  | 0, _, _ => none
  | f + 1, at_, st => if at_ < st.length then (if 1024 ≤ at_ then none else buildF g f (at_ + 1) (rowS g at_ st)) else some st
def buildG (g : GD) : Option (List ASt) := buildF g 1025 0 (addA g [] [⟨-1, 0⟩] ⟨0, 0⟩ 0).1
def okJ (g : GD) (x : Itm) : Prop := okI g x ∧ x.dot ≤ ((rightG g x.p).length : Int)
theorem closF_okJ {g : GD} {K : List Itm} (hK : ∀ x ∈ K, okJ g x) : ∀ x ∈ (closF g K).1, okJ g x := by
  refine fixN_inv (P := fun h : CS => ∀ x ∈ h.1, okJ g x) (fun h hp => ?_) _ _ hK
  unfold stepC
  split
  · split
    · intro x hx
      rcases List.mem_append.1 hx with hx | hx
      · exact hp x hx
      · obtain ⟨i, p, h2, _, h3, _⟩ := (newP_mem K _).1 hx
        have h4 := (List.getElem?_eq_some_iff.1 h2).1
        rw [h3]; exact ⟨⟨.inr ⟨by simp only; omega, by simp only; omega⟩, Int.le_refl _⟩, by simp only; omega⟩
    · exact hp
  · exact hp
theorem srtItm_mem {l : List Itm} {x : Itm} : x ∈ srtItm l ↔ x ∈ l := List.mem_mergeSort
theorem closG_mem {g : GD} {K : List Itm} {x : Itm} : x ∈ closG g K ↔ x ∈ (closF g K).1 := by
  unfold closG
  rw [List.mem_append, srtItm_mem, ← List.mem_append, List.take_append_drop]
theorem closF_inv {g : GD} (hG : GoodG g) {K : List Itm} (hK : ∀ x ∈ K, okI g x) : InvC g K (closF g K) := by
  have key : ∀ (n : Nat) (h : CS), InvC g K h → InvC g K (fixN (stepC g K) n h) := by
    intro n
    induction n with
    | zero => intro h hi; exact hi
    | succ n ih =>
      intro h hi
      rw [fixN]
      split
      · rename_i hs; exact ih _ (stepC_ok hG hi hs).1
      · rename_i hs
        unfold stepC at hs ⊢
        split at hs
        · split at hs <;> exact absurd rfl hs
        · rename_i hlt; rw [if_neg hlt]; exact hi
  exact key _ _ (InvC.start hK)
theorem closG_len {g : GD} (hG : GoodG g) {K : List Itm} (hK : ∀ x ∈ K, okI g x) (hN : g.names ≤ 128) (hP : g.prods.length ≤ 512) : (closG g K).length ≤ K.length + 65536 := by
  have h1 := (closF_inv hG hK).most
  have h2 : g.names * g.prods.length ≤ 128 * 512 := Nat.mul_le_mul hN hP
  have h3 : (closG g K).length = (closF g K).1.length := by
    unfold closG
    rw [List.length_append, srtItm_len, ← List.length_append, List.take_append_drop]
  omega
theorem overG_mem {g : GD} {z : Sym} {l : List Itm} {x : Itm} : x ∈ overG g z l ↔ ∃ y ∈ l, behindG g y = some z ∧ x = ⟨y.p, y.dot + 1⟩ := by
  unfold overG overM
  rw [srtItm_mem, List.mem_filterMap]
  constructor
  · rintro ⟨y, hy, h⟩
    split at h
    · rename_i hb; exact ⟨y, hy, hb, (Option.some.inj h).symm⟩
    · cases h
  · rintro ⟨y, hy, hb, rfl⟩
    exact ⟨y, hy, by rw [if_pos hb]⟩
theorem overG_len {g : GD} {z : Sym} {l : List Itm} : (overG g z l).length ≤ l.length := by
  unfold overG overM
  rw [srtItm_len]; exact List.length_filterMap_le _ _
theorem overG_okJ {g : GD} {z : Sym} {l : List Itm} (h : ∀ x ∈ l, okJ g x) : ∀ x ∈ overG g z l, okJ g x := by
  intro x hx
  obtain ⟨y, hy, hb, rfl⟩ := overG_mem.1 hx
  have h1 := h y hy
  have h2 := (List.getElem?_eq_some_iff.1 hb).1
  have h3 := h1.1.2
  exact ⟨⟨h1.1.1, by simp only; omega⟩, by simp only; omega⟩
structure OkS (g : GD) (st : List ASt) : Prop where
  ok : ∀ x ∈ st, ∀ y ∈ x.items, okJ g y
  len : ∀ (i : Nat) (x : ASt), st[i]? = some x → x.items.length ≤ 65537 * (i + 1) ∧ x.items.length ≤ 67240962
theorem OkS.start {g : GD} (hG : GoodG g) (hN : g.names ≤ 128) (hP : g.prods.length ≤ 512) : OkS g (addA g [] [⟨-1, 0⟩] ⟨0, 0⟩ 0).1 := by
  have hK : ∀ x ∈ [(⟨-1, 0⟩ : Itm)], okJ g x := fun x hx => by
    rw [List.mem_singleton.1 hx]; exact ⟨⟨.inl rfl, Int.le_refl _⟩, by simp only; omega⟩
  have hl := closG_len hG (K := [⟨-1, 0⟩]) (fun x hx => (hK x hx).1) hN hP
  simp only [List.length_singleton] at hl
  have he : (addA g [] [⟨-1, 0⟩] ⟨0, 0⟩ 0).1 = [⟨closG g [⟨-1, 0⟩], 1, [], ⟨0, 0⟩, 0⟩] := rfl
  rw [he]
  refine ⟨fun x hx y hy => ?_, fun i x hx => ?_⟩
  · rw [List.mem_singleton.1 hx] at hy
    exact closF_okJ hK y (closG_mem.1 hy)
  · have hi := (List.getElem?_eq_some_iff.1 hx).1
    simp only [List.length_singleton] at hi
    have : i = 0 := by omega
    subst this
    simp only [List.getElem?_cons_zero, Option.some.injEq] at hx
    subst hx
    simp only; omega
theorem OkS.add {g : GD} (hG : GoodG g) (hN : g.names ≤ 128) (hP : g.prods.length ≤ 512) {st : List ASt} (h : OkS g st) {l : List Itm} {z : Sym} {fr : Int} {a : Nat} (hl : ∀ x ∈ l, okJ g x) (hle : l.length ≤ 65537 * (a + 1)) (ha : a < st.length) (ha2 : a < 1024) : OkS g (addA g st l z fr).1 ∧ st.length ≤ (addA g st l z fr).1.length ∧ (addA g st l z fr).1.length ≤ st.length + 1 := by
  unfold addA
  split
  · exact ⟨h, Nat.le_refl _, Nat.le_succ _⟩
  · have hc := closG_len hG (K := l) (fun x hx => (hl x hx).1) hN hP
    refine ⟨⟨fun x hx y hy => ?_, fun i x hx => ?_⟩, by simp, by simp⟩
    · rcases List.mem_append.1 hx with hx | hx
      · exact h.ok x hx y hy
      · rw [List.mem_singleton.1 hx] at hy
        exact closF_okJ hl y (closG_mem.1 hy)
    · by_cases hi : i < st.length
      · rw [List.getElem?_append_left hi] at hx; exact h.len i x hx
      · have hi2 := (List.getElem?_eq_some_iff.1 hx).1
        simp only [List.length_append, List.length_singleton] at hi2
        have : i = st.length := by omega
        subst this
        rw [List.getElem?_append_right (Nat.le_refl _), Nat.sub_self] at hx
        simp only [List.getElem?_cons_zero, Option.some.injEq] at hx
        subst hx
        simp only; omega
section
variable {B i : Nat} {w w' : World} {l : List StD} {x : StD}
theorem StF.at (h : StF B w l) (hx : l[i]? = some x) : StR B w x := h.all x (List.mem_of_getElem? hx)
theorem StF.arcs {A' : Option Addr} {c' : Nat} {as' : List Arc} (h : StF B w l) (hx : l[i]? = some x) (c : Chg (fun b => (Value.slice x.aA x.arcs.length x.ac).ownBlock = some b) w w') (ho : Vx.Own w' 101 3 (.slice A' as'.length c') as'.length (as'.flatMap Arc.cs))
    (hlo : ∀ k, (Value.slice A' as'.length c').ownBlock = some k → B ≤ k) (hat : (Value.slice A' as'.length c').ownBlock = (Value.slice x.aA x.arcs.length x.ac).ownBlock ∨ (Value.slice A' as'.length c').ownBlock = some w.heap.size) : StF B w' (l.set i { x with aA := A', ac := c', arcs := as' }) := by
  have hxr := h.at hx
  have hil := (List.getElem?_eq_some_iff.1 hx).1
  have items : ∀ y ∈ l, Vx.Own w' 42 2 (.slice y.iA y.items.length y.ic) y.items.length (y.items.flatMap Itm.cs) := fun y hy => (h.all y hy).items.keep c fun k h1 h2 => by
    obtain ⟨c1, h3⟩ := own_type (h.all y hy).items h1
    obtain ⟨c2, h4⟩ := own_type hxr.arcs h2
    rw [h3] at h4; cases h4
  have get : ∀ (j : Nat) (y : StD), (l.set i { x with aA := A', ac := c', arcs := as' })[j]? = some y → (j = i ∧ y = { x with aA := A', ac := c', arcs := as' }) ∨ (j ≠ i ∧ l[j]? = some y) := fun j y hy => by
    by_cases hj : j = i
    · subst hj
      rw [List.getElem?_set_self hil] at hy
      exact .inl ⟨rfl, (Option.some.inj hy).symm⟩
    · rw [List.getElem?_set_ne (fun hh => hj hh.symm)] at hy
      exact .inr ⟨hj, hy⟩
  have other : ∀ (j : Nat) (y : StD), j ≠ i → l[j]? = some y → ∀ k, (Value.slice y.aA y.arcs.length y.ac).ownBlock = some k → (Value.slice x.aA x.arcs.length x.ac).ownBlock = some k → False := fun j y hj hy k h1 h2 => by
    rcases Nat.lt_or_ge j i with h3 | h3
    · exact h.apart j i y x h3 hy hx k h1 h2
    · exact h.apart i j x y (by omega) hx hy k h2 h1
  refine ⟨fun y hy => ?_, fun a b y z hab hy hz k h1 h2 => ?_⟩
  · obtain ⟨j, hj⟩ := List.mem_iff_getElem?.1 hy
    rcases get j y hj with ⟨rfl, rfl⟩ | ⟨hji, hy⟩
    · exact ⟨items x (List.mem_of_getElem? hx), hxr.lowI, ho, hlo⟩
    · have hr := h.at hy
      exact ⟨items y (List.mem_of_getElem? hy), hr.lowI, hr.arcs.keep c fun k h1 h2 => other j y hji hy k h1 h2, hr.lowA⟩
  · have new : ∀ (j : Nat) (u : StD), j ≠ i → l[j]? = some u → ∀ k, (Value.slice u.aA u.arcs.length u.ac).ownBlock = some k → (Value.slice A' as'.length c').ownBlock = some k → False := fun j u hj hu k h1 h2 => by
      rcases hat with e | e
      · rw [e] at h2; exact other j u hj hu k h1 h2
      · rw [e] at h2
        have := (h.at hu).arcs.lt k h1
        cases h2; omega
    rcases get a y hy with ⟨ha, hya⟩ | ⟨ha, hy2⟩
    · rcases get b z hz with ⟨hb, _⟩ | ⟨hb, hz2⟩
      · omega
      · subst hya; exact new b z hb hz2 k h2 h1
    · rcases get b z hz with ⟨hb, hzb⟩ | ⟨hb, hz2⟩
      · subst hzb; exact new a y ha hy2 k h1 h2
      · exact h.apart a b y z hab hy2 hz2 k h1 h2
end
theorem check_good {g : GD} (h : (checkE g).1 = 0) : GoodG g ∧ g.names ≤ 128 ∧ g.prods.length ≤ 512 ∧ ∀ p ∈ g.prods, p.2.length ≤ 16 := by
  unfold checkE at h
  split at h
  · exact absurd h (by decide)
  · rename_i hl
    split at h
    · rename_i h1; exact absurd h h1
    · rename_i h1
      have h2 : (indG g).1 = 0 := Classical.byContradiction h1
      have h3 : longG g = false := by simpa using hl
      unfold longG at h3
      simp only [Bool.or_eq_false_iff, decide_eq_false_iff_not, List.any_eq_false, decide_eq_true_eq] at h3
      exact ⟨good_of h2, by omega, by omega, fun p hp => by have := h3.2 p hp; omega⟩
theorem addA_get {g : GD} {st : List ASt} {l : List Itm} {z : Sym} {fr : Int} {k : Nat} (hk : k < st.length) : (addA g st l z fr).1[k]? = st[k]? := by
  unfold addA
  split
  · rfl
  · exact List.getElem?_append_left hk
theorem bangA {st : List ASt} {i : Nat} {x : ASt} (h : st[i]? = some x) : st[i]! = x := by rw [List.getElem!_eq_getElem?_getD, h]; rfl
theorem OkS.set {g : GD} {st : List ASt} (h : OkS g st) {i : Nat} {x y : ASt} (hx : st[i]? = some x) (hi : y.items = x.items) : OkS g (st.set i y) := by
  have hil := (List.getElem?_eq_some_iff.1 hx).1
  refine ⟨fun u hu => ?_, fun k u hu => ?_⟩
  · rcases List.mem_or_eq_of_mem_set hu with hu | rfl
    · exact h.ok u hu
    · rw [hi]; exact h.ok x (List.mem_of_getElem? hx)
  · by_cases hk : k = i
    · subst hk
      rw [List.getElem?_set_self hil] at hu; cases hu
      rw [hi]; exact h.len k x hx
    · rw [List.getElem?_set_ne (fun hh => hk hh.symm)] at hu
      exact h.len k u hu
theorem arcS_ok {g : GD} (hG : GoodG g) (hN : g.names ≤ 128) (hP : g.prods.length ≤ 512) {st : List ASt} (h : OkS g st) {a : Nat} {z : Sym} {x : ASt} (hx : st[a]? = some x) (ha : a < 1024) :
    OkS g (arcS g a st z) ∧ st.length ≤ (arcS g a st z).length ∧ (arcS g a st z).length ≤ st.length + 1 ∧ ∃ y, (arcS g a st z)[a]? = some y ∧ y.items = x.items := by
  have hal := (List.getElem?_eq_some_iff.1 hx).1
  have hxl := h.len a x hx
  have hok : ∀ y ∈ overG g z x.items, okJ g y := overG_okJ (h.ok x (List.mem_of_getElem? hx))
  have hol : (overG g z x.items).length ≤ x.items.length := overG_len
  have hadd := OkS.add hG hN hP h (z := z) (fr := (a : Nat)) hok (a := a) (by omega) hal ha
  have hg : (addA g st (overG g z x.items) z (a : Nat)).1[a]? = some x := (addA_get hal).trans hx
  have he : arcS g a st z = (addA g st (overG g z x.items) z (a : Nat)).1.set a { x with arcs := x.arcs ++ [⟨z, (addA g st (overG g z x.items) z (a : Nat)).2⟩] } := by
    unfold arcS
    simp only [bangA hx, bangA hg]
  rw [he]
  refine ⟨hadd.1.set hg rfl, by rw [List.length_set]; exact hadd.2.1, by rw [List.length_set]; exact hadd.2.2, ⟨_, List.getElem?_set_self (by omega), rfl⟩⟩
theorem arcS_eq {g : GD} {st : List ASt} {a : Nat} {z : Sym} {x : ASt} (hx : st[a]? = some x) : arcS g a st z = (addA g st (overG g z x.items) z (a : Nat)).1.set a { x with arcs := x.arcs ++ [⟨z, (addA g st (overG g z x.items) z (a : Nat)).2⟩] } := by
  have hal := (List.getElem?_eq_some_iff.1 hx).1
  have hg : (addA g st (overG g z x.items) z (a : Nat)).1[a]? = some x := (addA_get hal).trans hx
  unfold arcS
  simp only [bangA hx, bangA hg]
theorem fold_ok {g : GD} (hG : GoodG g) (hN : g.names ≤ 128) (hP : g.prods.length ≤ 512) {a : Nat} (ha : a < 1024) : ∀ (zs : List Sym) {st : List ASt} {x : ASt}, OkS g st → st[a]? = some x → OkS g (zs.foldl (arcS g a) st) ∧ st.length ≤ (zs.foldl (arcS g a) st).length ∧ (zs.foldl (arcS g a) st).length ≤ st.length + zs.length
  | [], st, x, h, hx => ⟨h, Nat.le_refl _, Nat.le_refl _⟩
  | z :: zs, st, x, h, hx => by
    obtain ⟨h1, h2, h3, y, hy, _⟩ := arcS_ok hG hN hP h (z := z) hx ha
    obtain ⟨k1, k2, k3⟩ := fold_ok hG hN hP ha zs h1 hy
    rw [List.foldl_cons, List.length_cons]
    exact ⟨k1, by omega, by omega⟩
theorem cmpP_len : ∀ (l : List Sym) (p : Sym), (cmpP p l).length ≤ l.length
  | [], _ => Nat.le_refl _
  | x :: l, p => by
    rw [cmpP]
    split
    · have := cmpP_len l p; rw [List.length_cons]; omega
    · have := cmpP_len l x; rw [List.length_cons, List.length_cons]; omega
theorem symsG_len {g : GD} {l : List Itm} : (symsG g l).length ≤ l.length := by
  have h1 : ∀ m : List Sym, (compL m).length ≤ m.length := fun m => by
    cases m with
    | nil => exact Nat.le_refl _
    | cons x m => rw [compL, List.length_cons, List.length_cons]; have := cmpP_len m x; omega
  unfold symsG
  have h2 := h1 (srtSym (l.filterMap (behindG g)))
  have h3 := List.length_filterMap_le (behindG g) l
  rw [srtSym_len] at h2
  omega
structure OkP (st : List ASt) : Prop where
  frm : ∀ (k : Nat) (x : ASt), st[k]? = some x → k ≠ 0 → 0 ≤ x.frm ∧ x.frm < (k : Int)
  kern : ∀ x ∈ st, 0 ≤ x.kern ∧ x.kern ≤ (x.items.length : Int)
theorem closG_le {g : GD} {l : List Itm} : l.length ≤ (closG g l).length := by
  have := congrArg List.length (closG_pre (closF_pre g l))
  rw [List.length_take] at this; omega
theorem OkP.add {g : GD} {st : List ASt} (h : OkP st) {l : List Itm} {z : Sym} {a : Nat} (ha : a < st.length) : OkP (addA g st l z (a : Nat)).1 := by
  unfold addA
  split
  · exact h
  · refine ⟨fun k x hx hk => ?_, fun x hx => ?_⟩
    · by_cases hl : k < st.length
      · rw [List.getElem?_append_left hl] at hx; exact h.frm k x hx hk
      · have hi := (List.getElem?_eq_some_iff.1 hx).1
        simp only [List.length_append, List.length_singleton] at hi
        have : k = st.length := by omega
        subst this
        rw [List.getElem?_append_right (Nat.le_refl _), Nat.sub_self] at hx
        simp only [List.getElem?_cons_zero, Option.some.injEq] at hx
        subst hx
        simp only; omega
    · rcases List.mem_append.1 hx with hx | hx
      · exact h.kern x hx
      · rw [List.mem_singleton.1 hx]
        have := closG_le (g := g) (l := l)
        simp only; omega
theorem OkP.set {st : List ASt} (h : OkP st) {i : Nat} {x y : ASt} (hx : st[i]? = some x) (hi : y.items = x.items) (hk : y.kern = x.kern) (hf : y.frm = x.frm) : OkP (st.set i y) := by
  have hil := (List.getElem?_eq_some_iff.1 hx).1
  refine ⟨fun k u hu hk0 => ?_, fun u hu => ?_⟩
  · by_cases hki : k = i
    · subst hki
      rw [List.getElem?_set_self hil] at hu; cases hu
      rw [hf]; exact h.frm k x hx hk0
    · rw [List.getElem?_set_ne (fun hh => hki hh.symm)] at hu
      exact h.frm k u hu hk0
  · rcases List.mem_or_eq_of_mem_set hu with hu | rfl
    · exact h.kern u hu
    · rw [hi, hk]; exact h.kern x (List.mem_of_getElem? hx)
theorem OkP.arc {g : GD} {st : List ASt} (h : OkP st) {a : Nat} {z : Sym} {x : ASt} (hx : st[a]? = some x) : OkP (arcS g a st z) := by
  have hal := (List.getElem?_eq_some_iff.1 hx).1
  rw [arcS_eq hx]
  exact (h.add hal).set ((addA_get hal).trans hx) rfl rfl rfl
theorem OkP.start {g : GD} : OkP (addA g [] [⟨-1, 0⟩] ⟨0, 0⟩ 0).1 := by
  have he : (addA g [] [⟨-1, 0⟩] ⟨0, 0⟩ 0).1 = [⟨closG g [⟨-1, 0⟩], 1, [], ⟨0, 0⟩, 0⟩] := rfl
  rw [he]
  refine ⟨fun k x hx hk => ?_, fun x hx => ?_⟩
  · have hi := (List.getElem?_eq_some_iff.1 hx).1
    simp only [List.length_singleton] at hi; omega
  · rw [List.mem_singleton.1 hx]
    have := closG_le (g := g) (l := [⟨-1, 0⟩])
    simp only [List.length_singleton] at this
    simp only; omega
structure OkW (g : GD) (q k : Nat) (st : List ASt) : Prop where
  ok : OkS g st
  lt : q < st.length
  rest : ∀ (j : Nat) (x : ASt), q < j → st[j]? = some x → x.arcs = []
  now : ∀ x : ASt, st[q]? = some x → x.arcs.length = k
structure OkV (g : GD) (q : Nat) (st : List ASt) : Prop where
  ok : OkS g st
  rest : ∀ (j : Nat) (x : ASt), q ≤ j → st[j]? = some x → x.arcs = []
theorem OkV.start {g : GD} (hG : GoodG g) (hN : g.names ≤ 128) (hP : g.prods.length ≤ 512) : OkV g 0 (addA g [] [⟨-1, 0⟩] ⟨0, 0⟩ 0).1 := by
  refine ⟨OkS.start hG hN hP, fun j x _ hx => ?_⟩
  have he : (addA g [] [⟨-1, 0⟩] ⟨0, 0⟩ 0).1 = [⟨closG g [⟨-1, 0⟩], 1, [], ⟨0, 0⟩, 0⟩] := rfl
  rw [he] at hx
  have := List.mem_of_getElem? hx
  rw [List.mem_singleton.1 this]
theorem OkV.enter {g : GD} {q : Nat} {st : List ASt} (h : OkV g q st) (hq : q < st.length) : OkW g q 0 st :=
  ⟨h.ok, hq, fun j x hj hx => h.rest j x (Nat.le_of_lt hj) hx, fun x hx => by rw [h.rest q x (Nat.le_refl _) hx]; rfl⟩
theorem OkW.leave {g : GD} {q k : Nat} {st : List ASt} (h : OkW g q k st) : OkV g (q + 1) st := ⟨h.ok, fun j x hj hx => h.rest j x hj hx⟩
theorem addA_new {g : GD} {st : List ASt} {l : List Itm} {z : Sym} {fr : Int} {j : Nat} {x : ASt} (hj : st.length ≤ j) (hx : (addA g st l z fr).1[j]? = some x) : x.arcs = [] := by
  unfold addA at hx
  split at hx
  · have := (List.getElem?_eq_some_iff.1 hx).1
    simp only at this; omega
  · rw [List.getElem?_append_right hj] at hx
    have := List.mem_of_getElem? hx
    rw [List.mem_singleton.1 this]
theorem OkW.arc {g : GD} (hG : GoodG g) (hN : g.names ≤ 128) (hP : g.prods.length ≤ 512) {q k : Nat} {st : List ASt} {z : Sym} (h : OkW g q k st) (hq : q < 1024) : OkW g q (k + 1) (arcS g q st z) ∧ (arcS g q st z).length ≤ st.length + 1 := by
  have hlt0 := h.lt
  have hx : st[q]? = some st[q] := List.getElem?_eq_getElem h.lt
  obtain ⟨h1, h2, h3, y, hy, _⟩ := arcS_ok hG hN hP h.ok (z := z) hx hq
  have hlt := h.lt
  refine ⟨⟨h1, by omega, fun j x hj hxj => ?_, fun x hxq => ?_⟩, h3⟩
  · rw [arcS_eq hx, List.getElem?_set_ne (by omega)] at hxj
    by_cases hjl : j < st.length
    · rw [addA_get hjl] at hxj; exact h.rest j x hj hxj
    · exact addA_new (by omega) hxj
  · rw [arcS_eq hx, List.getElem?_set_self (by rw [arcS_eq hx, List.length_set] at h2; omega)] at hxq
    cases hxq
    have := h.now _ hx
    simp only [List.length_append, List.length_singleton]; omega
theorem addA_at {g : GD} {sts sts2 : List StD} {q : Nat} {l : List Itm} {z : Sym} {fr : Int} {x y : StD} {i : Int} (hx : sts[q]? = some x) (ha : addA g (sts.map StD.d) l z fr = (sts2.map StD.d, i)) (hy : sts2[q]? = some y) : y.d = x.d := by
  have hql := (List.getElem?_eq_some_iff.1 hx).1
  have h1 : (sts2.map StD.d)[q]? = some y.d := map_get hy
  have h2 := addA_get (g := g) (l := l) (z := z) (fr := fr) (st := sts.map StD.d) (k := q) (by rw [List.length_map]; exact hql)
  rw [ha] at h2
  rw [h1, map_get hx] at h2
  exact Option.some.inj h2
theorem arcS_walk {g : GD} {sts sts2 : List StD} {q : Nat} {z : Sym} {x y : StD} {i : Int} {A : Option Addr} {c : Nat} (hx : sts[q]? = some x) (ha : addA g (sts.map StD.d) (overG g z x.items) z (q : Nat) = (sts2.map StD.d, i)) (hy : sts2[q]? = some y) :
    (sts2.set q ⟨y.iA, y.ic, y.items, y.kern, A, c, y.arcs ++ [⟨z, i⟩], y.sym, y.frm⟩).map StD.d = arcS g q (sts.map StD.d) z ∧ y.d = x.d := by
  have hx' : (sts.map StD.d)[q]? = some x.d := map_get hx
  have hql := (List.getElem?_eq_some_iff.1 hx).1
  have hyd : y.d = x.d := by
    have h1 : (sts2.map StD.d)[q]? = some y.d := map_get hy
    have h2 := addA_get (g := g) (l := overG g z x.items) (z := z) (fr := (q : Nat)) (st := sts.map StD.d) (k := q) (by rw [List.length_map]; exact hql)
    rw [ha] at h2
    rw [h1, hx'] at h2
    exact Option.some.inj h2
  refine ⟨?_, hyd⟩
  rw [arcS_eq hx', List.map_set]
  have e1 : x.d.items = x.items := rfl
  have e2 : ({ x.d with arcs := x.d.arcs ++ [(⟨z, i⟩ : Arc)] } : ASt) = StD.d ⟨y.iA, y.ic, y.items, y.kern, A, c, y.arcs ++ [⟨z, i⟩], y.sym, y.frm⟩ := by
    rw [← hyd]; rfl
  rw [e1, ha, ← e2]; rfl
theorem add_lens {g : GD} {sts sts' : List StD} {l : List Itm} {z : Sym} {fr i : Int} (h : addA g (sts.map StD.d) l z fr = (sts'.map StD.d, i)) : sts.length ≤ sts'.length ∧ sts'.length ≤ sts.length + 1 := by
  have h1 := congrArg (fun p : List ASt × Int => p.1.length) h
  unfold addA at h1
  split at h1 <;> simp at h1 <;> omega
theorem okJ_small {g : GD} {x : Itm} (h : okJ g x) (hP : g.prods.length ≤ 512) (hR : ∀ p ∈ g.prods, p.2.length ≤ 16) : smallI x := by
  have h1 := h.1.1
  have h2 := h.1.2
  have h3 := h.2
  have h4 : (rightG g x.p).length ≤ 16 := by
    rcases h1 with h1 | ⟨h1, h5⟩
    · rw [rightG, if_pos h1]; simp
    · have hx : g.prods[x.p.toNat]? = some g.prods[x.p.toNat] := List.getElem?_eq_getElem (by omega)
      have h6 := hR _ (List.mem_of_getElem? hx)
      unfold rightG
      rw [if_neg (by omega)]
      rw [List.getElem!_eq_getElem?_getD, hx]; exact h6
  unfold smallI
  omega
theorem keysM_set {sts : List StD} {q : Nat} {x y : StD} : ∀ {i : Nat}, sts[q]? = some x → y.items = x.items → y.kern = x.kern → keysM (sts.set q y) i = keysM sts i := by
  induction sts generalizing q with
  | nil => intro i h; simp at h
  | cons a l ih =>
    intro i h hi hk
    cases q with
    | zero =>
      simp only [List.getElem?_cons_zero, Option.some.injEq] at h
      subst h
      rw [List.set_cons_zero, keysM, keysM, stKey, stKey, hi, hk]
    | succ q =>
      rw [List.set_cons_succ, keysM, keysM, ih (by simpa using h) hi hk]
theorem buildF_end {g : GD} {q : Nat} {st : List ASt} (hq : ¬ q < st.length) (hq2 : q ≤ 1024) : buildF g (1025 - q) q st = some st := by
  obtain ⟨f, hf⟩ : ∃ f, 1025 - q = f + 1 := ⟨1024 - q, by omega⟩
  rw [hf, buildF, if_neg hq]
theorem buildF_full {g : GD} {q : Nat} {st : List ASt} (hq : q < st.length) (hq2 : q ≤ 1024) (h : 1024 ≤ q) : buildF g (1025 - q) q st = none := by
  obtain ⟨f, hf⟩ : ∃ f, 1025 - q = f + 1 := ⟨1024 - q, by omega⟩
  rw [hf, buildF, if_pos hq, if_pos h]
theorem buildF_row {g : GD} {q : Nat} {st : List ASt} (hq : q < st.length) (h : q < 1024) : buildF g (1025 - q) q st = buildF g (1025 - (q + 1)) (q + 1) (rowS g q st) := by
  have hf : 1025 - q = (1025 - (q + 1)) + 1 := by omega
  rw [hf, buildF, if_pos hq, if_neg (by omega)]
theorem fold_take {α β : Type} {f : β → α → β} {l : List α} {k : Nat} {x : α} {b : β} (hx : l[k]? = some x) : (l.take (k + 1)).foldl f b = f ((l.take k).foldl f b) x := by
  rw [List.take_add_one, hx, List.foldl_append]; rfl
structure AutW (s2 : SP) (ba bm bp mb fb B : Nat) (sA : Option Addr) (sc : Nat) (sts : List StD) (w : World) : Prop where
  bm : Blk w bm #[.map (some mb)] 120
  bp : Blk w bp #[.pointer (some ⟨ba, 0, none⟩)] 28
  ba : Blk w ba #[(.slice s2.lA s2.lex.length s2.lc), (.slice s2.nA s2.names.length s2.nc), (.int .i64 s2.start), (.slice s2.pA s2.prods.length s2.pc), (.slice sA sts.length sc)] 97
  fb : Blk w fb #[.int .i64 0, .int .i64 0, .string ⟨#[]⟩] 75
  mp : MapB (fun s : ByteArray => .string s) w mb (keysM sts 0)
  st : Vx.Own w 94 6 (.slice sA sts.length sc) sts.length (sts.flatMap StD.cs)
  low : ∀ k, (Value.slice sA sts.length sc).ownBlock = some k → B ≤ k
  F : StF B w sts
theorem AutW.set {s2 : SP} {ba bm bp mb fb B q : Nat} {sA : Option Addr} {sc : Nat} {sts : List StD} {w : World} {x y : StD} (hx : sts[q]? = some x) (hi : y.items = x.items) (hk : y.kern = x.kern) (h1 : Blk w bm #[.map (some mb)] 120) (h2 : Blk w bp #[.pointer (some ⟨ba, 0, none⟩)] 28) (h3 : Blk w ba #[(.slice s2.lA s2.lex.length s2.lc), (.slice s2.nA s2.names.length s2.nc), (.int .i64 s2.start), (.slice s2.pA s2.prods.length s2.pc), (.slice sA sts.length sc)] 97) (h4 : Blk w fb #[.int .i64 0, .int .i64 0, .string ⟨#[]⟩] 75) (h5 : MapB (fun s : ByteArray => .string s) w mb (keysM sts 0))
    (h6 : Vx.Own w 94 6 (.slice sA sts.length sc) sts.length ((sts.set q y).flatMap StD.cs)) (h7 : ∀ k, (Value.slice sA sts.length sc).ownBlock = some k → B ≤ k) (h8 : StF B w (sts.set q y)) : AutW s2 ba bm bp mb fb B sA sc (sts.set q y) w := by
  refine ⟨h1, h2, ?_, h4, ?_, ?_, ?_, h8⟩
  · rw [List.length_set]; exact h3
  · rw [keysM_set hx hi hk]; exact h5
  · rw [List.length_set]; exact h6
  · rw [List.length_set]; exact h7
structure AutR (B : Nat) (w : World) (s : SP) (ba : Nat) (sA : Option Addr) (sc : Nat) (sts : List StD) : Prop where
  lowb : B ≤ ba
  ba : Blk w ba #[(.slice s.lA s.lex.length s.lc), (.slice s.nA s.names.length s.nc), (.int .i64 s.start), (.slice s.pA s.prods.length s.pc), (.slice sA sts.length sc)] 97
  st : Vx.Own w 94 6 (.slice sA sts.length sc) sts.length (sts.flatMap StD.cs)
  low : ∀ k, (Value.slice sA sts.length sc).ownBlock = some k → B ≤ k
  F : StF B w sts
theorem StF.mono {B B' : Nat} {w : World} {l : List StD} (hB : B' ≤ B) (h : StF B w l) : StF B' w l := ⟨fun x hx => have q := h.all x hx; ⟨q.items, fun k hk => Nat.le_trans hB (q.lowI k hk), q.arcs, fun k hk => Nat.le_trans hB (q.lowA k hk)⟩, h.apart⟩
theorem StF.nil {B : Nat} {w : World} : StF B w [] := ⟨fun x hx => (List.not_mem_nil hx).elim, fun i j x y _ hx => by simp at hx⟩
theorem OwnS.mono {B B' : Nat} {w : World} {s s' : SP} (hB : B' ≤ B) (h : OwnS B w s s') : OwnS B' w s s' :=
  ⟨h.lex.mono hB, h.lexL, fun j x y hx hy => (h.lexR j x y hx hy).mono hB, h.names.mono hB, h.nameq, h.start, h.prods.mono hB, h.prodsL, fun j x y hx hy => have q := h.prodsR j x y hx hy; ⟨q.left, q.right, q.row.mono hB, q.nil, q.few⟩, h.nilL, h.nilN, h.nilP, h.fl, h.fn, h.fp⟩
theorem OwnS.ext {B : Nat} {w w' : World} {s s' : SP} (h : OwnS B w s s') (c : Ext w w') : OwnS B w' s s' := h.keepC c fun _ _ _ hk => hk
theorem add_calls2 (s : SP) (ba bm bp mb : Nat) (sA : Option Addr) (sc : Nat) (sts : List StD) (l : List Itm) (A : Option Addr) (c : Nat) (z : Sym) (fr : Int) (w0 : World) (w : World) (hE0 : Ext w0 w) (hS : SpR w0 s) (hG : GoodG s.g) (hT : TabP w0) (hbm : Blk w bm #[.map (some mb)] 120) (hbp : Blk w bp #[.pointer (some ⟨ba, 0, none⟩)] 28) (hba : Blk w ba #[(.slice s.lA s.lex.length s.lc), (.slice s.nA s.names.length s.nc), (.int .i64 s.start), (.slice s.pA s.prods.length s.pc), (.slice sA sts.length sc)] 97) (hm : MapB (fun s : ByteArray => .string s) w mb (keysM sts 0)) (ho : Vx.Own w 94 6 (.slice sA sts.length sc) sts.length (sts.flatMap StD.cs)) (hlo : ∀ k, (Value.slice sA sts.length sc).ownBlock = some k → w0.heap.size ≤ k) (hF : StF w0.heap.size w sts) (hA : Vx.Own w 42 2 (.slice A l.length c) l.length (l.flatMap Itm.cs)) (hn : l.length ≤ 100000000) (hst : sts.length ≤ 100000000000) (hI : ∀ x ∈ l, smallI x) (hO : ∀ x ∈ l, okI s.g x) (hN : s.names.length ≤ 128) (hP : s.prods.length ≤ 512) (hb0 : w0.heap.size ≤ ba ∧ w0.heap.size ≤ mb) :
    Calls Tryz.prog 63 #[(.slice A l.length c), (.agg #[(.int .i64 z.kind), (.int .i64 z.n)]), (.int .i64 fr), (.pointer (some ⟨bm, 0, none⟩)), (.pointer (some ⟨bp, 0, none⟩))] w (Ret (fun v w' => ∃ i sts' sA' sc', v = .int .i64 i ∧ addA s.g (sts.map StD.d) l z fr = (sts'.map StD.d, i) ∧ Blk w' bm #[.map (some mb)] 120 ∧ Blk w' bp #[.pointer (some ⟨ba, 0, none⟩)] 28 ∧ Blk w' ba #[(.slice s.lA s.lex.length s.lc), (.slice s.nA s.names.length s.nc), (.int .i64 s.start), (.slice s.pA s.prods.length s.pc), (.slice sA' sts'.length sc')] 97 ∧ MapB (fun s : ByteArray => .string s) w' mb (keysM sts' 0) ∧ Vx.Own w' 94 6 (.slice sA' sts'.length sc') sts'.length (sts'.flatMap StD.cs) ∧ (∀ k, (Value.slice sA' sts'.length sc').ownBlock = some k → w0.heap.size ≤ k) ∧ StF w0.heap.size w' sts' ∧ Chg (fun k => k = ba ∨ k = mb ∨ (Value.slice sA sts.length sc).ownBlock = some k) w w')) := by
  refine ret_mono (add_calls s ba bm bp mb sA sc sts l A c z fr w0 w hE0 hS hG hT hbm hbp hba hm ho hlo hF hA hn hst hI hO hN hP hb0) ?_
  rintro v w' ⟨sts', sA', sc', hR, h⟩
  obtain ⟨i, rfl, hi⟩ := addR_d hR
  exact ⟨i, sts', sA', sc', rfl, hi, h⟩
instance pf_61 : PlF Tryz.prog 61 := ⟨by kernel_rfl⟩
instance pf_62 : PlF Tryz.prog 62 := ⟨by kernel_rfl⟩
instance pf_63 : PlF Tryz.prog 63 := ⟨by kernel_rfl⟩
instance pf_65 : PlF Tryz.prog 65 := ⟨by kernel_rfl⟩
instance pf_66 : PlF Tryz.prog 66 := ⟨by kernel_rfl⟩
instance tA_39 : AggF Tryz.prog 39 := ⟨by kernel_rfl⟩
instance tA_92 : AggF Tryz.prog 92 := ⟨by kernel_rfl⟩
instance tE_92 : SlT Tryz.prog 92 (101, 3, 24, (.agg #[(.int .i64 0), (.int .i64 0), (.int .i64 0)])) := ⟨by kernel_rfl⟩
instance tF_94_0 : FdT Tryz.prog 94 0 0 := ⟨by kernel_rfl⟩
instance tF_94_2 : FdT Tryz.prog 94 2 2 := ⟨by kernel_rfl⟩
instance tP_101 : PcT Tryz.prog 101 #[(0, 2), (2, 1)] := ⟨by kernel_rfl⟩
instance tP_97 : PcT Tryz.prog 97 #[(0, 4), (4, 1)] := ⟨by kernel_rfl⟩
instance tS_120 : SzT Tryz.prog 120 1 := ⟨by kernel_rfl⟩
instance tS_28 : SzT Tryz.prog 28 1 := ⟨by kernel_rfl⟩
instance tS_92 : SzT Tryz.prog 92 1 := ⟨by kernel_rfl⟩
instance tZ_101 : ZrT Tryz.prog 101 (.agg #[(.int .i64 0), (.int .i64 0), (.int .i64 0)]) := ⟨by kernel_rfl⟩
instance tZ_120 : ZrT Tryz.prog 120 (.map none) := ⟨by kernel_rfl⟩
instance tZ_28 : ZrT Tryz.prog 28 (.pointer none) := ⟨by kernel_rfl⟩
instance tZ_97 : ZrT Tryz.prog 97 (.agg #[(.slice none 0 0), (.slice none 0 0), (.int .i64 0), (.slice none 0 0), (.slice none 0 0)]) := ⟨by kernel_rfl⟩
theorem build_calls (s : SP) (w : World) (hS : SpR w s) (hT : TabP w) :
    Calls Tryz.prog 34 #[(.agg #[(.slice s.lA s.lex.length s.lc), (.slice s.nA s.names.length s.nc), (.int .i64 s.start), (.slice s.pA s.prods.length s.pc)])] w (Ret (fun v w' => Ext w w' ∧ ((¬ (checkE s.g).1 = 0 ∧ v = .tuple #[.pointer none, .agg #[.int .i64 (checkE s.g).1, .int .i64 (checkE s.g).2, .string ⟨#[]⟩]]) ∨ ((checkE s.g).1 = 0 ∧ buildG s.g = none ∧ v = .tuple #[.pointer none, .agg #[.int .i64 80, .int .i64 0, .string ⟨#[]⟩]]) ∨ ((checkE s.g).1 = 0 ∧ ∃ s2 ba sA sc sts, buildG s.g = some (sts.map StD.d) ∧ OwnS w.heap.size w' s s2 ∧ AutR w.heap.size w' s2 ba sA sc sts ∧ v = .tuple #[.pointer (some ⟨ba, 0, none⟩), .agg #[.int .i64 0, .int .i64 0, .string ⟨#[]⟩]])))) := by
 have hfn := hS.fn.le; have hfl := hS.fl.le
 refine calls_y (n := 94) Tryz.func34 ?_
 refine go ?_
 refine y_bx ?_
 intro w1 e1 z1 b1
 refine go ?_
 refine y_al ?_
 intro w2 e2 z2 b2
 refine go ?_
 refine y_lN (vs := [(.slice s.lA s.lex.length s.lc), (.slice s.nA s.names.length s.nc), (.int .i64 s.start), (.slice s.pA s.prods.length s.pc)]) ⟨(b1.ext e2).cell rfl, (b1.ext e2).cell rfl, (b1.ext e2).cell rfl, (b1.ext e2).cell rfl, trivial⟩ ?_
 have x1 : Ext w w2 := (Ext.trans e1 e2)
 refine yCa (ret_mono ((by have h9 := check_calls s w2 (hS.ext x1); unfold faultV at h9; exact h9)) ?_)
 rintro _ w3 ⟨rfl, e3⟩
 have he3 := e3.size
 refine y_al ?_
 intro w4 e4 z3 b3
 refine y_st b3 ?_
 intro w5 e5 z4 b4
 replace b4 : Blk w5 w3.heap.size #[(.int .i64 ((checkE s.g).1)), (.int .i64 ((checkE s.g).2)), (.string ((⟨#[]⟩ : ByteArray)))] 75 := blk_full b4 rfl
 refine go ?_
 refine y_ld b4 ?_
 refine go ?_
 refine y_if (fun h1 => ?_) (fun h1 => ?_)
 ·
  refine go ?_
  refine xc_regionE [2] (fun W_ => Chg (fun _ => False) w5 W_) hmix ?_
  intro w6 e6 z5
  have hS1 : Chg (fun _ => False) w5 w6 := Ext.to e6
  refine yDt (i := 0) rfl hS1 (fun W_ hW_ => ox_loadN (vs := [(.int .i64 ((checkE s.g).1)), (.int .i64 ((checkE s.g).2)), (.string ((⟨#[]⟩ : ByteArray)))]) tA_75.h tS_75.h rfl rfl ⟨(b4.ext hW_).cell rfl, (b4.ext hW_).cell rfl, (b4.ext hW_).cell rfl, trivial⟩ ⟨rfl, rfl⟩) ?_
  refine yDp 1 ?_
  have q1 := (((b2.ext e3).ext e4).keep1 e5 (by have _q := b2.lt; omega))
  refine yD1 (i := 2) rfl (ox_store (n := 3) (vs := [(.int .i64 ((checkE s.g).1)), (.int .i64 ((checkE s.g).2)), (.string ((⟨#[]⟩ : ByteArray)))]) tS_75.h rfl (v := (.agg #[(.int .i64 ((checkE s.g).1)), (.int .i64 ((checkE s.g).2)), (.string ((⟨#[]⟩ : ByteArray)))])) rfl rfl rfl rfl (q1.ext e6) (Nat.le_of_ble_eq_true rfl) ?_)
  intro w7 e7 z6 b5
  replace b5 : Blk w7 w1.heap.size #[(.int .i64 ((checkE s.g).1)), (.int .i64 ((checkE s.g).2)), (.string ((⟨#[]⟩ : ByteArray)))] 75 := blk_full b5 rfl
  refine ⟨.inl (by decide), ?_⟩
  refine xd_done (by kernel_rfl) ?_ _
  refine go ?_
  change leaves _ _ _ _ _ _ _
  refine leaves_nil (n := 94) (rs := [.tmp 2, .cell 3 75]) (vs := [(.pointer none), (.agg #[(.int .i64 ((checkE s.g).1)), (.int .i64 ((checkE s.g).2)), (.string ((⟨#[]⟩ : ByteArray)))])]) rfl ⟨⟨by decide, rfl⟩, ⟨by decide, w1.heap.size, 0, 3, [(.int .i64 ((checkE s.g).1)), (.int .i64 ((checkE s.g).2)), (.string ((⟨#[]⟩ : ByteArray)))], rfl, tA_75.h, tS_75.h, rfl, ⟨b5.cell rfl, b5.cell rfl, b5.cell rfl, trivial⟩, rfl⟩, trivial⟩ ?_
  have x2 : Ext w w7 := (Ext.chg1 (Ext.trans (Ext.chg1 (Ext.trans (Ext.trans x1 e3) e4) e5 (by omega)) e6) e7 (by omega))
  exact ⟨x2, .inl ⟨by omega, rfl⟩⟩
 ·
  have hck : (checkE s.g).1 = 0 := by omega
  have hgd := check_good hck
  have q2 := ((((b1.ext e2).ext e3).ext e4).keep1 e5 ((((b1.ext e2).ext e3).ext e4).ne b3 (by decide)))
  refine go ?_
  refine y_lN (vs := [(.slice s.lA s.lex.length s.lc), (.slice s.nA s.names.length s.nc), (.int .i64 s.start), (.slice s.pA s.prods.length s.pc)]) ⟨q2.cell rfl, q2.cell rfl, q2.cell rfl, q2.cell rfl, trivial⟩ ?_
  have x3 : Ext w w5 := (Ext.chg1 (Ext.trans (Ext.trans x1 e3) e4) e5 (by omega))
  refine yCa (ret_mono (own_calls s w5 (hS.ext x3)) ?_)
  rintro _ w8 ⟨s2, rfl, hOw, e8⟩
  have he8 := e8.size
  have x4 : Ext w w8 := (Ext.trans x3 e8)
  have hSpr : SpR w8 s2 := OwnS.spr (w0 := w) hOw
  have hg2 := OwnS.g hOw
  have hG2 : GoodG s2.g := by rw [hg2]; exact hgd.1
  have hNg : s2.g.names ≤ 128 := by rw [hg2]; exact hgd.2.1
  have hPg : s2.g.prods.length ≤ 512 := by rw [hg2]; exact hgd.2.2.1
  have hRg : ∀ p ∈ s2.g.prods, p.2.length ≤ 16 := by rw [hg2]; exact hgd.2.2.2
  have hN2 : s2.names.length ≤ 128 := hNg
  have hP2 : s2.prods.length ≤ 512 := by rw [← s2.gprods]; exact hPg
  have hT2 : TabP w8 := TabIs.ext hT x4
  have hB0 : w.heap.size ≤ w8.heap.size := (x4).size
  refine yOp (ox_mkStruct (ps := [(0, (.agg #[(.slice s2.lA s2.lex.length s2.lc), (.slice s2.nA s2.names.length s2.nc), (.int .i64 s2.start), (.slice s2.pA s2.prods.length s2.pc)]))]) (cs := #[(.slice s2.lA s2.lex.length s2.lc), (.slice s2.nA s2.names.length s2.nc), (.int .i64 s2.start), (.slice s2.pA s2.prods.length s2.pc), (.slice none 0 0)]) tZ_97.h tP_97.h rfl (by kernel_rfl) ?_)
  refine y_bx ?_
  intro w9 e9 z7 b6
  refine y_al ?_
  intro w10 e10 z8 b7
  refine y_st b7 ?_
  intro w11 e11 z9 b8
  replace b8 : Blk w11 w9.heap.size #[(.pointer (some ⟨w8.heap.size, 0, none⟩))] 28 := b8
  refine go ?_
  refine yOp (ox_makeMap (enc := (fun s : ByteArray => .string s)) rfl ?_)
  intro w12 e12 z10 m1
  have he12 := e12.size
  refine y_al ?_
  intro w13 e13 z11 b9
  refine y_st b9 ?_
  intro w14 e14 z12 b10
  replace b10 : Blk w14 w12.heap.size #[(.map (some w11.heap.size))] 120 := b10
  refine go ?_
  refine yOp (ox_mkFunc (cs := [(.pointer (some ⟨w12.heap.size, 0, none⟩)), (.pointer (some ⟨w9.heap.size, 0, none⟩))]) rfl ?_)
  refine go ?_
  refine yOp (ox_mkStruct (ps := [(0, (.int .i64 (-1)))]) (cs := #[(.int .i64 (-1)), (.int .i64 0)]) tZ_42.h tP_42.h rfl (by kernel_rfl) ?_)
  refine yOp (ox_mkSlice (ps := [(0, (.agg #[(.int .i64 (-1)), (.int .i64 0)]))]) (zs := #[(.int .i64 0), (.int .i64 0)]) (cs := #[(.int .i64 (-1)), (.int .i64 0)]) tE_39.h rfl (by decide) (by kernel_rfl) (by kernel_rfl) ?_)
  intro w15 e15 z13 b11
  replace b11 : Blk w15 w14.heap.size #[(.int .i64 (-1)), (.int .i64 0)] 42 := b11
  refine yOp (ox_mkStruct (ps := []) (cs := #[(.int .i64 0), (.int .i64 0)]) tZ_32.h tP_32.h rfl (by kernel_rfl) ?_)
  have q3 := ((b6.ext e10).keep1 e11 ((b6.ext e10).ne b7 (by decide)))
  have q4 := (((q3.ext e12).ext e13).keep1 e14 (((q3.ext e12).ext e13).ne b9 (by decide)))
  have q5 := ((m1.ext e13).keep1 e14 (fun _h => (m1.ext e13).ne_blk b9 _h))
  have x5 : Ext w8 w15 := (Ext.trans (Ext.chg1 (Ext.trans (Ext.trans (Ext.chg1 (Ext.trans e9 e10) e11 (by omega)) e12) e13) e14 (by omega)) e15)
  have q6 := (((b8.ext e12).ext e13).keep1 e14 (((b8.ext e12).ext e13).ne b9 (by decide)))
  refine yOp (ox_callV (cap := [(.pointer (some ⟨w12.heap.size, 0, none⟩)), (.pointer (some ⟨w9.heap.size, 0, none⟩))]) (al := [(.slice (some ⟨w14.heap.size, 0, none⟩) 1 1), (.agg #[(.int .i64 0), (.int .i64 0)]), (.int .i64 0)]) pf_63.h rfl rfl (ret_mono (add_calls2 s2 w8.heap.size w12.heap.size w9.heap.size w11.heap.size none 0 ([] : List StD) [(⟨-1, 0⟩ : Itm)] ((some ⟨w14.heap.size, 0, none⟩)) 1 (⟨0, 0⟩ : Sym) 0 w8 w15 x5 hSpr hG2 hT2 (b10.ext e15) (q6.ext e15) (q4.ext e15) (q5.ext e15) (Vx.Own.nil _ _ _) (fun k hk => by simp [Value.ownBlock] at hk) StF.nil (Vx.Own.lit (n := 1) (sz := 2) b11 rfl (by decide)) (by decide) (by decide) (fun x hx => by rw [List.mem_singleton.1 hx]; exact ⟨by decide, by decide⟩) (fun x hx => by rw [List.mem_singleton.1 hx]; exact ⟨.inl rfl, by decide⟩) hN2 hP2 ⟨by omega, by omega⟩) ?_))
  rintro _ w16 ⟨i1, sts1, sA1, sc1, rfl, hR1, hbm1, hbp1, hba1, hm1, ho1, hlo1, hF1, c1⟩
  have hc1 := c1.size
  have hs0 : (addA s2.g [] [⟨-1, 0⟩] ⟨0, 0⟩ 0).1 = sts1.map StD.d := congrArg Prod.fst hR1
  have hl0 : sts1.length = 1 := by have := congrArg List.length hs0; rw [List.length_map] at this; exact this.symm
  have q7 := (((b2.ext e3).ext e4).keep1 e5 (by have _q := b2.lt; omega))
  have q8 := ((((q7.ext e8).ext e9).ext e10).keep1 e11 ((((q7.ext e8).ext e9).ext e10).ne b7 (by decide)))
  have q9 := (((q8.ext e12).ext e13).keep1 e14 (((q8.ext e12).ext e13).ne b9 (by decide)))
  have q10 := ((q9.ext e15).keep c1 (fun hb => by rcases hb with hb | hb | hb <;> first | omega | simp [Value.ownBlock] at hb))
  have x7 : Ext w8 w16 := (Chg.trans x5 c1 (fun b hb hl => absurd hl (by have _h := (show w8.heap.size ≤ b from by rcases hb with hb | hb | hb <;> first | omega | exact (fun k hk => by simp [Value.ownBlock] at hk) b hb); omega)))
  refine go ?_
  refine xc_loopN (fun m_ f_ Wx => ∃ (q : Nat) (ts : List StD) (tA : Option Addr) (tc : Nat), m_ = 1024 - q ∧ (q ≤ 1024) ∧ (OkV s2.g q (ts.map StD.d)) ∧ (buildF s2.g (1025 - q) q (ts.map StD.d) = buildG s2.g) ∧ (ts.length ≤ 1 + q * 67240962) ∧ f_ 3 = (.pointer (some ⟨w1.heap.size, 0, none⟩)) ∧ f_ 5 = (.pointer (some ⟨w9.heap.size, 0, none⟩)) ∧ f_ 7 = (.func (.func 63) #[] #[(.pointer (some ⟨w12.heap.size, 0, none⟩)), (.pointer (some ⟨w9.heap.size, 0, none⟩))]) ∧ f_ 8 = (.int .i64 ((q : Nat))) ∧ (AutW s2 w8.heap.size w12.heap.size w9.heap.size w11.heap.size w1.heap.size w8.heap.size tA tc ts Wx) ∧ Ext w8 Wx) (1024) ?_ ?_
  ·
   exact ⟨0, sts1, sA1, sc1, (by omega), (by omega), (by rw [← hs0]; exact OkV.start hG2 hNg hPg), (by rw [← hs0] <;> rfl), (by omega), rfl, rfl, rfl, vW, ⟨hbm1, hbp1, hba1, q10, hm1, ho1, hlo1, hF1⟩, x7⟩
  ·
   rintro m_ f1 w17 ⟨q, ts, tA, tc, hm_f1, hq, hV, hbd, htl, g3_f1, g5_f1, g7_f1, g8_f1, t0_f1, x6⟩
   have hx6 := x6.size
   have := t0_f1.bm.lt
   have := t0_f1.bp.lt
   have := t0_f1.ba.lt
   have := t0_f1.fb.lt
   have := t0_f1.mp.lt
   rw [← usf g3_f1, ← usf g5_f1, ← usf g7_f1, ← usf g8_f1]
   refine go ?_
   refine y_ld t0_f1.bp ?_
   refine go ?_
   refine y_ld t0_f1.ba ?_
   refine go ?_
   refine y_if (fun h2 => ?_) (fun h2 => ?_)
   ·
    have hql : q < ts.length := by omega
    refine go ?_
    refine y_if (fun h3 => ?_) (fun h3 => ?_)
    ·
     refine go ?_
     refine yOp (ox_mkStruct (ps := [(0, (.int .i64 80))]) (cs := #[(.int .i64 80), (.int .i64 0), (.string (⟨#[]⟩))]) tZ_75.h tP_75.h rfl (by kernel_rfl) ?_)
     refine go ?_
     refine y_st t0_f1.fb ?_
     intro w18 e16 z14 b12
     replace b12 : Blk w18 w1.heap.size #[(.int .i64 80), (.int .i64 0), (.string (⟨#[]⟩))] 75 := blk_full b12 rfl
     refine go ?_
     change leaves _ _ _ _ _ _ _
     refine leaves_nil (n := 94) (rs := [.tmp 2, .cell 3 75]) (vs := [(.pointer none), (.agg #[(.int .i64 80), (.int .i64 0), (.string (⟨#[]⟩))])]) rfl ⟨⟨by decide, rfl⟩, ⟨by decide, w1.heap.size, 0, 3, [(.int .i64 80), (.int .i64 0), (.string (⟨#[]⟩))], rfl, tA_75.h, tS_75.h, rfl, ⟨b12.cell rfl, b12.cell rfl, b12.cell rfl, trivial⟩, rfl⟩, trivial⟩ ?_
     have x8 : Ext w w18 := (Ext.chg1 (Ext.trans x4 x6) e16 (by omega))
     exact ⟨x8, .inr (.inl ⟨hck, by rw [← hg2, ← hbd]; exact buildF_full (by rw [List.length_map]; exact hql) (by omega) (by omega), rfl⟩)⟩
    ·
     refine go ?_
     refine xc_regionE [] (fun W_ => Chg (fun _ => False) w17 W_) hmix ?_
     intro w19 e17 z15
     have hS2 : Chg (fun _ => False) w17 w19 := Ext.to e17
     refine yDt (i := 0) rfl hS2 (fun W_ hW_ => ox_load tA_28.h rfl ((t0_f1.bp.ext hW_).cell rfl) ⟨rfl, rfl⟩) ?_
     refine yDt (i := 1) rfl hS2 (fun W_ hW_ => ox_load tA_28.h rfl ((t0_f1.bp.ext hW_).cell rfl) ⟨rfl, rfl⟩) ?_
     refine yDp 2 ?_
     refine yDp 3 ?_
     refine yDt (i := 4) rfl hS2 (fun W_ hW_ => ox_load tA_95.h rfl ((t0_f1.ba.ext hW_).cell rfl) ⟨rfl, rfl⟩) ?_
     refine yDp 5 ?_
     obtain ⟨x_1, g_1, hx_1⟩ := own_may (A := tA) q StD.len (by decide) t0_f1.st
     obtain ⟨hx_2, hA_1, hc_1⟩ := hx_1 oM
     refine yDx (i := 6) q hA_1 ?_
     refine yDp 7 ?_
     refine yDt (i := 8) rfl hS2 (fun W_ hW_ => ox_load tA_39.h rfl (CellsL.at1 (CellsL.keep hW_ not_false hc_1) 0 rfl) ⟨rfl, rfl⟩) ?_
     refine yDp 11 ?_
     have hxl := (hV.ok.len q _ (map_get hx_2)).2
     have hxk : ∀ y ∈ x_1.items, okI s2.g y := fun y hy => (hV.ok.ok x_1.d (List.mem_of_getElem? (map_get hx_2)) y hy).1
     have x9 : Ext w8 w19 := (Ext.trans x6 e17)
     refine yD1 (i := 9) rfl (yCx (ret_mono (symbols_calls s2 w8.heap.size tA ts.length tc x_1.items x_1.iA x_1.ic w19 (t0_f1.ba.ext e17) (hSpr.ext x9) (StF.at (StF.ext t0_f1.F e17) hx_2).items.rowO (Nat.le_trans hxl (by decide)) hxk) ?_))
     rintro _ w20 ⟨A1, c2, rfl, hn1, e18⟩
     have he18 := e18.size
     have hzl : (symsG s2.g x_1.items).length ≤ 67240962 := Nat.le_trans symsG_len hxl
     have hS3 : Chg (fun _ => False) w17 w20 := Chg.ext hS2 e18
     refine ⟨.inr fun _ => hS3, ?_⟩
     refine yDp 10 ?_
     refine xd_done (by kernel_rfl) ?_ _
     have x11 : Ext w8 w20 := (Ext.trans x9 e18)
     refine go ?_
     refine xc_loopN (fun m_ f_ Wx => ∃ (k : Nat) (us : List StD) (uA : Option Addr) (uc : Nat), m_ = (symsG s2.g x_1.items).length - k ∧ (k ≤ (symsG s2.g x_1.items).length) ∧ (OkW s2.g q k (us.map StD.d)) ∧ (us.map StD.d = ((symsG s2.g x_1.items).take k).foldl (arcS s2.g q) (ts.map StD.d)) ∧ (us.length ≤ ts.length + k) ∧ f_ 3 = (.pointer (some ⟨w1.heap.size, 0, none⟩)) ∧ f_ 5 = (.pointer (some ⟨w9.heap.size, 0, none⟩)) ∧ f_ 7 = (.func (.func 63) #[] #[(.pointer (some ⟨w12.heap.size, 0, none⟩)), (.pointer (some ⟨w9.heap.size, 0, none⟩))]) ∧ f_ 8 = (.int .i64 ((q : Nat))) ∧ f_ 29 = (.int .i64 ((q : Nat))) ∧ f_ 30 = (.pointer (some ⟨w8.heap.size, 0, none⟩)) ∧ f_ 31 = (.pointer (some ⟨w8.heap.size, 0, none⟩)) ∧ f_ 32 = (.pointer (some ⟨w8.heap.size, 4, none⟩)) ∧ f_ 33 = (.slice tA ts.length tc) ∧ f_ 34 = (.int .i64 (((ts.length : Nat) : Int))) ∧ f_ 35 = (.bool (decide (((q : Nat) : Int) < (((ts.length : Nat) : Int))))) ∧ f_ 38 = (.int .i64 ((q : Nat))) ∧ f_ 39 = (.bool (decide ((1024 : Int) ≤ ((q : Nat))))) ∧ f_ 41 = (.pointer (some ⟨w8.heap.size, 0, none⟩)) ∧ f_ 42 = (.pointer (some ⟨w8.heap.size, 0, none⟩)) ∧ f_ 43 = (.pointer (some ⟨w8.heap.size, 0, none⟩)) ∧ f_ 44 = (.pointer (some ⟨w8.heap.size, 4, none⟩)) ∧ f_ 45 = (.slice tA ts.length tc) ∧ f_ 46 = (.int .i64 ((q : Nat))) ∧ f_ 47 = (.pointer (some ⟨g_1, 0 + q * 6, none⟩)) ∧ f_ 48 = (.pointer (some ⟨g_1, 0 + q * 6, none⟩)) ∧ f_ 49 = (.slice x_1.iA x_1.items.length x_1.ic) ∧ f_ 50 = (.slice A1 ((symsG s2.g x_1.items).length) c2) ∧ f_ 51 = (.int .i64 ((((symsG s2.g x_1.items).length : Nat) : Int))) ∧ f_ 52 = (.int .i64 ((k : Nat))) ∧ (AutW s2 w8.heap.size w12.heap.size w9.heap.size w11.heap.size w1.heap.size w8.heap.size uA uc us Wx) ∧ (Vx.Own Wx 32 2 (.slice A1 ((symsG s2.g x_1.items).length) c2) (symsG s2.g x_1.items).length ((symsG s2.g x_1.items).flatMap Sym.cs)) ∧ Ext w8 Wx) ((symsG s2.g x_1.items).length) ?_ ?_
     ·
      exact ⟨0, ts, tA, tc, (by omega), (by omega), (hV.enter (by rw [List.length_map]; exact hql)), rfl, (by omega), rfl, rfl, rfl, rfl, rfl, rfl, rfl, rfl, rfl, rfl, rfl, rfl, rfl, rfl, rfl, rfl, rfl, rfl, rfl, rfl, rfl, rfl, rfl, rfl, vW, ⟨((t0_f1.bm.ext e17).ext e18), ((t0_f1.bp.ext e17).ext e18), ((t0_f1.ba.ext e17).ext e18), ((t0_f1.fb.ext e17).ext e18), ((t0_f1.mp.ext e17).ext e18), ((t0_f1.st.ext e17).ext e18), t0_f1.low, (StF.ext (StF.ext t0_f1.F e17) e18)⟩, hn1.1, x11⟩
     ·
      rintro m_ f2 w21 ⟨k, us, uA, uc, hm_f2, hk, hW, hfo, hul, g3_f2, g5_f2, g7_f2, g8_f2, g29_f2, g30_f2, g31_f2, g32_f2, g33_f2, g34_f2, g35_f2, g38_f2, g39_f2, g41_f2, g42_f2, g43_f2, g44_f2, g45_f2, g46_f2, g47_f2, g48_f2, g49_f2, g50_f2, g51_f2, g52_f2, t0_f2, t1_f2, x10⟩
      have hx10 := x10.size
      have := t0_f2.bm.lt
      have := t0_f2.bp.lt
      have := t0_f2.ba.lt
      have := t0_f2.fb.lt
      have := t0_f2.mp.lt
      have hWlt := hW.lt
      rw [List.length_map] at hWlt
      rw [← usf g3_f2, ← usf g5_f2, ← usf g7_f2, ← usf g8_f2, ← usf g29_f2, ← usf g30_f2, ← usf g31_f2, ← usf g32_f2, ← usf g33_f2, ← usf g34_f2, ← usf g35_f2, ← usf g38_f2, ← usf g39_f2, ← usf g41_f2, ← usf g42_f2, ← usf g43_f2, ← usf g44_f2, ← usf g45_f2, ← usf g46_f2, ← usf g47_f2, ← usf g48_f2, ← usf g49_f2, ← usf g50_f2, ← usf g51_f2, ← usf g52_f2]
      refine go ?_
      refine y_if (fun h4 => ?_) (fun h4 => ?_)
      ·
       obtain ⟨x_2, g_2, hx_3⟩ := own_may (A := A1) k Sym.len (by decide) t1_f2
       obtain ⟨hx_4, hA_2, hc_2⟩ := hx_3 oM
       refine go ?_
       refine y_ix k hA_2 ?_
       refine y_lN (vs := [(.int .i64 x_2.kind), (.int .i64 x_2.n)]) hc_2 ?_
       refine y_al ?_
       intro w22 e19 z16 b13
       refine y_st b13 ?_
       intro w23 e20 z17 b14
       replace b14 : Blk w23 w21.heap.size #[(.int .i64 x_2.kind), (.int .i64 x_2.n)] 32 := blk_full b14 rfl
       refine go ?_
       refine xc_regionE [14] (fun W_ => Chg (fun _ => False) w23 W_) hmix ?_
       intro w24 e21 z18
       have hS4 : Chg (fun _ => False) w23 w24 := Ext.to e21
       refine yDp 0 ?_
       have q11 := ((t0_f2.bp.ext e19).keep1 e20 ((t0_f2.bp.ext e19).ne b13 (by decide)))
       refine xd_takeU 1 (some 57) [11, 15, 14] rfl rfl (by kernel_rfl) (v := (.pointer (some ⟨w8.heap.size, 0, none⟩))) (.inl ⟨rfl, fun W_ hW_ => ox_load (v := (.pointer (some ⟨w8.heap.size, 0, none⟩))) tA_28.h rfl ((q11.ext hW_).cell rfl) ⟨rfl, rfl⟩⟩) hS4 ?_
       have q12 := ((t0_f2.bp.ext e19).keep1 e20 ((t0_f2.bp.ext e19).ne b13 (by decide)))
       refine xd_takeU 2 (some 58) [3, 15, 4, 5, 7, 8, 9, 11, 14] rfl rfl (by kernel_rfl) (v := (.pointer (some ⟨w8.heap.size, 0, none⟩))) (.inl ⟨rfl, fun W_ hW_ => ox_load (v := (.pointer (some ⟨w8.heap.size, 0, none⟩))) tA_28.h rfl ((q12.ext hW_).cell rfl) ⟨rfl, rfl⟩⟩) hS4 ?_
       refine yDp 3 ?_
       refine yDp 4 ?_
       have q13 := ((t0_f2.ba.ext e19).keep1 e20 ((t0_f2.ba.ext e19).ne b13 (by decide)))
       refine xd_takeU 5 (some 61) [7, 15, 8, 9, 11, 14] rfl rfl (by kernel_rfl) (v := (.slice uA us.length uc)) (.inl ⟨rfl, fun W_ hW_ => ox_load (v := (.slice uA us.length uc)) tA_95.h rfl ((q13.ext hW_).cell rfl) ⟨rfl, rfl⟩⟩) hS4 ?_
       refine yDp 6 ?_
       have q14 := ((t0_f2.st.ext e19).keep1 e20 (fun k hk => (t0_f2.st.ext e19).ne_blk b13 (by decide) k hk))
       obtain ⟨x_3, g_3, hx_5⟩ := own_may (A := uA) q StD.len (by decide) q14
       obtain ⟨hx_6, hA_3, hc_3⟩ := hx_5 oM
       refine yDx (i := 7) q hA_3 ?_
       refine yDp 8 ?_
       refine xd_takeU 9 (some 65) [11, 15, 14] rfl rfl (by kernel_rfl) (v := (.slice x_3.iA x_3.items.length x_3.ic)) (.inl ⟨rfl, fun W_ hW_ => ox_load (v := (.slice x_3.iA x_3.items.length x_3.ic)) tA_39.h rfl (CellsL.at1 (CellsL.keep hW_ not_false hc_3) 0 rfl) ⟨rfl, rfl⟩⟩) hS4 ?_
       refine xd_takeU 10 (some 66) [11, 15, 14] rfl rfl (by kernel_rfl) (v := (.agg #[(.int .i64 x_2.kind), (.int .i64 x_2.n)])) (.inl ⟨rfl, fun W_ hW_ => ox_loadN (vs := [(.int .i64 x_2.kind), (.int .i64 x_2.n)]) tA_32.h tS_32.h rfl rfl ⟨(b14.ext hW_).cell rfl, (b14.ext hW_).cell rfl, trivial⟩ ⟨rfl, rfl⟩⟩) hS4 ?_
       refine xd_takeU 12 (some 68) [14, 15] rfl rfl (by kernel_rfl) (v := (.agg #[(.int .i64 x_2.kind), (.int .i64 x_2.n)])) (.inl ⟨rfl, fun W_ hW_ => ox_loadN (vs := [(.int .i64 x_2.kind), (.int .i64 x_2.n)]) tA_32.h tS_32.h rfl rfl ⟨(b14.ext hW_).cell rfl, (b14.ext hW_).cell rfl, trivial⟩ ⟨rfl, rfl⟩⟩) hS4 ?_
       refine yDp 13 ?_
       have hxl9 := (hW.ok.len q _ (map_get hx_6)).2
       have hxj : ∀ y ∈ x_3.items, okJ s2.g y := fun y hy => hW.ok.ok x_3.d (List.mem_of_getElem? (map_get hx_6)) y hy
       have q15 := ((t0_f2.ba.ext e19).keep1 e20 ((t0_f2.ba.ext e19).ne b13 (by decide)))
       have x12 : Ext w8 w24 := (Ext.trans (Ext.chg1 (Ext.trans x10 e19) e20 (by omega)) e21)
       have x13 : Ext w21 w24 := (Ext.trans (Ext.chg1 e19 e20 (by omega)) e21)
       refine yD1 (i := 11) rfl (yCx (ret_mono (over_calls s2 w8.heap.size uA us.length uc x_3.items x_3.iA x_3.ic (⟨x_2.kind, x_2.n⟩ : Sym) w24 (q15.ext e21) (hSpr.ext x12) (StF.at (StF.ext t0_f2.F x13) hx_6).items.rowO (Nat.le_trans hxl9 (by decide)) (fun y hy => (hxj y hy).1)) ?_))
       rintro _ w25 ⟨A2, c3, rfl, hn2, e22⟩
       have he22 := e22.size
       have hok9 : ∀ y ∈ (overG s2.g (⟨x_2.kind, x_2.n⟩ : Sym) x_3.items), okJ s2.g y := overG_okJ hxj
       have hol9 : (overG s2.g (⟨x_2.kind, x_2.n⟩ : Sym) x_3.items).length ≤ x_3.items.length := overG_len
       have hxl8 : x_3.items.length ≤ 67240962 := hxl9
       have hS5 : Chg (fun _ => False) w23 w25 := Chg.ext hS4 e22
       refine ⟨.inr fun _ => hS5, ?_⟩
       have q16 := ((t0_f2.mp.ext e19).keep1 e20 (fun _h => (t0_f2.mp.ext e19).ne_blk b13 _h))
       have x14 : Ext w8 w25 := (Ext.trans x12 e22)
       have q17 := ((t0_f2.bm.ext e19).keep1 e20 ((t0_f2.bm.ext e19).ne b13 (by decide)))
       have q18 := ((t0_f2.bp.ext e19).keep1 e20 ((t0_f2.bp.ext e19).ne b13 (by decide)))
       refine yD1 (i := 14) rfl (ox_callV (cap := [(.pointer (some ⟨w12.heap.size, 0, none⟩)), (.pointer (some ⟨w9.heap.size, 0, none⟩))]) (al := [(.slice A2 ((overG s2.g (⟨x_2.kind, x_2.n⟩ : Sym) x_3.items).length) c3), (.agg #[(.int .i64 x_2.kind), (.int .i64 x_2.n)]), (.int .i64 ((q : Nat)))]) pf_63.h rfl rfl (ret_mono (add_calls2 s2 w8.heap.size w12.heap.size w9.heap.size w11.heap.size uA uc us (overG s2.g (⟨x_2.kind, x_2.n⟩ : Sym) x_3.items) A2 c3 (⟨x_2.kind, x_2.n⟩ : Sym) ((q : Nat)) w8 w25 x14 hSpr hG2 hT2 ((q17.ext e21).ext e22) ((q18.ext e21).ext e22) ((q15.ext e21).ext e22) ((q16.ext e21).ext e22) ((q14.ext e21).ext e22) t0_f2.low (StF.ext (StF.ext t0_f2.F x13) e22) hn2.1 (by omega) (by omega) (fun x hx => okJ_small (hok9 x hx) hPg hRg) (fun x hx => (hok9 x hx).1) hN2 hP2 ⟨by omega, by omega⟩) ?_))
       rintro _ w26 ⟨i2, sts2, sA2, sc2, rfl, hR2, hbm2, hbp2, hba2, hm2, ho2, hlo2, hF2, c4⟩
       have hc4 := c4.size
       have hls := add_lens hR2
       obtain ⟨x_4, g_4, hx_7⟩ := own_may (A := sA2) q StD.len (by decide) ho2
       obtain ⟨hx_8, hA_4, hc_4⟩ := hx_7 oM
       have hyd : x_4.d = x_3.d := addA_at hx_6 hR2 hx_8
       have hya : x_4.arcs.length = k := by rw [show x_4.arcs = x_3.arcs from congrArg ASt.arcs hyd]; exact hW.now _ (map_get hx_6)
       refine ⟨.inl (by decide), ?_⟩
       refine yDp 15 ?_
       refine xd_done (by kernel_rfl) ?_ _
       refine go ?_
       refine xc_regionE [20] (fun W_ => Chg (fun x => ((.slice x_4.aA x_4.arcs.length x_4.ac) : Value).ownBlock = some x) w26 W_) hmix ?_
       intro w27 e23 z19
       have hS6 : Chg (fun x => ((.slice x_4.aA x_4.arcs.length x_4.ac) : Value).ownBlock = some x) w26 w27 := Ext.to e23
       refine yDt (i := 0) rfl hS6 (fun W_ hW_ => ox_load tA_28.h rfl ((hbp2.keep hW_ (fun _h => ((StF.at hF2 hx_8).arcs).ne_blk hbp2 (by decide) _ _h rfl)).cell rfl) ⟨rfl, rfl⟩) ?_
       refine yDp 1 ?_
       refine yDp 2 ?_
       refine yDt (i := 3) rfl hS6 (fun W_ hW_ => ox_load tA_95.h rfl ((hba2.keep hW_ (fun _h => ((StF.at hF2 hx_8).arcs).ne_blk hba2 (by decide) _ _h rfl)).cell rfl) ⟨rfl, rfl⟩) ?_
       refine yDp 4 ?_
       refine yDt (i := 5) rfl hS6 (fun W_ hW_ => ox_load tA_28.h rfl ((hbp2.keep hW_ (fun _h => ((StF.at hF2 hx_8).arcs).ne_blk hbp2 (by decide) _ _h rfl)).cell rfl) ⟨rfl, rfl⟩) ?_
       refine yDp 6 ?_
       refine yDp 7 ?_
       refine yDt (i := 8) rfl hS6 (fun W_ hW_ => ox_load tA_95.h rfl ((hba2.keep hW_ (fun _h => ((StF.at hF2 hx_8).arcs).ne_blk hba2 (by decide) _ _h rfl)).cell rfl) ⟨rfl, rfl⟩) ?_
       refine yDp 9 ?_
       refine yDx (i := 10) q hA_4 ?_
       refine yDp 11 ?_
       refine yDt (i := 12) rfl hS6 (fun W_ hW_ => ox_load tA_92.h rfl (CellsL.at1 (CellsL.keep hW_ (fun _h => (ho2).ne_own (StF.at hF2 hx_8).arcs (by decide) _ (by rw [hA_4] <;> rfl) _h) hc_4) 2 rfl) ⟨rfl, rfl⟩) ?_
       have q19 := (((b14.ext e21).ext e22).keep c4 (fun hb => by rcases hb with hb | hb | hb <;> first | omega | exact ((q14.ext e21).ext e22).ne_blk ((b14.ext e21).ext e22) (by decide) _ hb rfl))
       refine yDt (i := 13) rfl hS6 (fun W_ hW_ => ox_loadN (vs := [(.int .i64 x_2.kind), (.int .i64 x_2.n)]) tA_32.h tS_32.h rfl rfl ⟨(q19.keep hW_ (fun _h => ((StF.at hF2 hx_8).arcs).ne_blk q19 (by decide) _ _h rfl)).cell rfl, (q19.keep hW_ (fun _h => ((StF.at hF2 hx_8).arcs).ne_blk q19 (by decide) _ _h rfl)).cell rfl, trivial⟩ ⟨rfl, rfl⟩) ?_
       refine yDp 14 ?_
       refine yDq (i := 15) rfl (fun W_ hW_ => ox_mkStruct (ps := [(0, (.agg #[(.int .i64 x_2.kind), (.int .i64 x_2.n)])), (1, (.int .i64 i2))]) (cs := #[(.int .i64 x_2.kind), (.int .i64 x_2.n), (.int .i64 i2)]) tZ_101.h tP_101.h rfl (by kernel_rfl) ⟨rfl, rfl⟩) ?_
       refine yD1 (i := 16) rfl (ox_mkSlice (ps := [(0, (.agg #[(.int .i64 x_2.kind), (.int .i64 x_2.n), (.int .i64 i2)]))]) (zs := #[(.int .i64 0), (.int .i64 0), (.int .i64 0)]) (cs := #[(.int .i64 x_2.kind), (.int .i64 x_2.n), (.int .i64 i2)]) tE_92.h rfl (by decide) (by kernel_rfl) (by kernel_rfl) ?_)
       intro w28 e24 z20 b15
       replace b15 : Blk w28 w27.heap.size #[(.int .i64 x_2.kind), (.int .i64 x_2.n), (.int .i64 i2)] 101 := b15
       have hS7 : Chg (fun x => ((.slice x_4.aA x_4.arcs.length x_4.ac) : Value).ownBlock = some x) w26 w28 := Chg.ext hS6 e24
       refine ⟨.inr fun _ => hS7, ?_⟩
       have q20 := (((StF.at hF2 hx_8).arcs.ext e23).ext e24)
       have x15 : Ext w26 w28 := (Ext.trans e23 e24)
       refine yD1 (i := 17) rfl (ox_appD (l := x_4.arcs) (r := [(⟨⟨x_2.kind, x_2.n⟩, i2⟩ : Arc)]) (cs := Arc.cs) rfl tE_92.h rfl (by decide) Arc.len Arc.one (v := (.slice x_4.aA x_4.arcs.length x_4.ac)) rfl rfl (m := 1) rfl q20 b15.all aM (by decide) ?_)
       intro A3 c5 w29 o1 e25 at1 hc1
       have he25 := e25.size
       have low1 : ∀ _k, (Value.slice A3 (x_4.arcs ++ [(⟨⟨x_2.kind, x_2.n⟩, i2⟩ : Arc)]).length c5).ownBlock = some _k → w8.heap.size ≤ _k := fun _k _h => by rcases at1 with _e | _e <;> rw [_e] at _h; exact (StF.at hF2 hx_8).lowA _k _h; exact (by cases _h; omega)
       have hS8 : Chg (fun x => ((.slice x_4.aA x_4.arcs.length x_4.ac) : Value).ownBlock = some x) w26 w29 := Chg.trans hS7 e25 (fun x hx hl => hx)
       refine ⟨.inr fun _ => hS8, ?_⟩
       refine yDx (i := 18) q hA_4 ?_
       refine yDp 19 ?_
       have q21 := (((ho2.ext e23).ext e24).keep e25 (fun _k _hk => ((ho2.ext e23).ext e24).ne_own q20 (by decide) _k _hk))
       refine yD1 (i := 20) rfl (ox_stE (i := q) (off := 2) (vs := [(.slice A3 ((x_4.arcs ++ [(⟨⟨x_2.kind, x_2.n⟩, i2⟩ : Arc)]).length) c5)]) (b := ((StD.mk x_4.iA x_4.ic x_4.items x_4.kern A3 c5 (x_4.arcs ++ [(⟨⟨x_2.kind, x_2.n⟩, i2⟩ : Arc)]) (⟨x_4.sym.kind, x_4.sym.n⟩ : Sym) x_4.frm) : StD)) StD.len tS_92.h hA_4 rfl (v := (.slice A3 ((x_4.arcs ++ [(⟨⟨x_2.kind, x_2.n⟩, i2⟩ : Arc)]).length) c5)) rfl rfl rfl rfl q21 hx_8 rfl (by decide) (by omega) ?_)
       intro w30 e26 z21 o2
       refine ⟨.inl (by decide), ?_⟩
       refine xd_done (by kernel_rfl) ?_ _
       refine go ?_
       refine y_add ?_
       have haw := (arcS_walk (A := A3) (c := c5) hx_6 hR2 hx_8).1
       have hW2 := hW.arc hG2 hNg hPg (z := (⟨x_2.kind, x_2.n⟩ : Sym)) (by omega)
       have q22 := (((hbm2.ext e23).ext e24).keep e25 (fun _h => q20.ne_blk ((hbm2.ext e23).ext e24) (by decide) _ _h rfl))
       have q23 := (q22.keep e26 (fun _h => q21.ne_blk q22 (by decide) _ _h rfl))
       have q24 := (((hbp2.ext e23).ext e24).keep e25 (fun _h => q20.ne_blk ((hbp2.ext e23).ext e24) (by decide) _ _h rfl))
       have q25 := (q24.keep e26 (fun _h => q21.ne_blk q24 (by decide) _ _h rfl))
       have q26 := (((hba2.ext e23).ext e24).keep e25 (fun _h => q20.ne_blk ((hba2.ext e23).ext e24) (by decide) _ _h rfl))
       have q27 := (q26.keep e26 (fun _h => q21.ne_blk q26 (by decide) _ _h rfl))
       have q28 := ((t0_f2.fb.ext e19).keep1 e20 ((t0_f2.fb.ext e19).ne b13 (by decide)))
       have q29 := (((q28.ext e21).ext e22).keep c4 (fun hb => by rcases hb with hb | hb | hb <;> first | omega | exact ((q14.ext e21).ext e22).ne_blk ((q28.ext e21).ext e22) (by decide) _ hb rfl))
       have q30 := (((q29.ext e23).ext e24).keep e25 (fun _h => q20.ne_blk ((q29.ext e23).ext e24) (by decide) _ _h rfl))
       have q31 := (q30.keep e26 (fun _h => q21.ne_blk q30 (by decide) _ _h rfl))
       have q32 := (((hm2.ext e23).ext e24).keep e25 (fun _h => by rcases q20.form with ⟨_e, _⟩ | ⟨_g, _c, _cur, _e, _hb, _⟩ <;> rw [_e] at _h <;> simp [Value.ownBlock] at _h; exact ((hm2.ext e23).ext e24).ne_blk _hb _h.symm))
       have q33 := (q32.keep e26 (fun _h => by rcases q21.form with ⟨_e, _⟩ | ⟨_g, _c, _cur, _e, _hb, _⟩ <;> rw [_e] at _h <;> simp [Value.ownBlock] at _h; exact q32.ne_blk _hb _h.symm))
       have q34 := (StF.keepO (StF.arcs (StF.ext hF2 x15) hx_8 e25 o1 low1 at1) e26 q21 (by decide) (by decide))
       have q35 := ((t1_f2.ext e19).keep1 e20 (fun k hk => by have _q := (t1_f2.lt) k hk; omega))
       have q36 := (((q35.ext e21).ext e22).keep c4 (fun k hk hb => by rcases hb with hb | hb | hb <;> first | exact ((q35.ext e21).ext e22).ne_blk ((q15.ext e21).ext e22) (by decide) k hk hb | exact ((q35.ext e21).ext e22).ne_map ((q16.ext e21).ext e22) k hk hb | exact ((q35.ext e21).ext e22).ne_own ((q14.ext e21).ext e22) (by decide) k hk hb))
       have q37 := (((q36.ext e23).ext e24).keep e25 (fun _k _hk => ((q36.ext e23).ext e24).ne_own q20 (by decide) _k _hk))
       have q38 := (q37.keep e26 (fun _k _hk => q37.ne_own q21 (by decide) _k _hk))
       have x16 : Ext w8 w30 := (Chg.trans (Chg.trans (Ext.trans (Ext.trans (Chg.trans x14 c4 (fun b hb hl => absurd hl (by have _h := (show w8.heap.size ≤ b from by rcases hb with hb | hb | hb <;> first | omega | exact t0_f2.low b hb); omega))) e23) e24) e25 (fun b hb hl => (absurd hl (by have _h := (StF.at hF2 hx_8).lowA b hb; omega)))) e26 (fun b hb hl => (absurd hl (by have _h := hlo2 b hb; omega))))
       refine go ?_
       exact ⟨rfl, (symsG s2.g x_1.items).length - (k + 1), by omega, k + 1, (sts2.set q ((StD.mk x_4.iA x_4.ic x_4.items x_4.kern A3 c5 (x_4.arcs ++ [(⟨⟨x_2.kind, x_2.n⟩, i2⟩ : Arc)]) (⟨x_4.sym.kind, x_4.sym.n⟩ : Sym) x_4.frm))), sA2, sc2, by omega, (by omega), (by show OkW s2.g q (k + 1) ((List.set _ _ _).map StD.d); exact haw ▸ hW2.1), (haw.trans (by rw [hfo]; exact (fold_take hx_4).symm)), (by have h9 := hW2.2; rw [List.length_map] at h9; show (List.set _ _ _).length ≤ _; rw [List.length_set]; omega), rfl, rfl, rfl, rfl, rfl, rfl, rfl, rfl, rfl, rfl, rfl, rfl, rfl, rfl, rfl, rfl, rfl, rfl, rfl, rfl, rfl, rfl, rfl, rfl, vW, (AutW.set hx_8 rfl rfl q23 q25 q27 q31 q33 o2 hlo2 q34), q38, x16⟩
      ·
       refine go ?_
       refine y_add ?_
       have hrow : rowS s2.g q (ts.map StD.d) = us.map StD.d := by unfold rowS; rw [bangA (map_get hx_2), hfo, List.take_of_length_le (by omega)] <;> rfl
       refine go ?_
       exact ⟨rfl, 1024 - (q + 1), by omega, q + 1, us, uA, uc, by omega, (by omega), hW.leave, (by rw [← hrow, ← buildF_row (by rw [List.length_map]; exact hql) (by omega)]; exact hbd), (by omega), rfl, rfl, rfl, vW, ⟨t0_f2.bm, t0_f2.bp, t0_f2.ba, t0_f2.fb, t0_f2.mp, t0_f2.st, t0_f2.low, t0_f2.F⟩, x10⟩
   ·
    refine go ?_
    refine y_ld t0_f1.bp ?_
    refine yOp (ox_mkStruct (ps := []) (cs := #[(.int .i64 0), (.int .i64 0), (.string (⟨#[]⟩))]) tZ_75.h tP_75.h rfl (by kernel_rfl) ?_)
    refine go ?_
    refine y_st t0_f1.fb ?_
    intro w31 e27 z22 b16
    replace b16 : Blk w31 w1.heap.size #[(.int .i64 0), (.int .i64 0), (.string (⟨#[]⟩))] 75 := blk_full b16 rfl
    refine go ?_
    change leaves _ _ _ _ _ _ _
    refine leaves_nil (n := 94) (rs := [.tmp 2, .cell 3 75]) (vs := [(.pointer (some ⟨w8.heap.size, 0, none⟩)), (.agg #[(.int .i64 0), (.int .i64 0), (.string (⟨#[]⟩))])]) rfl ⟨⟨by decide, rfl⟩, ⟨by decide, w1.heap.size, 0, 3, [(.int .i64 0), (.int .i64 0), (.string (⟨#[]⟩))], rfl, tA_75.h, tS_75.h, rfl, ⟨b16.cell rfl, b16.cell rfl, b16.cell rfl, trivial⟩, rfl⟩, trivial⟩ ?_
    have hOw9 := OwnS.mono (B' := w.heap.size) (by omega) ((hOw.ext x6).keepC e27 (fun b hb _ hk => by have hk : b = _ := hk; omega))
    have x17 : Ext w w31 := (Ext.chg1 (Ext.trans x4 x6) e27 (by omega))
    have q39 := (t0_f1.ba.keep1 e27 (t0_f1.ba.ne t0_f1.fb (by decide)))
    have q40 := (t0_f1.st.keep1 e27 (fun k hk => t0_f1.st.ne_blk t0_f1.fb (by decide) k hk))
    exact ⟨x17, .inr (.inr ⟨hck, s2, _, tA, tc, ts, by rw [← hg2, ← hbd]; exact buildF_end (by rw [List.length_map]; omega) (by omega), hOw9, ⟨by omega, q39, q40, (fun k hk => Nat.le_trans hB0 (t0_f1.low k hk)), StF.mono hB0 (StF.keepB t0_f1.F e27 t0_f1.fb (by decide) (by decide))⟩, rfl⟩)⟩
def ASt.kernel (x : ASt) : List Itm := x.items.take x.kern.toNat
theorem key_eq {x : ASt} {l : List Itm} (hx : ∀ y ∈ x.items, smallI y) (hl : ∀ y ∈ l, smallI y) : x.key = ⟨(wkey l).toArray⟩ ↔ x.kernel = l := by
  unfold ASt.key ASt.kernel
  constructor
  · intro h
    have h1 : (wkey (x.items.take x.kern.toNat)).toArray = (wkey l).toArray := congrArg ByteArray.data h
    exact wkey_inj (fun y hy => hx y (List.mem_of_mem_take hy)) hl (by simpa using congrArg Array.toList h1)
  · intro h; rw [h]
theorem look_key : ∀ {st : List ASt} {l : List Itm} (i : Nat), (∀ x ∈ st, ∀ y ∈ x.items, smallI y) → (∀ y ∈ l, smallI y) →
    (∃ j x, st[j]? = some x ∧ x.kernel = l ∧ (∀ k y, k < j → st[k]? = some y → y.kernel ≠ l) ∧ lookM (keysA st i) ⟨(wkey l).toArray⟩ = some (.int .i64 ((i + j : Nat) : Int))) ∨ ((∀ x ∈ st, x.kernel ≠ l) ∧ lookM (keysA st i) ⟨(wkey l).toArray⟩ = none)
  | [], l, i, _, _ => .inr ⟨(fun x hx => by cases hx), rfl⟩
  | x :: st, l, i, hs, hl => by
    by_cases hk : x.kernel = l
    · refine .inl ⟨0, x, rfl, hk, fun k y hk0 => by omega, ?_⟩
      have := (key_eq (hs x (by simp)) hl).2 hk
      simp [keysA, lookM, List.find?_cons, this]
    · have hn : ¬ x.key = ⟨(wkey l).toArray⟩ := fun hh => hk ((key_eq (hs x (by simp)) hl).1 hh)
      have he : lookM (keysA (x :: st) i) ⟨(wkey l).toArray⟩ = lookM (keysA st (i + 1)) ⟨(wkey l).toArray⟩ := by
        simp [keysA, lookM, List.find?_cons, hn]
      rcases look_key (st := st) (l := l) (i + 1) (fun z hz => hs z (by simp [hz])) hl with ⟨j, y, h1, h2, h3, h4⟩ | ⟨h1, h2⟩
      · refine .inl ⟨j + 1, y, by simpa using h1, h2, fun k z hkj hz => ?_, ?_⟩
        · cases k with
          | zero => simp at hz; subst hz; exact hk
          | succ k => exact h3 k z (by omega) (by simpa using hz)
        · rw [he, h4, show i + 1 + j = i + (j + 1) by omega]
      · refine .inr ⟨fun z hz => ?_, by rw [he, h2]⟩
        rcases List.mem_cons.1 hz with rfl | hz
        · exact hk
        · exact h1 z hz
theorem addA_cases {g : GD} {st : List ASt} {l : List Itm} {z : Sym} {fr : Int} (hs : ∀ x ∈ st, ∀ y ∈ x.items, smallI y) (hl : ∀ y ∈ l, smallI y) :
    (∃ j x, st[j]? = some x ∧ x.kernel = l ∧ (∀ k y, k < j → st[k]? = some y → y.kernel ≠ l) ∧ addA g st l z fr = (st, ((j : Nat) : Int))) ∨ ((∀ x ∈ st, x.kernel ≠ l) ∧ addA g st l z fr = (st ++ [⟨closG g l, (l.length : Int), [], z, fr⟩], ((st.length : Nat) : Int))) := by
  rcases look_key 0 hs hl with ⟨j, x, h1, h2, h3, h4⟩ | ⟨h1, h2⟩
  · refine .inl ⟨j, x, h1, h2, h3, ?_⟩
    unfold addA keyA
    rw [h4]
    simp
  · refine .inr ⟨h1, ?_⟩
    unfold addA
    rw [h2, if_neg (by decide)]
def smallG : GD := ⟨[false, false, true, false], 3, 0, [(0, [⟨3, 1⟩, ⟨3, 2⟩, ⟨1, 3⟩]), (0, [⟨2, 0⟩]), (1, [⟨1, 0⟩, ⟨3, 1⟩]), (1, []), (2, [⟨1, 1⟩]), (2, [⟨3, 1⟩])]⟩
theorem small_check : checkE smallG = (0, 0) := by kernel_rfl
def insX {α : Type} (le : α → α → Bool) (x : α) : List α → List α
  | [] => [x]
  | y :: l => if le x y then x :: y :: l else y :: insX le x l
def srtX {α : Type} (le : α → α → Bool) : List α → List α
  | [] => []
  | x :: l => insX le x (srtX le l)
theorem insX_perm {α : Type} (le : α → α → Bool) (x : α) : ∀ l : List α, (insX le x l).Perm (x :: l)
  | [] => .refl _
  | y :: l => by
    unfold insX
    split
    · exact .refl _
    · exact ((insX_perm le x l).cons y).trans (.swap _ _ _)
theorem srtX_perm {α : Type} (le : α → α → Bool) : ∀ l : List α, (srtX le l).Perm l
  | [] => .refl _
  | x :: l => (insX_perm le x _).trans ((srtX_perm le l).cons x)
section
variable {α : Type} {le : α → α → Bool} (ht : ∀ a b c, le a b = true → le b c = true → le a c = true) (htot : ∀ a b, (le a b || le b a) = true)
include ht htot
theorem insX_sorted {x : α} : ∀ {l : List α}, l.Pairwise (le · · = true) → (insX le x l).Pairwise (le · · = true)
  | [], _ => by simp [insX]
  | y :: l, h => by
    have h1 := List.pairwise_cons.1 h
    unfold insX
    split
    · rename_i hxy
      refine List.pairwise_cons.2 ⟨fun z hz => ?_, h⟩
      rcases List.mem_cons.1 hz with rfl | hz
      · exact hxy
      · exact ht _ _ _ hxy (h1.1 z hz)
    · rename_i hxy
      refine List.pairwise_cons.2 ⟨fun z hz => ?_, insX_sorted h1.2⟩
      rcases List.mem_cons.1 ((insX_perm le x l).mem_iff.1 hz) with rfl | hz
      · have := htot z y
        simp only [Bool.or_eq_true] at this
        exact this.resolve_left hxy
      · exact h1.1 z hz
theorem srtX_sorted : ∀ l : List α, (srtX le l).Pairwise (le · · = true)
  | [] => List.Pairwise.nil
  | x :: l => insX_sorted ht htot (srtX_sorted l)
theorem srtX_eq (hanti : ∀ a b, le a b = true → le b a = true → a = b) (l : List α) : l.mergeSort le = srtX le l :=
  ((List.mergeSort_perm l le).trans (srtX_perm le l).symm).eq_of_pairwise (fun a b _ _ => hanti a b) (List.pairwise_mergeSort ht htot l) (srtX_sorted ht htot l)
end
theorem leItm_spec {x y : Itm} : leItm x y = true ↔ (x.p < y.p ∨ (x.p = y.p ∧ x.dot ≤ y.dot)) := by unfold leItm; simp
theorem leSym_spec {x y : Sym} : leSym x y = true ↔ (x.kind < y.kind ∨ (x.kind = y.kind ∧ x.n ≤ y.n)) := by unfold leSym; simp
theorem srtItm_x (l : List Itm) : srtItm l = srtX leItm l := by
  refine srtX_eq (fun a b c h1 h2 => ?_) (fun a b => ?_) (fun a b h1 h2 => ?_) l
  · rw [leItm_spec] at *; omega
  · rw [Bool.or_eq_true, leItm_spec, leItm_spec]; omega
  · rw [leItm_spec] at *
    cases a; cases b; simp only at h1 h2; congr 1 <;> omega
theorem srtSym_x (l : List Sym) : srtSym l = srtX leSym l := by
  refine srtX_eq (fun a b c h1 h2 => ?_) (fun a b => ?_) (fun a b h1 h2 => ?_) l
  · rw [leSym_spec] at *; omega
  · rw [Bool.or_eq_true, leSym_spec, leSym_spec]; omega
  · rw [leSym_spec] at *
    cases a; cases b; simp only at h1 h2; congr 1 <;> omega
def closC (g : GD) (K : List Itm) : List Itm := (closF g K).1.take K.length ++ srtX leItm ((closF g K).1.drop K.length)
def overC (g : GD) (z : Sym) (l : List Itm) : List Itm := srtX leItm (overM g z l)
def symsC (g : GD) (l : List Itm) : List Sym := compL (srtX leSym (l.filterMap (behindG g)))
theorem closC_eq (g : GD) (K : List Itm) : closG g K = closC g K := by unfold closG closC; rw [srtItm_x]
theorem overC_eq (g : GD) (z : Sym) (l : List Itm) : overG g z l = overC g z l := by unfold overG overC; rw [srtItm_x]
theorem symsC_eq (g : GD) (l : List Itm) : symsG g l = symsC g l := by unfold symsG symsC; rw [srtSym_x]
def findK (l : List Itm) : List ASt → Nat → Option Nat
  | [], _ => none
  | x :: r, i => if x.kernel = l then some i else findK l r (i + 1)
def addC (g : GD) (st : List ASt) (l : List Itm) (z : Sym) (fr : Int) : List ASt × Int := match findK l st 0 with
  | some j => (st, (j : Nat))
  | none => (st ++ [⟨closC g l, (l.length : Int), [], z, fr⟩], (st.length : Nat))
theorem findK_some {l : List Itm} : ∀ {st : List ASt} {j : Nat} {x : ASt} (i : Nat), st[j]? = some x → x.kernel = l → (∀ k y, k < j → st[k]? = some y → y.kernel ≠ l) → findK l st i = some (i + j)
  | [], j, x, i, h, _, _ => by simp at h
  | a :: st, j, x, i, h, hk, hn => by
    cases j with
    | zero =>
      simp only [List.getElem?_cons_zero, Option.some.injEq] at h
      subst h
      rw [findK, if_pos hk]; rfl
    | succ j =>
      rw [findK, if_neg (hn 0 a (by omega) rfl), findK_some (i + 1) (by simpa using h) hk fun k y hkj hy => hn (k + 1) y (by omega) (by simpa using hy)]
      congr 1; omega
theorem findK_none {l : List Itm} : ∀ {st : List ASt} (i : Nat), (∀ x ∈ st, x.kernel ≠ l) → findK l st i = none
  | [], _, _ => rfl
  | a :: st, i, h => by rw [findK, if_neg (h a (by simp)), findK_none (i + 1) fun x hx => h x (by simp [hx])]
theorem addC_eq {g : GD} {st : List ASt} {l : List Itm} {z : Sym} {fr : Int} (hs : ∀ x ∈ st, ∀ y ∈ x.items, smallI y) (hl : ∀ y ∈ l, smallI y) : addA g st l z fr = addC g st l z fr := by
  unfold addC
  rcases addA_cases (g := g) (z := z) (fr := fr) hs hl with ⟨j, x, h1, h2, h3, h4⟩ | ⟨h1, h2⟩
  · rw [h4, findK_some 0 h1 h2 h3, Nat.zero_add]
  · rw [h2, findK_none 0 h1, closC_eq]
def arcC (g : GD) (at_ : Nat) (st : List ASt) (z : Sym) : List ASt :=
  let r := addC g st (overC g z (st[at_]!).items) z (at_ : Nat)
  r.1.set at_ { (r.1[at_]!) with arcs := (r.1[at_]!).arcs ++ [⟨z, r.2⟩] }
def rowC (g : GD) (at_ : Nat) (st : List ASt) : List ASt := (symsC g (st[at_]!).items).foldl (arcC g at_) st
def buildC (g : GD) : Nat → Nat → List ASt → Option (List ASt)
  | 0, _, _ => none
  | f + 1, at_, st => if at_ < st.length then (if 1024 ≤ at_ then none else buildC g f (at_ + 1) (rowC g at_ st)) else some st
structure GoodL (g : GD) : Prop where
  good : GoodG g
  names : g.names ≤ 128
  prods : g.prods.length ≤ 512
  rights : ∀ p ∈ g.prods, p.2.length ≤ 16
  triv : g.triv.length ≤ 64
theorem check_triv {g : GD} (h : (checkE g).1 = 0) : g.triv.length ≤ 64 := by
  unfold checkE at h
  split at h
  · simp at h
  · rename_i hl
    have h3 : longG g = false := by simpa using hl
    unfold longG at h3
    simp only [Bool.or_eq_false_iff, decide_eq_false_iff_not] at h3
    omega
theorem GoodL.of {g : GD} (h : (checkE g).1 = 0) : GoodL g := by
  obtain ⟨h1, h2, h3, h4⟩ := check_good h
  exact ⟨h1, h2, h3, h4, check_triv h⟩
theorem arcC_eq {g : GD} (hg : GoodL g) {a : Nat} {st : List ASt} {z : Sym} (h : OkS g st) (ha : a < st.length) : arcS g a st z = arcC g a st z := by
  have hx : st[a]? = some st[a] := List.getElem?_eq_getElem ha
  have hok : ∀ y ∈ overG g z st[a].items, okJ g y := overG_okJ (h.ok _ (List.mem_of_getElem? hx))
  have e := addC_eq (g := g) (st := st) (l := overG g z st[a].items) (z := z) (fr := (a : Nat)) (fun x hx y hy => okJ_small (h.ok x hx y hy) hg.prods hg.rights) (fun y hy => okJ_small (hok y hy) hg.prods hg.rights)
  unfold arcS arcC
  simp only [bangA hx]
  rw [e, overC_eq]
theorem foldC_eq {g : GD} (hg : GoodL g) {a : Nat} (ha : a < 1024) : ∀ (zs : List Sym) {st : List ASt}, OkS g st → a < st.length → zs.foldl (arcS g a) st = zs.foldl (arcC g a) st
  | [], _, _, _ => rfl
  | z :: zs, st, h, hl => by
    have hx : st[a]? = some st[a] := List.getElem?_eq_getElem hl
    obtain ⟨h1, h2, _, _⟩ := arcS_ok hg.good hg.names hg.prods h (z := z) hx ha
    rw [List.foldl_cons, List.foldl_cons, foldC_eq hg ha zs h1 (by omega), arcC_eq hg h hl]
theorem buildC_eq {g : GD} (hg : GoodL g) : ∀ (f a : Nat) {st : List ASt}, OkS g st → buildF g f a st = buildC g f a st
  | 0, _, _, _ => rfl
  | f + 1, a, st, h => by
    rw [buildF, buildC]
    split
    · rename_i hl
      split
      · rfl
      · rename_i ha
        have hx : st[a]? = some st[a] := List.getElem?_eq_getElem hl
        have h1 := fold_ok hg.good hg.names hg.prods (a := a) (by omega) (symsG g st[a].items) h hx
        have e : rowS g a st = rowC g a st := by
          unfold rowS rowC
          rw [bangA hx, ← symsC_eq]
          exact foldC_eq hg (by omega) _ h hl
        rw [← e]
        refine buildC_eq hg f (a + 1) ?_
        unfold rowS
        rw [bangA hx]; exact h1.1
    · rfl
theorem buildG_c {g : GD} (hg : GoodL g) : buildG g = buildC g 1025 0 [⟨closC g [⟨-1, 0⟩], 1, [], ⟨0, 0⟩, 0⟩] := by
  unfold buildG
  rw [buildC_eq hg _ _ (OkS.start hg.good hg.names hg.prods)]
  rw [← closC_eq]; rfl
def smallA : List ASt := (buildC smallG 1025 0 [⟨closC smallG [⟨-1, 0⟩], 1, [], ⟨0, 0⟩, 0⟩]).getD []
theorem small_some : (buildC smallG 1025 0 [⟨closC smallG [⟨-1, 0⟩], 1, [], ⟨0, 0⟩, 0⟩]).isSome = true := by kernel_rfl
theorem small_built : buildG smallG = some smallA := by
  rw [buildG_c (GoodL.of (by rw [small_check]))]
  have h := small_some
  unfold smallA
  cases h9 : buildC smallG 1025 0 [⟨closC smallG [⟨-1, 0⟩], 1, [], ⟨0, 0⟩, 0⟩] with
  | none => rw [h9] at h; cases h
  | some x => rfl
def isA (sts : List StD) (i : Int) : Bool := decide (0 ≤ i) && decide (i < (sts.length : Int))
theorem isA_of {sts : List StD} {i : Int} (h : isA sts i = true) : 0 ≤ i ∧ i < (sts.length : Int) := by
  unfold isA at h; simpa using h
def itemsA (sts : List StD) (i : Int) : List Itm := if isA sts i = true then (sts[i.toNat]!).items else []
theorem itemsA_no {sts : List StD} {i : Int} (h : isA sts i = false) : itemsA sts i = [] := by unfold itemsA; rw [if_neg (by rw [h]; decide)]
theorem isA_get {sts : List StD} {i : Int} {x : StD} (h0 : 0 ≤ i) (hx : sts[i.toNat]? = some x) : isA sts i = true := by
  have := (List.getElem?_eq_some_iff.1 hx).1
  unfold isA; simp; omega
theorem itemsA_at {sts : List StD} {i : Int} {x : StD} (h0 : 0 ≤ i) (hx : sts[i.toNat]? = some x) : itemsA sts i = x.items := by
  unfold itemsA; rw [if_pos (isA_get h0 hx), List.getElem!_eq_getElem?_getD, hx]; rfl
def arcTo (z : Sym) : List Arc → Int
  | [] => -1
  | a :: l => if a.sym.kind = z.kind ∧ a.sym.n = z.n then a.to else arcTo z l
theorem arcTo_hit {z : Sym} {l : List Arc} {k : Nat} {a : Arc} (h : l[k]? = some a) (e : a.sym.kind = z.kind ∧ a.sym.n = z.n) : arcTo z (l.drop k) = a.to := by rw [drop_get h, arcTo, if_pos e]
theorem arcTo_no {z : Sym} {l : List Arc} {k : Nat} {a : Arc} (h : l[k]? = some a) (e : ¬ (a.sym.kind = z.kind ∧ a.sym.n = z.n)) : arcTo z (l.drop k) = arcTo z (l.drop (k + 1)) := by rw [drop_get h, arcTo, if_neg e]
def goA (sts : List StD) (i : Int) (z : Sym) : Int := if isA sts i = true then arcTo z (sts[i.toNat]!).arcs else -1
theorem goA_no {sts : List StD} {i : Int} {z : Sym} (h : isA sts i = false) : goA sts i z = -1 := by unfold goA; rw [if_neg (by rw [h]; decide)]
theorem goA_at {sts : List StD} {i : Int} {z : Sym} {x : StD} (h0 : 0 ≤ i) (hx : sts[i.toNat]? = some x) : goA sts i z = arcTo z x.arcs := by
  unfold goA; rw [if_pos (isA_get h0 hx), List.getElem!_eq_getElem?_getD, hx]; rfl
instance pf_45 : PlF Tryz.prog 45 := ⟨by kernel_rfl⟩
instance tA_101 : AggT Tryz.prog 101 := ⟨by kernel_rfl⟩
instance tF_101_0 : FdT Tryz.prog 101 0 0 := ⟨by kernel_rfl⟩
instance tF_101_1 : FdT Tryz.prog 101 1 2 := ⟨by kernel_rfl⟩
instance tS_101 : SzT Tryz.prog 101 3 := ⟨by kernel_rfl⟩
instance tU_92 : UnS Tryz.prog 92 101 := ⟨by kernel_rfl⟩
theorem len_calls (s : SP) (ba : Nat) (sA : Option Addr) (sc : Nat) (sts : List StD) (B : Nat) (w : World) (hb : Blk w ba #[(.slice s.lA s.lex.length s.lc), (.slice s.nA s.names.length s.nc), (.int .i64 s.start), (.slice s.pA s.prods.length s.pc), (.slice sA sts.length sc)] 97) (ho : Vx.Own w 94 6 (.slice sA sts.length sc) sts.length (sts.flatMap StD.cs)) (hF : StF B w sts) (hB : ∀ x ∈ sts, x.items.length ≤ 67240962 ∧ x.arcs.length ≤ 67240962) (hst : sts.length ≤ 100000000000) :
    Calls Tryz.prog 23 #[(.pointer (some ⟨ba, 0, none⟩))] w (Ret (fun v w' => v = .int .i64 (sts.length : Nat) ∧ Ext w w')) := by
 refine calls_y (n := 8) Tryz.func23 ?_
 refine go ?_
 refine y_ld hb ?_
 refine go ?_
 refine y_r1 ?_
 exact ⟨rfl, (Chg.refl _ _)⟩
theorem is_calls (s : SP) (ba : Nat) (sA : Option Addr) (sc : Nat) (sts : List StD) (B : Nat) (i : Int) (w : World) (hb : Blk w ba #[(.slice s.lA s.lex.length s.lc), (.slice s.nA s.names.length s.nc), (.int .i64 s.start), (.slice s.pA s.prods.length s.pc), (.slice sA sts.length sc)] 97) (ho : Vx.Own w 94 6 (.slice sA sts.length sc) sts.length (sts.flatMap StD.cs)) (hF : StF B w sts) (hB : ∀ x ∈ sts, x.items.length ≤ 67240962 ∧ x.arcs.length ≤ 67240962) (hst : sts.length ≤ 100000000000) :
    Calls Tryz.prog 45 #[(.pointer (some ⟨ba, 0, none⟩)), (.int .i64 i)] w (Ret (fun v w' => v = .bool (isA sts i) ∧ Ext w w')) := by
 refine calls_y (n := 16) Tryz.func45 ?_
 refine go ?_
 by_cases h1 : (0 : Int) ≤ i
 ·
  refine ysL (s := 7) (bT (decide_eq_true h1)) ?_
  refine go ?_
  refine y_ld hb ?_
  refine go ?_
  refine y_r1 ?_
  exact ⟨congrArg Value.bool (by unfold isA; rw [Bool.eq_iff_iff]; simp; omega), (Chg.refl _ _)⟩
 ·
  refine ysL (s := 7) (bF (decide_eq_false h1)) ?_
  refine go ?_
  refine y_r1 ?_
  exact ⟨congrArg Value.bool (by unfold isA; rw [Bool.eq_iff_iff]; simp; omega), (Chg.refl _ _)⟩
theorem items_calls (s : SP) (ba : Nat) (sA : Option Addr) (sc : Nat) (sts : List StD) (B : Nat) (i : Int) (w : World) (hb : Blk w ba #[(.slice s.lA s.lex.length s.lc), (.slice s.nA s.names.length s.nc), (.int .i64 s.start), (.slice s.pA s.prods.length s.pc), (.slice sA sts.length sc)] 97) (ho : Vx.Own w 94 6 (.slice sA sts.length sc) sts.length (sts.flatMap StD.cs)) (hF : StF B w sts) (hB : ∀ x ∈ sts, x.items.length ≤ 67240962 ∧ x.arcs.length ≤ 67240962) (hst : sts.length ≤ 100000000000) :
    Calls Tryz.prog 15 #[(.pointer (some ⟨ba, 0, none⟩)), (.int .i64 i)] w (Ret (fun v w' => ∃ A' c', v = .slice A' (itemsA sts i).length c' ∧ NewRow w w' 42 2 Itm.cs (itemsA sts i) A' c' ∧ Ext w w')) := by
 refine calls_y (n := 18) Tryz.func15 ?_
 refine go ?_
 refine yCa (ret_mono (is_calls s ba sA sc sts B i w hb (Vx.Own.keep ho (Chg.refl _ _) (fun _ _ => not_false)) (hF.ext (Chg.refl _ _)) hB hst) ?_)
 rintro _ w1 ⟨rfl, e1⟩
 have he1 := e1.size
 refine go ?_
 refine xc_cond (b := (!(isA sts i))) rfl (fun h1 => ?_) (fun h1 => ?_)
 ·
  have h1' := bS h1
  have hia : isA sts i = false := by revert h1; cases isA sts i <;> simp
  refine go ?_
  refine y_r1 ?_
  exact ⟨none, 0, by rw [itemsA_no hia] <;> rfl, by rw [itemsA_no hia]; exact ⟨Vx.Own.nil _ _ _, fun k hk => by simp [Value.ownBlock] at hk⟩, e1⟩
 ·
  have h1' := bS h1
  have hia : isA sts i = true := by revert h1; cases isA sts i <;> simp
  have hir := isA_of hia
  refine go ?_
  refine y_ld (hb.ext e1) ?_
  obtain ⟨x_1, g_1, o_1, hx_1⟩ := row_may (A := sA) (cs := StD.cs) i.toNat StD.len (by decide) (RowA.ext ho.rowO e1)
  obtain ⟨hx_2, hA_1, hc_1⟩ := hx_1 oM
  have hb_x_1 := hB _ (List.mem_of_getElem? hx_2)
  refine go ?_
  refine y_ix i.toNat hA_1 ?_
  refine go ?_
  refine y_lc (CellsL.at1 hc_1 0 rfl) ?_
  refine yCa (ret_mono (cloneItm x_1.items x_1.iA x_1.ic w1 (RowA.ext (StF.at hF hx_2).items.rowO e1) (by omega)) ?_)
  rintro _ w2 ⟨A1, c1, rfl, hn1, hnil1, e2⟩
  have he2 := e2.size
  refine go ?_
  refine y_r1 ?_
  have x1 : Ext w w2 := (Ext.trans e1 e2)
  exact ⟨A1, c1, by rw [itemsA_at hir.1 hx_2] <;> rfl, by rw [itemsA_at hir.1 hx_2]; exact ⟨hn1.1, fun k hk => by have _h := hn1.2 k hk; omega⟩, x1⟩
theorem go_calls (s : SP) (ba : Nat) (sA : Option Addr) (sc : Nat) (sts : List StD) (B : Nat) (i : Int) (z : Sym) (w : World) (hb : Blk w ba #[(.slice s.lA s.lex.length s.lc), (.slice s.nA s.names.length s.nc), (.int .i64 s.start), (.slice s.pA s.prods.length s.pc), (.slice sA sts.length sc)] 97) (ho : Vx.Own w 94 6 (.slice sA sts.length sc) sts.length (sts.flatMap StD.cs)) (hF : StF B w sts) (hB : ∀ x ∈ sts, x.items.length ≤ 67240962 ∧ x.arcs.length ≤ 67240962) (hst : sts.length ≤ 100000000000) :
    Calls Tryz.prog 19 #[(.pointer (some ⟨ba, 0, none⟩)), (.int .i64 i), (.agg #[(.int .i64 z.kind), (.int .i64 z.n)])] w (Ret (fun v w' => v = .int .i64 (goA sts i z) ∧ Ext w w')) := by
 refine calls_y (n := 33) Tryz.func19 ?_
 refine go ?_
 refine y_bx ?_
 intro w1 e1 z1 b1
 refine go ?_
 refine yCa (ret_mono (is_calls s ba sA sc sts B i w1 (hb.ext e1) (Vx.Own.keep ho e1 (fun _ _ => not_false)) (hF.ext e1) hB hst) ?_)
 rintro _ w2 ⟨rfl, e2⟩
 have he2 := e2.size
 refine go ?_
 refine xc_cond (b := (!(isA sts i))) rfl (fun h1 => ?_) (fun h1 => ?_)
 ·
  have h1' := bS h1
  have hia : isA sts i = false := by revert h1; cases isA sts i <;> simp
  refine go ?_
  refine y_r1 ?_
  have x1 : Ext w w2 := (Ext.trans e1 e2)
  exact ⟨by rw [goA_no hia] <;> rfl, x1⟩
 ·
  have h1' := bS h1
  have hia : isA sts i = true := by revert h1; cases isA sts i <;> simp
  have hir := isA_of hia
  refine go ?_
  refine y_ld ((hb.ext e1).ext e2) ?_
  have x2 : Ext w w2 := (Ext.trans e1 e2)
  obtain ⟨x_1, g_1, o_1, hx_1⟩ := row_may (A := sA) (cs := StD.cs) i.toNat StD.len (by decide) (RowA.ext ho.rowO x2)
  obtain ⟨hx_2, hA_1, hc_1⟩ := hx_1 oM
  have hb_x_1 := hB _ (List.mem_of_getElem? hx_2)
  refine go ?_
  refine y_ix i.toNat hA_1 ?_
  refine go ?_
  refine y_lc (CellsL.at1 hc_1 2 rfl) ?_
  refine go ?_
  refine xc_loopN (fun m_ f_ Wx => ∃ (k : Nat), m_ = x_1.arcs.length - k ∧ (k ≤ x_1.arcs.length) ∧ (arcTo z x_1.arcs = arcTo z (x_1.arcs.drop k)) ∧ f_ 5 = (.pointer (some ⟨w.heap.size, 0, none⟩)) ∧ f_ 20 = (.slice x_1.aA x_1.arcs.length x_1.ac) ∧ f_ 21 = (.int .i64 (((x_1.arcs.length : Nat) : Int))) ∧ f_ 22 = (.int .i64 ((k : Nat))) ∧ Ext w2 Wx) (x_1.arcs.length) ?_ ?_
  ·
   exact ⟨0, (by omega), (by omega), rfl, rfl, rfl, rfl, vW, (Chg.refl _ _)⟩
  ·
   rintro m_ f1 w3 ⟨k, hm_f1, hk, hq, g5_f1, g20_f1, g21_f1, g22_f1, x3⟩
   have hx3 := x3.size
   rw [← usf g5_f1, ← usf g20_f1, ← usf g21_f1, ← usf g22_f1]
   refine go ?_
   refine y_if (fun h2 => ?_) (fun h2 => ?_)
   ·
    have x4 : Ext w w3 := (Ext.trans x2 x3)
    obtain ⟨x_2, g_2, o_2, hx_3⟩ := row_may (A := x_1.aA) (cs := Arc.cs) k Arc.len (by decide) (RowA.ext ((StF.at hF hx_2).arcs.rowO) x4)
    obtain ⟨hx_4, hA_2, hc_2⟩ := hx_3 oM
    refine go ?_
    refine y_ix k hA_2 ?_
    refine y_lN (vs := [(.int .i64 x_2.sym.kind), (.int .i64 x_2.sym.n), (.int .i64 x_2.to)]) hc_2 ?_
    refine y_al ?_
    intro w4 e3 z2 b2
    refine y_st b2 ?_
    intro w5 e4 z3 b3
    replace b3 : Blk w5 w3.heap.size #[(.int .i64 x_2.sym.kind), (.int .i64 x_2.sym.n), (.int .i64 x_2.to)] 101 := blk_full b3 rfl
    refine go ?_
    refine y_lN (vs := [(.int .i64 x_2.sym.kind), (.int .i64 x_2.sym.n)]) ⟨b3.cell rfl, b3.cell rfl, trivial⟩ ?_
    have q1 := ((((b1.ext e2).ext x3).ext e3).keep1 e4 ((((b1.ext e2).ext x3).ext e3).ne b2 (by decide)))
    refine y_lN (vs := [(.int .i64 z.kind), (.int .i64 z.n)]) ⟨q1.cell rfl, q1.cell rfl, trivial⟩ ?_
    refine yOp (ox_eqlF (xs := [(.int .i64 x_2.sym.kind), (.int .i64 x_2.sym.n)]) (ys := [(.int .i64 z.kind), (.int .i64 z.n)]) (p := ((x_2.sym.kind : Int) = z.kind ∧ (x_2.sym.n : Int) = z.n)) fS_32 rfl rfl rfl rfl (by simp) ?_)
    refine go ?_
    refine y_if (fun h3 => ?_) (fun h3 => ?_)
    ·
     refine go ?_
     refine y_ld b3 ?_
     refine go ?_
     refine y_r1 ?_
     have x5 : Ext w w5 := (Ext.chg1 (Ext.trans x4 e3) e4 (by omega))
     exact ⟨by rw [goA_at hir.1 hx_2, hq, arcTo_hit hx_4 h3] <;> rfl, x5⟩
    ·
     refine go ?_
     refine y_add ?_
     have x6 : Ext w2 w5 := (Ext.chg1 (Ext.trans x3 e3) e4 (by omega))
     refine go ?_
     exact ⟨rfl, x_1.arcs.length - (k + 1), by omega, k + 1, by omega, (by omega), (hq.trans (arcTo_no hx_4 h3)), rfl, rfl, rfl, vW, x6⟩
   ·
    refine go ?_
    refine y_r1 ?_
    have x7 : Ext w w3 := (Ext.trans x2 x3)
    exact ⟨by rw [goA_at hir.1 hx_2, hq, List.drop_of_length_le (by omega)] <;> rfl, x7⟩
def runA (sts : List StD) : Int → List Sym → Int
  | q, [] => q
  | q, z :: r => if goA sts q z < 0 then goA sts q z else runA sts (goA sts q z) r
theorem runA_next {sts : List StD} {l : List Sym} {q : Int} {k : Nat} {z : Sym} (h : l[k]? = some z) (e : ¬ goA sts q z < 0) : runA sts q (l.drop k) = runA sts (goA sts q z) (l.drop (k + 1)) := by rw [drop_get h, runA, if_neg e]
theorem runA_stop {sts : List StD} {l : List Sym} {q : Int} {k : Nat} {z : Sym} (h : l[k]? = some z) (e : goA sts q z < 0) : runA sts q (l.drop k) = goA sts q z := by rw [drop_get h, runA, if_pos e]
def symA (sts : List StD) (i : Int) : Sym × Bool := if i = 0 ∨ isA sts i = false then (⟨0, 0⟩, false) else ((sts[i.toNat]!).sym, true)
theorem symA_no {sts : List StD} {i : Int} (h : i = 0 ∨ isA sts i = false) : symA sts i = (⟨0, 0⟩, false) := by unfold symA; rw [if_pos h]
theorem symA_at {sts : List StD} {i : Int} {x : StD} (hz : ¬ i = 0) (h0 : 0 ≤ i) (hx : sts[i.toNat]? = some x) : symA sts i = (x.sym, true) := by
  unfold symA
  rw [if_neg (by rintro (h | h); exact hz h; rw [isA_get h0 hx] at h; cases h), List.getElem!_eq_getElem?_getD, hx]; rfl
instance pf_19 : PlF Tryz.prog 19 := ⟨by kernel_rfl⟩
instance tF_94_3 : FdT Tryz.prog 94 3 3 := ⟨by kernel_rfl⟩
theorem run_calls (s : SP) (ba : Nat) (sA : Option Addr) (sc : Nat) (sts : List StD) (B : Nat) (l : List Sym) (A : Option Addr) (c : Nat) (w : World) (hb : Blk w ba #[(.slice s.lA s.lex.length s.lc), (.slice s.nA s.names.length s.nc), (.int .i64 s.start), (.slice s.pA s.prods.length s.pc), (.slice sA sts.length sc)] 97) (ho : Vx.Own w 94 6 (.slice sA sts.length sc) sts.length (sts.flatMap StD.cs)) (hF : StF B w sts) (hB : ∀ x ∈ sts, x.items.length ≤ 67240962 ∧ x.arcs.length ≤ 67240962) (hst : sts.length ≤ 100000000000) (hA : RowA w A (l.flatMap Sym.cs)) (hn : l.length ≤ 8796093022208) :
    Calls Tryz.prog 13 #[(.pointer (some ⟨ba, 0, none⟩)), (.slice A l.length c)] w (Ret (fun v w' => v = .int .i64 (runA sts 0 l) ∧ Ext w w')) := by
 refine calls_y (n := 22) Tryz.func13 ?_
 refine go ?_
 refine xc_loopN (fun m_ f_ Wx => ∃ (k : Nat) (q : Int), m_ = l.length - k ∧ (k ≤ l.length) ∧ (runA sts 0 l = runA sts q (l.drop k)) ∧ f_ 0 = (.pointer (some ⟨ba, 0, none⟩)) ∧ f_ 4 = (.int .i64 0) ∧ f_ 8 = (.slice A l.length c) ∧ f_ 9 = (.int .i64 (((l.length : Nat) : Int))) ∧ f_ 10 = (.int .i64 ((k : Nat))) ∧ f_ 5 = (.int .i64 q) ∧ Ext w Wx) (l.length) ?_ ?_
 ·
  exact ⟨0, 0, (by omega), (by omega), rfl, rfl, rfl, rfl, rfl, vW, vW, (Chg.refl _ _)⟩
 ·
  rintro m_ f1 w1 ⟨k, q, hm_f1, hk, hq, g0_f1, g4_f1, g8_f1, g9_f1, g10_f1, g5_f1, x1⟩
  have hx1 := x1.size
  rw [← usf g0_f1, ← usf g4_f1, ← usf g8_f1, ← usf g9_f1, ← usf g10_f1, ← usf g5_f1]
  refine go ?_
  refine y_if (fun h1 => ?_) (fun h1 => ?_)
  ·
   obtain ⟨x_1, g_1, o_1, hx_1⟩ := row_may (A := A) (cs := Sym.cs) k Sym.len (by decide) (RowA.ext hA x1)
   obtain ⟨hx_2, hA_1, hc_1⟩ := hx_1 oM
   refine go ?_
   refine y_ix k hA_1 ?_
   refine y_lN (vs := [(.int .i64 x_1.kind), (.int .i64 x_1.n)]) hc_1 ?_
   refine y_al ?_
   intro w2 e1 z1 b1
   refine y_st b1 ?_
   intro w3 e2 z2 b2
   replace b2 : Blk w3 w1.heap.size #[(.int .i64 x_1.kind), (.int .i64 x_1.n)] 32 := blk_full b2 rfl
   refine go ?_
   refine y_lN (vs := [(.int .i64 x_1.kind), (.int .i64 x_1.n)]) ⟨b2.cell rfl, b2.cell rfl, trivial⟩ ?_
   have q1 := (((hb.ext x1).ext e1).keep1 e2 (((hb.ext x1).ext e1).ne b1 (by decide)))
   have x2 : Ext w w3 := (Ext.chg1 (Ext.trans x1 e1) e2 (by omega))
   refine yCa (ret_mono (go_calls s ba sA sc sts B q (⟨x_1.kind, x_1.n⟩ : Sym) w3 q1 (Vx.Own.keep ho x2 (fun _ _ => not_false)) (hF.ext x2) hB hst) ?_)
   rintro _ w4 ⟨rfl, e3⟩
   have he3 := e3.size
   refine go ?_
   refine y_if (fun h2 => ?_) (fun h2 => ?_)
   ·
    refine go ?_
    refine y_r1 ?_
    have x3 : Ext w w4 := (Ext.trans x2 e3)
    exact ⟨by rw [hq, runA_stop hx_2 h2] <;> rfl, x3⟩
   ·
    refine go ?_
    refine y_add ?_
    have x4 : Ext w w4 := (Ext.trans x2 e3)
    refine go ?_
    exact ⟨rfl, l.length - (k + 1), by omega, k + 1, ((goA sts q x_1)), by omega, (by omega), (hq.trans (runA_next hx_2 h2)), rfl, rfl, rfl, rfl, vW, vW, x4⟩
  ·
   refine go ?_
   refine y_r1 ?_
   exact ⟨by rw [hq, List.drop_of_length_le (by omega)] <;> rfl, x1⟩
theorem symbol_calls2 (s : SP) (ba : Nat) (sA : Option Addr) (sc : Nat) (sts : List StD) (B : Nat) (i : Int) (w : World) (hb : Blk w ba #[(.slice s.lA s.lex.length s.lc), (.slice s.nA s.names.length s.nc), (.int .i64 s.start), (.slice s.pA s.prods.length s.pc), (.slice sA sts.length sc)] 97) (ho : Vx.Own w 94 6 (.slice sA sts.length sc) sts.length (sts.flatMap StD.cs)) (hF : StF B w sts) (hB : ∀ x ∈ sts, x.items.length ≤ 67240962 ∧ x.arcs.length ≤ 67240962) (hst : sts.length ≤ 100000000000) :
    Calls Tryz.prog 29 #[(.pointer (some ⟨ba, 0, none⟩)), (.int .i64 i)] w (Ret (fun v w' => v = .tuple #[.agg #[.int .i64 (symA sts i).1.kind, .int .i64 (symA sts i).1.n], .bool (symA sts i).2] ∧ Ext w w')) := by
 refine calls_y (n := 23) Tryz.func29 ?_
 refine go ?_
 refine y_al ?_
 intro w1 e1 z1 b1
 refine go ?_
 by_cases h1 : (i : Int) = 0
 ·
  refine ysL (s := 8) (bT (decide_eq_true h1)) ?_
  refine go ?_
  refine yOp (ox_mkStruct (ps := []) (cs := #[(.int .i64 0), (.int .i64 0)]) tZ_32.h tP_32.h rfl (by kernel_rfl) ?_)
  refine y_st b1 ?_
  intro w2 e2 z2 b2
  replace b2 : Blk w2 w.heap.size #[(.int .i64 0), (.int .i64 0)] 32 := blk_full b2 rfl
  refine go ?_
  change leaves _ _ _ _ _ _ _
  refine leaves_nil (n := 23) (rs := [.cell 4 32, .tmp 5]) (vs := [(.agg #[(.int .i64 0), (.int .i64 0)]), (.bool false)]) rfl ⟨⟨by decide, w.heap.size, 0, 2, [(.int .i64 0), (.int .i64 0)], rfl, tA_32.h, tS_32.h, rfl, ⟨b2.cell rfl, b2.cell rfl, trivial⟩, rfl⟩, ⟨by decide, rfl⟩, trivial⟩ ?_
  have x1 : Ext w w2 := (Ext.chg1 e1 e2 (by omega))
  exact ⟨by rw [symA_no (.inl h1)] <;> rfl, x1⟩
 ·
  refine ysL (s := 8) (bF (decide_eq_false h1)) ?_
  refine go ?_
  refine yCa (ret_mono (is_calls s ba sA sc sts B i w1 (hb.ext e1) (Vx.Own.keep ho e1 (fun _ _ => not_false)) (hF.ext e1) hB hst) ?_)
  rintro _ w3 ⟨rfl, e3⟩
  have he3 := e3.size
  refine go ?_
  refine xc_cond (b := (!(isA sts i))) rfl (fun h2 => ?_) (fun h2 => ?_)
  ·
   have h2' := bS h2
   have hia : isA sts i = false := by revert h2; cases isA sts i <;> simp
   refine go ?_
   refine yOp (ox_mkStruct (ps := []) (cs := #[(.int .i64 0), (.int .i64 0)]) tZ_32.h tP_32.h rfl (by kernel_rfl) ?_)
   refine y_st (b1.ext e3) ?_
   intro w4 e4 z3 b3
   replace b3 : Blk w4 w.heap.size #[(.int .i64 0), (.int .i64 0)] 32 := blk_full b3 rfl
   refine go ?_
   change leaves _ _ _ _ _ _ _
   refine leaves_nil (n := 23) (rs := [.cell 4 32, .tmp 5]) (vs := [(.agg #[(.int .i64 0), (.int .i64 0)]), (.bool false)]) rfl ⟨⟨by decide, w.heap.size, 0, 2, [(.int .i64 0), (.int .i64 0)], rfl, tA_32.h, tS_32.h, rfl, ⟨b3.cell rfl, b3.cell rfl, trivial⟩, rfl⟩, ⟨by decide, rfl⟩, trivial⟩ ?_
   have x2 : Ext w w4 := (Ext.chg1 (Ext.trans e1 e3) e4 (by omega))
   exact ⟨by rw [symA_no (.inr hia)] <;> rfl, x2⟩
  ·
   have h2' := bS h2
   have hia : isA sts i = true := by revert h2; cases isA sts i <;> simp
   have hir := isA_of hia
   refine go ?_
   refine y_ld ((hb.ext e1).ext e3) ?_
   have x3 : Ext w w3 := (Ext.trans e1 e3)
   obtain ⟨x_1, g_1, o_1, hx_1⟩ := row_may (A := sA) (cs := StD.cs) i.toNat StD.len (by decide) (RowA.ext ho.rowO x3)
   obtain ⟨hx_2, hA_1, hc_1⟩ := hx_1 oM
   have hb_x_1 := hB _ (List.mem_of_getElem? hx_2)
   refine go ?_
   refine y_ix i.toNat hA_1 ?_
   refine go ?_
   refine y_lN (vs := [(.int .i64 x_1.sym.kind), (.int .i64 x_1.sym.n)]) (CellsL.sub hc_1 3 2 rfl) ?_
   refine y_st (b1.ext e3) ?_
   intro w5 e5 z4 b4
   replace b4 : Blk w5 w.heap.size #[(.int .i64 x_1.sym.kind), (.int .i64 x_1.sym.n)] 32 := blk_full b4 rfl
   refine go ?_
   change leaves _ _ _ _ _ _ _
   refine leaves_nil (n := 23) (rs := [.cell 4 32, .tmp 5]) (vs := [(.agg #[(.int .i64 x_1.sym.kind), (.int .i64 x_1.sym.n)]), (.bool true)]) rfl ⟨⟨by decide, w.heap.size, 0, 2, [(.int .i64 x_1.sym.kind), (.int .i64 x_1.sym.n)], rfl, tA_32.h, tS_32.h, rfl, ⟨b4.cell rfl, b4.cell rfl, trivial⟩, rfl⟩, ⟨by decide, rfl⟩, trivial⟩ ?_
   have x4 : Ext w w5 := (Ext.chg1 x3 e5 (by omega))
   exact ⟨by rw [symA_at h1 hir.1 hx_2] <;> rfl, x4⟩
def kernA (sts : List StD) (i : Int) : List Itm := if isA sts i = true then (sts[i.toNat]!).items.take (sts[i.toNat]!).kern.toNat else []
theorem kernA_no {sts : List StD} {i : Int} (h : isA sts i = false) : kernA sts i = [] := by unfold kernA; rw [if_neg (by rw [h]; decide)]
theorem kernA_at {sts : List StD} {i : Int} {x : StD} (h0 : 0 ≤ i) (hx : sts[i.toNat]? = some x) : kernA sts i = x.items.take x.kern.toNat := by
  unfold kernA; rw [if_pos (isA_get h0 hx), List.getElem!_eq_getElem?_getD, hx]; rfl
instance tF_94_1 : FdT Tryz.prog 94 1 1 := ⟨by kernel_rfl⟩
theorem kernel_calls (s : SP) (ba : Nat) (sA : Option Addr) (sc : Nat) (sts : List StD) (B : Nat) (i : Int) (w : World) (hb : Blk w ba #[(.slice s.lA s.lex.length s.lc), (.slice s.nA s.names.length s.nc), (.int .i64 s.start), (.slice s.pA s.prods.length s.pc), (.slice sA sts.length sc)] 97) (ho : Vx.Own w 94 6 (.slice sA sts.length sc) sts.length (sts.flatMap StD.cs)) (hF : StF B w sts) (hB : ∀ x ∈ sts, x.items.length ≤ 67240962 ∧ x.arcs.length ≤ 67240962) (hst : sts.length ≤ 100000000000) (hK : ∀ x ∈ sts, 0 ≤ x.kern ∧ x.kern ≤ (x.items.length : Int)) :
    Calls Tryz.prog 25 #[(.pointer (some ⟨ba, 0, none⟩)), (.int .i64 i)] w (Ret (fun v w' => ∃ A' c', v = .slice A' (kernA sts i).length c' ∧ NewRow w w' 42 2 Itm.cs (kernA sts i) A' c' ∧ Ext w w')) := by
 refine calls_y (n := 27) Tryz.func25 ?_
 refine go ?_
 refine yCa (ret_mono (is_calls s ba sA sc sts B i w hb (Vx.Own.keep ho (Chg.refl _ _) (fun _ _ => not_false)) (hF.ext (Chg.refl _ _)) hB hst) ?_)
 rintro _ w1 ⟨rfl, e1⟩
 have he1 := e1.size
 refine go ?_
 refine xc_cond (b := (!(isA sts i))) rfl (fun h1 => ?_) (fun h1 => ?_)
 ·
  have h1' := bS h1
  have hia : isA sts i = false := by revert h1; cases isA sts i <;> simp
  refine go ?_
  refine y_r1 ?_
  exact ⟨none, 0, by rw [kernA_no hia] <;> rfl, by rw [kernA_no hia]; exact ⟨Vx.Own.nil _ _ _, fun k hk => by simp [Value.ownBlock] at hk⟩, e1⟩
 ·
  have h1' := bS h1
  have hia : isA sts i = true := by revert h1; cases isA sts i <;> simp
  have hir := isA_of hia
  refine go ?_
  refine xc_regionE [] (fun W_ => Chg (fun _ => False) w1 W_) hmix ?_
  intro w2 e2 z1
  have hS1 : Chg (fun _ => False) w1 w2 := Ext.to e2
  refine yDp 0 ?_
  refine yDp 1 ?_
  refine yDp 2 ?_
  refine yDt (i := 3) rfl hS1 (fun W_ hW_ => ox_load tA_95.h rfl (((hb.ext e1).ext hW_).cell rfl) ⟨rfl, rfl⟩) ?_
  refine yDp 4 ?_
  obtain ⟨x_1, g_1, o_1, hx_1⟩ := row_may (A := sA) (cs := StD.cs) i.toNat StD.len (by decide) (RowA.ext ho.rowO e1)
  obtain ⟨hx_2, hA_1, hc_1⟩ := hx_1 oM
  have hb_x_1 := hB _ (List.mem_of_getElem? hx_2)
  have hk_x_1 := hK _ (List.mem_of_getElem? hx_2)
  have hcp_x_1 := Own.capn (StF.at hF hx_2).items
  refine yDx (i := 5) i.toNat hA_1 ?_
  refine yDp 6 ?_
  refine yDt (i := 7) rfl hS1 (fun W_ hW_ => ox_load tA_39.h rfl (CellsL.at1 (CellsL.keep hW_ not_false hc_1) 0 rfl) ⟨rfl, rfl⟩) ?_
  refine yDp 8 ?_
  refine yDp 9 ?_
  refine yDp 10 ?_
  refine yDt (i := 11) rfl hS1 (fun W_ hW_ => ox_load tA_95.h rfl (((hb.ext e1).ext hW_).cell rfl) ⟨rfl, rfl⟩) ?_
  refine yDp 12 ?_
  refine yDx (i := 13) i.toNat hA_1 ?_
  refine yDp 14 ?_
  refine yDt (i := 15) rfl hS1 (fun W_ hW_ => ox_load tA_3.h rfl (CellsL.at1 (CellsL.keep hW_ not_false hc_1) 1 rfl) ⟨rfl, rfl⟩) ?_
  refine yDq (i := 16) rfl (fun W_ hW_ => ox_sliceToN (A := x_1.iA) (cp := x_1.ic) (i := x_1.kern) x_1.kern.toNat tE_39.h rfl rfl (by omega) (by omega) (by omega) ⟨rfl, rfl⟩) ?_
  have hlk : (x_1.items.take x_1.kern.toNat).length = x_1.kern.toNat := by rw [List.length_take]; omega
  have x1 : Ext w w2 := (Ext.trans e1 e2)
  refine yD1 (i := 17) rfl (yCx (ret_mono ((by have h9 := cloneItm (x_1.items.take x_1.kern.toNat) x_1.iA x_1.ic w2 (RowA.ext (Own.takeD Itm.len (by decide) (StF.at hF hx_2).items (by omega)).rowO x1) (by omega); rw [hlk] at h9; exact h9)) ?_))
  rintro _ w3 ⟨A1, c1, rfl, hn1, hnil1, e3⟩
  have he3 := e3.size
  have hS2 : Chg (fun _ => False) w1 w3 := Chg.ext hS1 e3
  refine ⟨.inr fun _ => hS2, ?_⟩
  refine yDp 18 ?_
  refine xd_done (by kernel_rfl) ?_ _
  refine go ?_
  refine y_r1 ?_
  have x2 : Ext w w3 := (Ext.trans x1 e3)
  exact ⟨A1, c1, by rw [kernA_at hir.1 hx_2, hlk] <;> rfl, by rw [kernA_at hir.1 hx_2]; exact ⟨hn1.1, fun k hk => by have _h := hn1.2 k hk; omega⟩, x2⟩
def pathU (sts : List StD) : Nat → Int → List Sym
  | 0, _ => []
  | f + 1, i => if i = 0 then [] else (sts[i.toNat]!).sym :: pathU sts f (sts[i.toNat]!).frm
def pathA (sts : List StD) (i : Int) : List Sym := if isA sts i = true then (pathU sts i.toNat i).reverse else []
theorem pathA_no {sts : List StD} {i : Int} (h : isA sts i = false) : pathA sts i = [] := by unfold pathA; rw [if_neg (by rw [h]; decide)]
theorem pathA_yes {sts : List StD} {i : Int} (h : isA sts i = true) : pathA sts i = (pathU sts i.toNat i).reverse := by unfold pathA; rw [if_pos h]
theorem pathU_two {sts : List StD} (hfr : ∀ (k : Nat) (x : StD), sts[k]? = some x → k ≠ 0 → 0 ≤ x.frm ∧ x.frm < (k : Int)) : ∀ (f f' : Nat) (i : Int), 0 ≤ i → i < (sts.length : Int) → i.toNat ≤ f → i.toNat ≤ f' → pathU sts f i = pathU sts f' i := by
  intro f
  induction f with
  | zero =>
    intro f' i h0 hl hf hf'
    have : i = 0 := by omega
    subst this
    cases f' <;> simp [pathU]
  | succ f ih =>
    intro f' i h0 hl hf hf'
    by_cases hi : i = 0
    · subst hi; cases f' <;> simp [pathU]
    · have hx : sts[i.toNat]? = some sts[i.toNat] := List.getElem?_eq_getElem (by omega)
      have hb : sts[i.toNat]! = sts[i.toNat] := by rw [List.getElem!_eq_getElem?_getD, hx]; rfl
      have h1 := hfr _ _ hx (by omega)
      obtain ⟨m, rfl⟩ : ∃ m, f' = m + 1 := ⟨f' - 1, by omega⟩
      rw [pathU, pathU, if_neg hi, if_neg hi, hb, ih m _ h1.1 (by omega) (by omega) (by omega)]
theorem pathU_next {sts : List StD} (hfr : ∀ (k : Nat) (x : StD), sts[k]? = some x → k ≠ 0 → 0 ≤ x.frm ∧ x.frm < (k : Int)) {q : Int} {x : StD} (h0 : 0 < q) (hx : sts[q.toNat]? = some x) : pathU sts q.toNat q = [(⟨x.sym.kind, x.sym.n⟩ : Sym)] ++ pathU sts x.frm.toNat x.frm := by
  have hl := (List.getElem?_eq_some_iff.1 hx).1
  have h1 := hfr _ _ hx (by omega)
  have hb : sts[q.toNat]! = x := by rw [List.getElem!_eq_getElem?_getD, hx]; rfl
  obtain ⟨m, hm⟩ : ∃ m, q.toNat = m + 1 := ⟨q.toNat - 1, by omega⟩
  rw [hm, pathU, if_neg (by omega), hb, pathU_two hfr m x.frm.toNat x.frm h1.1 (by omega) (by omega) (by omega)]; rfl
instance pf_52 : PlF Tryz.prog 52 := ⟨by kernel_rfl⟩
instance tF_94_4 : FdT Tryz.prog 94 4 5 := ⟨by kernel_rfl⟩
theorem path_calls (s : SP) (ba : Nat) (sA : Option Addr) (sc : Nat) (sts : List StD) (B : Nat) (i : Int) (w : World) (hb : Blk w ba #[(.slice s.lA s.lex.length s.lc), (.slice s.nA s.names.length s.nc), (.int .i64 s.start), (.slice s.pA s.prods.length s.pc), (.slice sA sts.length sc)] 97) (ho : Vx.Own w 94 6 (.slice sA sts.length sc) sts.length (sts.flatMap StD.cs)) (hF : StF B w sts) (hB : ∀ x ∈ sts, x.items.length ≤ 67240962 ∧ x.arcs.length ≤ 67240962) (hst : sts.length ≤ 100000000000) (hfr : ∀ (k : Nat) (x : StD), sts[k]? = some x → k ≠ 0 → 0 ≤ x.frm ∧ x.frm < (k : Int)) :
    Calls Tryz.prog 24 #[(.pointer (some ⟨ba, 0, none⟩)), (.int .i64 i)] w (Ret (fun v w' => ∃ A' c', v = .slice A' (pathA sts i).length c' ∧ NewRow w w' 32 2 Sym.cs (pathA sts i) A' c' ∧ Ext w w')) := by
 refine calls_y (n := 34) Tryz.func24 ?_
 refine go ?_
 refine yCa (ret_mono (is_calls s ba sA sc sts B i w hb (Vx.Own.keep ho (Chg.refl _ _) (fun _ _ => not_false)) (hF.ext (Chg.refl _ _)) hB hst) ?_)
 rintro _ w1 ⟨rfl, e1⟩
 have he1 := e1.size
 refine go ?_
 refine xc_cond (b := (!(isA sts i))) rfl (fun h1 => ?_) (fun h1 => ?_)
 ·
  have h1' := bS h1
  have hia : isA sts i = false := by revert h1; cases isA sts i <;> simp
  refine go ?_
  refine y_r1 ?_
  exact ⟨none, 0, by rw [pathA_no hia] <;> rfl, by rw [pathA_no hia]; exact ⟨Vx.Own.nil _ _ _, fun k hk => by simp [Value.ownBlock] at hk⟩, e1⟩
 ·
  have h1' := bS h1
  have hia : isA sts i = true := by revert h1; cases isA sts i <;> simp
  have hir := isA_of hia
  refine go ?_
  refine xc_loopN (fun m_ f_ Wx => ∃ (q : Int) (y : List Sym) (Ay : Option Addr) (cy : Nat), m_ = q.toNat ∧ (0 ≤ q ∧ q < (sts.length : Int)) ∧ (pathU sts i.toNat i = y ++ pathU sts q.toNat q) ∧ ((y.length : Int) + q ≤ i) ∧ f_ 0 = (.pointer (some ⟨ba, 0, none⟩)) ∧ f_ 4 = (.slice none 0 0) ∧ f_ 1 = (.int .i64 q) ∧ f_ 5 = (.slice Ay y.length cy) ∧ Vx.Own Wx 32 2 (.slice Ay y.length cy) y.length (y.flatMap Sym.cs) ∧ (∀ k, ((.slice Ay y.length cy) : Value).ownBlock = some k → w1.heap.size ≤ k) ∧ Ext w1 Wx) (i.toNat) ?_ ?_
  ·
   exact ⟨i, [], none, 0, (by omega), (by omega), (by simp), (by simp), rfl, rfl, vW, rfl, (Vx.Own.nil _ _ _), (fun _k _h => by simp [Value.ownBlock] at _h), (Chg.refl _ _)⟩
  ·
   rintro m_ f1 w2 ⟨q, y, Ay, cy, hm_f1, hqr, hq, hyl, g0_f1, g4_f1, g1_f1, g5_f1, a0_f1, l0_f1, x1⟩
   have hx1 := x1.size
   rw [← usf g0_f1, ← usf g4_f1, ← usf g1_f1, ← usf g5_f1]
   refine go ?_
   refine y_if (fun h2 => ?_) (fun h2 => ?_)
   ·
    refine go ?_
    refine y_ld ((hb.ext e1).ext x1) ?_
    have x2 : Ext w w2 := (Ext.trans e1 x1)
    obtain ⟨x_1, g_1, o_1, hx_1⟩ := row_may (A := sA) (cs := StD.cs) q.toNat StD.len (by decide) (RowA.ext ho.rowO x2)
    obtain ⟨hx_2, hA_1, hc_1⟩ := hx_1 oM
    have hb_x_1 := hB _ (List.mem_of_getElem? hx_2)
    refine go ?_
    refine y_ix q.toNat hA_1 ?_
    refine go ?_
    refine y_lN (vs := [(.int .i64 x_1.sym.kind), (.int .i64 x_1.sym.n)]) (CellsL.sub hc_1 3 2 rfl) ?_
    refine yOp (ox_mkSlice (ps := [(0, (.agg #[(.int .i64 x_1.sym.kind), (.int .i64 x_1.sym.n)]))]) (zs := #[(.int .i64 0), (.int .i64 0)]) (cs := #[(.int .i64 x_1.sym.kind), (.int .i64 x_1.sym.n)]) tE_33.h rfl (by decide) (by kernel_rfl) (by kernel_rfl) ?_)
    intro w3 e2 z1 b1
    replace b1 : Blk w3 w2.heap.size #[(.int .i64 x_1.sym.kind), (.int .i64 x_1.sym.n)] 32 := b1
    refine yOp (ox_appD (l := y) (r := [(⟨x_1.sym.kind, x_1.sym.n⟩ : Sym)]) (cs := Sym.cs) rfl tE_33.h rfl (by decide) Sym.len Sym.one (v := (.slice Ay y.length cy)) rfl rfl (m := 1) rfl (a0_f1.ext e2) b1.all aM (by decide) ?_)
    intro A1 c1 w4 o1 e3 at1 hc1
    have he3 := e3.size
    have low1 : ∀ _k, (Value.slice A1 (y ++ [(⟨x_1.sym.kind, x_1.sym.n⟩ : Sym)]).length c1).ownBlock = some _k → w1.heap.size ≤ _k := fun _k _h => by rcases at1 with _e | _e <;> rw [_e] at _h; exact l0_f1 _k _h; exact (by cases _h; omega)
    have q1 := ((((hb.ext e1).ext x1).ext e2).keep e3 (fun _h => (a0_f1.ext e2).ne_blk (((hb.ext e1).ext x1).ext e2) (by decide) _ _h rfl))
    refine go ?_
    refine y_ld q1 ?_
    have x3 : Ext w w4 := (Chg.trans (Ext.trans x2 e2) e3 (fun b hb hl => (absurd hl (by have _h := l0_f1 b hb; omega))))
    obtain ⟨x_2, g_2, o_2, hx_3⟩ := row_may (A := sA) (cs := StD.cs) q.toNat StD.len (by decide) (RowA.ext ho.rowO x3)
    obtain ⟨hx_4, hA_2, hc_2⟩ := hx_3 oM
    have hb_x_2 := hB _ (List.mem_of_getElem? hx_4)
    refine go ?_
    refine y_ix q.toNat hA_2 ?_
    refine go ?_
    refine y_lc (CellsL.at1 hc_2 5 rfl) ?_
    have hxx9 : x_1 = x_2 := Option.some.inj (hx_2.symm.trans hx_4)
    skip
    have x4 : Ext w1 w4 := (Chg.trans (Ext.trans x1 e2) e3 (fun b hb hl => (absurd hl (by have _h := l0_f1 b hb; omega))))
    refine go ?_
    exact ⟨rfl, x_2.frm.toNat, by (have h9 := hfr _ _ hx_4 (by omega); rw [hm_f1]; omega), x_2.frm, y ++ [(⟨x_1.sym.kind, x_1.sym.n⟩ : Sym)], A1, c1, by omega, (by have h9 := hfr _ _ hx_4 (by omega); omega), (hq.trans (by rw [pathU_next hfr (by omega) hx_4, List.append_assoc]; rw [hxx9])), (by have h9 := hfr _ _ hx_4 (by omega); simp only [List.length_append, List.length_cons, List.length_nil]; omega), rfl, rfl, vW, rfl, o1, low1, x4⟩
   ·
    refine go ?_
    refine yCa (ret_mono (reverse_calls y Ay cy w2 a0_f1 (by omega)) ?_)
    rintro _ w5 ⟨rfl, o2, y1⟩
    have hy1 := y1.size
    refine go ?_
    refine y_r1 ?_
    have hp9 : pathA sts i = y.reverse := by rw [pathA_yes hia, hq, show q = 0 by omega]; simp [pathU]
    have x5 : Ext w w5 := (Chg.trans (Ext.trans e1 x1) y1 (fun b hb hl => (absurd hl (by have _h := l0_f1 b hb; omega))))
    exact ⟨_, _, by rw [hp9, List.length_reverse] <;> rfl, by rw [hp9]; exact ⟨by rw [List.length_reverse]; exact o2, fun k hk => by rw [List.length_reverse] at hk; have _h := l0_f1 k hk; omega⟩, x5⟩
def isS (st : List ASt) (i : Int) : Bool := decide (0 ≤ i) && decide (i < (st.length : Int))
def itemsS (st : List ASt) (i : Int) : List Itm := if isS st i = true then (st[i.toNat]!).items else []
def kernS (st : List ASt) (i : Int) : List Itm := if isS st i = true then (st[i.toNat]!).kernel else []
def goS (st : List ASt) (i : Int) (z : Sym) : Int := if isS st i = true then arcTo z (st[i.toNat]!).arcs else -1
def runS (st : List ASt) : Int → List Sym → Int
  | q, [] => q
  | q, z :: r => if goS st q z < 0 then goS st q z else runS st (goS st q z) r
def symS (st : List ASt) (i : Int) : Sym × Bool := if i = 0 ∨ isS st i = false then (⟨0, 0⟩, false) else ((st[i.toNat]!).sym, true)
def wayS (st : List ASt) : Nat → Int → List Sym
  | 0, _ => []
  | f + 1, i => if i = 0 then [] else (st[i.toNat]!).sym :: wayS st f (st[i.toNat]!).frm
def pathS (st : List ASt) (i : Int) : List Sym := if isS st i = true then (wayS st i.toNat i).reverse else []
section
variable (sts : List StD)
theorem bang_d {sts : List StD} {i : Int} (h : isA sts i = true) : (sts.map StD.d)[i.toNat]! = (sts[i.toNat]!).d := by
  have hi := isA_of h
  have hx : sts[i.toNat]? = some sts[i.toNat] := List.getElem?_eq_getElem (by omega)
  rw [List.getElem!_eq_getElem?_getD, map_get hx, List.getElem!_eq_getElem?_getD, hx]; rfl
theorem isA_d (i : Int) : isA sts i = isS (sts.map StD.d) i := by unfold isA isS; rw [List.length_map]
theorem itemsA_d (i : Int) : itemsA sts i = itemsS (sts.map StD.d) i := by
  unfold itemsA itemsS; rw [← isA_d]
  split
  · rename_i h; rw [bang_d h]; rfl
  · rfl
theorem kernA_d (i : Int) : kernA sts i = kernS (sts.map StD.d) i := by
  unfold kernA kernS; rw [← isA_d]
  split
  · rename_i h; rw [bang_d h]; rfl
  · rfl
theorem goA_d (i : Int) (z : Sym) : goA sts i z = goS (sts.map StD.d) i z := by
  unfold goA goS; rw [← isA_d]
  split
  · rename_i h; rw [bang_d h]; rfl
  · rfl
theorem runA_d : ∀ (l : List Sym) (q : Int), runA sts q l = runS (sts.map StD.d) q l
  | [], _ => rfl
  | z :: r, q => by rw [runA, runS, ← goA_d, runA_d r]
theorem symA_d (i : Int) : symA sts i = symS (sts.map StD.d) i := by
  unfold symA symS; rw [← isA_d]
  split
  · rfl
  · rename_i h
    rw [bang_d (by cases h9 : isA sts i; exact absurd (.inr h9) h; rfl)]; rfl
theorem pathU_d {sts : List StD} (hfr : ∀ (k : Nat) (x : StD), sts[k]? = some x → k ≠ 0 → 0 ≤ x.frm ∧ x.frm < (k : Int)) : ∀ (f : Nat) (i : Int), 0 ≤ i → i < (sts.length : Int) → pathU sts f i = wayS (sts.map StD.d) f i
  | 0, _, _, _ => rfl
  | f + 1, i, h0, hl => by
    rw [pathU, wayS]
    split
    · rfl
    · rename_i hi
      have hx : sts[i.toNat]? = some sts[i.toNat] := List.getElem?_eq_getElem (by omega)
      have hb : sts[i.toNat]! = sts[i.toNat] := by rw [List.getElem!_eq_getElem?_getD, hx]; rfl
      have h1 := hfr _ _ hx (by omega)
      rw [bang_d (by unfold isA; simp; omega), hb, pathU_d hfr f _ h1.1 (by omega)]; rfl
theorem pathA_d {sts : List StD} (hfr : ∀ (k : Nat) (x : StD), sts[k]? = some x → k ≠ 0 → 0 ≤ x.frm ∧ x.frm < (k : Int)) (i : Int) : pathA sts i = pathS (sts.map StD.d) i := by
  unfold pathA pathS; rw [← isA_d]
  split
  · rename_i h
    have := isA_of h
    rw [pathU_d hfr _ _ this.1 this.2]
  · rfl
end
theorem small_facts : (smallA.length > 5 ∧ runS smallA 0 [⟨3, 1⟩] > 0 ∧ runS smallA 0 [⟨1, 3⟩] = -1 ∧ kernS smallA 0 = [⟨-1, 0⟩]) ∧ (pathS smallA (runS smallA 0 [⟨3, 1⟩])).length = 1 := by
  have h1 : decide (smallA.length > 5 ∧ runS smallA 0 [⟨3, 1⟩] > 0 ∧ runS smallA 0 [⟨1, 3⟩] = -1 ∧ kernS smallA 0 = [⟨-1, 0⟩]) = true := by kernel_rfl
  have h2 : decide ((pathS smallA (runS smallA 0 [⟨3, 1⟩])).length = 1) = true := by kernel_rfl
  exact ⟨of_decide_eq_true h1, of_decide_eq_true h2⟩
def ASt.same (y x : ASt) : Prop := y.items = x.items ∧ y.kern = x.kern ∧ y.sym = x.sym ∧ y.frm = x.frm
theorem ASt.same.kernel {x y : ASt} (h : y.same x) : y.kernel = x.kernel := by unfold ASt.kernel; rw [h.1, h.2.1]
structure StepA (g : GD) (q : Nat) (z : Sym) (l : List Itm) (st st' : List ASt) (to : Int) : Prop where
  old : ∀ (k : Nat) (x : ASt), st[k]? = some x → ∃ y, st'[k]? = some y ∧ y.same x ∧ y.arcs = if k = q then x.arcs ++ [⟨z, to⟩] else x.arcs
  inv : ∀ (k : Nat) (y : ASt), st'[k]? = some y → (∃ x, st[k]? = some x ∧ y.same x ∧ y.arcs = if k = q then x.arcs ++ [⟨z, to⟩] else x.arcs) ∨ (k = st.length ∧ y = ⟨closG g l, (l.length : Int), [], z, (q : Nat)⟩ ∧ to = ((st.length : Nat) : Int) ∧ ∀ x ∈ st, x.kernel ≠ l)
  tgt : ∃ (j : Nat) (y : ASt), to = (j : Nat) ∧ st'[j]? = some y ∧ y.kernel = l ∧ ((∃ x, st[j]? = some x ∧ y.frm = x.frm) ∨ y.frm = (q : Nat))
theorem same_set {st : List ASt} {q : Nat} {x : ASt} {a : Arc} (hx : st[q]? = some x) (k : Nat) (u : ASt) (hu : st[k]? = some u) : ∃ y, (st.set q { x with arcs := x.arcs ++ [a] })[k]? = some y ∧ y.same u ∧ y.arcs = if k = q then u.arcs ++ [a] else u.arcs := by
  have hl := (List.getElem?_eq_some_iff.1 hx).1
  by_cases hk : k = q
  · subst hk
    rw [hx] at hu; cases hu
    exact ⟨_, List.getElem?_set_self hl, ⟨rfl, rfl, rfl, rfl⟩, by rw [if_pos rfl]⟩
  · exact ⟨u, by rw [List.getElem?_set_ne (fun h => hk h.symm)]; exact hu, ⟨rfl, rfl, rfl, rfl⟩, by rw [if_neg hk]⟩
theorem set_inv {st : List ASt} {q : Nat} {x y : ASt} {a : Arc} (hx : st[q]? = some x) (k : Nat) (hy : (st.set q { x with arcs := x.arcs ++ [a] })[k]? = some y) : ∃ u, st[k]? = some u ∧ y.same u ∧ y.arcs = if k = q then u.arcs ++ [a] else u.arcs := by
  have hl := (List.getElem?_eq_some_iff.1 hx).1
  have hk := (List.getElem?_eq_some_iff.1 hy).1
  rw [List.length_set] at hk
  obtain ⟨y', h1, h2, h3⟩ := same_set (a := a) hx k st[k] (List.getElem?_eq_getElem hk)
  rw [hy] at h1; cases h1
  exact ⟨_, List.getElem?_eq_getElem hk, h2, h3⟩
theorem closG_kernel {g : GD} {l : List Itm} {z : Sym} {fr : Int} : (⟨closG g l, (l.length : Int), [], z, fr⟩ : ASt).kernel = l := by
  unfold ASt.kernel
  simp only [Int.toNat_natCast]
  exact closG_pre (closF_pre g l)
theorem arcS_step {g : GD} (hg : GoodL g) {q : Nat} {z : Sym} {st : List ASt} {x : ASt} (h : OkS g st) (hx : st[q]? = some x) : ∃ to, StepA g q z (overG g z x.items) st (arcS g q st z) to := by
  have hql := (List.getElem?_eq_some_iff.1 hx).1
  have hok : ∀ y ∈ overG g z x.items, okJ g y := overG_okJ (h.ok _ (List.mem_of_getElem? hx))
  rw [arcS_eq hx]
  rcases addA_cases (g := g) (st := st) (l := overG g z x.items) (z := z) (fr := (q : Nat)) (fun u hu y hy => okJ_small (h.ok u hu y hy) hg.prods hg.rights) (fun y hy => okJ_small (hok y hy) hg.prods hg.rights) with ⟨j, y, h1, h2, _, h4⟩ | ⟨h1, h2⟩
  · rw [h4]
    refine ⟨(j : Nat), fun k u hu => same_set hx k u hu, fun k y hy => .inl (set_inv hx k hy), ?_⟩
    obtain ⟨y', k1, k2, k3⟩ := same_set (a := ⟨z, ((j : Nat) : Int)⟩) hx j y h1
    exact ⟨j, y', rfl, k1, by rw [k2.kernel]; exact h2, .inl ⟨y, h1, k2.2.2.2⟩⟩
  · rw [h2]
    have hx2 : (st ++ [(⟨closG g (overG g z x.items), ((overG g z x.items).length : Int), [], z, ((q : Nat) : Int)⟩ : ASt)])[q]? = some x := by rw [List.getElem?_append_left hql]; exact hx
    refine ⟨((st.length : Nat) : Int), fun k u hu => ?_, fun k y hy => ?_, ?_⟩
    · have hkl := (List.getElem?_eq_some_iff.1 hu).1
      exact same_set hx2 k u (by rw [List.getElem?_append_left hkl]; exact hu)
    · obtain ⟨u, k1, k2, k3⟩ := set_inv hx2 k hy
      have hkl := (List.getElem?_eq_some_iff.1 k1).1
      rw [List.length_append, List.length_singleton] at hkl
      by_cases hk : k < st.length
      · rw [List.getElem?_append_left hk] at k1; exact .inl ⟨u, k1, k2, k3⟩
      · have : k = st.length := by omega
        subst this
        rw [List.getElem?_append_right (Nat.le_refl _), Nat.sub_self] at k1
        simp only [List.getElem?_cons_zero, Option.some.injEq] at k1
        subst k1
        refine .inr ⟨rfl, ?_, rfl, h1⟩
        rw [if_neg (by omega)] at k3
        obtain ⟨e1, e2, e3, e4⟩ := k2
        cases y; simp only at e1 e2 e3 e4 k3; subst e1 e2 e3 e4 k3; rfl
    · obtain ⟨y', k1, k2, k3⟩ := same_set (a := ⟨z, ((st.length : Nat) : Int)⟩) hx2 st.length ⟨closG g (overG g z x.items), ((overG g z x.items).length : Int), [], z, ((q : Nat) : Int)⟩ (by rw [List.getElem?_append_right (Nat.le_refl _), Nat.sub_self]; rfl)
      exact ⟨st.length, y', rfl, k1, by rw [k2.kernel]; exact closG_kernel, .inr k2.2.2.2⟩
structure AutQ (g : GD) (q : Nat) (zs : List Sym) (st : List ASt) : Prop where
  ok : OkS g st
  p : OkP st
  shape : ∀ (k : Nat) (x : ASt), st[k]? = some x → x.items = closG g x.kernel
  first : ∃ x, st[0]? = some x ∧ x.kernel = [⟨-1, 0⟩] ∧ x.frm = 0
  done : ∀ (k : Nat) (x : ASt), k < q → st[k]? = some x → x.arcs.map Arc.sym = symsG g x.items
  now : ∀ x : ASt, st[q]? = some x → x.arcs.map Arc.sym = zs
  rest : ∀ (k : Nat) (x : ASt), q < k → st[k]? = some x → x.arcs = []
  to : ∀ (k : Nat) (x : ASt) (a : Arc), st[k]? = some x → a ∈ x.arcs → ∃ (j : Nat) (y : ASt), a.to = (j : Nat) ∧ st[j]? = some y ∧ y.kernel = overG g a.sym x.items ∧ y.frm ≤ ((k : Nat) : Int)
  frm : ∀ (k : Nat) (x : ASt), st[k]? = some x → k ≠ 0 → ∃ (m : Nat) (y : ASt), x.frm = (m : Nat) ∧ m < k ∧ st[m]? = some y ∧ (⟨x.sym, (k : Nat)⟩ : Arc) ∈ y.arcs ∧ x.kernel = overG g x.sym y.items
  le : ∀ (k : Nat) (x : ASt), st[k]? = some x → x.frm ≤ ((q : Nat) : Int)
  mono : ∀ (j k : Nat) (x y : ASt), j ≤ k → st[j]? = some x → st[k]? = some y → x.frm ≤ y.frm
  apart : ∀ (j k : Nat) (x y : ASt), j < k → st[j]? = some x → st[k]? = some y → x.kernel ≠ y.kernel
  big : st.length ≤ 1 + q * 67240962 + zs.length
theorem AutQ.step {g : GD} (hg : GoodL g) {q : Nat} {zs : List Sym} {st : List ASt} {z : Sym} (h : AutQ g q zs st) (hq : q < st.length) (hq2 : q < 1024) : AutQ g q (zs ++ [z]) (arcS g q st z) := by
  have hx : st[q]? = some st[q] := List.getElem?_eq_getElem hq
  generalize st[q] = x at hx
  obtain ⟨to, hs⟩ := arcS_step hg (z := z) h.ok hx
  have hlen := (arcS_ok hg.good hg.names hg.prods h.ok (z := z) hx hq2)
  refine ⟨hlen.1, h.p.arc hx, fun k y hy => ?_, ?_, fun k y hk hy => ?_, fun y hy => ?_, fun k y hk hy => ?_, fun k y a hy ha => ?_, fun k y hy hk => ?_, fun k y hy => ?_, fun j k u y hjk hu hy => ?_, fun j k u y hjk hu hy => ?_, ?_⟩
  · rcases hs.inv k y hy with ⟨u, h1, h2, _⟩ | ⟨_, rfl, _⟩
    · rw [h2.1, h2.kernel]; exact h.shape k u h1
    · rw [closG_kernel]
  · obtain ⟨u, h1, h2, h3⟩ := h.first
    obtain ⟨y, k1, k2, _⟩ := hs.old 0 u h1
    exact ⟨y, k1, by rw [k2.kernel]; exact h2, by rw [k2.2.2.2]; exact h3⟩
  · rcases hs.inv k y hy with ⟨u, h1, h2, h3⟩ | ⟨h1, _⟩
    · rw [h3, if_neg (by omega), h2.1]; exact h.done k u hk h1
    · omega
  · rcases hs.inv q y hy with ⟨u, h1, h2, h3⟩ | ⟨h1, _⟩
    · rw [h3, if_pos rfl, List.map_append, h.now u h1]; rfl
    · omega
  · rcases hs.inv k y hy with ⟨u, h1, h2, h3⟩ | ⟨_, rfl, _⟩
    · rw [h3, if_neg (by omega)]; exact h.rest k u hk h1
    · rfl
  · rcases hs.inv k y hy with ⟨u, h1, h2, h3⟩ | ⟨_, rfl, _⟩
    · have old : a ∈ u.arcs → ∃ (j : Nat) (y' : ASt), a.to = (j : Nat) ∧ (arcS g q st z)[j]? = some y' ∧ y'.kernel = overG g a.sym y.items ∧ y'.frm ≤ ((k : Nat) : Int) := fun ha => by
        obtain ⟨j, v, e1, e2, e3, e4⟩ := h.to k u a h1 ha
        obtain ⟨v', k1, k2, _⟩ := hs.old j v e2
        exact ⟨j, v', e1, k1, by rw [k2.kernel, h2.1]; exact e3, by rw [k2.2.2.2]; exact e4⟩
      by_cases hk : k = q
      · subst hk
        rw [h3, if_pos rfl] at ha
        rcases List.mem_append.1 ha with ha | ha
        · exact old ha
        · rw [List.mem_singleton] at ha
          subst ha
          rw [hx] at h1; cases h1
          obtain ⟨j, v, e1, e2, e3, e4⟩ := hs.tgt
          refine ⟨j, v, e1, e2, by rw [h2.1]; exact e3, ?_⟩
          rcases e4 with ⟨v0, e5, e6⟩ | e4
          · rw [e6]; exact h.le j v0 e5
          · omega
      · rw [h3, if_neg hk] at ha; exact old ha
    · cases ha
  · rcases hs.inv k y hy with ⟨u, h1, h2, _⟩ | ⟨h1, rfl, h3, _⟩
    · obtain ⟨m, v, e1, e2, e3, e4, e5⟩ := h.frm k u h1 hk
      obtain ⟨v', k1, k2, k3⟩ := hs.old m v e3
      refine ⟨m, v', by rw [h2.2.2.2]; exact e1, e2, k1, ?_, by rw [h2.kernel, h2.2.2.1, k2.1]; exact e5⟩
      rw [h2.2.2.1, k3]
      split
      · exact List.mem_append_left _ e4
      · exact e4
    · obtain ⟨v', k1, k2, k3⟩ := hs.old q x hx
      refine ⟨q, v', rfl, by omega, k1, ?_, by rw [closG_kernel, k2.1]⟩
      rw [k3, if_pos rfl, h3, h1]
      exact List.mem_append_right _ (by simp)
  · rcases hs.inv k y hy with ⟨u, h1, h2, _⟩ | ⟨_, rfl, _⟩
    · rw [h2.2.2.2]; exact h.le k u h1
    · exact Int.le_refl _
  · rcases hs.inv k y hy with ⟨y0, h1, h2, _⟩ | ⟨h1, rfl, _⟩
    · rcases hs.inv j u hu with ⟨u0, k1, k2, _⟩ | ⟨k1, _⟩
      · rw [h2.2.2.2, k2.2.2.2]; exact h.mono j k u0 y0 hjk k1 h1
      · have := (List.getElem?_eq_some_iff.1 h1).1
        omega
    · rcases hs.inv j u hu with ⟨u0, k1, k2, _⟩ | ⟨_, rfl, _⟩
      · rw [k2.2.2.2]; exact h.le j u0 k1
      · exact Int.le_refl _
  · rcases hs.inv k y hy with ⟨y0, h1, h2, _⟩ | ⟨h1, rfl, _, h4⟩
    · rcases hs.inv j u hu with ⟨u0, k1, k2, _⟩ | ⟨k1, _⟩
      · rw [h2.kernel, k2.kernel]; exact h.apart j k u0 y0 hjk k1 h1
      · have := (List.getElem?_eq_some_iff.1 h1).1
        omega
    · rcases hs.inv j u hu with ⟨u0, k1, k2, _⟩ | ⟨k1, _⟩
      · rw [closG_kernel, k2.kernel]; exact h4 u0 (List.mem_of_getElem? k1)
      · omega
  · have := h.big
    rw [List.length_append, List.length_singleton]
    have := hlen.2.2.1
    omega
theorem AutQ.start {g : GD} (hg : GoodL g) : AutQ g 0 [] (addA g [] [⟨-1, 0⟩] ⟨0, 0⟩ 0).1 := by
  have h1 := OkS.start hg.good hg.names hg.prods
  have h2 := OkP.start (g := g)
  have he : (addA g [] [⟨-1, 0⟩] ⟨0, 0⟩ 0).1 = [⟨closG g [⟨-1, 0⟩], 1, [], ⟨0, 0⟩, 0⟩] := rfl
  rw [he] at h1 h2 ⊢
  have one : ∀ (k : Nat) (x : ASt), [(⟨closG g [⟨-1, 0⟩], 1, [], ⟨0, 0⟩, 0⟩ : ASt)][k]? = some x → k = 0 ∧ x = ⟨closG g [⟨-1, 0⟩], 1, [], ⟨0, 0⟩, 0⟩ := fun k x hx => by
    have hk := (List.getElem?_eq_some_iff.1 hx).1
    rw [List.length_singleton] at hk
    have : k = 0 := by omega
    subst this
    exact ⟨rfl, (Option.some.inj hx).symm⟩
  have hk : (⟨closG g [⟨-1, 0⟩], 1, [], ⟨0, 0⟩, 0⟩ : ASt).kernel = [⟨-1, 0⟩] := closG_kernel (l := [⟨-1, 0⟩])
  refine ⟨h1, h2, fun k x hx => ?_, ⟨_, rfl, hk, rfl⟩, fun k x h => by omega, fun x hx => ?_, fun k x hk hx => ?_, fun k x a hx ha => ?_, fun k x hx h0 => ?_, fun k x hx => ?_, fun j k x y _ hx hy => ?_, fun j k x y hjk hx hy => ?_, by simp⟩
  · rw [(one k x hx).2, hk]
  · rw [(one 0 x hx).2]; rfl
  · have := (one k x hx).1; omega
  · rw [(one k x hx).2] at ha; cases ha
  · exact absurd (one k x hx).1 h0
  · rw [(one k x hx).2]; exact Int.le_refl _
  · rw [(one j x hx).2, (one k y hy).2]; exact Int.le_refl _
  · have := (one j x hx).1; have := (one k y hy).1; omega
theorem AutQ.fold {g : GD} (hg : GoodL g) {q : Nat} (hq2 : q < 1024) : ∀ (ws : List Sym) {zs : List Sym} {st : List ASt}, AutQ g q zs st → q < st.length → AutQ g q (zs ++ ws) (ws.foldl (arcS g q) st) ∧ st.length ≤ (ws.foldl (arcS g q) st).length
  | [], zs, st, h, _ => ⟨by rw [List.append_nil]; exact h, Nat.le_refl _⟩
  | w :: ws, zs, st, h, hl => by
    have h1 := h.step hg (z := w) hl hq2
    have h2 := (arcS_ok hg.good hg.names hg.prods h.ok (z := w) (List.getElem?_eq_getElem hl) hq2).2.1
    have h3 := AutQ.fold hg hq2 ws h1 (by omega)
    rw [List.foldl_cons]
    exact ⟨by rw [List.append_cons]; exact h3.1, by omega⟩
theorem AutQ.next {g : GD} {q : Nat} {x : ASt} {st : List ASt} (h : AutQ g q (symsG g x.items) st) (hq : q < st.length) (hit : ∀ y, st[q]? = some y → y.items = x.items) (hl : (symsG g x.items).length ≤ 67240962) : AutQ g (q + 1) [] st := by
  refine ⟨h.ok, h.p, h.shape, h.first, fun k y hk hy => ?_, fun y hy => ?_, fun k y hk hy => ?_, h.to, h.frm, fun k y hy => ?_, h.mono, h.apart, ?_⟩
  · by_cases hkq : k = q
    · subst hkq
      rw [h.now y hy, hit y hy]
    · exact h.done k y (by omega) hy
  · rw [h.rest (q + 1) y (by omega) hy]; rfl
  · exact h.rest k y (by omega) hy
  · have := h.le k y hy; omega
  · have h9 := h.big
    rw [List.length_nil, Nat.succ_mul]
    generalize q * 67240962 = m at h9 ⊢
    generalize (symsG g x.items).length = n at h9 hl
    omega
theorem AutQ.row {g : GD} (hg : GoodL g) {q : Nat} {st : List ASt} (h : AutQ g q [] st) (hq : q < st.length) (hq2 : q < 1024) : AutQ g (q + 1) [] (rowS g q st) := by
  have hx : st[q]? = some st[q] := List.getElem?_eq_getElem hq
  generalize st[q] = x at hx
  unfold rowS
  rw [bangA hx]
  have h1 := AutQ.fold hg hq2 (symsG g x.items) h hq
  rw [List.nil_append] at h1
  refine h1.1.next (x := x) (by omega) ?_ (Nat.le_trans symsG_len (h.ok.len q x hx).2)
  have key : ∀ (ws : List Sym) (st : List ASt) (u : ASt), OkS g st → st[q]? = some u → ∀ y, (ws.foldl (arcS g q) st)[q]? = some y → y.items = u.items := by
    intro ws
    induction ws with
    | nil => intro st u _ hu y hy; rw [List.foldl_nil, hu] at hy; cases hy; rfl
    | cons w ws ih =>
      intro st u hok hu y hy
      obtain ⟨k1, _, _, v, k2, k3⟩ := arcS_ok hg.good hg.names hg.prods hok (z := w) hu hq2
      rw [List.foldl_cons] at hy
      rw [ih _ v k1 k2 y hy, k3]
  exact key _ st x h.ok hx
theorem build_aut {g : GD} (hg : GoodL g) : ∀ (f q : Nat) {st st' : List ASt}, AutQ g q [] st → buildF g f q st = some st' → ∃ q', st'.length ≤ q' ∧ q' ≤ q + f ∧ AutQ g q' [] st'
  | 0, _, _, _, _, h => by simp [buildF] at h
  | f + 1, q, st, st', h, hb => by
    rw [buildF] at hb
    split at hb
    · rename_i hl
      split at hb
      · cases hb
      · rename_i hq
        obtain ⟨q', h1, h2, h3⟩ := build_aut hg f (q + 1) (h.row hg hl (by omega)) hb
        exact ⟨q', h1, by omega, h3⟩
    · cases hb
      exact ⟨q, by omega, by omega, h⟩
structure Aut (g : GD) (st : List ASt) : Prop where
  good : GoodL g
  ok : OkS g st
  p : OkP st
  shape : ∀ (k : Nat) (x : ASt), st[k]? = some x → x.items = closG g x.kernel
  first : ∃ x, st[0]? = some x ∧ x.kernel = [⟨-1, 0⟩] ∧ x.frm = 0
  arcs : ∀ (k : Nat) (x : ASt), st[k]? = some x → x.arcs.map Arc.sym = symsG g x.items
  to : ∀ (k : Nat) (x : ASt) (a : Arc), st[k]? = some x → a ∈ x.arcs → ∃ (j : Nat) (y : ASt), a.to = (j : Nat) ∧ st[j]? = some y ∧ y.kernel = overG g a.sym x.items ∧ y.frm ≤ ((k : Nat) : Int)
  frm : ∀ (k : Nat) (x : ASt), st[k]? = some x → k ≠ 0 → ∃ (m : Nat) (y : ASt), x.frm = (m : Nat) ∧ m < k ∧ st[m]? = some y ∧ (⟨x.sym, (k : Nat)⟩ : Arc) ∈ y.arcs ∧ x.kernel = overG g x.sym y.items
  mono : ∀ (j k : Nat) (x y : ASt), j ≤ k → st[j]? = some x → st[k]? = some y → x.frm ≤ y.frm
  apart : ∀ (j k : Nat) (x y : ASt), j < k → st[j]? = some x → st[k]? = some y → x.kernel ≠ y.kernel
  big : st.length ≤ 100000000000
  few : st.length ≤ 1025
theorem Aut.of {g : GD} {st : List ASt} (hc : (checkE g).1 = 0) (hb : buildG g = some st) : Aut g st := by
  have hg := GoodL.of hc
  obtain ⟨q, h1, h2, h⟩ := build_aut hg 1025 0 (st' := st) (AutQ.start hg) hb
  refine ⟨hg, h.ok, h.p, h.shape, h.first, fun k x hx => ?_, h.to, h.frm, h.mono, h.apart, ?_, by omega⟩
  · have := (List.getElem?_eq_some_iff.1 hx).1
    exact h.done k x (by omega) hx
  · have := h.big
    simp only [List.length_nil] at this; omega
theorem Aut.lens {g : GD} {st : List ASt} (h : Aut g st) (x : ASt) (hx : x ∈ st) : x.items.length ≤ 67240962 ∧ x.arcs.length ≤ 67240962 := by
  obtain ⟨k, hk⟩ := List.mem_iff_getElem?.1 hx
  have h1 := (h.ok.len k x hk).2
  have h2 := congrArg List.length (h.arcs k x hk)
  rw [List.length_map] at h2
  have h3 := symsG_len (g := g) (l := x.items)
  omega
mutual
theorem TwL.len {B : Nat} {w : World} : ∀ {l l' : List EX}, TwL B w l l' → l'.length = l.length
  | [], l', h => by
    have h : l' = [] := h
    rw [h]
  | x :: l, l', h => by
    obtain ⟨y, r, rfl, _, h3⟩ := h
    rw [List.length_cons, List.length_cons, TwL.len h3]
end
mutual
theorem TwR.exr {B : Nat} {w w0 : World} : ∀ {e e' : EX}, ExR w0 e → TwR B w e e' → ExR w e'
  | .mk k a b m n A c l, .mk k' a' b' m' n' A' c' l', hE, h => by
    simp only [TwR, ExR, EX.list, EX.A, EX.c] at hE h ⊢
    obtain ⟨_, h1, h2, h3⟩ := h
    have hl := TwL.len h3
    refine ⟨?_, ?_, TwL.exr hE.2.2 h3⟩
    · cases l with
      | nil =>
        have h3 : l' = [] := h3
        rw [(h1 rfl).1, h3]; rfl
      | cons x l =>
        obtain ⟨_, g, rfl, _, _, h7⟩ := h2 (by simp)
        rw [List.flatMap_append] at h7
        exact ⟨fun _ => rfl, (cellsL_app h7).1⟩
    · have hf := hE.2.1
      cases l with
      | nil => rw [hl, (h1 rfl).2]; exact ⟨by simp, by simp⟩
      | cons x l => rw [hl, (h2 (by simp)).1]; exact ⟨Nat.le_succ _, hf.2⟩
theorem TwL.exr {B : Nat} {w w0 : World} : ∀ {l l' : List EX}, ExRL w0 l → TwL B w l l' → ExRL w l'
  | [], l', _, h => by
    have h : l' = [] := h
    rw [h]; trivial
  | x :: l, l', hE, h => by
    obtain ⟨y, r, rfl, h2, h3⟩ := h
    exact ⟨TwR.exr hE.1 h2, TwL.exr hE.2 h3⟩
end
section
variable {B : Nat} {w w0 : World} {s s' : SP}
theorem LendR.spr (h : LendR B w s s') (hS : SpR w s) : SpR w s' := by
  refine ⟨?_, ?_, ?_, fun y hy => ?_, fun y hy => ?_, ?_, ?_, ?_, fun y hy => ?_⟩
  · have h9 := (Own.takeD LR.len (by decide) h.lexO (Nat.le_succ _)).rowO
    rw [← h.lexL, List.take_left] at h9; exact h9
  · have h9 := (Own.takeD strs_len (by decide) h.namesO (Nat.le_succ _)).rowO
    rw [List.take_left] at h9; rw [h.names]; exact h9
  · have h9 := (Own.takeD PD.len (by decide) h.prodsO (Nat.le_succ _)).rowO
    rw [← h.prodsL, List.take_left] at h9; exact h9
  · obtain ⟨j, x, hx, hy⟩ := pair_mem h.lexL hy
    have hE := hS.ex _ (List.mem_of_getElem? hx)
    rcases (h.lexR j x y hx hy).2.2 with ⟨_, e⟩ | ⟨_, h9⟩
    · rw [e]; exact hE
    · exact h9.exr hE
  · obtain ⟨j, x, hx, hy⟩ := pair_mem h.prodsL hy
    have hj := (List.getElem?_eq_some_iff.1 hx).1
    have hp := h.prodsR.all j x y hj hx hy
    have h9 := (Own.takeD Sym.len (by decide) hp.own (Nat.le_succ _)).rowO
    rw [List.take_left] at h9
    rw [hp.right]; exact h9
  · rw [h.lexL, h.lexC]; exact ⟨Nat.le_succ _, hS.fl.2⟩
  · rw [h.names, h.namesC]; exact ⟨Nat.le_succ _, hS.fn.2⟩
  · rw [h.prodsL, h.prodsC]; exact ⟨Nat.le_succ _, hS.fp.2⟩
  · obtain ⟨j, x, hx, hy⟩ := pair_mem h.prodsL hy
    have hj := (List.getElem?_eq_some_iff.1 hx).1
    have hp := h.prodsR.all j x y hj hx hy
    rw [hp.right, hp.rc]; exact ⟨Nat.le_succ _, (hS.fr _ (List.mem_of_getElem? hx)).2⟩
theorem LendR.g (h : LendR B w s s') : s'.g = s.g := by
  unfold SP.g
  rw [h.names, h.start, map_pair (f := LR.trivia) h.lexL fun j x y hx hy => (h.lexR j x y hx hy).2.1, map_pair (f := PD.d) h.prodsL fun j x y hx hy => by
    have hr := h.prodsR.all j x y (List.getElem?_eq_some_iff.1 hx).1 hx hy
    unfold PD.d; rw [hr.left, hr.right]]
end
theorem StF.keepC {B : Nat} {K : Nat → Prop} {w w' : World} {l : List StD} (h : StF B w l) (c : Chg K w w') (hk : ∀ b, B ≤ b → b < w.heap.size → ¬ K b) : StF B w' l :=
  ⟨fun x hx => have q := h.all x hx; ⟨q.items.keep c fun k h1 h2 => hk k (q.lowI k h1) (q.items.lt k h1) h2, q.lowI, q.arcs.keep c fun k h1 h2 => hk k (q.lowA k h1) (q.arcs.lt k h1) h2, q.lowA⟩, h.apart⟩
theorem AutR.keepC {B : Nat} {K : Nat → Prop} {w w' : World} {s : SP} {ba : Nat} {sA : Option Addr} {sc : Nat} {sts : List StD} (h : AutR B w s ba sA sc sts) (c : Chg K w w') (hk : ∀ b, B ≤ b → b < w.heap.size → ¬ K b) : AutR B w' s ba sA sc sts :=
  ⟨h.lowb, h.ba.keep c (hk ba h.lowb h.ba.lt), h.st.keep c fun k h1 h2 => hk k (h.low k h1) (h.st.lt k h1) h2, h.low, h.F.keepC c hk⟩
structure AutX (B : Nat) (w : World) (s0 : SP) (ba : Nat) (st : List ASt) : Prop where
  ex : ∃ s sA sc sts, sts.map StD.d = st ∧ OwnS B w s0 s ∧ AutR B w s ba sA sc sts
  aut : Aut s0.g st
theorem AutX.keepC {B : Nat} {K : Nat → Prop} {w w' : World} {s0 : SP} {ba : Nat} {st : List ASt} (h : AutX B w s0 ba st) (c : Chg K w w') (hk : ∀ b, B ≤ b → b < w.heap.size → ¬ K b) : AutX B w' s0 ba st := by
  obtain ⟨⟨s, sA, sc, sts, h1, h2, h3⟩, h4⟩ := h
  exact ⟨⟨s, sA, sc, sts, h1, h2.keepC c hk, h3.keepC c hk⟩, h4⟩
theorem AutX.ext {B : Nat} {w w' : World} {s0 : SP} {ba : Nat} {st : List ASt} (h : AutX B w s0 ba st) (c : Ext w w') : AutX B w' s0 ba st := h.keepC c fun _ _ _ hk => hk
section
variable {g : GD} {sts : List StD} (ha : Aut g (sts.map StD.d))
include ha
theorem lens_d (x : StD) (hx : x ∈ sts) : x.items.length ≤ 67240962 ∧ x.arcs.length ≤ 67240962 := ha.lens x.d (List.mem_map_of_mem hx)
theorem big_d : sts.length ≤ 100000000000 := by have := ha.big; rw [List.length_map] at this; exact this
theorem kern_d (x : StD) (hx : x ∈ sts) : 0 ≤ x.kern ∧ x.kern ≤ (x.items.length : Int) := ha.p.kern x.d (List.mem_map_of_mem hx)
theorem frm_d (k : Nat) (x : StD) (hx : sts[k]? = some x) (hk : k ≠ 0) : 0 ≤ x.frm ∧ x.frm < (k : Int) := ha.p.frm k x.d (map_get hx) hk
end
def builtG (g : GD) : Option (List ASt) := if (checkE g).1 = 0 then buildG g else none
theorem autx_len {B : Nat} {w : World} {s0 : SP} {ba : Nat} {st : List ASt} (h : AutX B w s0 ba st)   : Calls Tryz.prog 23 #[.pointer (some ⟨ba, 0, none⟩)] w (Ret (fun v w' => v = .int .i64 (st.length : Nat) ∧ Ext w w')) := by
  obtain ⟨⟨s, sA, sc, sts, rfl, hO, hA⟩, ha⟩ := h
  refine ret_mono (len_calls s ba sA sc sts B  w hA.ba hA.st hA.F (lens_d ha) (big_d ha)) ?_
  rintro v w' ⟨rfl, h⟩
  exact ⟨by rw [List.length_map], h⟩
theorem autx_items {B : Nat} {w : World} {s0 : SP} {ba : Nat} {st : List ASt} (h : AutX B w s0 ba st) (i : Int)  : Calls Tryz.prog 15 #[.pointer (some ⟨ba, 0, none⟩), .int .i64 i] w (Ret (fun v w' => ∃ A' c', v = .slice A' (itemsS st i).length c' ∧ NewRow w w' 42 2 Itm.cs (itemsS st i) A' c' ∧ Ext w w')) := by
  obtain ⟨⟨s, sA, sc, sts, rfl, hO, hA⟩, ha⟩ := h
  refine ret_mono (items_calls s ba sA sc sts B i w hA.ba hA.st hA.F (lens_d ha) (big_d ha)) ?_
  rintro v w' ⟨A', c', rfl, h1, h2⟩
  rw [← itemsA_d]
  exact ⟨A', c', rfl, h1, h2⟩
theorem autx_kern {B : Nat} {w : World} {s0 : SP} {ba : Nat} {st : List ASt} (h : AutX B w s0 ba st) (i : Int)  : Calls Tryz.prog 25 #[.pointer (some ⟨ba, 0, none⟩), .int .i64 i] w (Ret (fun v w' => ∃ A' c', v = .slice A' (kernS st i).length c' ∧ NewRow w w' 42 2 Itm.cs (kernS st i) A' c' ∧ Ext w w')) := by
  obtain ⟨⟨s, sA, sc, sts, rfl, hO, hA⟩, ha⟩ := h
  refine ret_mono (kernel_calls s ba sA sc sts B i w hA.ba hA.st hA.F (lens_d ha) (big_d ha) (kern_d ha)) ?_
  rintro v w' ⟨A', c', rfl, h1, h2⟩
  rw [← kernA_d]
  exact ⟨A', c', rfl, h1, h2⟩
theorem autx_path {B : Nat} {w : World} {s0 : SP} {ba : Nat} {st : List ASt} (h : AutX B w s0 ba st) (i : Int)  : Calls Tryz.prog 24 #[.pointer (some ⟨ba, 0, none⟩), .int .i64 i] w (Ret (fun v w' => ∃ A' c', v = .slice A' (pathS st i).length c' ∧ NewRow w w' 32 2 Sym.cs (pathS st i) A' c' ∧ Ext w w')) := by
  obtain ⟨⟨s, sA, sc, sts, rfl, hO, hA⟩, ha⟩ := h
  refine ret_mono (path_calls s ba sA sc sts B i w hA.ba hA.st hA.F (lens_d ha) (big_d ha) (frm_d ha)) ?_
  rintro v w' ⟨A', c', rfl, h1, h2⟩
  rw [← pathA_d (frm_d ha)]
  exact ⟨A', c', rfl, h1, h2⟩
theorem autx_go {B : Nat} {w : World} {s0 : SP} {ba : Nat} {st : List ASt} (h : AutX B w s0 ba st) (i : Int) (z : Sym)  : Calls Tryz.prog 19 #[.pointer (some ⟨ba, 0, none⟩), .int .i64 i, .agg #[.int .i64 z.kind, .int .i64 z.n]] w (Ret (fun v w' => v = .int .i64 (goS st i z) ∧ Ext w w')) := by
  obtain ⟨⟨s, sA, sc, sts, rfl, hO, hA⟩, ha⟩ := h
  refine ret_mono (go_calls s ba sA sc sts B i z w hA.ba hA.st hA.F (lens_d ha) (big_d ha)) ?_
  rintro v w' ⟨rfl, h⟩
  rw [← goA_d]
  exact ⟨rfl, h⟩
theorem autx_run {B : Nat} {w : World} {s0 : SP} {ba : Nat} {st : List ASt} (h : AutX B w s0 ba st) (l : List Sym) (A : Option Addr) (c : Nat) (hR : RowA w A (l.flatMap Sym.cs)) (hn : l.length ≤ 8796093022208) : Calls Tryz.prog 13 #[.pointer (some ⟨ba, 0, none⟩), .slice A l.length c] w (Ret (fun v w' => v = .int .i64 (runS st 0 l) ∧ Ext w w')) := by
  obtain ⟨⟨s, sA, sc, sts, rfl, hO, hA⟩, ha⟩ := h
  refine ret_mono (run_calls s ba sA sc sts B l A c w hA.ba hA.st hA.F (lens_d ha) (big_d ha) hR hn) ?_
  rintro v w' ⟨rfl, h⟩
  rw [← runA_d]
  exact ⟨rfl, h⟩
theorem autx_sym {B : Nat} {w : World} {s0 : SP} {ba : Nat} {st : List ASt} (h : AutX B w s0 ba st) (i : Int)  : Calls Tryz.prog 29 #[.pointer (some ⟨ba, 0, none⟩), .int .i64 i] w (Ret (fun v w' => v = .tuple #[.agg #[.int .i64 (symS st i).1.kind, .int .i64 (symS st i).1.n], .bool (symS st i).2] ∧ Ext w w')) := by
  obtain ⟨⟨s, sA, sc, sts, rfl, hO, hA⟩, ha⟩ := h
  refine ret_mono (symbol_calls2 s ba sA sc sts B i w hA.ba hA.st hA.F (lens_d ha) (big_d ha)) ?_
  rintro v w' ⟨rfl, h⟩
  rw [← symA_d]
  exact ⟨rfl, h⟩
theorem TwR.flds {B : Nat} {w : World} {e d : EX} (h : TwR B w e d) : d.kind = e.kind ∧ d.frm = e.frm ∧ d.to = e.to ∧ d.min = e.min ∧ d.max = e.max := by
  cases e with
  | mk k a b m n A c l => simp only [TwR] at h; exact h.1
theorem TwR.lst {B : Nat} {w : World} {e d : EX} (h : TwR B w e d) : TwL B w e.list d.list := by
  cases e with
  | mk k a b m n A c l => simp only [TwR] at h; exact h.2.2.2
theorem TwR.nod {B : Nat} {w : World} {e d : EX} (h : TwR B w e d) (hn : e.list ≠ []) : d.c = e.list.length + 1 ∧ RowA w d.A ((d.list ++ [exMark]).flatMap EX.cs) := by
  cases e with
  | mk k a b m n A c l =>
    simp only [TwR] at h
    obtain ⟨h1, g, h2, _, _, h5⟩ := h.2.2.1 hn
    refine ⟨h1, ?_⟩
    rw [h2]
    exact ⟨fun _ => rfl, h5⟩
theorem TwL.at {B : Nat} {w : World} : ∀ {l l' : List EX}, TwL B w l l' → ∀ {i : Nat} {x u : EX}, l[i]? = some x → l'[i]? = some u → TwR B w x u
  | [], _, _, i, x, u, hx, _ => by simp at hx
  | a :: l, l', h, i, x, u, hx, hu => by
    obtain ⟨y, r, rfl, h2, h3⟩ := h
    cases i with
    | zero => simp only [List.getElem?_cons_zero, Option.some.injEq] at hx hu; subst hx hu; exact h2
    | succ i => simp only [List.getElem?_cons_succ] at hx hu; exact TwL.at h3 hx hu
instance pf_102 : PlF Tryz.prog 102 := ⟨by kernel_rfl⟩
instance tF_64_0 : FdT Tryz.prog 64 0 0 := ⟨by kernel_rfl⟩
instance tF_64_1 : FdT Tryz.prog 64 1 1 := ⟨by kernel_rfl⟩
instance tF_64_2 : FdT Tryz.prog 64 2 2 := ⟨by kernel_rfl⟩
instance tF_64_3 : FdT Tryz.prog 64 3 3 := ⟨by kernel_rfl⟩
instance tF_64_4 : FdT Tryz.prog 64 4 4 := ⟨by kernel_rfl⟩
theorem kept_step (B : Nat) (e d : EX) (ih : ∀ (x u : EX) (w : World), exN x < exN e → TwR B w x u → ExR w x → Calls Tryz.prog 102 #[(.agg #[(.int .i64 u.kind), (.int .i64 u.frm), (.int .i64 u.to), (.int .i64 u.min), (.int .i64 u.max), (.slice u.A u.list.length u.c)]), (.agg #[(.int .i64 x.kind), (.int .i64 x.frm), (.int .i64 x.to), (.int .i64 x.min), (.int .i64 x.max), (.slice x.A x.list.length x.c)])] w (Ret fun v w' => v = .bool true ∧ Ext w w')) (w : World) (hT : TwR B w e d) (hE : ExR w e) :
    Calls Tryz.prog 102 #[(.agg #[(.int .i64 d.kind), (.int .i64 d.frm), (.int .i64 d.to), (.int .i64 d.min), (.int .i64 d.max), (.slice d.A d.list.length d.c)]), (.agg #[(.int .i64 e.kind), (.int .i64 e.frm), (.int .i64 e.to), (.int .i64 e.min), (.int .i64 e.max), (.slice e.A e.list.length e.c)])] w (Ret (fun v w' => v = .bool true ∧ Ext w w')) := by
 have hby := hE.row.2.1.by
 obtain ⟨hf1, hf2, hf3, hf4, hf5⟩ := TwR.flds hT
 have hTL := TwR.lst hT
 have hTl := TwL.len hTL
 have hTn := TwR.nod hT
 refine calls_y (n := 82) Tryz.func102 ?_
 refine go ?_
 refine y_bx ?_
 intro w1 e1 z1 b1
 refine y_bx ?_
 intro w2 e2 z2 b2
 refine go ?_
 refine y_ld (b1.ext e2) ?_
 refine go ?_
 refine y_ld b2 ?_
 refine go ?_
 refine ysL (s := 13) (bF (decide_eq_false (by omega))) ?_
 refine go ?_
 refine y_ld (b1.ext e2) ?_
 refine go ?_
 refine y_ld b2 ?_
 refine go ?_
 refine ysL (s := 20) (bF (decide_eq_false (by omega))) ?_
 refine go ?_
 refine y_ld (b1.ext e2) ?_
 refine go ?_
 refine y_ld b2 ?_
 refine go ?_
 refine ysL (s := 27) (bF (decide_eq_false (by omega))) ?_
 refine go ?_
 refine y_ld (b1.ext e2) ?_
 refine go ?_
 refine y_ld b2 ?_
 refine go ?_
 refine ysL (s := 34) (bF (decide_eq_false (by omega))) ?_
 refine go ?_
 refine y_ld (b1.ext e2) ?_
 refine go ?_
 refine y_ld b2 ?_
 refine go ?_
 refine ysL (s := 41) (bF (decide_eq_false (by omega))) ?_
 refine go ?_
 refine y_ld (b1.ext e2) ?_
 refine go ?_
 refine y_ld b2 ?_
 refine go ?_
 refine ysC (s := 49) (bF (decide_eq_false (by omega))) ?_
 refine go ?_
 refine y_ld b2 ?_
 refine go ?_
 refine y_if (fun h1 => ?_) (fun h1 => ?_)
 ·
  refine go ?_
  refine y_r1 ?_
  have x1 : Ext w w2 := (Ext.trans e1 e2)
  exact ⟨rfl, x1⟩
 ·
  have hnn : e.list ≠ [] := fun h9 => by rw [h9] at h1; simp at h1
  obtain ⟨hdc, hdr⟩ := hTn hnn
  refine go ?_
  refine y_ld (b1.ext e2) ?_
  refine go ?_
  refine y_add ?_
  refine yOp (ox_sliceToN (A := d.A) (cp := d.c) (i := (((e.list.length : Nat) : Int) + 1)) ((e.list.length + 1)) tE_62.h rfl rfl (by omega) (by omega) (by omega) ?_)
  have x2 : Ext w w2 := (Ext.trans e1 e2)
  obtain ⟨x_1, g_1, o_1, hx_1⟩ := row_may (A := d.A) (cs := EX.cs) e.list.length EX.len (by decide) (RowA.ext hdr x2)
  obtain ⟨hx_2, hA_1, hc_1⟩ := hx_1 oM
  have hxm : x_1 = exMark := by have h9 := hx_2; rw [List.getElem?_append_right (by omega), show e.list.length - d.list.length = 0 by omega] at h9; exact (Option.some.inj h9).symm
  refine go ?_
  refine y_ix e.list.length hA_1 ?_
  refine go ?_
  refine y_lc (CellsL.at1 hc_1 0 rfl) ?_
  refine go ?_
  refine ysC (s := 65) (bF (decide_eq_false (by rw [hxm]; decide))) ?_
  refine go ?_
  refine xc_loopN (fun m_ f_ Wx => ∃ (i : Nat), m_ = e.list.length - i ∧ (i ≤ e.list.length) ∧ f_ 3 = (.pointer (some ⟨w1.heap.size, 0, none⟩)) ∧ f_ 5 = (.int .i64 (((e.list.length : Nat) : Int))) ∧ f_ 6 = (.slice d.A ((e.list.length + 1)) d.c) ∧ f_ 7 = (.int .i64 ((i : Nat))) ∧ Ext w2 Wx) (e.list.length) ?_ ?_
  ·
   exact ⟨0, (by omega), (by omega), rfl, rfl, rfl, vW, (Chg.refl _ _)⟩
  ·
   rintro m_ f1 w3 ⟨i, hm_f1, hi, g3_f1, g5_f1, g6_f1, g7_f1, x3⟩
   have hx3 := x3.size
   rw [← usf g3_f1, ← usf g5_f1, ← usf g6_f1, ← usf g7_f1]
   refine go ?_
   refine y_if (fun h2 => ?_) (fun h2 => ?_)
   ·
    refine go ?_
    refine xc_regionE [] (fun W_ => Chg (fun _ => False) w3 W_) hmix ?_
    intro w4 e3 z3
    have hS1 : Chg (fun _ => False) w3 w4 := Ext.to e3
    refine yDp 0 ?_
    refine yDp 1 ?_
    have x4 : Ext w w3 := (Ext.trans x2 x3)
    obtain ⟨x_2, g_2, o_2, hx_3⟩ := row_may (A := d.A) (cs := EX.cs) i EX.len (by decide) (RowA.ext hdr x4)
    obtain ⟨hx_4, hA_2, hc_2⟩ := hx_3 oM
    have hdx : d.list[i]? = some x_2 := by have h9 := hx_4; rw [List.getElem?_append_left (by omega)] at h9; exact h9
    refine yDx (i := 2) i hA_2 ?_
    refine yDt (i := 3) rfl hS1 (fun W_ hW_ => ox_loadN (vs := [(.int .i64 x_2.kind), (.int .i64 x_2.frm), (.int .i64 x_2.to), (.int .i64 x_2.min), (.int .i64 x_2.max), (.slice x_2.A x_2.list.length x_2.c)]) tA_64.h tS_64.h rfl rfl (CellsL.keep hW_ not_false hc_2) ⟨rfl, rfl⟩) ?_
    refine yDp 4 ?_
    refine yDt (i := 5) rfl hS1 (fun W_ hW_ => ox_load tA_62.h rfl (((b2.ext x3).ext hW_).cell rfl) ⟨rfl, rfl⟩) ?_
    refine yDp 6 ?_
    obtain ⟨x_3, g_3, o_3, hx_5⟩ := row_may (A := e.A) (cs := EX.cs) i EX.len (by decide) (RowA.ext hE.row.1 x4)
    obtain ⟨hx_6, hA_3, hc_3⟩ := hx_5 oM
    refine yDx (i := 7) i hA_3 ?_
    refine yDt (i := 8) rfl hS1 (fun W_ hW_ => ox_loadN (vs := [(.int .i64 x_3.kind), (.int .i64 x_3.frm), (.int .i64 x_3.to), (.int .i64 x_3.min), (.int .i64 x_3.max), (.slice x_3.A x_3.list.length x_3.c)]) tA_64.h tS_64.h rfl rfl (CellsL.keep hW_ not_false hc_3) ⟨rfl, rfl⟩) ?_
    have x5 : Ext w w4 := (Ext.trans x4 e3)
    refine yD1 (i := 9) rfl (yCx (ret_mono (ih x_3 x_2 w4 (exN_mem (List.mem_of_getElem? hx_6)) ((TwL.at hTL hx_6 hdx).ext x5) ((hE.row.2.2 _ (List.mem_of_getElem? hx_6)).ext x5)) ?_))
    rintro _ w5 ⟨rfl, e4⟩
    have he4 := e4.size
    have hS2 : Chg (fun _ => False) w3 w5 := Chg.ext hS1 e4
    refine ⟨.inr fun _ => hS2, ?_⟩
    refine yDp 10 ?_
    refine xd_done (by kernel_rfl) ?_ _
    refine go ?_
    refine y_add ?_
    have x6 : Ext w2 w5 := (Ext.trans (Ext.trans x3 e3) e4)
    refine go ?_
    exact ⟨rfl, e.list.length - (i + 1), by omega, i + 1, by omega, (by omega), rfl, rfl, rfl, vW, x6⟩
   ·
    refine go ?_
    refine y_r1 ?_
    have x7 : Ext w w3 := (Ext.trans x2 x3)
    exact ⟨rfl, x7⟩
theorem kept_calls (B : Nat) (e d : EX) (w : World) (hT : TwR B w e d) (hE : ExR w e) : Calls Tryz.prog 102 #[(.agg #[(.int .i64 d.kind), (.int .i64 d.frm), (.int .i64 d.to), (.int .i64 d.min), (.int .i64 d.max), (.slice d.A d.list.length d.c)]), (.agg #[(.int .i64 e.kind), (.int .i64 e.frm), (.int .i64 e.to), (.int .i64 e.min), (.int .i64 e.max), (.slice e.A e.list.length e.c)])] w (Ret fun v w' => v = .bool true ∧ Ext w w') := by
  have key : ∀ n : Nat, ∀ e d : EX, exN e = n → ∀ w, TwR B w e d → ExR w e → Calls Tryz.prog 102 #[(.agg #[(.int .i64 d.kind), (.int .i64 d.frm), (.int .i64 d.to), (.int .i64 d.min), (.int .i64 d.max), (.slice d.A d.list.length d.c)]), (.agg #[(.int .i64 e.kind), (.int .i64 e.frm), (.int .i64 e.to), (.int .i64 e.min), (.int .i64 e.max), (.slice e.A e.list.length e.c)])] w (Ret fun v w' => v = .bool true ∧ Ext w w') := by
    intro n
    induction n using Nat.strongRecOn with
    | _ n ih => intro e d he w hT hE; exact kept_step B e d (fun x u w hx hX hY => ih (exN x) (by omega) x u rfl w hX hY) w hT hE
  exact key _ e d rfl w hT hE
theorem keptExpr_calls (B : Nat) (e d : EX) (w : World) (hX : TwX B w e d) (hE : ExR w e) :
    Calls Tryz.prog 68 #[(.agg #[(.int .i64 d.kind), (.int .i64 d.frm), (.int .i64 d.to), (.int .i64 d.min), (.int .i64 d.max), (.slice d.A d.list.length d.c)]), (.agg #[(.int .i64 e.kind), (.int .i64 e.frm), (.int .i64 e.to), (.int .i64 e.min), (.int .i64 e.max), (.slice e.A e.list.length e.c)])] w (Ret (fun v w' => v = .bool true ∧ Ext w w')) := by
 refine calls_y (n := 13) Tryz.func68 ?_
 refine go ?_
 refine y_bx ?_
 intro w1 e1 z1 b1
 refine y_bx ?_
 intro w2 e2 z2 b2
 refine go ?_
 refine y_lN (vs := [(.int .i64 e.kind), (.int .i64 e.frm), (.int .i64 e.to), (.int .i64 e.min), (.int .i64 e.max), (.slice e.A e.list.length e.c)]) ⟨b2.cell rfl, b2.cell rfl, b2.cell rfl, b2.cell rfl, b2.cell rfl, b2.cell rfl, trivial⟩ ?_
 have x1 : Ext w w2 := (Ext.trans e1 e2)
 refine yCa (ret_mono (flat_calls e w2 (hE.ext x1)) ?_)
 rintro _ w3 ⟨rfl, e3⟩
 have he3 := e3.size
 refine go ?_
 by_cases h1 : (!(flatE e)) = true
 ·
  refine ysL (s := 8) (bT h1) ?_
  refine go ?_
  refine y_r1 ?_
  have x2 : Ext w w3 := (Ext.trans x1 e3)
  exact ⟨rfl, x2⟩
 ·
  have hfl : flatE e = true := by revert h1; cases flatE e <;> simp
  have hTw := (hX.resolve_left (fun h9 => by rw [h9.1] at hfl; cases hfl)).2
  refine ysL (s := 8) (bF (Bool.eq_false_iff.2 h1)) ?_
  refine y_lN (vs := [(.int .i64 d.kind), (.int .i64 d.frm), (.int .i64 d.to), (.int .i64 d.min), (.int .i64 d.max), (.slice d.A d.list.length d.c)]) ⟨((b1.ext e2).ext e3).cell rfl, ((b1.ext e2).ext e3).cell rfl, ((b1.ext e2).ext e3).cell rfl, ((b1.ext e2).ext e3).cell rfl, ((b1.ext e2).ext e3).cell rfl, ((b1.ext e2).ext e3).cell rfl, trivial⟩ ?_
  refine y_lN (vs := [(.int .i64 e.kind), (.int .i64 e.frm), (.int .i64 e.to), (.int .i64 e.min), (.int .i64 e.max), (.slice e.A e.list.length e.c)]) ⟨(b2.ext e3).cell rfl, (b2.ext e3).cell rfl, (b2.ext e3).cell rfl, (b2.ext e3).cell rfl, (b2.ext e3).cell rfl, (b2.ext e3).cell rfl, trivial⟩ ?_
  have x3 : Ext w w3 := (Ext.trans x1 e3)
  refine yCa (ret_mono (kept_calls B e d w3 (hTw.ext x3) (hE.ext x3)) ?_)
  rintro _ w4 ⟨rfl, e4⟩
  have he4 := e4.size
  refine go ?_
  refine y_r1 ?_
  have x4 : Ext w w4 := (Ext.trans x3 e4)
  exact ⟨rfl, x4⟩
instance pf_68 : PlF Tryz.prog 68 := ⟨by kernel_rfl⟩
theorem keptSpec_calls (B : Nat) (s s1 : SP) (w : World) (hL : LendR B w s s1) (hS : SpR w s) :
    Calls Tryz.prog 38 #[(.agg #[(.slice s1.lA s1.lex.length s1.lc), (.slice s1.nA s1.names.length s1.nc), (.int .i64 s1.start), (.slice s1.pA s1.prods.length s1.pc)]), (.agg #[(.slice s.lA s.lex.length s.lc), (.slice s.nA s.names.length s.nc), (.int .i64 s.start), (.slice s.pA s.prods.length s.pc)])] w (Ret (fun v w' => v = .bool true ∧ Ext w w')) := by
 have hfp := hS.fp.by; have hfl := hS.fl.by; have hfn := hS.fn.by; have hb1 := hL.lexL; have hb2 := hL.lexC; have hb3 : s1.names.length = s.names.length := by rw [hL.names]
 have hb4 := hL.namesC; have hb5 := hL.start; have hb6 := hL.prodsL; have hb7 := hL.prodsC
 refine calls_y (n := 244) Tryz.func38 ?_
 refine go ?_
 refine y_bx ?_
 intro w1 e1 z1 b1
 refine y_bx ?_
 intro w2 e2 z2 b2
 refine go ?_
 refine y_ld (b1.ext e2) ?_
 refine go ?_
 refine y_ld b2 ?_
 refine go ?_
 refine ysL (s := 19) (bF (decide_eq_false (by omega))) ?_
 refine go ?_
 refine y_ld (b1.ext e2) ?_
 refine go ?_
 refine y_ld b2 ?_
 refine go ?_
 refine ysL (s := 28) (bF (decide_eq_false (by omega))) ?_
 refine go ?_
 refine y_ld (b1.ext e2) ?_
 refine go ?_
 refine y_ld b2 ?_
 refine go ?_
 refine ysL (s := 37) (bF (decide_eq_false (by omega))) ?_
 refine go ?_
 refine y_ld (b1.ext e2) ?_
 refine go ?_
 refine y_ld b2 ?_
 refine go ?_
 refine ysC (s := 45) (bF (decide_eq_false (by omega))) ?_
 refine go ?_
 refine y_ld (b1.ext e2) ?_
 refine go ?_
 refine y_ld b2 ?_
 refine go ?_
 refine y_add ?_
 refine yOp (ox_sliceToN (A := s1.lA) (cp := s1.lc) (i := (((s.lex.length : Nat) : Int) + 1)) ((s.lex.length + 1)) tE_22.h rfl rfl (by omega) (by omega) (by omega) ?_)
 refine go ?_
 refine y_ld (b1.ext e2) ?_
 refine go ?_
 refine y_ld b2 ?_
 refine go ?_
 refine y_add ?_
 refine yOp (ox_sliceToN (A := s1.nA) (cp := s1.nc) (i := (((s.names.length : Nat) : Int) + 1)) ((s.names.length + 1)) tE_23.h rfl rfl (by omega) (by omega) (by omega) ?_)
 refine go ?_
 refine y_ld (b1.ext e2) ?_
 refine go ?_
 refine y_ld b2 ?_
 refine go ?_
 refine y_add ?_
 refine yOp (ox_sliceToN (A := s1.pA) (cp := s1.pc) (i := (((s.prods.length : Nat) : Int) + 1)) ((s.prods.length + 1)) tE_24.h rfl rfl (by omega) (by omega) (by omega) ?_)
 refine go ?_
 refine y_ld b2 ?_
 have x1 : Ext w w2 := (Ext.trans e1 e2)
 obtain ⟨x_1, g_1, o_1, hx_1⟩ := row_may (A := s1.lA) (cs := LR.cs) s.lex.length LR.len (by decide) (RowA.ext ((Own.rowO hL.lexO)) x1)
 obtain ⟨hx_2, hA_1, hc_1⟩ := hx_1 oM
 have hmk1 : x_1 = lrMark := by have h9 := hx_2; rw [List.getElem?_append_right (by omega), show s.lex.length - s1.lex.length = 0 by omega] at h9; exact (Option.some.inj h9).symm
 refine go ?_
 refine y_ix s.lex.length hA_1 ?_
 refine go ?_
 refine y_lc (CellsL.at1 hc_1 0 rfl) ?_
 refine yOp (ox_eqlStr (a := x_1.name) (b := (⟨#[109, 97, 114, 107]⟩)) tU_9 rfl rfl ?_)
 refine go ?_
 refine ysL (s := 75) (bT (decide_eq_true (by rw [hmk1] <;> rfl))) ?_
 refine go ?_
 refine y_ld b2 ?_
 obtain ⟨x_2, g_2, o_2, hx_3⟩ := row_may (A := s1.nA) (cs := strs) s.names.length strs_len (by decide) (RowA.ext ((Own.rowO hL.namesO)) x1)
 obtain ⟨hx_4, hA_2, hc_2⟩ := hx_3 oM
 have hmk2 : x_2 = ⟨#[109, 97, 114, 107]⟩ := by have h9 := hx_4; rw [List.getElem?_append_right (by omega), show s.names.length - s.names.length = 0 by omega] at h9; exact (Option.some.inj h9).symm
 refine go ?_
 refine y_ix s.names.length hA_2 ?_
 refine y_lc (CellsL.at1 hc_2 0 rfl) ?_
 refine yOp (ox_eqlStr (a := x_2) (b := (⟨#[109, 97, 114, 107]⟩)) tU_9 rfl rfl ?_)
 refine go ?_
 refine ysL (s := 84) (bT (decide_eq_true (by rw [hmk2] <;> rfl))) ?_
 refine go ?_
 refine y_ld b2 ?_
 obtain ⟨x_3, g_3, o_3, hx_5⟩ := row_may (A := s1.pA) (cs := PD.cs) s.prods.length PD.len (by decide) (RowA.ext ((Own.rowO hL.prodsO)) x1)
 obtain ⟨hx_6, hA_3, hc_3⟩ := hx_5 oM
 have hmk3 : x_3 = pdMark := by have h9 := hx_6; rw [List.getElem?_append_right (by omega), show s.prods.length - s1.prods.length = 0 by omega] at h9; exact (Option.some.inj h9).symm
 refine go ?_
 refine y_ix s.prods.length hA_3 ?_
 refine go ?_
 refine y_lc (CellsL.at1 hc_3 0 rfl) ?_
 refine go ?_
 refine xc_loopN (fun m_ f_ Wx => ∃ (i : Nat) (ok : Bool), m_ = s.lex.length - i ∧ (i ≤ s.lex.length) ∧ (ok = true) ∧ f_ 3 = (.pointer (some ⟨w1.heap.size, 0, none⟩)) ∧ f_ 4 = (.bool false) ∧ f_ 5 = (.slice s1.lA ((s.lex.length + 1)) s1.lc) ∧ f_ 6 = (.slice s1.nA ((s.names.length + 1)) s1.nc) ∧ f_ 7 = (.slice s1.pA ((s.prods.length + 1)) s1.pc) ∧ f_ 9 = (.int .i64 ((i : Nat))) ∧ f_ 8 = (.bool ok) ∧ Ext w2 Wx) (s.lex.length) ?_ ?_
 ·
  exact ⟨0, ((decide ((x_3.left : Int) = (-77)))), (by omega), (by omega), (decide_eq_true (by rw [hmk3] <;> rfl)), rfl, rfl, rfl, rfl, rfl, vW, rfl, (Chg.refl _ _)⟩
 ·
  rintro m_ f1 w3 ⟨i, ok, hm_f1, hi, hok, g3_f1, g4_f1, g5_f1, g6_f1, g7_f1, g9_f1, g8_f1, x2⟩
  have hx2 := x2.size
  rw [← usf g3_f1, ← usf g4_f1, ← usf g5_f1, ← usf g6_f1, ← usf g7_f1, ← usf g9_f1, ← usf g8_f1]
  refine go ?_
  refine y_ld (b2.ext x2) ?_
  refine go ?_
  refine y_if (fun h1 => ?_) (fun h1 => ?_)
  ·
   have x3 : Ext w w3 := (Ext.trans x1 x2)
   obtain ⟨x_4, g_4, o_4, hx_7⟩ := row_may (A := s1.lA) (cs := LR.cs) i LR.len (by decide) (RowA.ext ((Own.rowO hL.lexO)) x3)
   obtain ⟨hx_8, hA_4, hc_4⟩ := hx_7 oM
   obtain ⟨x_5, g_5, o_5, hx_9⟩ := row_may (A := s.lA) (cs := LR.cs) i LR.len (by decide) (RowA.ext hS.lex x3)
   obtain ⟨hx_10, hA_5, hc_5⟩ := hx_9 oM
   have hx1 : s1.lex[i]? = some x_4 := by have h9 := hx_8; rw [List.getElem?_append_left (by omega)] at h9; exact h9
   obtain ⟨hn1, hn2, hn3⟩ := hL.lexR i _ _ hx_10 hx1
   refine go ?_
   refine xc_regionE [] (fun W_ => Chg (fun _ => False) w3 W_) hmix ?_
   intro w4 e3 z3
   have hS1 : Chg (fun _ => False) w3 w4 := Ext.to e3
   refine yDp 0 ?_
   refine yDp 1 ?_
   refine ysD (s := 102) (bT hok) ?_
   refine yDp 2 ?_
   refine yDp 3 ?_
   refine yDx (i := 4) i hA_4 ?_
   refine yDp 5 ?_
   refine yDt (i := 6) rfl hS1 (fun W_ hW_ => ox_load tA_9.h rfl (CellsL.at1 (CellsL.keep hW_ not_false hc_4) 0 rfl) ⟨rfl, rfl⟩) ?_
   refine yDp 7 ?_
   refine yDt (i := 8) rfl hS1 (fun W_ hW_ => ox_load tA_22.h rfl (((b2.ext x2).ext hW_).cell rfl) ⟨rfl, rfl⟩) ?_
   refine yDp 9 ?_
   refine yDx (i := 10) i hA_5 ?_
   refine yDp 11 ?_
   refine yDt (i := 12) rfl hS1 (fun W_ hW_ => ox_load tA_9.h rfl (CellsL.at1 (CellsL.keep hW_ not_false hc_5) 0 rfl) ⟨rfl, rfl⟩) ?_
   refine yDq (i := 13) rfl (fun W_ hW_ => ox_eqlStr (a := x_4.name) (b := x_5.name) tU_9 rfl rfl ⟨rfl, rfl⟩) ?_
   refine yDp 14 ?_
   refine yDp 15 ?_
   refine ysD (s := 116) (bT (decide_eq_true hn1)) ?_
   refine yDp 16 ?_
   refine yDp 17 ?_
   refine yDx (i := 18) i hA_4 ?_
   refine yDp 19 ?_
   refine yDt (i := 20) rfl hS1 (fun W_ hW_ => ox_load tA_4.h rfl (CellsL.at1 (CellsL.keep hW_ not_false hc_4) 1 rfl) ⟨rfl, rfl⟩) ?_
   refine yDp 21 ?_
   refine yDt (i := 22) rfl hS1 (fun W_ hW_ => ox_load tA_22.h rfl (((b2.ext x2).ext hW_).cell rfl) ⟨rfl, rfl⟩) ?_
   refine yDp 23 ?_
   refine yDx (i := 24) i hA_5 ?_
   refine yDp 25 ?_
   refine yDt (i := 26) rfl hS1 (fun W_ hW_ => ox_load tA_4.h rfl (CellsL.at1 (CellsL.keep hW_ not_false hc_5) 1 rfl) ⟨rfl, rfl⟩) ?_
   refine yDq (i := 27) rfl (fun W_ hW_ => ox_eqlBool (a := x_4.trivia) (b := x_5.trivia) tU_4 rfl rfl ⟨rfl, rfl⟩) ?_
   refine yDp 28 ?_
   refine yDp 29 ?_
   refine ysD (s := 130) (bT (decide_eq_true hn2)) ?_
   refine yDp 30 ?_
   refine yDp 31 ?_
   refine yDx (i := 32) i hA_4 ?_
   refine yDp 33 ?_
   refine yDt (i := 34) rfl hS1 (fun W_ hW_ => ox_loadN (vs := [(.int .i64 x_4.e.kind), (.int .i64 x_4.e.frm), (.int .i64 x_4.e.to), (.int .i64 x_4.e.min), (.int .i64 x_4.e.max), (.slice x_4.e.A x_4.e.list.length x_4.e.c)]) tA_64.h tS_64.h rfl rfl (CellsL.sub (CellsL.keep hW_ not_false hc_4) 2 6 rfl) ⟨rfl, rfl⟩) ?_
   refine yDp 35 ?_
   refine yDt (i := 36) rfl hS1 (fun W_ hW_ => ox_load tA_22.h rfl (((b2.ext x2).ext hW_).cell rfl) ⟨rfl, rfl⟩) ?_
   refine yDp 37 ?_
   refine yDx (i := 38) i hA_5 ?_
   refine yDp 39 ?_
   refine yDt (i := 40) rfl hS1 (fun W_ hW_ => ox_loadN (vs := [(.int .i64 x_5.e.kind), (.int .i64 x_5.e.frm), (.int .i64 x_5.e.to), (.int .i64 x_5.e.min), (.int .i64 x_5.e.max), (.slice x_5.e.A x_5.e.list.length x_5.e.c)]) tA_64.h tS_64.h rfl rfl (CellsL.sub (CellsL.keep hW_ not_false hc_5) 2 6 rfl) ⟨rfl, rfl⟩) ?_
   have x4 : Ext w w4 := (Ext.trans x3 e3)
   refine xd_oneW 41 (some 142) rfl rfl (by kernel_rfl) rfl (ox_callE (al := [(.agg #[(.int .i64 x_4.e.kind), (.int .i64 x_4.e.frm), (.int .i64 x_4.e.to), (.int .i64 x_4.e.min), (.int .i64 x_4.e.max), (.slice x_4.e.A x_4.e.list.length x_4.e.c)]), (.agg #[(.int .i64 x_5.e.kind), (.int .i64 x_5.e.frm), (.int .i64 x_5.e.to), (.int .i64 x_5.e.min), (.int .i64 x_5.e.max), (.slice x_5.e.A x_5.e.list.length x_5.e.c)])]) pf_68.h rfl (ret_mono (keptExpr_calls B x_5.e x_4.e w4 (hn3.ext x4) ((hS.ex _ (List.mem_of_getElem? hx_10)).ext x4)) ?_))
   rintro _ w5 ⟨rfl, e4⟩
   have he4 := e4.size
   have hS2 : Chg (fun _ => False) w3 w5 := Chg.ext hS1 e4
   refine ⟨.inr fun _ => hS2, ?_⟩
   refine yDp 42 ?_
   refine yDp 43 ?_
   refine xd_done (by kernel_rfl) ?_ _
   refine go ?_
   refine y_add ?_
   have x5 : Ext w2 w5 := (Ext.trans (Ext.trans x2 e3) e4)
   refine go ?_
   exact ⟨rfl, s.lex.length - (i + 1), by omega, i + 1, true, by omega, (by omega), rfl, rfl, rfl, rfl, rfl, rfl, vW, rfl, x5⟩
  ·
   refine go ?_
   refine xc_loopN (fun m_ f_ Wx => ∃ (j : Nat) (ok1 : Bool), m_ = s.names.length - j ∧ (j ≤ s.names.length) ∧ (ok1 = true) ∧ f_ 3 = (.pointer (some ⟨w1.heap.size, 0, none⟩)) ∧ f_ 4 = (.bool false) ∧ f_ 5 = (.slice s1.lA ((s.lex.length + 1)) s1.lc) ∧ f_ 6 = (.slice s1.nA ((s.names.length + 1)) s1.nc) ∧ f_ 7 = (.slice s1.pA ((s.prods.length + 1)) s1.pc) ∧ f_ 9 = (.int .i64 ((i : Nat))) ∧ f_ 94 = (.int .i64 ((i : Nat))) ∧ f_ 95 = (.pointer (some ⟨w1.heap.size, 0, none⟩)) ∧ f_ 96 = (.slice s.lA s.lex.length s.lc) ∧ f_ 97 = (.int .i64 (((s.lex.length : Nat) : Int))) ∧ f_ 98 = (.bool (decide (((i : Nat) : Int) < (((s.lex.length : Nat) : Int))))) ∧ f_ 10 = (.int .i64 ((j : Nat))) ∧ f_ 8 = (.bool ok1) ∧ Ext w3 Wx) (s.names.length) ?_ ?_
   ·
    exact ⟨0, ok, (by omega), (by omega), hok, rfl, rfl, rfl, rfl, rfl, rfl, rfl, rfl, rfl, rfl, rfl, vW, rfl, (Chg.refl _ _)⟩
   ·
    rintro m_ f2 w6 ⟨j, ok1, hm_f2, hj, hok1, g3_f2, g4_f2, g5_f2, g6_f2, g7_f2, g9_f2, g94_f2, g95_f2, g96_f2, g97_f2, g98_f2, g10_f2, g8_f2, x6⟩
    have hx6 := x6.size
    rw [← usf g3_f2, ← usf g4_f2, ← usf g5_f2, ← usf g6_f2, ← usf g7_f2, ← usf g9_f2, ← usf g94_f2, ← usf g95_f2, ← usf g96_f2, ← usf g97_f2, ← usf g98_f2, ← usf g10_f2, ← usf g8_f2]
    refine go ?_
    refine y_ld ((b2.ext x2).ext x6) ?_
    refine go ?_
    refine y_if (fun h2 => ?_) (fun h2 => ?_)
    ·
     have x7 : Ext w w6 := (Ext.trans (Ext.trans x1 x2) x6)
     obtain ⟨x_6, g_6, o_6, hx_11⟩ := row_may (A := s1.nA) (cs := strs) j strs_len (by decide) (RowA.ext ((Own.rowO hL.namesO)) x7)
     obtain ⟨hx_12, hA_6, hc_6⟩ := hx_11 oM
     obtain ⟨x_7, g_7, o_7, hx_13⟩ := row_may (A := s.nA) (cs := strs) j strs_len (by decide) (RowA.ext hS.names x7)
     obtain ⟨hx_14, hA_7, hc_7⟩ := hx_13 oM
     have hn1 : x_6 = x_7 := by have h9 := hx_12; rw [List.getElem?_append_left (by omega), hx_14] at h9; exact (Option.some.inj h9).symm
     refine go ?_
     refine xc_regionE [] (fun W_ => Chg (fun _ => False) w6 W_) hmix ?_
     intro w7 e5 z4
     have hS3 : Chg (fun _ => False) w6 w7 := Ext.to e5
     refine yDp 0 ?_
     refine yDp 1 ?_
     refine ysD (s := 152) (bT hok1) ?_
     refine yDp 2 ?_
     refine yDp 3 ?_
     refine yDx (i := 4) j hA_6 ?_
     refine yDt (i := 5) rfl hS3 (fun W_ hW_ => ox_load tA_9.h rfl (CellsL.at1 (CellsL.keep hW_ not_false hc_6) 0 rfl) ⟨rfl, rfl⟩) ?_
     refine yDp 6 ?_
     refine yDt (i := 7) rfl hS3 (fun W_ hW_ => ox_load tA_23.h rfl ((((b2.ext x2).ext x6).ext hW_).cell rfl) ⟨rfl, rfl⟩) ?_
     refine yDp 8 ?_
     refine yDx (i := 9) j hA_7 ?_
     refine yDt (i := 10) rfl hS3 (fun W_ hW_ => ox_load tA_9.h rfl (CellsL.at1 (CellsL.keep hW_ not_false hc_7) 0 rfl) ⟨rfl, rfl⟩) ?_
     refine yDq (i := 11) rfl (fun W_ hW_ => ox_eqlStr (a := x_6) (b := x_7) tU_9 rfl rfl ⟨rfl, rfl⟩) ?_
     refine yDp 12 ?_
     refine yDp 13 ?_
     refine xd_done (by kernel_rfl) ?_ _
     refine go ?_
     refine y_add ?_
     have x8 : Ext w3 w7 := (Ext.trans x6 e5)
     refine go ?_
     exact ⟨rfl, s.names.length - (j + 1), by omega, j + 1, ((decide ((x_6 : ByteArray) = x_7))), by omega, (by omega), (decide_eq_true hn1), rfl, rfl, rfl, rfl, rfl, rfl, rfl, rfl, rfl, rfl, rfl, vW, rfl, x8⟩
    ·
     refine go ?_
     refine xc_loopN (fun m_ f_ Wx => ∃ (q : Nat) (ok2 : Bool), m_ = s.prods.length - q ∧ (q ≤ s.prods.length) ∧ (ok2 = true) ∧ f_ 3 = (.pointer (some ⟨w1.heap.size, 0, none⟩)) ∧ f_ 4 = (.bool false) ∧ f_ 5 = (.slice s1.lA ((s.lex.length + 1)) s1.lc) ∧ f_ 6 = (.slice s1.nA ((s.names.length + 1)) s1.nc) ∧ f_ 7 = (.slice s1.pA ((s.prods.length + 1)) s1.pc) ∧ f_ 9 = (.int .i64 ((i : Nat))) ∧ f_ 94 = (.int .i64 ((i : Nat))) ∧ f_ 95 = (.pointer (some ⟨w1.heap.size, 0, none⟩)) ∧ f_ 96 = (.slice s.lA s.lex.length s.lc) ∧ f_ 97 = (.int .i64 (((s.lex.length : Nat) : Int))) ∧ f_ 98 = (.bool (decide (((i : Nat) : Int) < (((s.lex.length : Nat) : Int))))) ∧ f_ 10 = (.int .i64 ((j : Nat))) ∧ f_ 144 = (.int .i64 ((j : Nat))) ∧ f_ 145 = (.pointer (some ⟨w1.heap.size, 1, none⟩)) ∧ f_ 146 = (.slice s.nA s.names.length s.nc) ∧ f_ 147 = (.int .i64 (((s.names.length : Nat) : Int))) ∧ f_ 148 = (.bool (decide (((j : Nat) : Int) < (((s.names.length : Nat) : Int))))) ∧ f_ 11 = (.int .i64 ((q : Nat))) ∧ f_ 8 = (.bool ok2) ∧ Ext w6 Wx) (s.prods.length) ?_ ?_
     ·
      exact ⟨0, ok1, (by omega), (by omega), hok1, rfl, rfl, rfl, rfl, rfl, rfl, rfl, rfl, rfl, rfl, rfl, rfl, rfl, rfl, rfl, rfl, rfl, vW, rfl, (Chg.refl _ _)⟩
     ·
      rintro m_ f3 w8 ⟨q, ok2, hm_f3, hq, hok2, g3_f3, g4_f3, g5_f3, g6_f3, g7_f3, g9_f3, g94_f3, g95_f3, g96_f3, g97_f3, g98_f3, g10_f3, g144_f3, g145_f3, g146_f3, g147_f3, g148_f3, g11_f3, g8_f3, x9⟩
      have hx9 := x9.size
      rw [← usf g3_f3, ← usf g4_f3, ← usf g5_f3, ← usf g6_f3, ← usf g7_f3, ← usf g9_f3, ← usf g94_f3, ← usf g95_f3, ← usf g96_f3, ← usf g97_f3, ← usf g98_f3, ← usf g10_f3, ← usf g144_f3, ← usf g145_f3, ← usf g146_f3, ← usf g147_f3, ← usf g148_f3, ← usf g11_f3, ← usf g8_f3]
      refine go ?_
      refine y_ld (((b2.ext x2).ext x6).ext x9) ?_
      refine go ?_
      refine y_if (fun h3 => ?_) (fun h3 => ?_)
      ·
       have x10 : Ext w w8 := (Ext.trans (Ext.trans (Ext.trans x1 x2) x6) x9)
       obtain ⟨x_8, g_8, o_8, hx_15⟩ := row_may (A := s.pA) (cs := PD.cs) q PD.len (by decide) (RowA.ext hS.prods x10)
       obtain ⟨hx_16, hA_8, hc_8⟩ := hx_15 oM
       have hfr_x_8 := (hS.fr _ (List.mem_of_getElem? hx_16)).le
       refine go ?_
       refine y_ld (((b2.ext x2).ext x6).ext x9) ?_
       refine go ?_
       refine y_ix q hA_8 ?_
       refine y_lN (vs := [(.int .i64 x_8.left), (.slice x_8.rA x_8.right.length x_8.rc)]) hc_8 ?_
       refine y_al ?_
       intro w9 e6 z5 b3
       refine y_st b3 ?_
       intro w10 e7 z6 b4
       replace b4 : Blk w10 w8.heap.size #[(.int .i64 x_8.left), (.slice x_8.rA x_8.right.length x_8.rc)] 37 := blk_full b4 rfl
       have x11 : Ext w w10 := (Ext.chg1 (Ext.trans x10 e6) e7 (by omega))
       obtain ⟨x_9, g_9, o_9, hx_17⟩ := row_may (A := s1.pA) (cs := PD.cs) q PD.len (by decide) (RowA.ext ((Own.rowO hL.prodsO)) x11)
       obtain ⟨hx_18, hA_9, hc_9⟩ := hx_17 oM
       have hx1 : s1.prods[q]? = some x_9 := by have h9 := hx_18; rw [List.getElem?_append_left (by omega)] at h9; exact h9
       have hp1 := hL.prodsR.all q _ _ (by omega) hx_16 hx1
       have hpl1 : x_9.right.length = x_8.right.length := by rw [hp1.right]
       have hpc1 := hp1.rc
       refine go ?_
       refine xc_regionE [] (fun W_ => Chg (fun _ => False) w10 W_) hmix ?_
       intro w11 e8 z7
       have hS4 : Chg (fun _ => False) w10 w11 := Ext.to e8
       refine yDp 0 ?_
       refine yDp 1 ?_
       refine ysD (s := 177) (bT hok2) ?_
       refine yDp 2 ?_
       refine yDp 3 ?_
       refine yDx (i := 4) q hA_9 ?_
       refine yDp 5 ?_
       refine yDt (i := 6) rfl hS4 (fun W_ hW_ => ox_load tA_3.h rfl (CellsL.at1 (CellsL.keep hW_ not_false hc_9) 0 rfl) ⟨rfl, rfl⟩) ?_
       refine yDp 7 ?_
       refine yDt (i := 8) rfl hS4 (fun W_ hW_ => ox_load tA_3.h rfl ((b4.ext hW_).cell rfl) ⟨rfl, rfl⟩) ?_
       refine yDp 9 ?_
       refine yDp 10 ?_
       refine yDp 11 ?_
       refine ysD (s := 187) (bT (decide_eq_true hp1.left)) ?_
       refine yDp 12 ?_
       refine yDp 13 ?_
       refine yDx (i := 14) q hA_9 ?_
       refine yDp 15 ?_
       refine yDt (i := 16) rfl hS4 (fun W_ hW_ => ox_load tA_33.h rfl (CellsL.at1 (CellsL.keep hW_ not_false hc_9) 1 rfl) ⟨rfl, rfl⟩) ?_
       refine yDp 17 ?_
       refine yDp 18 ?_
       refine yDt (i := 19) rfl hS4 (fun W_ hW_ => ox_load tA_33.h rfl ((b4.ext hW_).cell rfl) ⟨rfl, rfl⟩) ?_
       refine yDp 20 ?_
       refine yDp 21 ?_
       refine yDp 22 ?_
       refine yDp 23 ?_
       refine xd_done (by kernel_rfl) ?_ _
       refine go ?_
       refine xc_loopN (fun m_ f_ Wx => ∃ (k : Nat) (ok3 : Bool), m_ = x_8.right.length - k ∧ (k ≤ x_8.right.length) ∧ (ok3 = true) ∧ f_ 3 = (.pointer (some ⟨w1.heap.size, 0, none⟩)) ∧ f_ 4 = (.bool false) ∧ f_ 5 = (.slice s1.lA ((s.lex.length + 1)) s1.lc) ∧ f_ 6 = (.slice s1.nA ((s.names.length + 1)) s1.nc) ∧ f_ 7 = (.slice s1.pA ((s.prods.length + 1)) s1.pc) ∧ f_ 9 = (.int .i64 ((i : Nat))) ∧ f_ 94 = (.int .i64 ((i : Nat))) ∧ f_ 95 = (.pointer (some ⟨w1.heap.size, 0, none⟩)) ∧ f_ 96 = (.slice s.lA s.lex.length s.lc) ∧ f_ 97 = (.int .i64 (((s.lex.length : Nat) : Int))) ∧ f_ 98 = (.bool (decide (((i : Nat) : Int) < (((s.lex.length : Nat) : Int))))) ∧ f_ 10 = (.int .i64 ((j : Nat))) ∧ f_ 144 = (.int .i64 ((j : Nat))) ∧ f_ 145 = (.pointer (some ⟨w1.heap.size, 1, none⟩)) ∧ f_ 146 = (.slice s.nA s.names.length s.nc) ∧ f_ 147 = (.int .i64 (((s.names.length : Nat) : Int))) ∧ f_ 148 = (.bool (decide (((j : Nat) : Int) < (((s.names.length : Nat) : Int))))) ∧ f_ 11 = (.int .i64 ((q : Nat))) ∧ f_ 164 = (.int .i64 ((q : Nat))) ∧ f_ 165 = (.pointer (some ⟨w1.heap.size, 3, none⟩)) ∧ f_ 166 = (.slice s.pA s.prods.length s.pc) ∧ f_ 167 = (.int .i64 (((s.prods.length : Nat) : Int))) ∧ f_ 168 = (.bool (decide (((q : Nat) : Int) < (((s.prods.length : Nat) : Int))))) ∧ f_ 171 = (.pointer (some ⟨w1.heap.size, 3, none⟩)) ∧ f_ 172 = (.slice s.pA s.prods.length s.pc) ∧ f_ 173 = (.int .i64 ((q : Nat))) ∧ f_ 174 = (.pointer (some ⟨g_8, o_8 + q * 2, none⟩)) ∧ f_ 175 = (.agg #[(.int .i64 x_8.left), (.slice x_8.rA x_8.right.length x_8.rc)]) ∧ f_ 12 = (.pointer (some ⟨w8.heap.size, 0, none⟩)) ∧ f_ 176 = (.bool ok2) ∧ f_ 177 = (.bool true) ∧ f_ 178 = (.slice s1.pA ((s.prods.length + 1)) s1.pc) ∧ f_ 179 = (.int .i64 ((q : Nat))) ∧ f_ 180 = (.pointer (some ⟨g_9, o_9 + q * 2, none⟩)) ∧ f_ 181 = (.pointer (some ⟨g_9, o_9 + q * 2, none⟩)) ∧ f_ 182 = (.int .i64 x_9.left) ∧ f_ 183 = (.pointer (some ⟨w8.heap.size, 0, none⟩)) ∧ f_ 184 = (.int .i64 x_8.left) ∧ f_ 185 = (.bool (decide ((x_9.left : Int) = x_8.left))) ∧ f_ 186 = (.bool (decide ((x_9.left : Int) = x_8.left))) ∧ f_ 187 = (.bool true) ∧ f_ 188 = (.slice s1.pA ((s.prods.length + 1)) s1.pc) ∧ f_ 189 = (.int .i64 ((q : Nat))) ∧ f_ 190 = (.pointer (some ⟨g_9, o_9 + q * 2, none⟩)) ∧ f_ 191 = (.pointer (some ⟨g_9, o_9 + q * 2 + 1, none⟩)) ∧ f_ 192 = (.slice x_9.rA x_9.right.length x_9.rc) ∧ f_ 193 = (.int .i64 (((x_9.right.length : Nat) : Int))) ∧ f_ 194 = (.pointer (some ⟨w8.heap.size, 1, none⟩)) ∧ f_ 195 = (.slice x_8.rA x_8.right.length x_8.rc) ∧ f_ 196 = (.int .i64 (((x_8.right.length : Nat) : Int))) ∧ f_ 197 = (.bool (decide ((((x_9.right.length : Nat) : Int) : Int) = (((x_8.right.length : Nat) : Int))))) ∧ f_ 198 = (.bool (decide ((((x_9.right.length : Nat) : Int) : Int) = (((x_8.right.length : Nat) : Int))))) ∧ f_ 13 = (.int .i64 ((k : Nat))) ∧ f_ 8 = (.bool ok3) ∧ Ext w11 Wx) (x_8.right.length) ?_ ?_
       ·
        exact ⟨0, ((decide ((((x_9.right.length : Nat) : Int) : Int) = (((x_8.right.length : Nat) : Int))))), (by omega), (by omega), (decide_eq_true (by rw [hp1.right])), rfl, rfl, rfl, rfl, rfl, rfl, rfl, rfl, rfl, rfl, rfl, rfl, rfl, rfl, rfl, rfl, rfl, rfl, rfl, rfl, rfl, rfl, rfl, rfl, rfl, rfl, rfl, rfl, rfl, rfl, rfl, rfl, rfl, rfl, rfl, rfl, rfl, rfl, rfl, rfl, rfl, rfl, rfl, rfl, rfl, rfl, rfl, rfl, rfl, rfl, rfl, rfl, vW, rfl, (Chg.refl _ _)⟩
       ·
        rintro m_ f4 w12 ⟨k, ok3, hm_f4, hk, hok3, g3_f4, g4_f4, g5_f4, g6_f4, g7_f4, g9_f4, g94_f4, g95_f4, g96_f4, g97_f4, g98_f4, g10_f4, g144_f4, g145_f4, g146_f4, g147_f4, g148_f4, g11_f4, g164_f4, g165_f4, g166_f4, g167_f4, g168_f4, g171_f4, g172_f4, g173_f4, g174_f4, g175_f4, g12_f4, g176_f4, g177_f4, g178_f4, g179_f4, g180_f4, g181_f4, g182_f4, g183_f4, g184_f4, g185_f4, g186_f4, g187_f4, g188_f4, g189_f4, g190_f4, g191_f4, g192_f4, g193_f4, g194_f4, g195_f4, g196_f4, g197_f4, g198_f4, g13_f4, g8_f4, x12⟩
        have hx12 := x12.size
        rw [← usf g3_f4, ← usf g4_f4, ← usf g5_f4, ← usf g6_f4, ← usf g7_f4, ← usf g9_f4, ← usf g94_f4, ← usf g95_f4, ← usf g96_f4, ← usf g97_f4, ← usf g98_f4, ← usf g10_f4, ← usf g144_f4, ← usf g145_f4, ← usf g146_f4, ← usf g147_f4, ← usf g148_f4, ← usf g11_f4, ← usf g164_f4, ← usf g165_f4, ← usf g166_f4, ← usf g167_f4, ← usf g168_f4, ← usf g171_f4, ← usf g172_f4, ← usf g173_f4, ← usf g174_f4, ← usf g175_f4, ← usf g12_f4, ← usf g176_f4, ← usf g177_f4, ← usf g178_f4, ← usf g179_f4, ← usf g180_f4, ← usf g181_f4, ← usf g182_f4, ← usf g183_f4, ← usf g184_f4, ← usf g185_f4, ← usf g186_f4, ← usf g187_f4, ← usf g188_f4, ← usf g189_f4, ← usf g190_f4, ← usf g191_f4, ← usf g192_f4, ← usf g193_f4, ← usf g194_f4, ← usf g195_f4, ← usf g196_f4, ← usf g197_f4, ← usf g198_f4, ← usf g13_f4, ← usf g8_f4]
        refine go ?_
        refine y_ld ((b4.ext e8).ext x12) ?_
        refine go ?_
        by_cases h4 : ((k : Nat) : Int) < (((x_8.right.length : Nat) : Int))
        ·
         refine ysL (s := 204) (bT (decide_eq_true h4)) ?_
         refine go ?_
         refine ysC (s := 206) (bT hok3) ?_
         have x13 : Ext w10 w12 := (Ext.trans e8 x12)
         have x14 : Ext w w12 := (Ext.trans (Ext.trans x11 e8) x12)
         obtain ⟨x_10, g_10, o_10, hx_19⟩ := row_may (A := x_9.rA) (cs := Sym.cs) k Sym.len (by decide) (RowA.ext ((Own.rowO hp1.own)) x14)
         obtain ⟨hx_20, hA_10, hc_10⟩ := hx_19 oM
         obtain ⟨x_11, g_11, o_11, hx_21⟩ := row_may (A := x_8.rA) (cs := Sym.cs) k Sym.len (by decide) (RowA.ext ((hS.right _ (List.mem_of_getElem? hx_16))) x14)
         obtain ⟨hx_22, hA_11, hc_11⟩ := hx_21 oM
         have hsy : x_10 = x_11 := by have h9 := hx_20; rw [List.getElem?_append_left (by omega), hx_22] at h9; exact (Option.some.inj h9).symm
         refine go ?_
         refine xc_regionE [] (fun W_ => Chg (fun _ => False) w12 W_) hmix ?_
         intro w13 e9 z8
         have hS5 : Chg (fun _ => False) w12 w13 := Ext.to e9
         refine yDp 0 ?_
         refine yDp 1 ?_
         have x15 : Ext w10 w13 := (Ext.trans x13 e9)
         refine yDx (i := 2) q hA_9 ?_
         refine yDp 3 ?_
         refine yDt (i := 4) rfl hS5 (fun W_ hW_ => ox_load tA_33.h rfl (CellsL.at1 (CellsL.keep (Ext.trans x13 hW_) not_false hc_9) 1 rfl) ⟨rfl, rfl⟩) ?_
         refine yDp 5 ?_
         refine yDx (i := 6) k hA_10 ?_
         refine yDt (i := 7) rfl hS5 (fun W_ hW_ => ox_loadN (vs := [(.int .i64 x_10.kind), (.int .i64 x_10.n)]) tA_32.h tS_32.h rfl rfl (CellsL.keep hW_ not_false hc_10) ⟨rfl, rfl⟩) ?_
         refine yDp 8 ?_
         refine yDt (i := 9) rfl hS5 (fun W_ hW_ => ox_load tA_33.h rfl ((((b4.ext e8).ext x12).ext hW_).cell rfl) ⟨rfl, rfl⟩) ?_
         refine yDp 10 ?_
         refine yDx (i := 11) k hA_11 ?_
         refine yDt (i := 12) rfl hS5 (fun W_ hW_ => ox_loadN (vs := [(.int .i64 x_11.kind), (.int .i64 x_11.n)]) tA_32.h tS_32.h rfl rfl (CellsL.keep hW_ not_false hc_11) ⟨rfl, rfl⟩) ?_
         refine yDq (i := 13) rfl (fun W_ hW_ => ox_eqlF (xs := [(.int .i64 x_10.kind), (.int .i64 x_10.n)]) (ys := [(.int .i64 x_11.kind), (.int .i64 x_11.n)]) (p := ((x_10.kind : Int) = x_11.kind ∧ (x_10.n : Int) = x_11.n)) fS_32 rfl rfl rfl rfl (by simp) ⟨rfl, rfl⟩) ?_
         refine yDp 14 ?_
         refine xd_done (by kernel_rfl) ?_ _
         refine go ?_
         refine y_add ?_
         have x16 : Ext w11 w13 := (Ext.trans x12 e9)
         refine go ?_
         exact ⟨rfl, x_8.right.length - (k + 1), by omega, k + 1, ((decide (((x_10.kind : Int) = x_11.kind ∧ (x_10.n : Int) = x_11.n)))), by omega, (by omega), (decide_eq_true (by rw [hsy] <;> exact ⟨rfl, rfl⟩)), rfl, rfl, rfl, rfl, rfl, rfl, rfl, rfl, rfl, rfl, rfl, rfl, rfl, rfl, rfl, rfl, rfl, rfl, rfl, rfl, rfl, rfl, rfl, rfl, rfl, rfl, rfl, rfl, rfl, rfl, rfl, rfl, rfl, rfl, rfl, rfl, rfl, rfl, rfl, rfl, rfl, rfl, rfl, rfl, rfl, rfl, rfl, rfl, rfl, rfl, rfl, rfl, vW, rfl, x16⟩
        ·
         refine ysL (s := 204) (bF (decide_eq_false h4)) ?_
         have x17 : Ext w10 w12 := (Ext.trans e8 x12)
         refine go ?_
         refine xc_regionE [] (fun W_ => Chg (fun _ => False) w12 W_) hmix ?_
         intro w14 e10 z9
         have hS6 : Chg (fun _ => False) w12 w14 := Ext.to e10
         refine yDp 0 ?_
         refine yDp 1 ?_
         refine ysD (s := 224) (bT hok3) ?_
         refine yDp 2 ?_
         refine yDp 3 ?_
         have x18 : Ext w10 w14 := (Ext.trans x17 e10)
         refine yDx (i := 4) q hA_9 ?_
         refine yDp 5 ?_
         refine yDt (i := 6) rfl hS6 (fun W_ hW_ => ox_load tA_33.h rfl (CellsL.at1 (CellsL.keep (Ext.trans x17 hW_) not_false hc_9) 1 rfl) ⟨rfl, rfl⟩) ?_
         refine yDp 7 ?_
         refine yDt (i := 8) rfl hS6 (fun W_ hW_ => ox_load tA_33.h rfl ((((b4.ext e8).ext x12).ext hW_).cell rfl) ⟨rfl, rfl⟩) ?_
         refine yDp 9 ?_
         refine yDq (i := 10) rfl (fun W_ hW_ => ox_add64 (a := (((x_8.right.length : Nat) : Int))) (b := 1) rfl rfl (by omega) ⟨rfl, rfl⟩) ?_
         refine yDq (i := 11) rfl (fun W_ hW_ => ox_sliceToN (A := x_9.rA) (cp := x_9.rc) (i := (((x_8.right.length : Nat) : Int) + 1)) ((x_8.right.length + 1)) tE_33.h rfl rfl (by omega) (by omega) (by omega) ⟨rfl, rfl⟩) ?_
         refine yDp 12 ?_
         refine yDt (i := 13) rfl hS6 (fun W_ hW_ => ox_load tA_33.h rfl ((((b4.ext e8).ext x12).ext hW_).cell rfl) ⟨rfl, rfl⟩) ?_
         refine yDp 14 ?_
         have x19 : Ext w w12 := (Ext.trans (Ext.trans x11 e8) x12)
         obtain ⟨x_12, g_12, o_12, hx_23⟩ := row_may (A := x_9.rA) (cs := Sym.cs) x_8.right.length Sym.len (by decide) (RowA.ext ((Own.rowO hp1.own)) x19)
         obtain ⟨hx_24, hA_12, hc_12⟩ := hx_23 oM
         have hmk7 : x_12 = ⟨77, 0⟩ := by have h9 := hx_24; rw [List.getElem?_append_right (by omega), show x_8.right.length - x_8.right.length = 0 by omega] at h9; exact (Option.some.inj h9).symm
         refine yDx (i := 15) x_8.right.length hA_12 ?_
         refine yDp 16 ?_
         refine yDt (i := 17) rfl hS6 (fun W_ hW_ => ox_load tA_3.h rfl (CellsL.at1 (CellsL.keep hW_ not_false hc_12) 0 rfl) ⟨rfl, rfl⟩) ?_
         refine yDp 18 ?_
         refine yDp 19 ?_
         refine yDp 20 ?_
         refine xd_done (by kernel_rfl) ?_ _
         refine go ?_
         refine y_add ?_
         have x20 : Ext w6 w14 := (Ext.trans (Ext.trans (Ext.trans (Ext.chg1 (Ext.trans x9 e6) e7 (by omega)) e8) x12) e10)
         refine go ?_
         exact ⟨rfl, s.prods.length - (q + 1), by omega, q + 1, ((decide ((x_12.kind : Int) = 77))), by omega, (by omega), (decide_eq_true (by rw [hmk7] <;> rfl)), rfl, rfl, rfl, rfl, rfl, rfl, rfl, rfl, rfl, rfl, rfl, rfl, rfl, rfl, rfl, rfl, rfl, vW, rfl, x20⟩
      ·
       refine go ?_
       refine y_r1 ?_
       have x21 : Ext w w8 := (Ext.trans (Ext.trans (Ext.trans x1 x2) x6) x9)
       exact ⟨congrArg Value.bool hok2, x21⟩
theorem cmpP_mem : ∀ (l : List Sym) (p z : Sym), z ∈ cmpP p l → z ∈ l
  | [], _, _, h => h
  | x :: l, p, z, h => by
    rw [cmpP] at h
    split at h
    · exact List.mem_cons_of_mem _ (cmpP_mem l p z h)
    · rcases List.mem_cons.1 h with rfl | h
      · exact List.mem_cons_self
      · exact List.mem_cons_of_mem _ (cmpP_mem l x z h)
theorem cmpP_has : ∀ (l : List Sym) (p z : Sym), z ∈ l → z = p ∨ z ∈ cmpP p l
  | [], _, _, h => by cases h
  | x :: l, p, z, h => by
    rw [cmpP]
    rcases List.mem_cons.1 h with rfl | h
    · split
      · rename_i e; exact .inl e
      · exact .inr List.mem_cons_self
    · split
      · exact cmpP_has l p z h
      · rcases cmpP_has l x z h with rfl | h
        · exact .inr List.mem_cons_self
        · exact .inr (List.mem_cons_of_mem _ h)
theorem leSym_anti {a b : Sym} (h1 : leSym a b = true) (h2 : leSym b a = true) : a = b := by
  rw [leSym_spec] at *
  cases a; cases b; simp only at h1 h2; congr 1 <;> omega
theorem cmpP_nodup : ∀ (l : List Sym) (p : Sym), l.Pairwise (leSym · · = true) → (∀ x ∈ l, leSym p x = true) → (cmpP p l).Nodup ∧ p ∉ cmpP p l
  | [], _, _, _ => ⟨List.nodup_nil, by intro h; cases h⟩
  | x :: l, p, hs, hp => by
    have h1 := List.pairwise_cons.1 hs
    rw [cmpP]
    split
    · exact cmpP_nodup l p h1.2 fun y hy => hp y (List.mem_cons_of_mem _ hy)
    · rename_i hne
      have ih := cmpP_nodup l x h1.2 h1.1
      refine ⟨List.nodup_cons.2 ⟨ih.2, ih.1⟩, fun hh => ?_⟩
      rcases List.mem_cons.1 hh with rfl | hh
      · exact hne rfl
      · exact hne (leSym_anti (h1.1 p (cmpP_mem l x p hh)) (hp x List.mem_cons_self))
theorem srtSym_sorted (l : List Sym) : (srtSym l).Pairwise (leSym · · = true) := by
  rw [srtSym_x]
  refine srtX_sorted (fun a b c h1 h2 => ?_) (fun a b => ?_) l
  · rw [leSym_spec] at *; omega
  · rw [Bool.or_eq_true, leSym_spec, leSym_spec]; omega
theorem srtSym_mem {l : List Sym} {x : Sym} : x ∈ srtSym l ↔ x ∈ l := List.mem_mergeSort
theorem compL_nodup {l : List Sym} (h : l.Pairwise (leSym · · = true)) : (compL l).Nodup := by
  cases l with
  | nil => exact List.nodup_nil
  | cons x l =>
    have h1 := List.pairwise_cons.1 h
    have := cmpP_nodup l x h1.2 h1.1
    exact List.nodup_cons.2 ⟨this.2, this.1⟩
theorem compL_mem {l : List Sym} {z : Sym} : z ∈ compL l ↔ z ∈ l := by
  cases l with
  | nil => exact Iff.rfl
  | cons x l =>
    rw [compL]
    constructor
    · intro h
      rcases List.mem_cons.1 h with rfl | h
      · exact List.mem_cons_self
      · exact List.mem_cons_of_mem _ (cmpP_mem l x z h)
    · intro h
      rcases List.mem_cons.1 h with rfl | h
      · exact List.mem_cons_self
      · rcases cmpP_has l x z h with rfl | h
        · exact List.mem_cons_self
        · exact List.mem_cons_of_mem _ h
theorem symsG_nodup (g : GD) (l : List Itm) : (symsG g l).Nodup := compL_nodup (srtSym_sorted _)
theorem symsG_mem {g : GD} {l : List Itm} {z : Sym} : z ∈ symsG g l ↔ ∃ x ∈ l, behindG g x = some z := by
  unfold symsG
  rw [compL_mem, srtSym_mem, List.mem_filterMap]
theorem arcTo_mem : ∀ {l : List Arc} {a : Arc}, (l.map Arc.sym).Nodup → a ∈ l → arcTo a.sym l = a.to
  | [], _, _, h => by cases h
  | b :: l, a, hn, h => by
    rw [List.map_cons] at hn
    have h1 := List.nodup_cons.1 hn
    rw [arcTo]
    rcases List.mem_cons.1 h with rfl | h
    · rw [if_pos ⟨rfl, rfl⟩]
    · rw [if_neg, arcTo_mem h1.2 h]
      rintro ⟨e1, e2⟩
      refine h1.1 ?_
      have : b.sym = a.sym := by
        cases hb : b.sym; cases ha : a.sym; rw [hb, ha] at e1 e2; simp only at e1 e2; rw [e1, e2]
      rw [this]; exact List.mem_map_of_mem h
theorem arcTo_some : ∀ {l : List Arc} {z : Sym}, 0 ≤ arcTo z l → ∃ a ∈ l, a.sym = z ∧ a.to = arcTo z l
  | [], _, h => by simp [arcTo] at h
  | b :: l, z, h => by
    rw [arcTo] at h ⊢
    split
    · rename_i e
      refine ⟨b, List.mem_cons_self, ?_, rfl⟩
      cases hb : b.sym; cases z; rw [hb] at e; simp only at e; rw [e.1, e.2]
    · rename_i e
      rw [if_neg e] at h
      obtain ⟨a, h1, h2, h3⟩ := arcTo_some h
      exact ⟨a, List.mem_cons_of_mem _ h1, h2, h3⟩
section
variable {st : List ASt} {k : Nat} {x : ASt}
theorem isS_of (hx : st[k]? = some x) : isS st (k : Nat) = true := by
  have := (List.getElem?_eq_some_iff.1 hx).1
  unfold isS; simp; omega
theorem itemsS_at (hx : st[k]? = some x) : itemsS st (k : Nat) = x.items := by unfold itemsS; rw [if_pos (isS_of hx)]; simp only [Int.toNat_natCast]; rw [bangA hx]
theorem kernS_at (hx : st[k]? = some x) : kernS st (k : Nat) = x.kernel := by unfold kernS; rw [if_pos (isS_of hx)]; simp only [Int.toNat_natCast]; rw [bangA hx]
theorem goS_at (hx : st[k]? = some x) (z : Sym) : goS st (k : Nat) z = arcTo z x.arcs := by unfold goS; rw [if_pos (isS_of hx)]; simp only [Int.toNat_natCast]; rw [bangA hx]
theorem pathS_at (hx : st[k]? = some x) : pathS st (k : Nat) = (wayS st k (k : Nat)).reverse := by unfold pathS; rw [if_pos (isS_of hx)]; simp only [Int.toNat_natCast]
end
section
variable {g : GD} {st : List ASt} (h : Aut g st)
include h
theorem wayS_two : ∀ (f f' k : Nat) (x : ASt), st[k]? = some x → k ≤ f → k ≤ f' → wayS st f (k : Nat) = wayS st f' (k : Nat) := by
  intro f
  induction f with
  | zero =>
    intro f' k x hx h1 h2
    have : k = 0 := by omega
    subst this
    cases f' <;> simp [wayS]
  | succ f ih =>
    intro f' k x hx h1 h2
    by_cases hk : k = 0
    · subst hk; cases f' <;> simp [wayS]
    · obtain ⟨f'', rfl⟩ : ∃ n, f' = n + 1 := ⟨f' - 1, by omega⟩
      obtain ⟨m, y, e1, e2, e3, _⟩ := h.frm k x hx hk
      rw [wayS, wayS, if_neg (by omega), if_neg (by omega)]
      simp only [Int.toNat_natCast]
      rw [bangA hx, e1, ih f'' m y e3 (by omega) (by omega)]
theorem path_zero : pathS st 0 = [] := by
  obtain ⟨x, hx, _⟩ := h.first
  have := pathS_at hx
  simpa [wayS] using this
theorem path_next {k m : Nat} {x y : ASt} (hx : st[k]? = some x) (hk : k ≠ 0) (e1 : x.frm = (m : Nat)) (e2 : m < k) (e3 : st[m]? = some y) : pathS st (k : Nat) = pathS st (m : Nat) ++ [x.sym] := by
  rw [pathS_at hx, pathS_at e3]
  obtain ⟨f, hf⟩ : ∃ f, k = f + 1 := ⟨k - 1, by omega⟩
  have : wayS st k (k : Nat) = x.sym :: wayS st m (m : Nat) := by
    rw [← wayS_two h f m m y e3 (by omega) (Nat.le_refl _)]
    conv => lhs; rw [show wayS st k (k : Nat) = wayS st (f + 1) (k : Nat) by rw [← hf]]
    rw [wayS, if_neg (by omega)]
    simp only [Int.toNat_natCast]
    rw [bangA hx, e1]
  rw [this, List.reverse_cons]
theorem arcs_nodup {k : Nat} {x : ASt} (hx : st[k]? = some x) : (x.arcs.map Arc.sym).Nodup := by rw [h.arcs k x hx]; exact symsG_nodup _ _
theorem path_len {k m : Nat} {x y : ASt} (hx : st[k]? = some x) (hk : k ≠ 0) (e1 : x.frm = (m : Nat)) (e2 : m < k) (e3 : st[m]? = some y) : (pathS st (k : Nat)).length = (pathS st (m : Nat)).length + 1 := by
  rw [path_next h hx hk e1 e2 e3, List.length_append]; rfl
theorem kern_len {k : Nat} {x : ASt} (hx : st[k]? = some x) : x.kernel.length = x.kern.toNat ∧ x.kernel.length ≤ x.items.length ∧ x.items.take x.kernel.length = x.kernel := by
  have hk := h.p.kern x (List.mem_of_getElem? hx)
  have h1 : x.kernel.length = x.kern.toNat := by unfold ASt.kernel; rw [List.length_take]; omega
  exact ⟨h1, by omega, by rw [h1]; rfl⟩
end
section
variable {g : GD} {st : List ASt} (h : Aut g st)
include h
theorem go_stands {k : Nat} {x : ASt} (hx : st[k]? = some x) (z : Sym) : 0 ≤ goS st (k : Nat) z ↔ ∃ y ∈ x.items, behindG g y = some z := by
  rw [goS_at hx, ← symsG_mem, ← h.arcs k x hx]
  constructor
  · intro h9
    obtain ⟨a, h1, h2, _⟩ := arcTo_some h9
    rw [← h2]; exact List.mem_map_of_mem h1
  · intro h9
    obtain ⟨a, h1, rfl⟩ := List.mem_map.1 h9
    rw [arcTo_mem (arcs_nodup h hx) h1]
    obtain ⟨j, _, e, _⟩ := h.to k x a hx h1
    omega
end
def termsG : List Bool → Nat → List Sym
  | [], _ => []
  | b :: r, i => (if b = true then [] else [⟨1, (i : Nat)⟩]) ++ termsG r (i + 1)
def namesL (k : Nat) : List Sym := (List.range k).map fun (i : Nat) => ⟨3, (i : Nat)⟩
def symbolsG (g : GD) : List Sym := termsG g.triv 0 ++ [⟨2, 0⟩] ++ namesL g.names
theorem termsG_no {l : List Bool} {i k : Nat} {b : Bool} (h : l[i]? = some b) (hb : b = false) : termsG (l.drop i) k = [⟨1, (k : Nat)⟩] ++ termsG (l.drop (i + 1)) (k + 1) := by rw [drop_get h, termsG, hb]; rfl
theorem termsG_yes {l : List Bool} {i k : Nat} {b : Bool} (h : l[i]? = some b) (hb : b = true) : termsG (l.drop i) k = termsG (l.drop (i + 1)) (k + 1) := by rw [drop_get h, termsG, hb]; rfl
theorem namesL_next (k : Nat) : namesL (k + 1) = namesL k ++ [⟨3, (k : Nat)⟩] := by unfold namesL; rw [List.range_succ, List.map_append]; rfl
theorem symbolsRef_calls (s : SP) (w : World) (hS : SpR w s) (hnl : s.lex.length ≤ 100000000000) (hnn : s.names.length ≤ 100000000000) :
    Calls Tryz.prog 22 #[(.agg #[(.slice s.lA s.lex.length s.lc), (.slice s.nA s.names.length s.nc), (.int .i64 s.start), (.slice s.pA s.prods.length s.pc)])] w (Ret (fun v w' => ∃ A' c', v = .slice A' (symbolsG s.g).length c' ∧ NewRow w w' 32 2 Sym.cs (symbolsG s.g) A' c' ∧ Ext w w')) := by
 have hfn := hS.fn.by; have hfl := hS.fl.by
 refine calls_y (n := 42) Tryz.func22 ?_
 refine go ?_
 refine y_bx ?_
 intro w1 e1 z1 b1
 refine go ?_
 refine xc_loopN (fun m_ f_ Wx => ∃ (i : Nat) (y : List Sym) (Ay : Option Addr) (cy : Nat), m_ = s.lex.length - i ∧ (i ≤ s.lex.length) ∧ (y ++ termsG (s.g.triv.drop i) i = termsG s.g.triv 0) ∧ (y.length ≤ i) ∧ f_ 1 = (.pointer (some ⟨w.heap.size, 0, none⟩)) ∧ f_ 2 = (.slice none 0 0) ∧ f_ 4 = (.int .i64 ((i : Nat))) ∧ f_ 3 = (.slice Ay y.length cy) ∧ Vx.Own Wx 32 2 (.slice Ay y.length cy) y.length (y.flatMap Sym.cs) ∧ (∀ k, ((.slice Ay y.length cy) : Value).ownBlock = some k → w1.heap.size ≤ k) ∧ Ext w1 Wx) (s.lex.length) ?_ ?_
 ·
  exact ⟨0, [], none, 0, (by omega), (by omega), rfl, (by simp), rfl, rfl, vW, rfl, (Vx.Own.nil _ _ _), (fun _k _h => by simp [Value.ownBlock] at _h), (Chg.refl _ _)⟩
 ·
  rintro m_ f1 w2 ⟨i, y, Ay, cy, hm_f1, hi, hy, hyl, g1_f1, g2_f1, g4_f1, g3_f1, a0_f1, l0_f1, x1⟩
  have hx1 := x1.size
  rw [← usf g1_f1, ← usf g2_f1, ← usf g4_f1, ← usf g3_f1]
  refine go ?_
  refine y_ld (b1.ext x1) ?_
  refine go ?_
  refine y_if (fun h1 => ?_) (fun h1 => ?_)
  ·
   refine go ?_
   refine y_ld (b1.ext x1) ?_
   have x2 : Ext w w2 := (Ext.trans e1 x1)
   obtain ⟨x_1, g_1, o_1, hx_1⟩ := row_may (A := s.lA) (cs := LR.cs) i LR.len (by decide) (RowA.ext hS.lex x2)
   obtain ⟨hx_2, hA_1, hc_1⟩ := hx_1 oM
   refine go ?_
   refine y_ix i hA_1 ?_
   refine go ?_
   refine y_lc (CellsL.at1 hc_1 1 rfl) ?_
   refine go ?_
   refine xc_cond (b := (!x_1.trivia)) rfl (fun h2 => ?_) (fun h2 => ?_)
   ·
    have h2' := bS h2
    refine go ?_
    refine yOp (ox_mkStruct (ps := [(0, (.int .i64 1)), (1, (.int .i64 ((i : Nat))))]) (cs := #[(.int .i64 1), (.int .i64 ((i : Nat)))]) tZ_32.h tP_32.h rfl (by kernel_rfl) ?_)
    refine yOp (ox_mkSlice (ps := [(0, (.agg #[(.int .i64 1), (.int .i64 ((i : Nat)))]))]) (zs := #[(.int .i64 0), (.int .i64 0)]) (cs := #[(.int .i64 1), (.int .i64 ((i : Nat)))]) tE_33.h rfl (by decide) (by kernel_rfl) (by kernel_rfl) ?_)
    intro w3 e2 z2 b2
    replace b2 : Blk w3 w2.heap.size #[(.int .i64 1), (.int .i64 ((i : Nat)))] 32 := b2
    refine yOp (ox_appD (l := y) (r := [(⟨1, (i : Nat)⟩ : Sym)]) (cs := Sym.cs) rfl tE_33.h rfl (by decide) Sym.len Sym.one (v := (.slice Ay y.length cy)) rfl rfl (m := 1) rfl (a0_f1.ext e2) b2.all aM (by decide) ?_)
    intro A1 c1 w4 o1 e3 at1 hc1
    have he3 := e3.size
    have low1 : ∀ _k, (Value.slice A1 (y ++ [(⟨1, (i : Nat)⟩ : Sym)]).length c1).ownBlock = some _k → w1.heap.size ≤ _k := fun _k _h => by rcases at1 with _e | _e <;> rw [_e] at _h; exact l0_f1 _k _h; exact (by cases _h; omega)
    refine go ?_
    refine y_add ?_
    have x3 : Ext w1 w4 := (Chg.trans (Ext.trans x1 e2) e3 (fun b hb hl => (absurd hl (by have _h := l0_f1 b hb; omega))))
    refine go ?_
    exact ⟨rfl, s.lex.length - (i + 1), by omega, i + 1, y ++ [(⟨1, (i : Nat)⟩ : Sym)], A1, c1, by omega, (by omega), (by rw [← hy, termsG_no (show s.g.triv[i]? = some x_1.trivia from map_get hx_2) (by simpa using h2)]; simp), (by first | omega | (simp only [List.length_append, List.length_cons, List.length_nil]; omega)), rfl, rfl, vW, rfl, o1, low1, x3⟩
   ·
    have h2' := bS h2
    refine go ?_
    refine y_add ?_
    refine go ?_
    exact ⟨rfl, s.lex.length - (i + 1), by omega, i + 1, y, Ay, cy, by omega, (by omega), (by rw [← hy, termsG_yes (show s.g.triv[i]? = some x_1.trivia from map_get hx_2) (by simpa using h2)]), (by first | omega | (simp only [List.length_append, List.length_cons, List.length_nil]; omega)), rfl, rfl, vW, rfl, a0_f1, l0_f1, x1⟩
  ·
   refine go ?_
   refine yOp (ox_mkStruct (ps := [(0, (.int .i64 2))]) (cs := #[(.int .i64 2), (.int .i64 0)]) tZ_32.h tP_32.h rfl (by kernel_rfl) ?_)
   refine yOp (ox_mkSlice (ps := [(0, (.agg #[(.int .i64 2), (.int .i64 0)]))]) (zs := #[(.int .i64 0), (.int .i64 0)]) (cs := #[(.int .i64 2), (.int .i64 0)]) tE_33.h rfl (by decide) (by kernel_rfl) (by kernel_rfl) ?_)
   intro w5 e4 z3 b3
   replace b3 : Blk w5 w2.heap.size #[(.int .i64 2), (.int .i64 0)] 32 := b3
   refine yOp (ox_appD (l := y) (r := [(⟨2, 0⟩ : Sym)]) (cs := Sym.cs) rfl tE_33.h rfl (by decide) Sym.len Sym.one (v := (.slice Ay y.length cy)) rfl rfl (m := 1) rfl (a0_f1.ext e4) b3.all aM (by decide) ?_)
   intro A2 c2 w6 o2 e5 at2 hc2
   have he5 := e5.size
   have low2 : ∀ _k, (Value.slice A2 (y ++ [(⟨2, 0⟩ : Sym)]).length c2).ownBlock = some _k → w1.heap.size ≤ _k := fun _k _h => by rcases at2 with _e | _e <;> rw [_e] at _h; exact l0_f1 _k _h; exact (by cases _h; omega)
   have hy9 : y = termsG s.g.triv 0 := by rw [← hy, List.drop_of_length_le (by rw [s.glex]; omega)]; simp [termsG]
   refine go ?_
   refine xc_loopN (fun m_ f_ Wx => ∃ (k : Nat) (z : List Sym) (Az : Option Addr) (cz : Nat), m_ = s.names.length - k ∧ (k ≤ s.names.length) ∧ (z = termsG s.g.triv 0 ++ [⟨2, 0⟩] ++ namesL k) ∧ (z.length ≤ s.lex.length + 1 + k) ∧ f_ 1 = (.pointer (some ⟨w.heap.size, 0, none⟩)) ∧ f_ 2 = (.slice none 0 0) ∧ f_ 4 = (.int .i64 ((i : Nat))) ∧ f_ 6 = (.int .i64 ((i : Nat))) ∧ f_ 7 = (.pointer (some ⟨w.heap.size, 0, none⟩)) ∧ f_ 8 = (.slice s.lA s.lex.length s.lc) ∧ f_ 9 = (.int .i64 (((s.lex.length : Nat) : Int))) ∧ f_ 10 = (.bool (decide (((i : Nat) : Int) < (((s.lex.length : Nat) : Int))))) ∧ f_ 25 = (.slice Ay y.length cy) ∧ f_ 26 = (.agg #[(.int .i64 2), (.int .i64 0)]) ∧ f_ 27 = (.slice (some ⟨w2.heap.size, 0, none⟩) 1 1) ∧ f_ 28 = (.slice A2 ((y ++ [(⟨2, 0⟩ : Sym)]).length) c2) ∧ f_ 5 = (.int .i64 ((k : Nat))) ∧ f_ 3 = (.slice Az z.length cz) ∧ Vx.Own Wx 32 2 (.slice Az z.length cz) z.length (z.flatMap Sym.cs) ∧ (∀ k, ((.slice Az z.length cz) : Value).ownBlock = some k → w1.heap.size ≤ k) ∧ (∀ k, ((.slice Az z.length cz) : Value).ownBlock = some k → ((.slice A2 ((y ++ [(⟨2, 0⟩ : Sym)]).length) c2) : Value).ownBlock = some k ∨ w6.heap.size ≤ k) ∧ Chg (fun b => ((.slice A2 ((y ++ [(⟨2, 0⟩ : Sym)]).length) c2) : Value).ownBlock = some b) w6 Wx) (s.names.length) ?_ ?_
   ·
    exact ⟨0, y ++ [(⟨2, 0⟩ : Sym)], A2, c2, (by omega), (by omega), (by rw [← hy9]; simp [namesL]), (by first | omega | (simp only [List.length_append, List.length_cons, List.length_nil]; omega)), rfl, rfl, rfl, rfl, rfl, rfl, rfl, rfl, rfl, rfl, rfl, rfl, vW, rfl, o2, low2, (fun k hk => .inl hk), (Chg.refl _ _)⟩
   ·
    rintro m_ f2 w7 ⟨k, z, Az, cz, hm_f2, hk, hz, hzl, g1_f2, g2_f2, g4_f2, g6_f2, g7_f2, g8_f2, g9_f2, g10_f2, g25_f2, g26_f2, g27_f2, g28_f2, g5_f2, g3_f2, a0_f2, l0_f2, r0_f2, x4⟩
    have hx4 := x4.size
    rw [← usf g1_f2, ← usf g2_f2, ← usf g4_f2, ← usf g6_f2, ← usf g7_f2, ← usf g8_f2, ← usf g9_f2, ← usf g10_f2, ← usf g25_f2, ← usf g26_f2, ← usf g27_f2, ← usf g28_f2, ← usf g5_f2, ← usf g3_f2]
    have q1 := (((b1.ext x1).ext e4).keep e5 (fun _h => (a0_f1.ext e4).ne_blk ((b1.ext x1).ext e4) (by decide) _ _h rfl))
    have q2 := (q1.keep x4 (fun _h => o2.ne_blk q1 (by decide) _ _h rfl))
    refine go ?_
    refine y_ld q2 ?_
    refine go ?_
    refine y_if (fun h3 => ?_) (fun h3 => ?_)
    ·
     refine go ?_
     refine yOp (ox_mkStruct (ps := [(0, (.int .i64 3)), (1, (.int .i64 ((k : Nat))))]) (cs := #[(.int .i64 3), (.int .i64 ((k : Nat)))]) tZ_32.h tP_32.h rfl (by kernel_rfl) ?_)
     refine yOp (ox_mkSlice (ps := [(0, (.agg #[(.int .i64 3), (.int .i64 ((k : Nat)))]))]) (zs := #[(.int .i64 0), (.int .i64 0)]) (cs := #[(.int .i64 3), (.int .i64 ((k : Nat)))]) tE_33.h rfl (by decide) (by kernel_rfl) (by kernel_rfl) ?_)
     intro w8 e6 z4 b4
     replace b4 : Blk w8 w7.heap.size #[(.int .i64 3), (.int .i64 ((k : Nat)))] 32 := b4
     refine yOp (ox_appD (l := z) (r := [(⟨3, (k : Nat)⟩ : Sym)]) (cs := Sym.cs) rfl tE_33.h rfl (by decide) Sym.len Sym.one (v := (.slice Az z.length cz)) rfl rfl (m := 1) rfl (a0_f2.ext e6) b4.all aM (by decide) ?_)
     intro A3 c3 w9 o3 e7 at3 hc3
     have he7 := e7.size
     have low3 : ∀ _k, (Value.slice A3 (z ++ [(⟨3, (k : Nat)⟩ : Sym)]).length c3).ownBlock = some _k → w1.heap.size ≤ _k := fun _k _h => by rcases at3 with _e | _e <;> rw [_e] at _h; exact l0_f2 _k _h; exact (by cases _h; omega)
     have rel1 : ∀ _k, (Value.slice A3 (z ++ [(⟨3, (k : Nat)⟩ : Sym)]).length c3).ownBlock = some _k → ((.slice A2 ((y ++ [(⟨2, 0⟩ : Sym)]).length) c2) : Value).ownBlock = some _k ∨ w6.heap.size ≤ _k := fun _k _h => by rcases at3 with _e | _e <;> rw [_e] at _h; exact r0_f2 _k _h; exact .inr (by cases _h; omega)
     refine go ?_
     refine y_add ?_
     have y1 : Chg (fun b => ((.slice A2 ((y ++ [(⟨2, 0⟩ : Sym)]).length) c2) : Value).ownBlock = some b) w6 w9 := (Chg.trans (Chg.ext (Chg.trans (Chg.refl (fun b => ((.slice A2 ((y ++ [(⟨2, 0⟩ : Sym)]).length) c2) : Value).ownBlock = some b) w6) x4 (fun b hb hl => hb)) e6) e7 (fun b hb hl => (r0_f2 b hb).elim (fun hb => hb) (fun _h => absurd hl (by omega))))
     refine go ?_
     exact ⟨rfl, s.names.length - (k + 1), by omega, k + 1, z ++ [(⟨3, (k : Nat)⟩ : Sym)], A3, c3, by omega, (by omega), (by rw [hz, namesL_next]; simp), (by first | omega | (simp only [List.length_append, List.length_cons, List.length_nil]; omega)), rfl, rfl, rfl, rfl, rfl, rfl, rfl, rfl, rfl, rfl, rfl, rfl, vW, rfl, o3, low3, rel1, y1⟩
    ·
     refine go ?_
     refine y_r1 ?_
     have hq9 : z = symbolsG s.g := by rw [hz, show k = s.names.length by omega] <;> rfl
     have x5 : Ext w w7 := (Chg.trans (Chg.trans (Ext.trans (Ext.trans e1 x1) e4) e5 (fun b hb hl => (absurd hl (by have _h := l0_f1 b hb; omega)))) x4 (fun b hb hl => (absurd hl (by have _h := low2 b hb; omega))))
     exact ⟨_, _, by rw [← hq9] <;> rfl, by rw [← hq9]; exact ⟨a0_f2, fun k hk => by have _h := l0_f2 k hk; omega⟩, x5⟩
theorem fixN_flag {α : Type} {f : α → α × Bool} {μ : α → Nat} {Inv : α → Prop} (hf : ∀ h, Inv h → (f h).2 = true → Inv (f h).1 ∧ μ (f h).1 < μ h) (hs : ∀ h, (f h).2 = false → (f h).1 = h) : ∀ (k : Nat) (h : α), Inv h → μ h < k → Inv (fixN f k h) ∧ (f (fixN f k h)).2 = false
  | 0, h, _, hk => by omega
  | k + 1, h, hi, hk => by
    simp only [fixN]
    split
    · rename_i hg
      obtain ⟨h1, h2⟩ := hf h hi hg
      exact fixN_flag hf hs k _ h1 (by omega)
    · rename_i hg
      have hg : (f h).2 = false := by simpa using hg
      rw [hs h hg]; exact ⟨hi, hg⟩
structure InvD (g : GD) (K : List Itm) (h : CS) : Prop where
  c : InvC g K h
  seen : ∀ (i : Nat) (x : Itm), i < h.2.2.toNat → h.1[i]? = some x → (behindG g x).isSome = true → (bhS g x).kind = 3 → 0 < h.2.1[(bhS g x).n.toNat]!
  all : ∀ n : Int, 0 ≤ n → 0 < h.2.1[n.toNat]! → ∀ (j : Nat) (p : P2), g.prods[j]? = some p → p.1 = n → (⟨(j : Nat), 0⟩ : Itm) ∈ h.1
theorem bangI {l : List Int} {i : Nat} {x : Int} (h : l[i]? = some x) : l[i]! = x := by rw [List.getElem!_eq_getElem?_getD, h]; rfl
theorem bangI_none {l : List Int} {i : Nat} (h : l.length ≤ i) : l[i]! = 0 := by rw [List.getElem!_eq_getElem?_getD, List.getElem?_eq_none h]; rfl
theorem setI_bang {l : List Int} {m k : Nat} {v : Int} (hm : m < l.length) : (l.set m v)[k]! = if k = m then v else l[k]! := by
  rw [List.getElem!_eq_getElem?_getD, List.getElem!_eq_getElem?_getD]
  by_cases h : k = m
  · subst h; rw [if_pos rfl, List.getElem?_set_self hm]; rfl
  · rw [if_neg h, List.getElem?_set_ne (fun e => h e.symm)]
theorem stepC_stop {g : GD} {K : List Itm} (h : CS) (hs : (stepC g K h).2 = false) : (stepC g K h).1 = h ∧ h.1.length ≤ h.2.2.toNat := by
  unfold stepC at hs ⊢
  split at hs
  · split at hs <;> simp at hs
  · rename_i hl
    rw [if_neg hl]; exact ⟨rfl, by omega⟩
theorem InvD.step {g : GD} {K : List Itm} (hG : GoodG g) {h : CS} (hi : InvD g K h) (hs : (stepC g K h).2 = true) : InvD g K (stepC g K h).1 := by
  have hc := (stepC_ok hG hi.c hs).1
  obtain ⟨its, dn, q⟩ := h
  have hq := hi.c.q
  have hse := hi.seen
  have hal := hi.all
  have hdl := hi.c.dl
  have hpre := hi.c.pre
  simp only at hq hse hal hdl hpre
  rcases Nat.lt_or_ge q.toNat its.length with hlt | hge
  · have hx : its[q.toNat]? = some its[q.toNat] := List.getElem?_eq_getElem hlt
    generalize its[q.toNat] = x at hx
    have hq1 : (q + 1).toNat = q.toNat + 1 := by omega
    have hok := hi.c.ok x (List.mem_of_getElem? hx)
    by_cases hcd : (behindG g x).isSome = true ∧ (bhS g x).kind = 3 ∧ ¬ 0 < dn[(bhS g x).n.toNat]!
    · have hn := behind_name hG hok hcd.1 hcd.2.1
      have hlt2 : (bhS g x).n.toNat < dn.length := by omega
      have hv : dn[(bhS g x).n.toNat]? = some dn[(bhS g x).n.toNat] := List.getElem?_eq_getElem hlt2
      have hv0 : dn[(bhS g x).n.toNat] = 0 := by
        rcases hi.c.dv _ (List.mem_of_getElem? hv) with h1 | h1
        · exact h1
        · exact absurd (by rw [bang_of hv, h1]; decide) hcd.2.2
      rw [stepC_main hx hcd hv] at hc ⊢
      rw [hv0] at hc ⊢
      refine ⟨hc, fun i y hiq hy hb hk => ?_, fun n h0 hd j p hj hp => ?_⟩
      · simp only at hiq hy ⊢
        rw [hq1] at hiq
        rw [setI_bang hlt2]
        split
        · decide
        · rename_i hne
          by_cases hiq2 : i = q.toNat
          · subst hiq2
            rw [List.getElem?_append_left hlt, hx] at hy
            cases hy
            exact absurd rfl hne
          · rw [List.getElem?_append_left (by omega)] at hy
            exact hse i y (by omega) hy hb hk
      · simp only at hd ⊢
        rw [setI_bang hlt2] at hd
        split at hd
        · rename_i he
          have he : n = (bhS g x).n := by omega
          by_cases hK : (⟨(j : Nat), 0⟩ : Itm) ∈ K
          · refine List.mem_append_left _ ?_
            rw [← hpre] at hK
            exact List.mem_of_mem_take hK
          · exact List.mem_append_right _ ((newP_mem K _).2 ⟨j, p, hj, hp.trans he, by rw [Nat.zero_add], hK⟩)
        · exact List.mem_append_left _ (hal n h0 hd j p hj hp)
    · rw [stepC_skip hx hcd] at hc ⊢
      refine ⟨hc, fun i y hiq hy hb hk => ?_, fun n h0 hd j p hj hp => hal n h0 hd j p hj hp⟩
      simp only at hiq hy ⊢
      rw [hq1] at hiq
      by_cases hiq2 : i = q.toNat
      · subst hiq2
        rw [hx] at hy; cases hy
        exact Classical.byContradiction fun h9 => hcd ⟨hb, hk, h9⟩
      · exact hse i y (by omega) hy hb hk
  · exact absurd hs (by rw [stepC_end (by omega)]; decide)
theorem InvD.start {g : GD} {K : List Itm} (hI : ∀ x ∈ K, okI g x) : InvD g K (K, List.replicate g.names 0, 0) := by
  refine ⟨InvC.start hI, fun i x hi => by simp at hi, fun n h0 hd => ?_⟩
  simp only at hd
  have : (List.replicate g.names (0 : Int))[n.toNat]! = 0 := by
    by_cases hl : n.toNat < g.names
    · exact bangI (by rw [List.getElem?_replicate, if_pos hl])
    · exact bangI_none (by rw [List.length_replicate]; omega)
  rw [this] at hd; exact absurd hd (by decide)
def subB (a b : List Bool) : Prop := ∀ i : Nat, a[i]! = true → b[i]! = true
theorem bang_lt {l : List Bool} {i : Nat} (h : l[i]! = true) : i < l.length := by
  rcases Nat.lt_or_ge i l.length with h1 | h1
  · exact h1
  · rw [getElem!_def, List.getElem?_eq_none h1] at h; cases h
theorem subB.antisymm {a b : List Bool} (hl : a.length = b.length) (h1 : subB a b) (h2 : subB b a) : a = b := by
  apply List.ext_getElem?
  intro i
  by_cases hi : i < a.length
  · have ha := List.getElem?_eq_getElem hi
    have hb := List.getElem?_eq_getElem (show i < b.length by omega)
    rw [ha, hb]
    have e1 := bang_of ha
    have e2 := bang_of hb
    have := h1 i
    have := h2 i
    rw [e1, e2] at *
    cases h : a[i] <;> cases h' : b[i] <;> simp_all
  · rw [List.getElem?_eq_none (by omega), List.getElem?_eq_none (by omega)]
theorem bang_set {l : List Bool} {i j : Nat} : (l.set i true)[j]! = true ↔ l[j]! = true ∨ (i = j ∧ i < l.length) := by
  rw [getElem!_def, getElem!_def]
  by_cases h : i = j
  · subst h
    by_cases hi : i < l.length
    · rw [List.getElem?_set_self hi]; simp [hi]
    · rw [List.getElem?_eq_none (by simp; omega), List.getElem?_eq_none (by omega)]; simp [hi]
  · rw [List.getElem?_set_ne h]; simp [h]
theorem setB_same {l : List Bool} {i : Nat} (h : l[i]! = true) : l.set i true = l := by
  have hi := bang_lt h
  apply List.ext_getElem?
  intro j
  by_cases hj : i = j
  · subst hj
    rw [List.getElem?_set_self hi, List.getElem?_eq_getElem hi, ← h, bang_of (List.getElem?_eq_getElem hi)]
  · rw [List.getElem?_set_ne hj]
theorem subB.set {a b : List Bool} {i : Nat} (h : subB a b) (hb : b[i]! = true) : subB (a.set i true) b := fun j hj => by
  rcases bang_set.1 hj with h1 | ⟨rfl, _⟩
  · exact h j h1
  · exact hb
theorem subB.grow {a : List Bool} {i : Nat} : subB a (a.set i true) := fun j hj => bang_set.2 (.inl hj)
theorem subB.zero {n : Nat} {b : List Bool} : subB (List.replicate n false) b := fun j hj => by
  have hi := bang_lt hj
  rw [getElem!_def, List.getElem?_eq_getElem hi] at hj
  simp at hj
def closB (good : Sym → Bool) (g : GD) (h : List Bool) : Prop := ∀ p ∈ g.prods, (∀ x ∈ p.2, okS good h x = true) → h[p.1.toNat]! = true
theorem okS_mono {good : Sym → Bool} {a b : List Bool} (h : subB a b) {x : Sym} (hx : okS good a x = true) : okS good b x = true := by
  unfold okS at hx ⊢
  split
  · rename_i hk; rw [if_pos hk] at hx; exact h _ hx
  · rename_i hk; rw [if_neg hk] at hx; exact hx
theorem any_bad {good : Sym → Bool} {h : List Bool} {l : List Sym} : l.any (fun x => !okS good h x) = false ↔ ∀ x ∈ l, okS good h x = true := by
  rw [List.any_eq_false]; simp
theorem stepB_true {good : Sym → Bool} : ∀ (l : List P2) (h : List Bool), (stepB good l h true).2 = true
  | [], _ => rfl
  | p :: r, h => by
    rw [stepB]; split <;> exact stepB_true r _
theorem stepB_stay {good : Sym → Bool} : ∀ (l : List P2) (h : List Bool), (stepB good l h false).2 = false → (stepB good l h false).1 = h ∧ ∀ p ∈ l, (∀ x ∈ p.2, okS good h x = true) → h[p.1.toNat]! = true
  | [], _, _ => ⟨rfl, fun p hp => by cases hp⟩
  | p :: r, h, hf => by
    rw [stepB] at hf ⊢
    split at hf
    · rw [stepB_true] at hf; cases hf
    · rename_i hn
      rw [if_neg hn]
      obtain ⟨h1, h2⟩ := stepB_stay r h hf
      refine ⟨h1, fun q hq hx => ?_⟩
      rcases List.mem_cons.1 hq with rfl | hq
      · cases hv : h[q.1.toNat]! with
        | true => rfl
        | false => exact absurd ⟨hv, any_bad.2 hx⟩ hn
      · exact h2 q hq hx
theorem stepB_sub {good : Sym → Bool} {g : GD} {T : List Bool} (hT : closB good g T) : ∀ (l : List P2) (h : List Bool) (f : Bool), (∀ p ∈ l, p ∈ g.prods) → subB h T → subB (stepB good l h f).1 T
  | [], _, _, _, hs => hs
  | p :: r, h, f, hl, hs => by
    rw [stepB]
    split
    · rename_i hn
      exact stepB_sub hT r _ _ (fun q hq => hl q (List.mem_cons_of_mem _ hq)) (hs.set (hT p (hl p (by simp)) fun x hx => okS_mono hs (any_bad.1 hn.2 x hx)))
    · exact stepB_sub hT r _ _ (fun q hq => hl q (List.mem_cons_of_mem _ hq)) hs
theorem madeG_least {good : Sym → Bool} {g : GD} {T : List Bool} (hT : closB good g T) : subB (madeG good g) T :=
  fixN_inv (P := fun h => subB h T) (fun h hh => stepB_sub hT _ _ _ (fun _ hp => hp) hh) _ _ subB.zero
theorem madeG_closed (good : Sym → Bool) {g : GD} (hG : GoodG g) : closB good g (madeG good g) := by
  have h := fixN_flag (f := fun h => stepB good g.prods h false) (μ := fun h => h.count false) (Inv := fun h => h.length = g.names) (fun h hi hf => ⟨(stepB_len good _ h false).trans hi, stepB_dec good hG hi hf⟩) (fun h hf => (stepB_stay _ _ hf).1) ((List.replicate g.names false).count false + 1) (List.replicate g.names false) List.length_replicate (Nat.lt_succ_self _)
  exact (stepB_stay _ _ h.2).2
theorem madeG_eq {good : Sym → Bool} {g : GD} (hG : GoodG g) {h : List Bool} (hl : h.length = g.names) (h1 : subB h (madeG good g)) (h2 : closB good g h) : h = madeG good g :=
  subB.antisymm (hl.trans (madeG_len good g).symm) h1 (madeG_least h2)
def okR (h : List Bool × List Bool) (x : Sym) : Prop := (x.kind = 1 → h.2[x.n.toNat]! = true) ∧ (x.kind = 3 → h.1[x.n.toNat]! = true)
def closR (g : GD) (h : List Bool × List Bool) : Prop := ∀ p ∈ g.prods, h.1[p.1.toNat]! = true → ∀ x ∈ p.2, okR h x
def subR (a b : List Bool × List Bool) : Prop := subB a.1 b.1 ∧ subB a.2 b.2
theorem markR_stay {x : Sym} {st : RS} (h : (markR x st).2 = false) : st.2 = false ∧ (markR x st).1 = st.1 ∧ okR st.1 x := by
  obtain ⟨⟨a, b⟩, f⟩ := st
  unfold markR at h ⊢
  unfold okR
  split at h
  · rename_i hk
    rw [if_pos hk]
    simp only [Bool.or_eq_false_iff, Bool.not_eq_false'] at h
    exact ⟨h.1, by rw [setB_same h.2], fun _ => h.2, fun h3 => by omega⟩
  · rename_i hk
    rw [if_neg hk]
    split at h
    · rename_i hk3
      rw [if_pos hk3]
      simp only [Bool.or_eq_false_iff, Bool.not_eq_false'] at h
      exact ⟨h.1, by rw [setB_same h.2], fun h3 => by omega, fun _ => h.2⟩
    · rename_i hk3
      rw [if_neg hk3]
      exact ⟨h, rfl, fun h1 => absurd h1 hk, fun h1 => absurd h1 hk3⟩
theorem rowR_stay : ∀ {l : List Sym} {st : RS}, (rowR l st).2 = false → st.2 = false ∧ (rowR l st).1 = st.1 ∧ ∀ x ∈ l, okR st.1 x
  | [], st, h => ⟨h, rfl, fun x hx => by cases hx⟩
  | x :: r, st, h => by
    rw [rowR] at h ⊢
    obtain ⟨h1, h2, h3⟩ := rowR_stay (l := r) h
    obtain ⟨h4, h5, h6⟩ := markR_stay h1
    refine ⟨h4, h2.trans h5, fun y hy => ?_⟩
    rcases List.mem_cons.1 hy with rfl | hy
    · exact h6
    · have := h3 y hy; rw [h5] at this; exact this
theorem stepR_stay : ∀ {l : List P2} {st : RS}, (stepR l st).2 = false → st.2 = false ∧ (stepR l st).1 = st.1 ∧ ∀ p ∈ l, st.1.1[p.1.toNat]! = true → ∀ x ∈ p.2, okR st.1 x
  | [], st, h => ⟨h, rfl, fun x hx => by cases hx⟩
  | p :: r, st, h => by
    rw [stepR] at h ⊢
    split at h
    · rename_i hp
      rw [if_pos hp]
      obtain ⟨h1, h2, h3⟩ := stepR_stay (l := r) h
      obtain ⟨h4, h5, h6⟩ := rowR_stay h1
      refine ⟨h4, h2.trans h5, fun q hq hv => ?_⟩
      rcases List.mem_cons.1 hq with rfl | hq
      · exact h6
      · rw [h5] at h3; exact h3 q hq hv
    · rename_i hp
      rw [if_neg hp]
      obtain ⟨h1, h2, h3⟩ := stepR_stay (l := r) h
      refine ⟨h1, h2, fun q hq hv => ?_⟩
      rcases List.mem_cons.1 hq with rfl | hq
      · exact absurd hv hp
      · exact h3 q hq hv
theorem markR_sub {x : Sym} {st : RS} {T : List Bool × List Bool} (h : subR st.1 T) (hx : okR T x) : subR (markR x st).1 T := by
  unfold markR
  split
  · rename_i hk; exact ⟨h.1, h.2.set (hx.1 hk)⟩
  · split
    · rename_i hk; exact ⟨h.1.set (hx.2 hk), h.2⟩
    · exact h
theorem rowR_sub {T : List Bool × List Bool} : ∀ {l : List Sym} {st : RS}, subR st.1 T → (∀ x ∈ l, okR T x) → subR (rowR l st).1 T
  | [], _, h, _ => h
  | x :: r, st, h, hx => rowR_sub (l := r) (markR_sub h (hx x (by simp))) fun y hy => hx y (by simp [hy])
theorem stepR_sub {g : GD} {T : List Bool × List Bool} (hT : closR g T) : ∀ {l : List P2} {st : RS}, (∀ p ∈ l, p ∈ g.prods) → subR st.1 T → subR (stepR l st).1 T
  | [], _, _, h => h
  | p :: r, st, hl, h => by
    rw [stepR]
    split
    · rename_i hp
      exact stepR_sub hT (l := r) (fun q hq => hl q (by simp [hq])) (rowR_sub h (hT p (hl p (by simp)) (h.1 _ hp)))
    · exact stepR_sub hT (l := r) (fun q hq => hl q (by simp [hq])) h
theorem reachG_least {g : GD} {T : List Bool × List Bool} (hT : closR g T) (hs : T.1[g.start.toNat]! = true) : subR (reachG g) T :=
  fixN_inv (P := fun h => subR h T) (fun h hh => stepR_sub hT (fun _ hp => hp) hh) _ _ ⟨subB.zero.set hs, subB.zero⟩
theorem reachG_fix {g : GD} (hG : GoodG g) : closR g (reachG g) ∧ (reachG g).1[g.start.toNat]! = true := by
  have h := fixN_flag (f := fun h => stepR g.prods (h, false)) (μ := muR) (Inv := fun h => h.1.length = g.names ∧ h.2.length = g.triv.length) (fun h hi hf => ⟨stepR_len _ _ hi, stepR_dec hG hi.1 hi.2 hf⟩) (fun h hf => (stepR_stay hf).2.1) (muR ((List.replicate g.names false).set g.start.toNat true, List.replicate g.triv.length false) + 1) ((List.replicate g.names false).set g.start.toNat true, List.replicate g.triv.length false) ⟨by simp, by simp⟩ (Nat.lt_succ_self _)
  refine ⟨(stepR_stay h.2).2.2, ?_⟩
  have hg := hG.1
  have key : ∀ (l : List P2) (st : RS), st.1.1[g.start.toNat]! = true → (stepR l st).1.1[g.start.toNat]! = true := by
    have mk : ∀ (x : Sym) (st : RS), st.1.1[g.start.toNat]! = true → (markR x st).1.1[g.start.toNat]! = true := fun x st hs => by
      unfold markR
      split
      · exact hs
      · split
        · exact bang_set.2 (.inl hs)
        · exact hs
    have rw_ : ∀ (l : List Sym) (st : RS), st.1.1[g.start.toNat]! = true → (rowR l st).1.1[g.start.toNat]! = true := by
      intro l
      induction l with
      | nil => intro st hs; exact hs
      | cons x r ih => intro st hs; exact ih _ (mk x st hs)
    intro l
    induction l with
    | nil => intro st hs; exact hs
    | cons p r ih =>
      intro st hs
      rw [stepR]
      split
      · exact ih _ (rw_ _ _ hs)
      · exact ih _ hs
  exact fixN_inv (P := fun h : List Bool × List Bool => h.1[g.start.toNat]! = true) (fun h hh => key g.prods (h, false) hh) _ _ (bang_set.2 (.inr ⟨rfl, by rw [List.length_replicate]; omega⟩))
theorem reachG_eq {g : GD} (hG : GoodG g) {h : List Bool × List Bool} (h1 : h.1.length = g.names) (h2 : h.2.length = g.triv.length) (hs : subR h (reachG g)) (hc : closR g h) (h0 : h.1[g.start.toNat]! = true) : h = reachG g := by
  have hl := reachG_len hG
  have ht := reachG_least hc h0
  exact Prod.ext (subB.antisymm (h1.trans hl.1.symm) hs.1 ht.1) (subB.antisymm (h2.trans hl.2.symm) hs.2 ht.2)
def leS (nm : Nat) (a b : List Int) : Prop := ∀ i : Nat, i < nm → a[i]! ≤ b[i]!
def stabS (add most : Int) (τ : Sym → Int) (g : GD) (h : List Int) : Prop := ∀ p ∈ g.prods, h[p.1.toNat]! ≤ sumR τ most h p.2 add
theorem sumR_mono {τ : Sym → Int} {most : Int} {nm : Nat} {a b : List Int} (h : leS nm a b) : ∀ {l : List Sym} {m n : Int}, (∀ x ∈ l, x.kind = 3 → x.n.toNat < nm) → m ≤ n → sumR τ most a l m ≤ sumR τ most b l n
  | [], _, _, _, hmn => hmn
  | x :: r, m, n, hx, hmn => by
    rw [sumR, sumR]
    refine sumR_mono h (fun y hy => hx y (by simp [hy])) ?_
    have hv : (if x.kind = 3 then a[x.n.toNat]! else τ x) ≤ (if x.kind = 3 then b[x.n.toNat]! else τ x) := by
      split
      · rename_i hk; exact h _ (hx x (by simp) hk)
      · exact Int.le_refl _
    generalize (if x.kind = 3 then a[x.n.toNat]! else τ x) = u at hv ⊢
    generalize (if x.kind = 3 then b[x.n.toNat]! else τ x) = v at hv ⊢
    repeat' split
    all_goals omega
theorem bangI_set {l : List Int} {i j : Nat} {v : Int} : (l.set i v)[j]! = if i = j ∧ i < l.length then v else l[j]! := by
  rw [getElem!_def, getElem!_def]
  by_cases h : i = j
  · subst h
    by_cases hi : i < l.length
    · rw [List.getElem?_set_self hi]; simp [hi]
    · rw [List.getElem?_eq_none (by simp; omega), List.getElem?_eq_none (by omega)]; simp [hi]
  · rw [List.getElem?_set_ne h]; simp [h]
theorem leS.set {nm i : Nat} {a b : List Int} {v : Int} (h : leS nm a b) (hv : a[i]! ≤ v) : leS nm a (b.set i v) := fun j hj => by
  rw [bangI_set]
  split
  · rename_i hh; rw [← hh.1]; exact hv
  · exact h j hj
section
variable {add most : Int} {τ : Sym → Int}
theorem stepS_true : ∀ (l : List P2) (h : List Int), (stepS add most τ l h true).2 = true
  | [], _ => rfl
  | p :: r, h => by
    rw [stepS]; split <;> exact stepS_true r _
theorem stepS_stay : ∀ (l : List P2) (h : List Int), (stepS add most τ l h false).2 = false → (stepS add most τ l h false).1 = h ∧ ∀ p ∈ l, h[p.1.toNat]! ≤ sumR τ most h p.2 add
  | [], _, _ => ⟨rfl, fun p hp => by cases hp⟩
  | p :: r, h, hf => by
    rw [stepS] at hf ⊢
    split at hf
    · rw [stepS_true] at hf; cases hf
    · rename_i hn
      rw [if_neg hn]
      obtain ⟨h1, h2⟩ := stepS_stay r h hf
      refine ⟨h1, fun q hq => ?_⟩
      rcases List.mem_cons.1 hq with rfl | hq
      · omega
      · exact h2 q hq
theorem stepS_le {g : GD} {T : List Int} (hG : GoodG g) (hT : stabS add most τ g T) : ∀ (l : List P2) (h : List Int) (f : Bool), (∀ p ∈ l, p ∈ g.prods) → leS g.names T h → leS g.names T (stepS add most τ l h f).1
  | [], _, _, _, hs => hs
  | p :: r, h, f, hl, hs => by
    rw [stepS]
    split
    · refine stepS_le hG hT r _ _ (fun q hq => hl q (by simp [hq])) (hs.set ?_)
      have hp := hl p (by simp)
      exact Int.le_trans (hT p hp) (sumR_mono hs (fun x hx hk => by have := symE_name ((hG.2 p hp).2.2 x hx) hk; omega) (Int.le_refl _))
    · exact stepS_le hG hT r _ _ (fun q hq => hl q (by simp [hq])) hs
theorem sumsG_most {g : GD} {T : List Int} (hG : GoodG g) (hT : stabS add most τ g T) (hb : ∀ i, i < g.names → T[i]! ≤ most + 1) : leS g.names T (sumsG add most τ g) :=
  fixN_inv (P := fun h => leS g.names T h) (fun h hh => stepS_le hG hT _ _ _ (fun _ hp => hp) hh) _ _ (fun i hi => by rw [bang_of (l := List.replicate g.names (most + 1)) (x := most + 1) (by rw [List.getElem?_replicate, if_pos hi])]; exact hb i hi)
theorem sumsG_stab {g : GD} (hG : GoodG g) (hadd : 0 ≤ add ∧ add ≤ 1073741824) (hmost : 0 ≤ most ∧ most ≤ 1073741824) (hτ : ∀ x, 0 ≤ τ x ∧ τ x ≤ 1073741824) : stabS add most τ g (sumsG add most τ g) ∧ ∀ v ∈ sumsG add most τ g, 0 ≤ v ∧ v ≤ most + 1 := by
  have h := fixN_flag (f := fun h => stepS add most τ g.prods h false) (μ := sumN) (Inv := fun h => h.length = g.names ∧ ∀ v ∈ h, 0 ≤ v ∧ v ≤ most + 1) (fun h hi hf => stepS_inv hG hadd hmost hτ hi hf) (fun h hf => (stepS_stay _ _ hf).1) (sumN (List.replicate g.names (most + 1)) + 1) (List.replicate g.names (most + 1)) ⟨List.length_replicate, fun v hv => by rw [List.eq_of_mem_replicate hv]; omega⟩ (Nat.lt_succ_self _)
  exact ⟨(stepS_stay _ _ h.2).2, h.1.2⟩
end
end Go.Proofs.YtnnmdkglgnlenaaGreatDoor
