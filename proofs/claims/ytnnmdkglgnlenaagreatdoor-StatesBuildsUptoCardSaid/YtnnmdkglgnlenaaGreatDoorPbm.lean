/-
  Part 13 of the proof: texts Sz Sn So Sq. No conditions.
-/
import Derived.Shelf.SlSortCmp.WholeK
import Derived.Shelf.SlSortCmp.NoneTotal
import Derived.Shelf.Lay
import Derived.Ground.SlsfProg
import Derived.Test.YtnnmdkglgnlenaaGreatDoorRows
import Derived.Test.YtnnmdkglgnlenaaGreatDoorPbf
import Derived.Test.YtnnmdkglgnlenaaGreatDoorPbg
import Derived.Test.YtnnmdkglgnlenaaGreatDoorPbh
import Derived.Test.YtnnmdkglgnlenaaGreatDoorPbi
set_option linter.unusedVariables false
set_option linter.unusedSimpArgs false
set_option linter.unusedSectionVars false
set_option maxRecDepth 100000
set_option maxHeartbeats 4000000
namespace Go.Proofs
open Go.Shelf
shelf_lay_g SlLaysF0.n6 Slsf 6 at Tryz 97 as Tryz.sortItm
shelf_lay_g SlLaysF0.n6 Slsf 6 at Tryz 99 as Tryz.sortSym
end Go.Proofs
namespace Go.Proofs.YtnnmdkglgnlenaaGreatDoor
open Go Go.RowKit Go.Vx
theorem fm_get {α : Type} {f : α → List Value} {k : Nat} (hk : ∀ a, (f a).length = k) (h0 : 0 < k) : ∀ (l : List α) (t : Nat), (l.flatMap f)[t]? = (l[t / k]?).bind fun x => (f x)[t % k]?
  | [], t => by simp
  | a :: l, t => by
    rw [List.flatMap_cons]
    by_cases h : t < k
    · rw [List.getElem?_append_left (by rw [hk]; exact h), Nat.div_eq_of_lt h, Nat.mod_eq_of_lt h]; rfl
    · rw [List.getElem?_append_right (by rw [hk]; omega), hk, fm_get hk h0 l (t - k)]
      have e1 : t / k = (t - k) / k + 1 := by
        have : t = (t - k) + k := by omega
        rw [this, Nat.add_div_right _ h0, Nat.add_sub_cancel]
      have e2 : t % k = (t - k) % k := by
        have : t = (t - k) + k := by omega
        rw [this, Nat.add_mod_right, Nat.add_sub_cancel]
      rw [e1, e2, List.getElem?_cons_succ]
theorem flatK_list {α : Type} [Inhabited α] {f : α → List Value} {k : Nat} (hk : ∀ a, (f a).length = k) (h0 : 0 < k) (d : Array α) : (Sort.flatK f k d).toList = d.toList.flatMap f := by
  apply List.ext_getElem
  · rw [fm_len hk]; simp
  · intro t h1 h2
    have h3 : t < d.size * k := by simpa using h1
    have h4 : t / k < d.size := (Nat.div_lt_iff_lt_mul h0).2 h3
    have h5 : t % k < k := Nat.mod_lt _ h0
    have h6 := fm_get hk h0 d.toList t
    rw [List.getElem?_eq_getElem h2, Array.getElem?_toList, Array.getElem?_eq_getElem h4] at h6
    simp only [Option.bind_some] at h6
    rw [List.getElem?_eq_getElem (by rw [hk]; exact h5)] at h6
    have h7 := Sort.get_flatK f k d t h3
    have h8 : d[t / k]! = d[t / k] := by rw [getElem!_pos d (t / k) h4]
    rw [getElem!_pos _ t (by simpa using h1), h8, getElem!_pos _ (t % k) (by rw [hk]; exact h5)] at h7
    rw [Array.getElem_toList, h7]
    exact (Option.some.inj h6).symm
theorem putCells_setAll (F : Array Value) (off : Nat) (cur : Array Value) (h : off + F.size ≤ cur.size) : Sort.putCells id off F cur = setAll cur off F.toList := by
  apply Array.ext'
  rw [setAll_list]
  have hd : cur.toList = cur.toList.take off ++ (cur.toList.drop off).take F.size ++ cur.toList.drop (off + F.size) := by
    rw [← List.drop_drop, List.append_assoc, List.take_append_drop, List.take_append_drop]
  have hs := setL_app F.toList ((cur.toList.drop off).take F.size) (cur.toList.drop (off + F.size)) (cur.toList.take off) (by simp; omega)
  rw [List.length_take, Nat.min_eq_left (by simp; omega), ← hd] at hs
  rw [hs]
  apply List.ext_getElem?
  intro i
  rw [Array.getElem?_toList]
  simp only [Sort.putCells, Array.getElem?_mapIdx]
  by_cases h1 : i < off
  · rw [List.append_assoc, List.getElem?_append_left (by simp; omega), List.getElem?_take, if_pos h1, Array.getElem?_toList]
    cases cur[i]? with
    | none => rfl
    | some x => simp; omega
  · by_cases h2 : i < off + F.size
    · rw [List.append_assoc, List.getElem?_append_right (by simp; omega), List.getElem?_append_left (by simp; omega)]
      have h3 : i < cur.size := by omega
      rw [Array.getElem?_eq_getElem h3, Option.map_some, if_pos ⟨by omega, h2⟩]
      have e : i - (cur.toList.take off).length = i - off := by simp; omega
      rw [e, Array.getElem?_toList, Array.getElem?_eq_getElem (by omega), getElem!_pos F (i - off) (by omega)]; rfl
    · rw [List.getElem?_append_right (by simp; omega), List.getElem?_drop]
      have e : off + F.size + (i - (cur.toList.take off ++ F.toList).length) = i := by simp; omega
      rw [e, Array.getElem?_toList]
      cases cur[i]? with
      | none => rfl
      | some x => simp; omega
open Go.Sort in
theorem sorted_row {α : Type} [Inhabited α] {w : World} {e k N c k0 g n : Nat} {cs : α → List Value} {L S : List α} {os : Array Obj} (hk : ∀ a, (cs a).length = k) (h0 : 0 < k) (ho : Vx.Own w e k (.slice (some ⟨g, 0, none⟩) N c) N (L.flatMap cs)) (hS : k0 + S.length = N) :
    Vx.Own (sortWorldK cs k w g (k0 * k) n S.toArray os) e k (.slice (some ⟨g, 0, none⟩) N c) N ((L.take k0 ++ S).flatMap cs) ∧ Chg (fun b => (Value.slice (some ⟨g, 0, none⟩) N c).ownBlock = some b) w (sortWorldK cs k w g (k0 * k) n S.toArray os) := by
  obtain ⟨cur, hb, hz, hup⟩ := ho.toBlk
  have hL : L.length = N := by
    have h1 := ho.len
    rw [fm_len hk] at h1
    exact Nat.eq_of_mul_eq_mul_right h0 h1
  have hlt := hb.lt
  have hmul : k0 * k + S.length * k = N * k := by rw [← Nat.add_mul, hS]
  have hfk : (flatK cs k S.toArray).toList = S.flatMap cs := flatK_list hk h0 _
  have hsz : (flatK cs k S.toArray).size = S.length * k := by simp
  have hfl : (S.flatMap cs).length = S.length * k := fm_len hk S
  have hbk : Blk (sortWorldK cs k w g (k0 * k) n S.toArray os) g (setAll cur (k0 * k) (S.flatMap cs)) e := by
    rw [← hfk, ← putCells_setAll _ _ _ (by rw [hsz]; omega)]
    unfold Blk at hb ⊢
    show ((w.heap.modify g (onCells (putCells id (k0 * k) (flatK cs k S.toArray)))) ++ os)[g]? = _
    rw [Array.getElem?_append_left (by simpa using hlt), Array.getElem?_modify, if_pos rfl, hb]; rfl
  have hset : setL (L.flatMap cs) (k0 * k) (S.flatMap cs) = (L.take k0 ++ S).flatMap cs := by
    have h1 := setL_app (S.flatMap cs) ((L.drop k0).flatMap cs) [] ((L.take k0).flatMap cs) (by rw [hfl, fm_len hk, List.length_drop, hL]; congr 1; omega)
    rw [List.append_nil, List.append_nil, ← List.flatMap_append, List.take_append_drop, fm_len hk, List.length_take, hL, Nat.min_eq_left (by omega)] at h1
    rw [h1, List.flatMap_append]
  refine ⟨by rw [← hset]; exact hup _ _ _ (by rw [hfl]; omega) hbk, rfl, rfl, rfl, ?_, fun b hb' hne => ?_⟩
  · show w.heap.size ≤ ((w.heap.modify g _) ++ os).size
    simp
  · have hgb : ¬ g = b := fun hh => hne (by subst hh; rfl)
    show ((w.heap.modify g _) ++ os)[b]? = _
    rw [Array.getElem?_append_left (by simpa using hb'), Array.getElem?_modify, if_neg hgb]
theorem holdsK_row {α : Type} [Inhabited α] {w : World} {e k N c k0 g : Nat} {cs : α → List Value} {L : List α} (hk : ∀ a, (cs a).length = k) (h0 : 0 < k) (ho : Vx.Own w e k (.slice (some ⟨g, 0, none⟩) N c) N (L.flatMap cs)) : Sort.HoldsK cs k w g (k0 * k) (L.drop k0).toArray := by
  obtain ⟨cur, hb, hz, hup⟩ := ho.toBlk
  intro j hj
  refine ⟨?_, hb.frozen _⟩
  have hfk : (Sort.flatK cs k (L.drop k0).toArray).toList = (L.drop k0).flatMap cs := flatK_list hk h0 _
  have h1 : (L.flatMap cs)[k0 * k + j]? = some (Sort.flatK cs k (L.drop k0).toArray)[j]! := by
    have h2 : L.flatMap cs = (L.take k0).flatMap cs ++ (L.drop k0).flatMap cs := by rw [← List.flatMap_append, List.take_append_drop]
    have h3 : (L.drop k0).length * k ≠ 0 := by
      have : j < (L.drop k0).length * k := by simpa using hj
      omega
    have h4 : 0 < (L.drop k0).length := Nat.pos_of_ne_zero fun hh => h3 (by rw [hh, Nat.zero_mul])
    rw [List.length_drop] at h4
    have h5 : ((L.take k0).flatMap cs).length = k0 * k := by rw [fm_len hk, List.length_take, Nat.min_eq_left (by omega)]
    rw [h2, List.getElem?_append_right (by omega), h5, Nat.add_sub_cancel_left, ← hfk, Array.getElem?_toList, Array.getElem?_eq_getElem hj, getElem!_pos _ j hj]
  have h6 : CellsL w g 0 (L.flatMap cs) := ho.rowO.cells
  have h7 := cellsL_get h6 h1
  rw [Nat.zero_add] at h7; exact h7
theorem cmpI_cases (x y : Int) : (cmpI x y = -1 ∧ x < y) ∨ (cmpI x y = 0 ∧ x = y) ∨ (cmpI x y = 1 ∧ y < x) := by
  unfold cmpI
  by_cases h1 : x < y
  · rw [if_pos h1]; exact .inl ⟨rfl, h1⟩
  · rw [if_neg h1]
    by_cases h2 : y < x
    · rw [if_pos h2]; exact .inr (.inr ⟨rfl, h2⟩)
    · rw [if_neg h2]; exact .inr (.inl ⟨rfl, by omega⟩)
open Go.Shelf Go.Lib Go.Sort
theorem cmpItm_lt (x y : Itm) : cmpItm x y < 0 ↔ (x.p < y.p ∨ (x.p = y.p ∧ x.dot < y.dot)) := by
  unfold cmpItm
  have e1 := cmpI_cases x.p y.p
  have e2 := cmpI_cases x.dot y.dot
  generalize cmpI x.p y.p = u at e1
  generalize cmpI x.dot y.dot = v at e2
  rcases e1 with ⟨rfl, h1⟩ | ⟨rfl, h1⟩ | ⟨rfl, h1⟩ <;> rcases e2 with ⟨rfl, h2⟩ | ⟨rfl, h2⟩ | ⟨rfl, h2⟩ <;> simp [orL] <;> omega
theorem ltItm (x y : Itm) : ltOf cmpItm x y = decide (x.p < y.p ∨ (x.p = y.p ∧ x.dot < y.dot)) := by
  unfold ltOf; rw [decide_eq_decide]; exact cmpItm_lt x y
theorem swoItm : SWO (ltOf cmpItm) where
  irrefl x := by rw [ltItm]; simp
  trans x y z h1 h2 := by rw [ltItm] at *; simp at *; omega
  ntrans x y z h1 h2 := by rw [ltItm] at *; simp at *; omega
theorem totItm (x y : Itm) (h1 : ltOf cmpItm x y = false) (h2 : ltOf cmpItm y x = false) : x = y := by
  rw [ltItm] at *; simp at *; cases x; cases y; simp at *; omega
def leItm (x y : Itm) : Bool := decide (x.p < y.p ∨ (x.p = y.p ∧ x.dot ≤ y.dot))
theorem geItm : (fun x y : Itm => !ltOf cmpItm y x) = leItm := by
  funext x y
  rw [ltItm, leItm, Bool.eq_iff_iff]; simp; omega
def srtItm (l : List Itm) : List Itm := l.mergeSort leItm
theorem sortItm_calls (l : List Itm) (A : Option Addr) (N c k0 : Nat) (w : World) (ho : Vx.Own w 42 2 (.slice A N c) N (l.flatMap Itm.cs)) (hk : k0 ≤ N) (hc : N ≤ c) (hN : N ≤ 8796093022208) :
    Calls Tryz.prog 97 #[.slice (sfA A c k0 2) (N - k0) (c - k0), .func (.func 98) #[] #[]] w (Ret fun v w' => v = .tuple #[] ∧ Vx.Own w' 42 2 (.slice A N c) N ((l.take k0 ++ srtItm (l.drop k0)).flatMap Itm.cs) ∧ Chg (fun b => (Value.slice A N c).ownBlock = some b) w w') := by
  have hL : l.length = N := by
    have h1 := ho.len
    rw [fm_len Itm.len] at h1; omega
  by_cases h0 : N - k0 = 0
  · have hS := AnyF.slices_SortFunc_none (P := Tryz.prog) (ρ := Tryz.sortItm_ren) { Tryz.sortItm with } (sfA A c k0 2) (c - k0) (.func (.func 98) #[] #[]) w
    change Calls Tryz.prog 97 _ _ _ at hS
    rw [h0]
    refine hS.mono ?_
    rintro e w' ⟨rfl, rfl⟩
    refine ⟨_, rfl, rfl, ?_, Chg.refl _ _⟩
    rw [List.take_of_length_le (by omega), List.drop_of_length_le (by omega)]
    simpa [srtItm] using ho
  · obtain ⟨g, c', heq, _⟩ := ho.some_of (by omega)
    simp only [Value.slice.injEq, true_and] at heq
    obtain ⟨rfl, rfl⟩ := heq
    have hs2 : sfA (some ⟨g, 0, none⟩) c k0 2 = some ⟨g, k0 * 2, none⟩ := by
      have : c ≠ k0 := by omega
      simp [sfA, this, Addr.add]
      try exact fun h => h.symm
    rw [hs2]
    have eg : ∀ args w, (callFunc 98 args).run Tryz.prog w = .ok (.enter 98 args) w := enters_of Tryz.func98 (by kernel_rfl) rfl
    have hblk : g < w.heap.size := by obtain ⟨cur, hb, _⟩ := ho.toBlk; exact hb.lt
    have hd : (l.drop k0).toArray.size = N - k0 := by simp [hL]
    have hS := AnyQ.slices_SortFunc_total Tryz.sortItm 2 (fun w => run_isAgg (P := Tryz.prog) (t := 42) (by kernel_rfl) w) (fun w => run_size (P := Tryz.prog) (t := 42) (by kernel_rfl) w) Itm.cs Itm.len (fun x v hv => List.all_eq_true.1 (Itm.one x) v hv) cmpItm swoItm 98 #[] g (k0 * 2) (c - k0) (l.drop k0).toArray w eg
      (fun m os dk _ x y => (byItem_calls x y _).mono fun e w' ⟨v, h1, h2, q, os', h3⟩ => ⟨by rw [h1, h2], q, os', h3⟩) (holdsK_row Itm.len (by decide) ho) hblk (by rw [hd]; omega) totItm
    change Calls Tryz.prog 97 _ _ _ at hS
    rw [hd, geItm] at hS
    refine hS.mono ?_
    rintro e w' ⟨rfl, n, os, rfl⟩
    exact ⟨_, rfl, rfl, sorted_row Itm.len (by decide) ho (by show k0 + (List.mergeSort (l.drop k0) leItm).length = N; rw [List.length_mergeSort, List.length_drop, hL]; omega)⟩
theorem cmpSym_lt (x y : Sym) : cmpSym x y < 0 ↔ (x.kind < y.kind ∨ (x.kind = y.kind ∧ x.n < y.n)) := by
  unfold cmpSym
  have e1 := cmpI_cases x.kind y.kind
  have e2 := cmpI_cases x.n y.n
  generalize cmpI x.kind y.kind = u at e1
  generalize cmpI x.n y.n = v at e2
  rcases e1 with ⟨rfl, h1⟩ | ⟨rfl, h1⟩ | ⟨rfl, h1⟩ <;> rcases e2 with ⟨rfl, h2⟩ | ⟨rfl, h2⟩ | ⟨rfl, h2⟩ <;> simp [orL] <;> omega
theorem ltSym (x y : Sym) : ltOf cmpSym x y = decide (x.kind < y.kind ∨ (x.kind = y.kind ∧ x.n < y.n)) := by
  unfold ltOf; rw [decide_eq_decide]; exact cmpSym_lt x y
theorem swoSym : SWO (ltOf cmpSym) where
  irrefl x := by rw [ltSym]; simp
  trans x y z h1 h2 := by rw [ltSym] at *; simp at *; omega
  ntrans x y z h1 h2 := by rw [ltSym] at *; simp at *; omega
theorem totSym (x y : Sym) (h1 : ltOf cmpSym x y = false) (h2 : ltOf cmpSym y x = false) : x = y := by
  rw [ltSym] at *; simp at *; cases x; cases y; simp at *; omega
def leSym (x y : Sym) : Bool := decide (x.kind < y.kind ∨ (x.kind = y.kind ∧ x.n ≤ y.n))
theorem geSym : (fun x y : Sym => !ltOf cmpSym y x) = leSym := by
  funext x y
  rw [ltSym, leSym, Bool.eq_iff_iff]; simp; omega
def srtSym (l : List Sym) : List Sym := l.mergeSort leSym
theorem sortSym_calls (l : List Sym) (A : Option Addr) (N c k0 : Nat) (w : World) (ho : Vx.Own w 32 2 (.slice A N c) N (l.flatMap Sym.cs)) (hk : k0 ≤ N) (hc : N ≤ c) (hN : N ≤ 8796093022208) :
    Calls Tryz.prog 99 #[.slice (sfA A c k0 2) (N - k0) (c - k0), .func (.func 100) #[] #[]] w (Ret fun v w' => v = .tuple #[] ∧ Vx.Own w' 32 2 (.slice A N c) N ((l.take k0 ++ srtSym (l.drop k0)).flatMap Sym.cs) ∧ Chg (fun b => (Value.slice A N c).ownBlock = some b) w w') := by
  have hL : l.length = N := by
    have h1 := ho.len
    rw [fm_len Sym.len] at h1; omega
  by_cases h0 : N - k0 = 0
  · have hS := AnyF.slices_SortFunc_none (P := Tryz.prog) (ρ := Tryz.sortSym_ren) { Tryz.sortSym with } (sfA A c k0 2) (c - k0) (.func (.func 100) #[] #[]) w
    change Calls Tryz.prog 99 _ _ _ at hS
    rw [h0]
    refine hS.mono ?_
    rintro e w' ⟨rfl, rfl⟩
    refine ⟨_, rfl, rfl, ?_, Chg.refl _ _⟩
    rw [List.take_of_length_le (by omega), List.drop_of_length_le (by omega)]
    simpa [srtSym] using ho
  · obtain ⟨g, c', heq, _⟩ := ho.some_of (by omega)
    simp only [Value.slice.injEq, true_and] at heq
    obtain ⟨rfl, rfl⟩ := heq
    have hs2 : sfA (some ⟨g, 0, none⟩) c k0 2 = some ⟨g, k0 * 2, none⟩ := by
      have : c ≠ k0 := by omega
      simp [sfA, this, Addr.add]
      try exact fun h => h.symm
    rw [hs2]
    have eg : ∀ args w, (callFunc 100 args).run Tryz.prog w = .ok (.enter 100 args) w := enters_of Tryz.func100 (by kernel_rfl) rfl
    have hblk : g < w.heap.size := by obtain ⟨cur, hb, _⟩ := ho.toBlk; exact hb.lt
    have hd : (l.drop k0).toArray.size = N - k0 := by simp [hL]
    have hS := AnyQ.slices_SortFunc_total Tryz.sortSym 2 (fun w => run_isAgg (P := Tryz.prog) (t := 32) (by kernel_rfl) w) (fun w => run_size (P := Tryz.prog) (t := 32) (by kernel_rfl) w) Sym.cs Sym.len (fun x v hv => List.all_eq_true.1 (Sym.one x) v hv) cmpSym swoSym 100 #[] g (k0 * 2) (c - k0) (l.drop k0).toArray w eg
      (fun m os dk _ x y => (bySym_calls x y _).mono fun e w' ⟨v, h1, h2, q, os', h3⟩ => ⟨by rw [h1, h2], q, os', h3⟩) (holdsK_row Sym.len (by decide) ho) hblk (by rw [hd]; omega) totSym
    change Calls Tryz.prog 99 _ _ _ at hS
    rw [hd, geSym] at hS
    refine hS.mono ?_
    rintro e w' ⟨rfl, n, os, rfl⟩
    exact ⟨_, rfl, rfl, sorted_row Sym.len (by decide) ho (by show k0 + (List.mergeSort (l.drop k0) leSym).length = N; rw [List.length_mergeSort, List.length_drop, hL]; omega)⟩
theorem sfA_zero (A : Option Addr) (c sz : Nat) : sfA A c 0 sz = A := by
  unfold sfA; split
  · rfl
  · cases A with
    | none => rfl
    | some a => simp [Addr.add]
theorem Own.capn {w : World} {e sz n c : Nat} {A : Option Addr} {xs : List Value} (h : Vx.Own w e sz (.slice A n c) n xs) : n ≤ c := by
  obtain ⟨A', c', h1, h2⟩ := h.shape
  cases h1; exact h2
theorem sortItm_all (l : List Itm) (A : Option Addr) (N c : Nat) (w : World) (ho : Vx.Own w 42 2 (.slice A N c) N (l.flatMap Itm.cs)) (hc : N ≤ c) (hN : N ≤ 8796093022208) :
    Calls Tryz.prog 97 #[.slice A N c, .func (.func 98) #[] #[]] w (Ret fun v w' => v = .tuple #[] ∧ Vx.Own w' 42 2 (.slice A N c) N ((srtItm l).flatMap Itm.cs) ∧ Chg (fun b => (Value.slice A N c).ownBlock = some b) w w') := by
  have h := sortItm_calls l A N c 0 w ho (Nat.zero_le _) hc hN
  rw [sfA_zero] at h
  exact h
theorem srtItm_len (l : List Itm) : (srtItm l).length = l.length := List.length_mergeSort _
theorem sortSym_all (l : List Sym) (A : Option Addr) (N c : Nat) (w : World) (ho : Vx.Own w 32 2 (.slice A N c) N (l.flatMap Sym.cs)) (hc : N ≤ c) (hN : N ≤ 8796093022208) :
    Calls Tryz.prog 99 #[.slice A N c, .func (.func 100) #[] #[]] w (Ret fun v w' => v = .tuple #[] ∧ Vx.Own w' 32 2 (.slice A N c) N ((srtSym l).flatMap Sym.cs) ∧ Chg (fun b => (Value.slice A N c).ownBlock = some b) w w') := by
  have h := sortSym_calls l A N c 0 w ho (Nat.zero_le _) hc hN
  rw [sfA_zero] at h
  exact h
theorem srtSym_len (l : List Sym) : (srtSym l).length = l.length := List.length_mergeSort _
def okI (g : GD) (x : Itm) : Prop := (x.p = -1 ∨ (0 ≤ x.p ∧ x.p < (g.prods.length : Int))) ∧ 0 ≤ x.dot
def bhS (g : GD) (x : Itm) : Sym := (behindG g x).getD ⟨0, 0⟩
theorem right_le {s : SP} {w : World} (hS : SpR w s) {p : Int} (h : p = -1 ∨ (0 ≤ p ∧ p < (s.prods.length : Int))) : (rightG s.g p).length ≤ 8796093022208 := by
  rcases h with h | ⟨h1, h2⟩
  · rw [rightG, if_pos h]; simp
  · have h3 : p.toNat < s.prods.length := by omega
    have hx : s.prods[p.toNat]? = some s.prods[p.toNat] := List.getElem?_eq_getElem h3
    rw [rightG_at (by omega) h1 hx]
    exact (hS.fr _ (List.mem_of_getElem? hx)).le
theorem behindT (s : SP) (ba : Nat) (stA : Option Addr) (stn stc : Nat) (x : Itm) (w : World) (hb : Blk w ba #[(.slice s.lA s.lex.length s.lc), (.slice s.nA s.names.length s.nc), (.int .i64 s.start), (.slice s.pA s.prods.length s.pc), (.slice stA stn stc)] 97) (hS : SpR w s) (h : okI s.g x) :
    Calls Tryz.prog 95 #[.pointer (some ⟨ba, 0, none⟩), .agg #[.int .i64 x.p, .int .i64 x.dot]] w (Ret fun v w' => v = .tuple #[.agg #[.int .i64 (bhS s.g x).kind, .int .i64 (bhS s.g x).n], .bool (behindG s.g x).isSome] ∧ Ext w w') := by
  have h1 := h.1
  rw [s.gprods] at h1
  refine ret_mono (behind_calls s ba stA stn stc x w hb hS h1 h.2 (right_le hS h1)) fun v w' ⟨hv, he⟩ => ⟨?_, he⟩
  rw [hv, bhS]
  cases behindG s.g x <;> rfl
theorem behind_lt {s : SP} {w : World} {x : Itm} (h : okI s.g x) (hS : SpR w s) (hb : (behindG s.g x).isSome = true) : 0 ≤ x.dot ∧ x.dot < 8796093022208 := by
  have h1 := h.1
  rw [s.gprods] at h1
  have h2 := right_le hS h1
  obtain ⟨y, hy⟩ := Option.isSome_iff_exists.1 hb
  have := (List.getElem?_eq_some_iff.1 hy).1
  exact ⟨h.2, by have h3 := h.2; omega⟩
def symsG (g : GD) (l : List Itm) : List Sym := compL (srtSym (l.filterMap (behindG g)))
def overM (g : GD) (z : Sym) (l : List Itm) : List Itm := l.filterMap fun x => if behindG g x = some z then some ⟨x.p, x.dot + 1⟩ else none
def overG (g : GD) (z : Sym) (l : List Itm) : List Itm := srtItm (overM g z l)
theorem bhS_of {g : GD} {x : Itm} (hb : (behindG g x).isSome = true) : behindG g x = some (bhS g x) := by
  rw [bhS]; cases h : behindG g x with
  | none => rw [h] at hb; cases hb
  | some y => rfl
theorem fms_some {g : GD} {l : List Itm} {i : Nat} {x : Itm} {y : List Sym} (hx : l[i]? = some x) (hb : (behindG g x).isSome = true) (hy : y = (l.take i).filterMap (behindG g)) : y ++ [⟨(bhS g x).kind, (bhS g x).n⟩] = (l.take (i + 1)).filterMap (behindG g) := by
  rw [List.take_add_one, hx, List.filterMap_append, ← hy]
  simp only [Option.toList_some, List.filterMap_cons, bhS_of hb, List.filterMap_nil]
theorem fms_none {g : GD} {l : List Itm} {i : Nat} {x : Itm} {y : List Sym} (hx : l[i]? = some x) (hb : (behindG g x).isSome = false) (hy : y = (l.take i).filterMap (behindG g)) : y = (l.take (i + 1)).filterMap (behindG g) := by
  have h : behindG g x = none := by simpa using hb
  rw [List.take_add_one, hx, List.filterMap_append, ← hy]
  simp [h]
theorem ovr_no {g : GD} {z : Sym} {l : List Itm} {i : Nat} {x : Itm} {y : List Itm} (hx : l[i]? = some x) (hb : (behindG g x).isSome = false) (hy : y = overM g z (l.take i)) : y = overM g z (l.take (i + 1)) := by
  have h : behindG g x = none := by simpa using hb
  rw [overM, List.take_add_one, hx, List.filterMap_append, ← overM, ← hy]
  simp [h]
theorem ovr_yes {g : GD} {z : Sym} {l : List Itm} {i : Nat} {x : Itm} {y : List Itm} (hx : l[i]? = some x) (hb : (behindG g x).isSome = true) (he : (bhS g x).kind = z.kind ∧ (bhS g x).n = z.n) (hy : y = overM g z (l.take i)) : y ++ [⟨x.p, x.dot + 1⟩] = overM g z (l.take (i + 1)) := by
  have h : behindG g x = some z := by rw [bhS_of hb]; congr 1; cases h : bhS g x; cases z; rw [h] at he; simp only at he; rw [he.1, he.2]
  rw [overM, List.take_add_one, hx, List.filterMap_append, ← overM, ← hy]
  simp [h]
theorem ovr_other {g : GD} {z : Sym} {l : List Itm} {i : Nat} {x : Itm} {y : List Itm} (hx : l[i]? = some x) (hb : (behindG g x).isSome = true) (he : ¬ ((bhS g x).kind = z.kind ∧ (bhS g x).n = z.n)) (hy : y = overM g z (l.take i)) : y = overM g z (l.take (i + 1)) := by
  have h : ¬ behindG g x = some z := by rw [bhS_of hb]; intro hh; exact he (by rw [Option.some.inj hh]; exact ⟨rfl, rfl⟩)
  rw [overM, List.take_add_one, hx, List.filterMap_append, ← overM, ← hy]
  simp [h]
instance pf_101 : PlF Tryz.prog 101 := ⟨by kernel_rfl⟩
instance pf_95 : PlF Tryz.prog 95 := ⟨by kernel_rfl⟩
instance pf_97 : PlF Tryz.prog 97 := ⟨by kernel_rfl⟩
instance pf_99 : PlF Tryz.prog 99 := ⟨by kernel_rfl⟩
instance tP_42 : PcT Tryz.prog 42 #[(0, 1), (1, 1)] := ⟨by kernel_rfl⟩
instance tZ_42 : ZrT Tryz.prog 42 (.agg #[(.int .i64 0), (.int .i64 0)]) := ⟨by kernel_rfl⟩
theorem symbols_calls (s : SP) (ba : Nat) (stA : Option Addr) (stn stc : Nat) (l : List Itm) (A : Option Addr) (c : Nat) (w : World) (hb : Blk w ba #[(.slice s.lA s.lex.length s.lc), (.slice s.nA s.names.length s.nc), (.int .i64 s.start), (.slice s.pA s.prods.length s.pc), (.slice stA stn stc)] 97) (hS : SpR w s) (hA : RowA w A (l.flatMap Itm.cs)) (hn : l.length ≤ 8796093022208) (hI : ∀ x ∈ l, okI s.g x) :
    Calls Tryz.prog 65 #[(.pointer (some ⟨ba, 0, none⟩)), (.slice A l.length c)] w (Ret (fun v w' => ∃ A' c', v = .slice A' (symsG s.g l).length c' ∧ NewRow w w' 32 2 Sym.cs (symsG s.g l) A' c' ∧ Ext w w')) := by
 have hfp := hS.fp.le
 refine calls_y (n := 32) Tryz.func65 ?_
 refine go ?_
 refine xc_loopN (fun m_ f_ Wx => ∃ (i : Nat) (y : List Sym) (Ay : Option Addr) (cy : Nat), m_ = l.length - i ∧ (i ≤ l.length) ∧ (y = (l.take i).filterMap (behindG s.g)) ∧ (y.length ≤ i) ∧ f_ 0 = (.pointer (some ⟨ba, 0, none⟩)) ∧ f_ 4 = (.slice none 0 0) ∧ f_ 10 = (.slice A l.length c) ∧ f_ 11 = (.int .i64 (((l.length : Nat) : Int))) ∧ f_ 12 = (.int .i64 ((i : Nat))) ∧ f_ 5 = (.slice Ay y.length cy) ∧ Vx.Own Wx 32 2 (.slice Ay y.length cy) y.length (y.flatMap Sym.cs) ∧ (∀ k, ((.slice Ay y.length cy) : Value).ownBlock = some k → w.heap.size ≤ k) ∧ Ext w Wx) (l.length) ?_ ?_
 ·
  exact ⟨0, [], none, 0, (by omega), (by omega), (by simp), (by simp), rfl, rfl, rfl, rfl, vW, rfl, (Vx.Own.nil _ _ _), (fun _k _h => by simp [Value.ownBlock] at _h), (Chg.refl _ _)⟩
 ·
  rintro m_ f1 w1 ⟨i, y, Ay, cy, hm_f1, hi, hy, hly, g0_f1, g4_f1, g10_f1, g11_f1, g12_f1, g5_f1, a0_f1, l0_f1, x1⟩
  have hx1 := x1.size
  rw [← usf g0_f1, ← usf g4_f1, ← usf g10_f1, ← usf g11_f1, ← usf g12_f1, ← usf g5_f1]
  refine go ?_
  refine y_if (fun h1 => ?_) (fun h1 => ?_)
  ·
   obtain ⟨x_1, g_1, o_1, hx_1⟩ := row_may (A := A) (cs := Itm.cs) i Itm.len (by decide) (RowA.ext hA x1)
   obtain ⟨hx_2, hA_1, hc_1⟩ := hx_1 oM
   refine go ?_
   refine y_ix i hA_1 ?_
   refine y_lN (vs := [(.int .i64 x_1.p), (.int .i64 x_1.dot)]) hc_1 ?_
   refine y_al ?_
   intro w2 e1 z1 b1
   refine y_st b1 ?_
   intro w3 e2 z2 b2
   replace b2 : Blk w3 w1.heap.size #[(.int .i64 x_1.p), (.int .i64 x_1.dot)] 42 := blk_full b2 rfl
   refine go ?_
   refine y_lN (vs := [(.int .i64 x_1.p), (.int .i64 x_1.dot)]) ⟨b2.cell rfl, b2.cell rfl, trivial⟩ ?_
   have hok1 := hI _ (List.mem_of_getElem? hx_2)
   have q1 := (((hb.ext x1).ext e1).keep1 e2 (((hb.ext x1).ext e1).ne b1 (by decide)))
   have x2 : Ext w w3 := (Ext.chg1 (Ext.trans x1 e1) e2 (by omega))
   refine yCa (ret_mono (behindT s ba stA stn stc x_1 w3 q1 (hS.ext x2) hok1) ?_)
   rintro _ w4 ⟨rfl, e3⟩
   have he3 := e3.size
   refine go ?_
   refine y_al ?_
   intro w5 e4 z3 b3
   refine y_st b3 ?_
   intro w6 e5 z4 b4
   replace b4 : Blk w6 w4.heap.size #[(.int .i64 ((bhS s.g x_1).kind)), (.int .i64 ((bhS s.g x_1).n))] 32 := blk_full b4 rfl
   refine go ?_
   refine xc_cond (b := ((behindG s.g x_1).isSome)) rfl (fun h2 => ?_) (fun h2 => ?_)
   ·
    have h2' := bS h2
    refine go ?_
    refine y_lN (vs := [(.int .i64 ((bhS s.g x_1).kind)), (.int .i64 ((bhS s.g x_1).n))]) ⟨b4.cell rfl, b4.cell rfl, trivial⟩ ?_
    refine yOp (ox_mkSlice (ps := [(0, (.agg #[(.int .i64 ((bhS s.g x_1).kind)), (.int .i64 ((bhS s.g x_1).n))]))]) (zs := #[(.int .i64 0), (.int .i64 0)]) (cs := #[(.int .i64 ((bhS s.g x_1).kind)), (.int .i64 ((bhS s.g x_1).n))]) tE_33.h rfl (by decide) (by kernel_rfl) (by kernel_rfl) ?_)
    intro w7 e6 z5 b5
    replace b5 : Blk w7 w6.heap.size #[(.int .i64 ((bhS s.g x_1).kind)), (.int .i64 ((bhS s.g x_1).n))] 32 := b5
    have q2 := ((a0_f1.ext e1).keep1 e2 (fun k hk => (a0_f1.ext e1).ne_blk b1 (by decide) k hk))
    have q3 := (((q2.ext e3).ext e4).keep1 e5 (fun k hk => by have _q := ((q2.ext e3).lt) k hk; omega))
    refine yOp (ox_appD (l := y) (r := [(⟨(bhS s.g x_1).kind, (bhS s.g x_1).n⟩ : Sym)]) (cs := Sym.cs) rfl tE_33.h rfl (by decide) Sym.len Sym.one (v := (.slice Ay y.length cy)) rfl rfl (m := 1) rfl (q3.ext e6) b5.all aM (by decide) ?_)
    intro A1 c1 w8 o1 e7 at1 hc1
    have he7 := e7.size
    have low1 : ∀ _k, (Value.slice A1 (y ++ [(⟨(bhS s.g x_1).kind, (bhS s.g x_1).n⟩ : Sym)]).length c1).ownBlock = some _k → w.heap.size ≤ _k := fun _k _h => by rcases at1 with _e | _e <;> rw [_e] at _h; exact l0_f1 _k _h; exact (by cases _h; omega)
    refine go ?_
    refine y_add ?_
    have x3 : Ext w w8 := (Chg.trans (Ext.trans (Ext.chg1 (Ext.trans (Ext.trans x2 e3) e4) e5 (by omega)) e6) e7 (fun b hb hl => (absurd hl (by have _h := l0_f1 b hb; omega))))
    refine go ?_
    exact ⟨rfl, l.length - (i + 1), by omega, i + 1, y ++ [(⟨(bhS s.g x_1).kind, (bhS s.g x_1).n⟩ : Sym)], A1, c1, by omega, (by omega), (fms_some hx_2 h2 hy), (by first | omega | (simp only [List.length_append, List.length_cons, List.length_nil]; omega)), rfl, rfl, rfl, rfl, vW, rfl, o1, low1, x3⟩
   ·
    have h2' := bS h2
    refine go ?_
    refine y_add ?_
    have q4 := ((a0_f1.ext e1).keep1 e2 (fun k hk => (a0_f1.ext e1).ne_blk b1 (by decide) k hk))
    have q5 := (((q4.ext e3).ext e4).keep1 e5 (fun k hk => by have _q := ((q4.ext e3).lt) k hk; omega))
    have x4 : Ext w w6 := (Ext.chg1 (Ext.trans (Ext.trans x2 e3) e4) e5 (by omega))
    refine go ?_
    exact ⟨rfl, l.length - (i + 1), by omega, i + 1, y, Ay, cy, by omega, (by omega), (fms_none hx_2 h2 hy), (by first | omega | (simp only [List.length_append, List.length_cons, List.length_nil]; omega)), rfl, rfl, rfl, rfl, vW, rfl, q5, l0_f1, x4⟩
  ·
   refine go ?_
   refine yCa (ret_mono (sortSym_all y Ay y.length cy w1 a0_f1 (Own.capn a0_f1) (by omega)) ?_)
   rintro _ w9 ⟨rfl, o2, y1⟩
   have hy1 := y1.size
   have hsl : ((srtSym y)).length = y.length := srtSym_len _
   have hoC := o2
   rw [← hsl] at hoC
   refine go ?_
   refine yCa (ret_mono ((by have h9 := compact_calls ((srtSym y)) Ay cy w9 hoC (by rw [hsl]; exact Own.capn o2) (by rw [hsl]; omega); rw [hsl] at h9; exact h9)) ?_)
   rintro _ w10 ⟨c2, rfl, hr1, y2⟩
   have hy2 := y2.size
   refine go ?_
   refine y_r1 ?_
   have hyl : y = l.filterMap (behindG s.g) := by rw [hy, List.take_of_length_le (by omega)]
   have x5 : Ext w w10 := (Chg.trans (Chg.trans x1 y1 (fun b hb hl => (absurd hl (by have _h := l0_f1 b hb; omega)))) y2 (fun b hb hl => (absurd hl (by have _h := l0_f1 b hb; omega))))
   exact ⟨_, _, by rw [symsG, ← hyl] <;> rfl, by rw [symsG, ← hyl]; exact ⟨hr1, fun k hk => by have _h := l0_f1 k (own_any hk); omega⟩, x5⟩
theorem over_calls (s : SP) (ba : Nat) (stA : Option Addr) (stn stc : Nat) (l : List Itm) (A : Option Addr) (c : Nat) (z : Sym) (w : World) (hb : Blk w ba #[(.slice s.lA s.lex.length s.lc), (.slice s.nA s.names.length s.nc), (.int .i64 s.start), (.slice s.pA s.prods.length s.pc), (.slice stA stn stc)] 97) (hS : SpR w s) (hA : RowA w A (l.flatMap Itm.cs)) (hn : l.length ≤ 8796093022208) (hI : ∀ x ∈ l, okI s.g x) :
    Calls Tryz.prog 66 #[(.pointer (some ⟨ba, 0, none⟩)), (.slice A l.length c), (.agg #[(.int .i64 z.kind), (.int .i64 z.n)])] w (Ret (fun v w' => ∃ A' c', v = .slice A' (overG s.g z l).length c' ∧ NewRow w w' 42 2 Itm.cs (overG s.g z l) A' c' ∧ Ext w w')) := by
 have hfp := hS.fp.le
 refine calls_y (n := 43) Tryz.func66 ?_
 refine go ?_
 refine y_bx ?_
 intro w1 e1 z1 b1
 refine go ?_
 refine xc_loopN (fun m_ f_ Wx => ∃ (i : Nat) (y : List Itm) (Ay : Option Addr) (cy : Nat), m_ = l.length - i ∧ (i ≤ l.length) ∧ (y = overM s.g z (l.take i)) ∧ (y.length ≤ i) ∧ f_ 0 = (.pointer (some ⟨ba, 0, none⟩)) ∧ f_ 5 = (.pointer (some ⟨w.heap.size, 0, none⟩)) ∧ f_ 6 = (.slice none 0 0) ∧ f_ 12 = (.slice A l.length c) ∧ f_ 13 = (.int .i64 (((l.length : Nat) : Int))) ∧ f_ 14 = (.int .i64 ((i : Nat))) ∧ f_ 7 = (.slice Ay y.length cy) ∧ Vx.Own Wx 42 2 (.slice Ay y.length cy) y.length (y.flatMap Itm.cs) ∧ (∀ k, ((.slice Ay y.length cy) : Value).ownBlock = some k → w1.heap.size ≤ k) ∧ Ext w1 Wx) (l.length) ?_ ?_
 ·
  exact ⟨0, [], none, 0, (by omega), (by omega), (by simp [overM]), (by simp), rfl, rfl, rfl, rfl, rfl, vW, rfl, (Vx.Own.nil _ _ _), (fun _k _h => by simp [Value.ownBlock] at _h), (Chg.refl _ _)⟩
 ·
  rintro m_ f1 w2 ⟨i, y, Ay, cy, hm_f1, hi, hy, hly, g0_f1, g5_f1, g6_f1, g12_f1, g13_f1, g14_f1, g7_f1, a0_f1, l0_f1, x1⟩
  have hx1 := x1.size
  rw [← usf g0_f1, ← usf g5_f1, ← usf g6_f1, ← usf g12_f1, ← usf g13_f1, ← usf g14_f1, ← usf g7_f1]
  refine go ?_
  refine y_if (fun h1 => ?_) (fun h1 => ?_)
  ·
   have x2 : Ext w w2 := (Ext.trans e1 x1)
   obtain ⟨x_1, g_1, o_1, hx_1⟩ := row_may (A := A) (cs := Itm.cs) i Itm.len (by decide) (RowA.ext hA x2)
   obtain ⟨hx_2, hA_1, hc_1⟩ := hx_1 oM
   refine go ?_
   refine y_ix i hA_1 ?_
   refine y_lN (vs := [(.int .i64 x_1.p), (.int .i64 x_1.dot)]) hc_1 ?_
   refine y_al ?_
   intro w3 e2 z2 b2
   refine y_st b2 ?_
   intro w4 e3 z3 b3
   replace b3 : Blk w4 w2.heap.size #[(.int .i64 x_1.p), (.int .i64 x_1.dot)] 42 := blk_full b3 rfl
   refine go ?_
   refine y_lN (vs := [(.int .i64 x_1.p), (.int .i64 x_1.dot)]) ⟨b3.cell rfl, b3.cell rfl, trivial⟩ ?_
   have hok1 := hI _ (List.mem_of_getElem? hx_2)
   have q1 := ((((hb.ext e1).ext x1).ext e2).keep1 e3 ((((hb.ext e1).ext x1).ext e2).ne b2 (by decide)))
   have x3 : Ext w w4 := (Ext.chg1 (Ext.trans x2 e2) e3 (by omega))
   refine yCa (ret_mono (behindT s ba stA stn stc x_1 w4 q1 (hS.ext x3) hok1) ?_)
   rintro _ w5 ⟨rfl, e4⟩
   have he4 := e4.size
   refine go ?_
   refine y_al ?_
   intro w6 e5 z4 b4
   refine y_st b4 ?_
   intro w7 e6 z5 b5
   replace b5 : Blk w7 w5.heap.size #[(.int .i64 ((bhS s.g x_1).kind)), (.int .i64 ((bhS s.g x_1).n))] 32 := blk_full b5 rfl
   refine go ?_
   by_cases h2 : ((behindG s.g x_1).isSome) = true
   ·
    have hdl := behind_lt (List.mem_of_getElem? hx_2 |> hI _) hS h2
    refine ysL (s := 25) (bT h2) ?_
    refine y_lN (vs := [(.int .i64 ((bhS s.g x_1).kind)), (.int .i64 ((bhS s.g x_1).n))]) ⟨b5.cell rfl, b5.cell rfl, trivial⟩ ?_
    have q2 := (((b1.ext x1).ext e2).keep1 e3 (((b1.ext x1).ext e2).ne b2 (by decide)))
    have q3 := (((q2.ext e4).ext e5).keep1 e6 (by have _q := b1.lt; omega))
    refine y_lN (vs := [(.int .i64 z.kind), (.int .i64 z.n)]) ⟨q3.cell rfl, q3.cell rfl, trivial⟩ ?_
    refine yOp (ox_eqlF (xs := [(.int .i64 ((bhS s.g x_1).kind)), (.int .i64 ((bhS s.g x_1).n))]) (ys := [(.int .i64 z.kind), (.int .i64 z.n)]) (p := (((bhS s.g x_1).kind : Int) = z.kind ∧ ((bhS s.g x_1).n : Int) = z.n)) fS_32 rfl rfl rfl rfl (by simp) ?_)
    refine go ?_
    refine y_if (fun h3 => ?_) (fun h3 => ?_)
    ·
     have q4 := (((b3.ext e4).ext e5).keep1 e6 (((b3.ext e4).ext e5).ne b4 (by decide)))
     refine go ?_
     refine y_ld q4 ?_
     refine go ?_
     refine y_ld q4 ?_
     refine y_add ?_
     refine yOp (ox_mkStruct (ps := [(0, (.int .i64 x_1.p)), (1, (.int .i64 (x_1.dot + 1)))]) (cs := #[(.int .i64 x_1.p), (.int .i64 (x_1.dot + 1))]) tZ_42.h tP_42.h rfl (by kernel_rfl) ?_)
     refine yOp (ox_mkSlice (ps := [(0, (.agg #[(.int .i64 x_1.p), (.int .i64 (x_1.dot + 1))]))]) (zs := #[(.int .i64 0), (.int .i64 0)]) (cs := #[(.int .i64 x_1.p), (.int .i64 (x_1.dot + 1))]) tE_39.h rfl (by decide) (by kernel_rfl) (by kernel_rfl) ?_)
     intro w8 e7 z6 b6
     replace b6 : Blk w8 w7.heap.size #[(.int .i64 x_1.p), (.int .i64 (x_1.dot + 1))] 42 := b6
     have q5 := ((a0_f1.ext e2).keep1 e3 (fun k hk => by have _q := (a0_f1.lt) k hk; omega))
     have q6 := (((q5.ext e4).ext e5).keep1 e6 (fun k hk => ((q5.ext e4).ext e5).ne_blk b4 (by decide) k hk))
     refine yOp (ox_appD (l := y) (r := [(⟨x_1.p, x_1.dot + 1⟩ : Itm)]) (cs := Itm.cs) rfl tE_39.h rfl (by decide) Itm.len Itm.one (v := (.slice Ay y.length cy)) rfl rfl (m := 1) rfl (q6.ext e7) b6.all aM (by decide) ?_)
     intro A1 c1 w9 o1 e8 at1 hc1
     have he8 := e8.size
     have low1 : ∀ _k, (Value.slice A1 (y ++ [(⟨x_1.p, x_1.dot + 1⟩ : Itm)]).length c1).ownBlock = some _k → w1.heap.size ≤ _k := fun _k _h => by rcases at1 with _e | _e <;> rw [_e] at _h; exact l0_f1 _k _h; exact (by cases _h; omega)
     refine go ?_
     refine y_add ?_
     have x4 : Ext w1 w9 := (Chg.trans (Ext.trans (Ext.chg1 (Ext.trans (Ext.trans (Ext.chg1 (Ext.trans x1 e2) e3 (by omega)) e4) e5) e6 (by omega)) e7) e8 (fun b hb hl => (absurd hl (by have _h := l0_f1 b hb; omega))))
     refine go ?_
     exact ⟨rfl, l.length - (i + 1), by omega, i + 1, y ++ [(⟨x_1.p, x_1.dot + 1⟩ : Itm)], A1, c1, by omega, (by omega), (ovr_yes hx_2 h2 h3 hy), (by first | omega | (simp only [List.length_append, List.length_cons, List.length_nil]; omega)), rfl, rfl, rfl, rfl, rfl, vW, rfl, o1, low1, x4⟩
    ·
     refine go ?_
     refine y_add ?_
     have q7 := ((a0_f1.ext e2).keep1 e3 (fun k hk => by have _q := (a0_f1.lt) k hk; omega))
     have q8 := (((q7.ext e4).ext e5).keep1 e6 (fun k hk => ((q7.ext e4).ext e5).ne_blk b4 (by decide) k hk))
     have x5 : Ext w1 w7 := (Ext.chg1 (Ext.trans (Ext.trans (Ext.chg1 (Ext.trans x1 e2) e3 (by omega)) e4) e5) e6 (by omega))
     refine go ?_
     exact ⟨rfl, l.length - (i + 1), by omega, i + 1, y, Ay, cy, by omega, (by omega), (ovr_other hx_2 h2 h3 hy), (by first | omega | (simp only [List.length_append, List.length_cons, List.length_nil]; omega)), rfl, rfl, rfl, rfl, rfl, vW, rfl, q8, l0_f1, x5⟩
   ·
    refine ysL (s := 25) (bF (Bool.eq_false_iff.2 h2)) ?_
    refine go ?_
    refine y_add ?_
    have q9 := ((a0_f1.ext e2).keep1 e3 (fun k hk => by have _q := (a0_f1.lt) k hk; omega))
    have q10 := (((q9.ext e4).ext e5).keep1 e6 (fun k hk => ((q9.ext e4).ext e5).ne_blk b4 (by decide) k hk))
    have x6 : Ext w1 w7 := (Ext.chg1 (Ext.trans (Ext.trans (Ext.chg1 (Ext.trans x1 e2) e3 (by omega)) e4) e5) e6 (by omega))
    refine go ?_
    exact ⟨rfl, l.length - (i + 1), by omega, i + 1, y, Ay, cy, by omega, (by omega), (ovr_no hx_2 (by simpa using h2) hy), (by first | omega | (simp only [List.length_append, List.length_cons, List.length_nil]; omega)), rfl, rfl, rfl, rfl, rfl, vW, rfl, q10, l0_f1, x6⟩
  ·
   refine go ?_
   refine yCa (ret_mono (sortItm_all y Ay y.length cy w2 a0_f1 (Own.capn a0_f1) (by omega)) ?_)
   rintro _ w10 ⟨rfl, o2, y1⟩
   have hy1 := y1.size
   refine go ?_
   refine y_r1 ?_
   have hyl : y = overM s.g z l := by rw [hy, List.take_of_length_le (by omega)]
   have hsl : ((srtItm y)).length = y.length := srtItm_len _
   have x7 : Ext w w10 := (Chg.trans (Ext.trans e1 x1) y1 (fun b hb hl => (absurd hl (by have _h := l0_f1 b hb; omega))))
   exact ⟨_, _, by rw [overG, ← hyl, hsl] <;> rfl, ⟨by rw [overG, ← hyl, hsl]; exact o2, fun k hk => by rw [overG, ← hyl, hsl] at hk; have _h := l0_f1 k hk; omega⟩, x7⟩
abbrev CS := List Itm × List Int × Int
def newP (K : List Itm) (n : Int) : List P2 → Nat → List Itm
  | [], _ => []
  | p :: ps, k => (if p.1 = n ∧ (⟨(k : Nat), 0⟩ : Itm) ∉ K then [⟨(k : Nat), 0⟩] else []) ++ newP K n ps (k + 1)
def stepC (g : GD) (K : List Itm) (h : CS) : CS × Bool :=
  if h.2.2.toNat < h.1.length then
    (if (behindG g h.1[h.2.2.toNat]!).isSome = true ∧ (bhS g h.1[h.2.2.toNat]!).kind = 3 ∧ ¬ 0 < h.2.1[(bhS g h.1[h.2.2.toNat]!).n.toNat]! then
      ((h.1 ++ newP K (bhS g h.1[h.2.2.toNat]!).n g.prods 0, h.2.1.set (bhS g h.1[h.2.2.toNat]!).n.toNat (h.2.1[(bhS g h.1[h.2.2.toNat]!).n.toNat]! + 1), h.2.2 + 1), true)
    else ((h.1, h.2.1, h.2.2 + 1), true))
  else (h, false)
def muC (g : GD) (h : CS) : Nat := h.2.1.count 0 * (g.prods.length + 1) + (h.1.length - h.2.2.toNat)
def closF (g : GD) (K : List Itm) : CS := fixN (stepC g K) (muC g (K, List.replicate g.names 0, 0) + 1) (K, List.replicate g.names 0, 0)
def closG (g : GD) (K : List Itm) : List Itm := (closF g K).1.take K.length ++ srtItm ((closF g K).1.drop K.length)
structure InvC (g : GD) (K : List Itm) (h : CS) : Prop where
  q : 0 ≤ h.2.2 ∧ h.2.2 ≤ (h.1.length : Int)
  pre : h.1.take K.length = K
  dl : h.2.1.length = g.names
  dv : ∀ v ∈ h.2.1, v = 0 ∨ v = 1
  ok : ∀ x ∈ h.1, okI g x
  most : h.1.length + h.2.1.count 0 * g.prods.length ≤ K.length + g.names * g.prods.length
theorem InvC.le {g : GD} {K : List Itm} {h : CS} (hi : InvC g K h) : K.length ≤ h.1.length := by
  have := congrArg List.length hi.pre
  rw [List.length_take] at this; omega
theorem InvC.start {g : GD} {K : List Itm} (hI : ∀ x ∈ K, okI g x) : InvC g K (K, List.replicate g.names 0, 0) :=
  ⟨⟨Int.le_refl _, by simp⟩, List.take_length, by simp, fun v hv => .inl (List.eq_of_mem_replicate hv), hI, by simp⟩
theorem InvC.bound {g : GD} {K : List Itm} {h : CS} (hi : InvC g K h) (hK : K.length ≤ 100000000) (hN : g.names ≤ 128) (hP : g.prods.length ≤ 512) : h.1.length ≤ 100065536 ∧ K.length ≤ h.1.length := by
  have h1 := hi.most
  have h2 : g.names * g.prods.length ≤ 128 * 512 := Nat.mul_le_mul hN hP
  exact ⟨by omega, hi.le⟩
theorem behind_name {g : GD} (hG : GoodG g) {x : Itm} (h : okI g x) (hb : (behindG g x).isSome = true) (hk : (bhS g x).kind = 3) : 0 ≤ (bhS g x).n ∧ (bhS g x).n < (g.names : Int) := by
  have h1 := bhS_of hb
  have h2 : bhS g x ∈ rightG g x.p := List.mem_of_getElem? h1
  unfold rightG at h2
  split at h2
  · rw [List.mem_singleton] at h2
    rw [h2]; exact hG.1
  · rename_i hne
    rcases h.1 with h3 | ⟨h3, h4⟩
    · exact absurd h3 hne
    · have h5 : x.p.toNat < g.prods.length := by omega
      have h6 : g.prods[x.p.toNat]! ∈ g.prods := by rw [getElem!_pos g.prods x.p.toNat h5]; exact List.getElem_mem h5
      exact symE_name ((hG.2 _ h6).2.2 _ h2) hk
theorem newP_len (K : List Itm) (n : Int) : ∀ (ps : List P2) (k : Nat), (newP K n ps k).length ≤ ps.length
  | [], _ => Nat.le_refl _
  | p :: ps, k => by
    have := newP_len K n ps (k + 1)
    rw [newP, List.length_append, List.length_cons]
    split <;> simp <;> omega
theorem newP_mem (K : List Itm) (n : Int) {x : Itm} : ∀ {ps : List P2} {k : Nat}, x ∈ newP K n ps k ↔ ∃ i p, ps[i]? = some p ∧ p.1 = n ∧ x = ⟨((k + i : Nat) : Int), 0⟩ ∧ x ∉ K
  | [], k => by simp [newP]
  | p :: ps, k => by
    rw [newP, List.mem_append, newP_mem K n]
    constructor
    · rintro (h | ⟨i, q, h1, h2, h3, h4⟩)
      · split at h
        · rename_i hc
          rw [List.mem_singleton] at h
          exact ⟨0, p, rfl, hc.1, h, by rw [h]; exact hc.2⟩
        · cases h
      · exact ⟨i + 1, q, h1, h2, by rw [h3]; congr 2; omega, h4⟩
    · rintro ⟨i, q, h1, h2, h3, h4⟩
      cases i with
      | zero =>
        simp only [List.getElem?_cons_zero, Option.some.injEq] at h1
        subst h1
        left
        rw [if_pos ⟨h2, by rw [Nat.add_zero] at h3; rw [← h3]; exact h4⟩, h3]; simp
      | succ i => exact .inr ⟨i, q, h1, h2, by rw [h3]; congr 2; omega, h4⟩
theorem newP_yes {s : SP} {K js T : List Itm} {n : Int} {i : Nat} {x : PD} (hx : s.prods[i]? = some x) (hl : x.left = n) (hm : (⟨(i : Nat), 0⟩ : Itm) ∉ K) (hq : js ++ newP K n (s.g.prods.drop i) i = T) : js ++ [(⟨(i : Nat), 0⟩ : Itm)] ++ newP K n (s.g.prods.drop (i + 1)) (i + 1) = T := by
  rw [← hq, SP.dp hx, newP, if_pos ⟨hl, hm⟩, List.append_assoc]
theorem newP_old {s : SP} {K js T : List Itm} {n : Int} {i : Nat} {x : PD} (hx : s.prods[i]? = some x) (hm : (⟨(i : Nat), 0⟩ : Itm) ∈ K) (hq : js ++ newP K n (s.g.prods.drop i) i = T) : js ++ newP K n (s.g.prods.drop (i + 1)) (i + 1) = T := by
  rw [← hq, SP.dp hx, newP, if_neg (fun hh => hh.2 hm), List.nil_append]
theorem newP_no {s : SP} {K js T : List Itm} {n : Int} {i : Nat} {x : PD} (hx : s.prods[i]? = some x) (hl : ¬ x.left = n) (hq : js ++ newP K n (s.g.prods.drop i) i = T) : js ++ newP K n (s.g.prods.drop (i + 1)) (i + 1) = T := by
  rw [← hq, SP.dp hx, newP, if_neg (fun hh => hl hh.1), List.nil_append]
theorem stepC_skip {g : GD} {K its : List Itm} {dn : List Int} {q : Int} {x : Itm} (hx : its[q.toNat]? = some x) (h : ¬ ((behindG g x).isSome = true ∧ (bhS g x).kind = 3 ∧ ¬ 0 < dn[(bhS g x).n.toNat]!)) : stepC g K (its, dn, q) = ((its, dn, q + 1), true) := by
  have h1 := (List.getElem?_eq_some_iff.1 hx).1
  unfold stepC
  simp only
  rw [if_pos h1, bang_of hx, if_neg h]
theorem stepC_main {g : GD} {K its : List Itm} {dn : List Int} {q : Int} {x : Itm} {v : Int} (hx : its[q.toNat]? = some x) (h : (behindG g x).isSome = true ∧ (bhS g x).kind = 3 ∧ ¬ 0 < dn[(bhS g x).n.toNat]!) (hv : dn[(bhS g x).n.toNat]? = some v) : stepC g K (its, dn, q) = ((its ++ newP K (bhS g x).n g.prods 0, dn.set (bhS g x).n.toNat (v + 1), q + 1), true) := by
  have h1 := (List.getElem?_eq_some_iff.1 hx).1
  unfold stepC
  simp only
  rw [if_pos h1, bang_of hx, if_pos h, bang_of hv]
theorem stepC_end {g : GD} {K its : List Itm} {dn : List Int} {q : Int} (h : (its.length : Int) ≤ q) : (stepC g K (its, dn, q)).2 = false := by
  unfold stepC; simp only; rw [if_neg (by omega)]
theorem stepC_end1 {g : GD} {K its : List Itm} {dn : List Int} {q : Int} (h : (its.length : Int) ≤ q) : (stepC g K (its, dn, q)).1 = (its, dn, q) := by
  unfold stepC; simp only; rw [if_neg (by omega)]
theorem count_setI {h : List Int} {i : Nat} (hi : h[i]? = some 0) : (h.set i 1).count 0 + 1 = h.count 0 := by
  induction h generalizing i with
  | nil => simp at hi
  | cons b h ih =>
    cases i with
    | zero => simp at hi; subst hi; simp
    | succ i =>
      have := ih (i := i) (by simpa using hi)
      rw [List.set_cons_succ, List.count_cons, List.count_cons]; omega
theorem stepC_ok {g : GD} {K : List Itm} (hG : GoodG g) {h : CS} (hi : InvC g K h) (hs : (stepC g K h).2 = true) : InvC g K (stepC g K h).1 ∧ muC g (stepC g K h).1 < muC g h := by
  obtain ⟨its, dn, q⟩ := h
  have hq := hi.q
  simp only at hq
  by_cases hlt : q.toNat < its.length
  · have hx : its[q.toNat]? = some its[q.toNat] := List.getElem?_eq_getElem hlt
    generalize its[q.toNat] = x at hx
    by_cases hc : (behindG g x).isSome = true ∧ (bhS g x).kind = 3 ∧ ¬ 0 < dn[(bhS g x).n.toNat]!
    · have hok := hi.ok x (List.mem_of_getElem? hx)
      have hn := behind_name hG hok hc.1 hc.2.1
      have hdl := hi.dl
      simp only at hdl
      have hlt2 : (bhS g x).n.toNat < dn.length := by omega
      have hv : dn[(bhS g x).n.toNat]? = some dn[(bhS g x).n.toNat] := List.getElem?_eq_getElem hlt2
      have hv0 : dn[(bhS g x).n.toNat] = 0 := by
        rcases hi.dv _ (List.mem_of_getElem? hv) with h1 | h1
        · exact h1
        · exact absurd (by rw [bang_of hv, h1]; decide) hc.2.2
      rw [hv0] at hv
      rw [stepC_main hx hc hv]
      have hcs := count_setI hv
      have hnl := newP_len K (bhS g x).n g.prods 0
      have hle := hi.le
      simp only at hle
      refine ⟨⟨⟨by simp only; omega, by simp only [List.length_append]; omega⟩, ?_, by simp only [List.length_set]; exact hdl, ?_, ?_, ?_⟩, ?_⟩
      · simp only; rw [List.take_append_of_le_length hle]; exact hi.pre
      · intro v hv
        rcases List.mem_or_eq_of_mem_set hv with h1 | h1
        · exact hi.dv v h1
        · exact .inr h1
      · intro y hy
        rcases List.mem_append.1 hy with h1 | h1
        · exact hi.ok y h1
        · obtain ⟨i, p, h2, _, h3, _⟩ := (newP_mem K _).1 h1
          have h4 := (List.getElem?_eq_some_iff.1 h2).1
          rw [h3]; exact ⟨.inr ⟨by simp only; omega, by simp only; omega⟩, Int.le_refl _⟩
      · have hm := hi.most
        simp only [List.length_append, Int.zero_add] at hm ⊢
        rw [← hcs, Nat.add_mul, Nat.one_mul] at hm
        omega
      · unfold muC
        simp only [List.length_append, Int.zero_add]
        rw [← hcs, Nat.add_mul, Nat.one_mul]
        have e : (q + 1).toNat = q.toNat + 1 := by omega
        rw [e]; omega
    · rw [stepC_skip hx hc]
      refine ⟨⟨⟨by simp only; omega, by simp only; omega⟩, hi.pre, hi.dl, hi.dv, hi.ok, hi.most⟩, ?_⟩
      unfold muC
      simp only
      have e : (q + 1).toNat = q.toNat + 1 := by omega
      rw [e]; omega
  · unfold stepC at hs
    simp only at hs
    rw [if_neg hlt] at hs; cases hs
instance pf_46 : PlF Tryz.prog 46 := ⟨by kernel_rfl⟩
instance pf_96 : PlF Tryz.prog 96 := ⟨by kernel_rfl⟩
theorem closure_calls (s : SP) (ba : Nat) (stA : Option Addr) (stn stc : Nat) (l : List Itm) (A : Option Addr) (c : Nat) (w : World) (hb : Blk w ba #[(.slice s.lA s.lex.length s.lc), (.slice s.nA s.names.length s.nc), (.int .i64 s.start), (.slice s.pA s.prods.length s.pc), (.slice stA stn stc)] 97) (hS : SpR w s) (hG : GoodG s.g) (hA : RowA w A (l.flatMap Itm.cs)) (hn : l.length ≤ 100000000) (hN : s.names.length ≤ 128) (hP : s.prods.length ≤ 512) (hI : ∀ x ∈ l, okI s.g x) :
    Calls Tryz.prog 64 #[(.pointer (some ⟨ba, 0, none⟩)), (.slice A l.length c)] w (Ret (fun v w' => ∃ A' c', v = .slice A' (closG s.g l).length c' ∧ NewRow w w' 42 2 Itm.cs (closG s.g l) A' c' ∧ Ext w w')) := by
 have hfp := hS.fp.le; have hfn := hS.fn.le; have hgp := s.gprods
 refine calls_y (n := 94) Tryz.func64 ?_
 refine go ?_
 refine xc_scopeL 0 (fun m f ds W => ∃ (its : List Itm) (AI : Option Addr) (cI : Nat) (AD : Option Addr) (dn : List Int) (q : Int), m = muC s.g (its, dn, q) ∧ ds = [] ∧ f 0 = .pointer (some ⟨ba, 0, none⟩) ∧ f 1 = .slice A l.length c ∧ f 5 = .slice AI its.length cI ∧ f 6 = .slice AD s.names.length s.names.length ∧ f 7 = .int .i64 q ∧ InvC s.g l (its, dn, q) ∧ closF s.g l = fixN (stepC s.g l) (muC s.g (its, dn, q) + 1) (its, dn, q) ∧ Vx.Own W 42 2 (.slice AI its.length cI) its.length (its.flatMap Itm.cs) ∧ (∀ k, (Value.slice AI its.length cI).ownBlock = some k → w.heap.size ≤ k) ∧ Vx.Own W 3 1 (.slice AD s.names.length s.names.length) s.names.length (dn.flatMap ints) ∧ (∀ k, (Value.slice AD s.names.length s.names.length).ownBlock = some k → w.heap.size ≤ k) ∧ Ext w W) rfl ?_ ?_
 ·
  rintro m f1 _ W ⟨its, AI, cI, AD, dn, q, hm, rfl, g0, g1, g5, g6, g7, hI_, hq_, hoI, hloI, hoD, hloD, xW⟩
  have hxW := xW.size; have hgn : s.g.names = s.names.length := rfl; have hbd : its.length ≤ 100065536 ∧ l.length ≤ its.length := hI_.bound (by omega) (by omega) (by omega); have hq0 : 0 ≤ q ∧ q ≤ (its.length : Int) := hI_.q; have hdl : dn.length = s.g.names := hI_.dl
  rw [← usf g0, ← usf g1, ← usf g5, ← usf g6, ← usf g7]
  refine go ?_
  refine y_if (fun h1 => ?_) (fun h1 => ?_)
  ·
   obtain ⟨x_1, g_1, hx_1⟩ := own_may (A := AI) q.toNat Itm.len (by decide) hoI
   obtain ⟨hx_2, hA_1, hc_1⟩ := hx_1 oM
   refine go ?_
   refine y_ix q.toNat hA_1 ?_
   refine y_lN (vs := [(.int .i64 x_1.p), (.int .i64 x_1.dot)]) hc_1 ?_
   have hok := hI_.ok _ (List.mem_of_getElem? hx_2)
   refine yCa (ret_mono (behindT s ba stA stn stc x_1 W (hb.ext xW) (hS.ext xW) hok) ?_)
   rintro _ w1 ⟨rfl, e1⟩
   have he1 := e1.size
   refine go ?_
   refine y_al ?_
   intro w2 e2 z1 b1
   refine y_st b1 ?_
   intro w3 e3 z2 b2
   replace b2 : Blk w3 w1.heap.size #[(.int .i64 ((bhS s.g x_1).kind)), (.int .i64 ((bhS s.g x_1).n))] 32 := blk_full b2 rfl
   refine go ?_
   refine y_add ?_
   refine go ?_
   by_cases h2 : (!((behindG s.g x_1).isSome)) = true
   ·
    have hns : ¬ (behindG s.g x_1).isSome = true := by revert h2; cases (behindG s.g x_1).isSome <;> simp
    refine ysL (s := 39) (bT h2) ?_
    refine go ?_
    refine xc_goto ?_
    have he : stepC s.g l (its, dn, q) = ((its, dn, q + 1), true) := stepC_skip hx_2 (fun hh => hns hh.1)
    have hs2 := stepC_ok hG hI_ (by rw [he])
    have hn2 := hq_.trans (fixN_step (fun h h1 h2 => stepC_ok hG h1 h2) hI_ (by rw [he]))
    rw [he] at hs2 hn2
    have q1 := (((hoI.ext e1).ext e2).keep1 e3 (fun k hk => ((hoI.ext e1).ext e2).ne_blk b1 (by decide) k hk))
    have q2 := (((hoD.ext e1).ext e2).keep1 e3 (fun k hk => ((hoD.ext e1).ext e2).ne_blk b1 (by decide) k hk))
    have x1 : Ext w w3 := (Ext.chg1 (Ext.trans (Ext.trans xW e1) e2) e3 (by omega))
    exact ⟨rfl, _, by rw [hm]; exact hs2.2, its, AI, cI, AD, dn, q + 1, rfl, rfl, rfl, rfl, rfl, rfl, rfl, hs2.1, hn2, q1, (fun k hk => by have _h := hloI k hk; omega), q2, (fun k hk => by have _h := hloD k hk; omega), x1⟩
   ·
    have hsm : (behindG s.g x_1).isSome = true := by revert h2; cases (behindG s.g x_1).isSome <;> simp
    refine ysL (s := 39) (bF (Bool.eq_false_iff.2 h2)) ?_
    refine go ?_
    refine y_ld b2 ?_
    refine go ?_
    by_cases h3 : ((bhS s.g x_1).kind : Int) ≠ 3
    ·
     -- ((bhS s.g x_1).kind : Int) ≠ 3 True
     refine ysL (s := 44) (bT (decide_eq_true h3)) ?_
     refine go ?_
     refine xc_goto ?_
     have he : stepC s.g l (its, dn, q) = ((its, dn, q + 1), true) := stepC_skip hx_2 (fun hh => h3 hh.2.1)
     have hs2 := stepC_ok hG hI_ (by rw [he])
     have hn2 := hq_.trans (fixN_step (fun h h1 h2 => stepC_ok hG h1 h2) hI_ (by rw [he]))
     rw [he] at hs2 hn2
     have q3 := (((hoI.ext e1).ext e2).keep1 e3 (fun k hk => ((hoI.ext e1).ext e2).ne_blk b1 (by decide) k hk))
     have q4 := (((hoD.ext e1).ext e2).keep1 e3 (fun k hk => ((hoD.ext e1).ext e2).ne_blk b1 (by decide) k hk))
     have x2 : Ext w w3 := (Ext.chg1 (Ext.trans (Ext.trans xW e1) e2) e3 (by omega))
     exact ⟨rfl, _, by rw [hm]; exact hs2.2, its, AI, cI, AD, dn, q + 1, rfl, rfl, rfl, rfl, rfl, rfl, rfl, hs2.1, hn2, q3, (fun k hk => by have _h := hloI k hk; omega), q4, (fun k hk => by have _h := hloD k hk; omega), x2⟩
    ·
     -- ((bhS s.g x_1).kind : Int) ≠ 3 False
     have hk3 : (bhS s.g x_1).kind = 3 := by omega
     have hnr := behind_name hG hok hsm hk3
     refine ysL (s := 44) (bF (decide_eq_false h3)) ?_
     refine go ?_
     refine y_ld b2 ?_
     have q5 := (((hoD.ext e1).ext e2).keep1 e3 (fun k hk => ((hoD.ext e1).ext e2).ne_blk b1 (by decide) k hk))
     obtain ⟨x_2, g_2, hx_3⟩ := own_may (A := AD) (((bhS s.g x_1).n).toNat) ints_len (by decide) q5
     obtain ⟨hx_4, hA_2, hc_2⟩ := hx_3 oM
     refine y_ix (((bhS s.g x_1).n).toNat) hA_2 ?_
     refine y_lc (CellsL.at1 hc_2 0 rfl) ?_
     refine go ?_
     refine y_if (fun h4 => ?_) (fun h4 => ?_)
     ·
      have hdv := hI_.dv _ (List.mem_of_getElem? hx_4)
      refine xc_goto ?_
      have he : stepC s.g l (its, dn, q) = ((its, dn, q + 1), true) := stepC_skip hx_2 (fun hh => hh.2.2 (by rw [bang_of hx_4]; exact h4))
      have hs2 := stepC_ok hG hI_ (by rw [he])
      have hn2 := hq_.trans (fixN_step (fun h h1 h2 => stepC_ok hG h1 h2) hI_ (by rw [he]))
      rw [he] at hs2 hn2
      have q6 := (((hoI.ext e1).ext e2).keep1 e3 (fun k hk => ((hoI.ext e1).ext e2).ne_blk b1 (by decide) k hk))
      have x3 : Ext w w3 := (Ext.chg1 (Ext.trans (Ext.trans xW e1) e2) e3 (by omega))
      exact ⟨rfl, _, by rw [hm]; exact hs2.2, its, AI, cI, AD, dn, q + 1, rfl, rfl, rfl, rfl, rfl, rfl, rfl, hs2.1, hn2, q6, (fun k hk => by have _h := hloI k hk; omega), q5, (fun k hk => by have _h := hloD k hk; omega), x3⟩
     ·
      have hdv := hI_.dv _ (List.mem_of_getElem? hx_4)
      refine go ?_
      refine y_ld b2 ?_
      refine y_ix (((bhS s.g x_1).n).toNat) hA_2 ?_
      refine y_lc (CellsL.at1 hc_2 0 rfl) ?_
      refine y_add ?_
      refine y_ix (((bhS s.g x_1).n).toNat) hA_2 ?_
      refine yNp (ox_stE (i := (((bhS s.g x_1).n).toNat)) (off := 0) (vs := [(.int .i64 (x_2 + 1))]) (b := ((x_2 + 1) : Int)) ints_len tS_3.h hA_2 rfl (v := (.int .i64 (x_2 + 1))) rfl rfl rfl rfl q5 hx_4 rfl (by decide) (by omega) ?_)
      intro w4 e4 z3 o1
      have q7 := ((((hb.ext xW).ext e1).ext e2).keep1 e3 ((((hb.ext xW).ext e1).ext e2).ne b1 (by decide)))
      have q8 := (q7.keep e4 (fun _h => q5.ne_blk q7 (by decide) _ _h rfl))
      refine go ?_
      refine y_ld q8 ?_
      have q9 := (((hoI.ext e1).ext e2).keep1 e3 (fun k hk => ((hoI.ext e1).ext e2).ne_blk b1 (by decide) k hk))
      have q10 := (q9.keep e4 (fun _k _hk => q9.ne_own q5 (by decide) _k _hk))
      refine go ?_
      refine xc_loopN (fun m_ f_ Wx => ∃ (i : Nat) (js : List Itm) (Ajs : Option Addr) (cjs : Nat), m_ = s.prods.length - i ∧ (i ≤ s.prods.length) ∧ (js ++ newP l (bhS s.g x_1).n (s.g.prods.drop i) i = its ++ newP l (bhS s.g x_1).n s.g.prods 0) ∧ (js.length ≤ its.length + i) ∧ f_ 1 = (.slice A l.length c) ∧ f_ 8 = (.pointer (some ⟨w1.heap.size, 0, none⟩)) ∧ f_ 63 = (.slice s.pA s.prods.length s.pc) ∧ f_ 64 = (.int .i64 (((s.prods.length : Nat) : Int))) ∧ f_ 0 = (.pointer (some ⟨ba, 0, none⟩)) ∧ f_ 6 = (.slice AD s.names.length s.names.length) ∧ f_ 7 = (.int .i64 (q + 1)) ∧ f_ 65 = (.int .i64 ((i : Nat))) ∧ f_ 5 = (.slice Ajs js.length cjs) ∧ Vx.Own Wx 42 2 (.slice Ajs js.length cjs) js.length (js.flatMap Itm.cs) ∧ (∀ k, ((.slice Ajs js.length cjs) : Value).ownBlock = some k → w.heap.size ≤ k) ∧ (∀ k, ((.slice Ajs js.length cjs) : Value).ownBlock = some k → ((.slice AI its.length cI) : Value).ownBlock = some k ∨ w4.heap.size ≤ k) ∧ Chg (fun b => ((.slice AI its.length cI) : Value).ownBlock = some b) w4 Wx) (s.prods.length) ?_ ?_
      ·
       exact ⟨0, its, AI, cI, (by omega), (by omega), rfl, (by omega), rfl, rfl, rfl, rfl, rfl, rfl, rfl, vW, rfl, q10, hloI, (fun k hk => .inl hk), (Chg.refl _ _)⟩
      ·
       rintro m_ f1 w5 ⟨i, js, Ajs, cjs, hm_f1, hi, hq2, hjl, g1_f1, g8_f1, g63_f1, g64_f1, g0_f1, g6_f1, g7_f1, g65_f1, g5_f1, a0_f1, l0_f1, r0_f1, x4⟩
       have hx4 := x4.size
       rw [← usf g1_f1, ← usf g8_f1, ← usf g63_f1, ← usf g64_f1, ← usf g0_f1, ← usf g6_f1, ← usf g7_f1, ← usf g65_f1, ← usf g5_f1]
       refine go ?_
       refine y_if (fun h5 => ?_) (fun h5 => ?_)
       ·
        have x5 : Ext w w5 := (Chg.trans (Chg.trans (Ext.chg1 (Ext.trans (Ext.trans xW e1) e2) e3 (by omega)) e4 (fun b hb hl => (absurd hl (by have _h := hloD b hb; omega)))) x4 (fun b hb hl => (absurd hl (by have _h := hloI b hb; omega))))
        obtain ⟨x_3, g_3, o_3, hx_5⟩ := row_may (A := s.pA) (cs := PD.cs) i PD.len (by decide) (RowA.ext hS.prods x5)
        obtain ⟨hx_6, hA_3, hc_3⟩ := hx_5 oM
        have hfr_x_3 := (hS.fr _ (List.mem_of_getElem? hx_6)).le
        refine go ?_
        refine y_ix i hA_3 ?_
        refine y_lN (vs := [(.int .i64 x_3.left), (.slice x_3.rA x_3.right.length x_3.rc)]) hc_3 ?_
        refine y_al ?_
        intro w6 e5 z4 b3
        refine go ?_
        refine y_st b3 ?_
        intro w7 e6 z5 b4
        replace b4 : Blk w7 w5.heap.size #[(.int .i64 x_3.left), (.slice x_3.rA x_3.right.length x_3.rc)] 37 := blk_full b4 rfl
        refine go ?_
        refine yOp (ox_mkStruct (ps := [(0, (.int .i64 ((i : Nat))))]) (cs := #[(.int .i64 ((i : Nat))), (.int .i64 0)]) tZ_42.h tP_42.h rfl (by kernel_rfl) ?_)
        refine y_al ?_
        intro w8 e7 z6 b5
        refine y_st b5 ?_
        intro w9 e8 z7 b6
        replace b6 : Blk w9 w7.heap.size #[(.int .i64 ((i : Nat))), (.int .i64 0)] 42 := blk_full b6 rfl
        have q11 := ((b4.ext e7).keep1 e8 ((b4.ext e7).ne b5 (by decide)))
        refine go ?_
        refine y_ld q11 ?_
        have q12 := (b2.keep e4 (fun _h => q5.ne_blk b2 (by decide) _ _h rfl))
        have q13 := (q12.keep x4 (fun _h => q10.ne_blk q12 (by decide) _ _h rfl))
        have q14 := ((q13.ext e5).keep1 e6 ((q13.ext e5).ne b3 (by decide)))
        have q15 := ((q14.ext e7).keep1 e8 ((q14.ext e7).ne b5 (by decide)))
        refine go ?_
        refine y_ld q15 ?_
        refine go ?_
        by_cases h6 : (x_3.left : Int) = ((bhS s.g x_1).n)
        ·
         refine ysL (s := 77) (bT (decide_eq_true h6)) ?_
         refine go ?_
         refine y_lN (vs := [(.int .i64 ((i : Nat))), (.int .i64 0)]) ⟨b6.cell rfl, b6.cell rfl, trivial⟩ ?_
         have x6 : Ext w w9 := (Ext.chg1 (Ext.trans (Ext.chg1 (Ext.trans x5 e5) e6 (by omega)) e7) e8 (by omega))
         refine yCa (ret_mono (containsItm l A c (⟨(i : Nat), 0⟩ : Itm) w9 (hA.ext x6) (by omega)) ?_)
         rintro _ w10 ⟨rfl, e9⟩
         have he9 := e9.size
         refine go ?_
         refine xc_cond (b := (!(decide ((⟨(i : Nat), 0⟩ : Itm) ∈ l)))) rfl (fun h7 => ?_) (fun h7 => ?_)
         ·
          have h7' := bS h7
          refine go ?_
          refine y_lN (vs := [(.int .i64 ((i : Nat))), (.int .i64 0)]) ⟨(b6.ext e9).cell rfl, (b6.ext e9).cell rfl, trivial⟩ ?_
          refine yOp (ox_mkSlice (ps := [(0, (.agg #[(.int .i64 ((i : Nat))), (.int .i64 0)]))]) (zs := #[(.int .i64 0), (.int .i64 0)]) (cs := #[(.int .i64 ((i : Nat))), (.int .i64 0)]) tE_39.h rfl (by decide) (by kernel_rfl) (by kernel_rfl) ?_)
          intro w11 e10 z8 b7
          replace b7 : Blk w11 w10.heap.size #[(.int .i64 ((i : Nat))), (.int .i64 0)] 42 := b7
          have q16 := ((a0_f1.ext e5).keep1 e6 (fun k hk => (a0_f1.ext e5).ne_blk b3 (by decide) k hk))
          have q17 := ((q16.ext e7).keep1 e8 (fun k hk => by have _q := (q16.lt) k hk; omega))
          refine yOp (ox_appD (l := js) (r := [(⟨(i : Nat), 0⟩ : Itm)]) (cs := Itm.cs) rfl tE_39.h rfl (by decide) Itm.len Itm.one (v := (.slice Ajs js.length cjs)) rfl rfl (m := 1) rfl ((q17.ext e9).ext e10) b7.all aM (by decide) ?_)
          intro A1 c1 w12 o2 e11 at1 hc1
          have he11 := e11.size
          have low1 : ∀ _k, (Value.slice A1 (js ++ [(⟨(i : Nat), 0⟩ : Itm)]).length c1).ownBlock = some _k → w.heap.size ≤ _k := fun _k _h => by rcases at1 with _e | _e <;> rw [_e] at _h; exact l0_f1 _k _h; exact (by cases _h; omega)
          have rel1 : ∀ _k, (Value.slice A1 (js ++ [(⟨(i : Nat), 0⟩ : Itm)]).length c1).ownBlock = some _k → ((.slice AI its.length cI) : Value).ownBlock = some _k ∨ w4.heap.size ≤ _k := fun _k _h => by rcases at1 with _e | _e <;> rw [_e] at _h; exact r0_f1 _k _h; exact .inr (by cases _h; omega)
          refine go ?_
          refine y_add ?_
          have y1 : Chg (fun b => ((.slice AI its.length cI) : Value).ownBlock = some b) w4 w12 := (Chg.trans (Chg.ext (Chg.ext (Chg.chg1 (Chg.ext (Chg.chg1 (Chg.ext (Chg.trans (Chg.refl (fun b => ((.slice AI its.length cI) : Value).ownBlock = some b) w4) x4 (fun b hb hl => hb)) e5) e6 (.inr (by omega))) e7) e8 (.inr (by omega))) e9) e10) e11 (fun b hb hl => (r0_f1 b hb).elim (fun hb => hb) (fun _h => absurd hl (by omega))))
          refine go ?_
          exact ⟨rfl, s.prods.length - (i + 1), by omega, i + 1, js ++ [(⟨(i : Nat), 0⟩ : Itm)], A1, c1, by omega, (by omega), (newP_yes hx_6 h6 (by simpa using h7) hq2), (by first | omega | (simp only [List.length_append, List.length_cons, List.length_nil]; omega)), rfl, rfl, rfl, rfl, rfl, rfl, rfl, vW, rfl, o2, low1, rel1, y1⟩
         ·
          have h7' := bS h7
          refine go ?_
          refine y_add ?_
          have q18 := ((a0_f1.ext e5).keep1 e6 (fun k hk => (a0_f1.ext e5).ne_blk b3 (by decide) k hk))
          have q19 := ((q18.ext e7).keep1 e8 (fun k hk => by have _q := (q18.lt) k hk; omega))
          have y2 : Chg (fun b => ((.slice AI its.length cI) : Value).ownBlock = some b) w4 w10 := (Chg.ext (Chg.chg1 (Chg.ext (Chg.chg1 (Chg.ext (Chg.trans (Chg.refl (fun b => ((.slice AI its.length cI) : Value).ownBlock = some b) w4) x4 (fun b hb hl => hb)) e5) e6 (.inr (by omega))) e7) e8 (.inr (by omega))) e9)
          refine go ?_
          exact ⟨rfl, s.prods.length - (i + 1), by omega, i + 1, js, Ajs, cjs, by omega, (by omega), (newP_old hx_6 (by simpa using h7) hq2), (by first | omega | (simp only [List.length_append, List.length_cons, List.length_nil]; omega)), rfl, rfl, rfl, rfl, rfl, rfl, rfl, vW, rfl, (q19.ext e9), l0_f1, r0_f1, y2⟩
        ·
         refine ysL (s := 77) (bF (decide_eq_false h6)) ?_
         refine go ?_
         refine y_add ?_
         have q20 := ((a0_f1.ext e5).keep1 e6 (fun k hk => (a0_f1.ext e5).ne_blk b3 (by decide) k hk))
         have q21 := ((q20.ext e7).keep1 e8 (fun k hk => by have _q := (q20.lt) k hk; omega))
         have y3 : Chg (fun b => ((.slice AI its.length cI) : Value).ownBlock = some b) w4 w9 := (Chg.chg1 (Chg.ext (Chg.chg1 (Chg.ext (Chg.trans (Chg.refl (fun b => ((.slice AI its.length cI) : Value).ownBlock = some b) w4) x4 (fun b hb hl => hb)) e5) e6 (.inr (by omega))) e7) e8 (.inr (by omega)))
         refine go ?_
         exact ⟨rfl, s.prods.length - (i + 1), by omega, i + 1, js, Ajs, cjs, by omega, (by omega), (newP_no hx_6 h6 hq2), (by first | omega | (simp only [List.length_append, List.length_cons, List.length_nil]; omega)), rfl, rfl, rfl, rfl, rfl, rfl, rfl, vW, rfl, q21, l0_f1, r0_f1, y3⟩
       ·
        refine go ?_
        refine xc_goto ?_
        have hjs : js = its ++ newP l (bhS s.g x_1).n s.g.prods 0 := by rw [← hq2, List.drop_of_length_le (by rw [s.gprods]; omega), newP, List.append_nil]
        have he : stepC s.g l (its, dn, q) = ((js, (dn.set (((bhS s.g x_1).n).toNat) ((x_2 + 1))), q + 1), true) := by rw [hjs]; exact stepC_main hx_2 ⟨hsm, hk3, by rw [bang_of hx_4]; exact h4⟩ hx_4
        have hs2 := stepC_ok hG hI_ (by rw [he])
        have hn2 := hq_.trans (fixN_step (fun h h1 h2 => stepC_ok hG h1 h2) hI_ (by rw [he]))
        rw [he] at hs2 hn2
        have q22 := (o1.keep x4 (fun _k _hk => o1.ne_own q10 (by decide) _k _hk))
        have x7 : Ext w w5 := (Chg.trans (Chg.trans (Ext.chg1 (Ext.trans (Ext.trans xW e1) e2) e3 (by omega)) e4 (fun b hb hl => (absurd hl (by have _h := hloD b hb; omega)))) x4 (fun b hb hl => (absurd hl (by have _h := hloI b hb; omega))))
        exact ⟨rfl, _, by rw [hm]; exact hs2.2, js, Ajs, cjs, AD, (dn.set (((bhS s.g x_1).n).toNat) ((x_2 + 1))), q + 1, rfl, rfl, rfl, rfl, rfl, rfl, rfl, hs2.1, hn2, a0_f1, (fun k hk => by have _h := l0_f1 k hk; omega), q22, (fun k hk => by have _h := hloD k hk; omega), x7⟩
  ·
   refine go ?_
   refine yOp (ox_sliceFromV (A := AI) (n := its.length) (cp := cI) (i := (((l.length : Nat) : Int))) l.length tE_39.h rfl rfl (by omega) (by omega) ?_)
   refine yCa (ret_mono (sortItm_calls its AI its.length cI l.length W hoI (by omega) (Own.capn hoI) (by omega)) ?_)
   rintro _ w13 ⟨rfl, o3, y4⟩
   have hy4 := y4.size
   refine go ?_
   refine y_r1 ?_
   have hcl : closG s.g l = its.take l.length ++ srtItm (its.drop l.length) := by rw [closG, hq_, fixN_done (stepC_end (by omega)), stepC_end1 (by omega)]
   have hll : (closG s.g l).length = its.length := by rw [hcl, List.length_append, srtItm_len, List.length_take, List.length_drop]; omega
   have x8 : Ext w w13 := (Chg.trans xW y4 (fun b hb hl => (absurd hl (by have _h := hloI b hb; omega))))
   exact ⟨AI, cI, by rw [hll] <;> rfl, ⟨by rw [hll, hcl]; exact o3, fun k hk => by rw [hll] at hk; exact hloI k hk⟩, x8⟩
 ·
  intro hgo
  refine go ?_
  refine yCa (ret_mono (cloneItm l A c w (hA.ext (Chg.refl _ _)) (by omega)) ?_)
  rintro _ w14 ⟨A2, c2, rfl, hn1, hnil1, e12⟩
  have he12 := e12.size
  refine go ?_
  refine y_ld (hb.ext e12) ?_
  refine go ?_
  refine yOp (ox_makeD (n := s.names.length) (l := ((List.replicate s.names.length (0 : Int)))) (cs := ints) tE_27.h rfl rfl (by omega) (by omega) (made_ints _) ?_)
  intro A3 w15 o4 e13 lo1
  have he13 := e13.size
  refine go ?_
  refine xc_label ?_
  have x9 : Ext w w15 := (Ext.trans e12 e13)
  exact hgo _ _ _ ⟨_, l, A2, c2, A3, List.replicate s.names.length 0, 0, rfl, rfl, rfl, rfl, rfl, rfl, rfl, InvC.start hI, by rfl, (hn1.1.ext e13), (fun k hk => by have _h := hn1.2 k hk; omega), o4, (fun k hk => by have _h := lo1 k hk; omega), x9⟩
def RowN (B : Nat) (w : World) (A : Option Addr) (vs : List Value) : Prop := RowA w A vs ∧ ∀ a, A = some a → B ≤ a.block ∧ a.block < w.heap.size
section
variable {B B' i : Nat} {K : Nat → Prop} {w w' : World}
theorem RowN.keepC {A : Option Addr} {vs : List Value} (h : RowN B w A vs) (c : Chg K w w') (hk : ∀ b, B ≤ b → b < w.heap.size → ¬ K b) : RowN B w' A vs :=
  ⟨h.1.keep c fun a ha => hk _ (h.2 a ha).1 (h.2 a ha).2, fun a ha => ⟨(h.2 a ha).1, Nat.lt_of_lt_of_le (h.2 a ha).2 c.size⟩⟩
theorem RowN.mono {A : Option Addr} {vs : List Value} (hB : B' ≤ B) (h : RowN B w A vs) : RowN B' w A vs := ⟨h.1, fun a ha => ⟨Nat.le_trans hB (h.2 a ha).1, (h.2 a ha).2⟩⟩
theorem RowN.of {e sz n c : Nat} {A : Option Addr} {vs : List Value} (ho : Vx.Own w e sz (.slice A n c) n vs) (hB : ∀ k, (Value.slice A n c).ownBlock = some k → B ≤ k) : RowN B w A vs :=
  ⟨ho.rowO, fun a ha => by
    have hob : (Value.slice A n c).ownBlock = some a.block := by subst ha; rfl
    exact ⟨hB _ hob, ho.lt _ hob⟩⟩
def LoR (B : Nat) (w : World) (x y : LR) : Prop := y.name = x.name ∧ y.trivia = x.trivia ∧ ((ownB x.e 1 4096).1 = true → CpX B w x.e y.e) ∧ ((ownB x.e 1 4096).1 = false → y.e = exZero)
def LoF (B : Nat) (w : World) (l L : List LR) (i : Nat) : Prop := ∀ (j : Nat) (x y : LR), j < i → l[j]? = some x → L[j]? = some y → LoR B w x y
theorem LoR.keepC {x y : LR} (h : LoR B w x y) (c : Chg K w w') (hk : ∀ b, B ≤ b → b < w.heap.size → ¬ K b) : LoR B w' x y := ⟨h.1, h.2.1, fun h9 => CpX.keepC c hk (h.2.2.1 h9), h.2.2.2⟩
theorem LoR.mono {x y : LR} (hB : B' ≤ B) (h : LoR B w x y) : LoR B' w x y := ⟨h.1, h.2.1, fun h9 => CpX.mono hB (h.2.2.1 h9), h.2.2.2⟩
theorem LoF.zero (B : Nat) (w : World) (l L : List LR) : LoF B w l L 0 := fun j _ _ h => by omega
theorem LoF.keepC {l L : List LR} (h : LoF B w l L i) (c : Chg K w w') (hk : ∀ b, B ≤ b → b < w.heap.size → ¬ K b) : LoF B w' l L i := fun j x y hj hx hy => (h j x y hj hx hy).keepC c hk
theorem LoF.keep {l L : List LR} (h : LoF B w l L i) (c : Chg K w w') (hk : ∀ b, K b → b < B) : LoF B w' l L i := h.keepC c fun b hb _ hK => by have := hk b hK; omega
theorem LoF.ext {l L : List LR} (h : LoF B w l L i) (c : Ext w w') : LoF B w' l L i := h.keep c fun _ hb => hb.elim
theorem LoF.mono {l L : List LR} (hB : B' ≤ B) (h : LoF B w l L i) : LoF B' w l L i := fun j x y hj hx hy => (h j x y hj hx hy).mono hB
theorem LoF.snoc {l L : List LR} {x y : LR} (h : LoF B w l L i) (hx : l[i]? = some x) (ht : LoR B w x y) (hi : i < L.length) : LoF B w l (L.set i y) (i + 1) := fun j a b hj ha hb => by
  by_cases hji : j = i
  · subst hji
    rw [hx] at ha; cases ha
    rw [List.getElem?_set_self hi] at hb; cases hb; exact ht
  · rw [List.getElem?_set_ne (fun hh => hji hh.symm)] at hb
    exact h j a b (by omega) ha hb
theorem LoF.all {l L : List LR} (h : LoF B w l L i) (hi : l.length ≤ i) (j : Nat) (x y : LR) (hx : l[j]? = some x) (hy : L[j]? = some y) : LoR B w x y := by
  have hj := (List.getElem?_eq_some_iff.1 hx).1
  exact h j x y (by omega) hx hy
structure PoR (B : Nat) (w : World) (x y : PD) : Prop where
  left : y.left = x.left
  right : y.right = x.right
  row : RowN B w y.rA (x.right.flatMap Sym.cs)
  nil : x.rA = none ↔ y.rA = none
  few : few 16 x.right.length y.rc
def PoF (B : Nat) (w : World) (l L : List PD) (i : Nat) : Prop := ∀ (j : Nat) (x y : PD), j < i → l[j]? = some x → L[j]? = some y → PoR B w x y
theorem PoR.of {e c : Nat} {x : PD} {A : Option Addr} (hn : x.rA = none ↔ A = none) (hf : x.right.length * 16 ≤ 140737488355328) (ho : Vx.Own w e 2 (.slice A x.right.length c) x.right.length (x.right.flatMap Sym.cs)) (hB : ∀ k, (Value.slice A x.right.length c).ownBlock = some k → B ≤ k) : PoR B w x ⟨x.left, A, c, x.right⟩ :=
  ⟨rfl, rfl, RowN.of ho hB, hn, ⟨Own.capn ho, hf⟩⟩
theorem PoR.keepC {x y : PD} (h : PoR B w x y) (c : Chg K w w') (hk : ∀ b, B ≤ b → b < w.heap.size → ¬ K b) : PoR B w' x y := ⟨h.left, h.right, h.row.keepC c hk, h.nil, h.few⟩
theorem PoF.zero (B : Nat) (w : World) (l L : List PD) : PoF B w l L 0 := fun j _ _ h => by omega
theorem PoF.keepC {l L : List PD} (h : PoF B w l L i) (c : Chg K w w') (hk : ∀ b, B ≤ b → b < w.heap.size → ¬ K b) : PoF B w' l L i := fun j x y hj hx hy => (h j x y hj hx hy).keepC c hk
theorem PoF.keep {l L : List PD} (h : PoF B w l L i) (c : Chg K w w') (hk : ∀ b, K b → b < B) : PoF B w' l L i := h.keepC c fun b hb _ hK => by have := hk b hK; omega
theorem PoF.ext {l L : List PD} (h : PoF B w l L i) (c : Ext w w') : PoF B w' l L i := h.keep c fun _ hb => hb.elim
theorem PoF.mono {l L : List PD} (hB : B' ≤ B) (h : PoF B w l L i) : PoF B' w l L i := fun j x y hj hx hy => have q := h j x y hj hx hy; ⟨q.left, q.right, q.row.mono hB, q.nil, q.few⟩
theorem PoF.snoc {l L : List PD} {x y : PD} (h : PoF B w l L i) (hx : l[i]? = some x) (ht : PoR B w x y) (hi : i < L.length) : PoF B w l (L.set i y) (i + 1) := fun j a b hj ha hb => by
  by_cases hji : j = i
  · subst hji
    rw [hx] at ha; cases ha
    rw [List.getElem?_set_self hi] at hb; cases hb; exact ht
  · rw [List.getElem?_set_ne (fun hh => hji hh.symm)] at hb
    exact h j a b (by omega) ha hb
theorem PoF.all {l L : List PD} (h : PoF B w l L i) (hi : l.length ≤ i) (j : Nat) (x y : PD) (hx : l[j]? = some x) (hy : L[j]? = some y) : PoR B w x y := by
  have hj := (List.getElem?_eq_some_iff.1 hx).1
  exact h j x y (by omega) hx hy
end
structure OwnS (B : Nat) (w : World) (s s' : SP) : Prop where
  lex : RowN B w s'.lA (s'.lex.flatMap LR.cs)
  lexL : s'.lex.length = s.lex.length
  lexR : ∀ (j : Nat) (x y : LR), s.lex[j]? = some x → s'.lex[j]? = some y → LoR B w x y
  names : RowN B w s'.nA (s'.names.flatMap strs)
  nameq : s'.names = s.names
  start : s'.start = s.start
  prods : RowN B w s'.pA (s'.prods.flatMap PD.cs)
  prodsL : s'.prods.length = s.prods.length
  prodsR : ∀ (j : Nat) (x y : PD), s.prods[j]? = some x → s'.prods[j]? = some y → PoR B w x y
  nilL : s.lA = none ↔ s'.lA = none
  nilN : s.nA = none ↔ s'.nA = none
  nilP : s.pA = none ↔ s'.pA = none
  fl : few 88 s'.lex.length s'.lc
  fn : few 16 s'.names.length s'.nc
  fp : few 32 s'.prods.length s'.pc
theorem OwnS.keepC {B : Nat} {K : Nat → Prop} {w w' : World} {s s' : SP} (h : OwnS B w s s') (c : Chg K w w') (hk : ∀ b, B ≤ b → b < w.heap.size → ¬ K b) : OwnS B w' s s' :=
  ⟨h.lex.keepC c hk, h.lexL, fun j x y hx hy => (h.lexR j x y hx hy).keepC c hk, h.names.keepC c hk, h.nameq, h.start, h.prods.keepC c hk, h.prodsL, fun j x y hx hy => (h.prodsR j x y hx hy).keepC c hk, h.nilL, h.nilN, h.nilP, h.fl, h.fn, h.fp⟩
theorem pair_mem {α β : Type} {l : List α} {L : List β} {y : β} (hl : L.length = l.length) (hy : y ∈ L) : ∃ (j : Nat) (x : α), l[j]? = some x ∧ L[j]? = some y := by
  obtain ⟨j, hj, rfl⟩ := List.mem_iff_getElem.1 hy
  exact ⟨j, l[j]'(by omega), List.getElem?_eq_getElem _, List.getElem?_eq_getElem _⟩
theorem OwnS.spr {B : Nat} {w w0 : World} {s s' : SP} (h : OwnS B w s s') : SpR w s' := by
  refine ⟨h.lex.1, h.names.1, h.prods.1, fun y hy => ?_, fun y hy => ?_, h.fl, h.fn, h.fp, fun y hy => ?_⟩
  · obtain ⟨j, x, hx, hy⟩ := pair_mem h.lexL hy
    have hr := h.lexR j x y hx hy
    cases hq : (ownB x.e 1 4096).1 with
    | true => exact (hr.2.2.1 hq).exr
    | false =>
      rw [hr.2.2.2 hq]
      exact ⟨rfl, ⟨by decide, by decide⟩, trivial⟩
  · obtain ⟨j, x, hx, hy⟩ := pair_mem h.prodsL hy
    have hr := h.prodsR j x y hx hy
    rw [hr.right]; exact hr.row.1
  · obtain ⟨j, x, hx, hy⟩ := pair_mem h.prodsL hy
    have hr := h.prodsR j x y hx hy
    rw [hr.right]; exact hr.few
theorem map_pair {α β : Type} {f : α → β} : ∀ {l L : List α}, L.length = l.length → (∀ (j : Nat) (x y : α), l[j]? = some x → L[j]? = some y → f y = f x) → L.map f = l.map f
  | [], [], _, _ => rfl
  | [], y :: L, h, _ => by simp at h
  | x :: l, [], h, _ => by simp at h
  | x :: l, y :: L, h, hh => by
    rw [List.map_cons, List.map_cons, hh 0 x y rfl rfl, map_pair (by simpa using h) fun j a b ha hb => hh (j + 1) a b (by simpa using ha) (by simpa using hb)]
theorem OwnS.g {B : Nat} {w : World} {s s' : SP} (h : OwnS B w s s') : s'.g = s.g := by
  unfold SP.g
  rw [h.nameq, h.start, map_pair (f := LR.trivia) h.lexL fun j x y hx hy => (h.lexR j x y hx hy).2.1, map_pair (f := PD.d) h.prodsL fun j x y hx hy => by
    have hr := h.prodsR j x y hx hy
    unfold PD.d; rw [hr.left, hr.right]]
instance pf_81 : PlF Tryz.prog 81 := ⟨by kernel_rfl⟩
instance pf_83 : PlF Tryz.prog 83 := ⟨by kernel_rfl⟩
instance pf_84 : PlF Tryz.prog 84 := ⟨by kernel_rfl⟩
instance pf_85 : PlF Tryz.prog 85 := ⟨by kernel_rfl⟩
instance tS_22 : SzT Tryz.prog 22 1 := ⟨by kernel_rfl⟩
instance tS_23 : SzT Tryz.prog 23 1 := ⟨by kernel_rfl⟩
instance tS_24 : SzT Tryz.prog 24 1 := ⟨by kernel_rfl⟩
instance tS_33 : SzT Tryz.prog 33 1 := ⟨by kernel_rfl⟩
instance tZ_3 : ZrT Tryz.prog 3 (.int .i64 0) := ⟨by kernel_rfl⟩
theorem own_calls (s : SP) (w : World) (hS : SpR w s) :
    Calls Tryz.prog 61 #[(.agg #[(.slice s.lA s.lex.length s.lc), (.slice s.nA s.names.length s.nc), (.int .i64 s.start), (.slice s.pA s.prods.length s.pc)])] w (Ret (fun v w' => ∃ s', v = .agg #[.slice s'.lA s'.lex.length s'.lc, .slice s'.nA s'.names.length s'.nc, .int .i64 s'.start, .slice s'.pA s'.prods.length s'.pc] ∧ OwnS w.heap.size w' s s' ∧ Ext w w')) := by
 have hbl := hS.fl.by; have hbn := hS.fn.by; have hbp := hS.fp.by; have hnl := hS.fl.le; have hnn := hS.fn.le; have hnp := hS.fp.le
 refine calls_y (n := 66) Tryz.func61 ?_
 refine go ?_
 refine y_bx ?_
 intro w1 e1 z1 b1
 refine y_al ?_
 intro w2 e2 z2 b2
 refine go ?_
 refine y_ld (b1.ext e2) ?_
 have x1 : Ext w w2 := (Ext.trans e1 e2)
 refine yCa (ret_mono (cloneLR s.lex s.lA s.lc w2 (RowA.ext hS.lex x1) (by omega)) ?_)
 rintro _ w3 ⟨A1, c1, rfl, hn1, hnil1, e3⟩
 have he3 := e3.size
 refine go ?_
 refine y_st ((b1.ext e2).ext e3) ?_
 intro w4 e4 z3 b3
 replace b3 : Blk w4 w.heap.size #[(.slice A1 s.lex.length c1), (.slice s.nA s.names.length s.nc), (.int .i64 s.start), (.slice s.pA s.prods.length s.pc)] 26 := b3
 refine go ?_
 refine y_ld b3 ?_
 have q1 := (hn1.1.keep1 e4 (fun k hk => hn1.1.ne_blk ((b1.ext e2).ext e3) (by decide) k hk))
 have hlt1 : ∀ b, (Value.slice A1 s.lex.length c1).ownBlock = some b → b < w4.heap.size := q1.lt
 refine go ?_
 refine xc_loopN (fun m_ f_ Wx => ∃ (i : Nat) (L : List LR), m_ = s.lex.length - i ∧ (i ≤ s.lex.length) ∧ (L.drop i = s.lex.drop i) ∧ f_ 1 = (.pointer (some ⟨w.heap.size, 0, none⟩)) ∧ f_ 2 = (.pointer (some ⟨w1.heap.size, 0, none⟩)) ∧ f_ 14 = (.int .i64 (((s.lex.length : Nat) : Int))) ∧ f_ 15 = (.int .i64 ((i : Nat))) ∧ Vx.Own Wx 66 8 (.slice A1 s.lex.length c1) s.lex.length (L.flatMap LR.cs) ∧ (LoF w4.heap.size Wx s.lex L i) ∧ Chg (fun b => ((.slice A1 s.lex.length c1) : Value).ownBlock = some b) w4 Wx) (s.lex.length) ?_ ?_
 ·
  exact ⟨0, s.lex, (by omega), (by omega), rfl, rfl, rfl, rfl, vW, q1, (LoF.zero _ _ _ _), (Chg.refl _ _)⟩
 ·
  rintro m_ f1 w5 ⟨i, L, hm_f1, hi, hd, g1_f1, g2_f1, g14_f1, g15_f1, o0_f1, t0_f1, x2⟩
  have hx2 := x2.size
  have hl_L : L.length = s.lex.length := by have _q := (o0_f1).len; rw [fm_len LR.len] at _q; omega
  rw [← usf g1_f1, ← usf g2_f1, ← usf g14_f1, ← usf g15_f1]
  refine go ?_
  refine y_if (fun h1 => ?_) (fun h1 => ?_)
  ·
   refine go ?_
   refine y_al ?_
   intro w6 e5 z4 b4
   refine y_st b4 ?_
   intro w7 e6 z5 b5
   replace b5 : Blk w7 w5.heap.size #[(.int .i64 4096)] 3 := b5
   have q2 := (b3.keep x2 (fun _h => q1.ne_blk b3 (by decide) _ _h rfl))
   have q3 := ((q2.ext e5).keep1 e6 ((q2.ext e5).ne b4 (by decide)))
   refine go ?_
   refine y_ld q3 ?_
   have q4 := ((o0_f1.ext e5).keep1 e6 (fun k hk => by have _q := hn1.2 k hk; have _q2 := hlt1 k hk; omega))
   obtain ⟨x_1, g_1, hx_1⟩ := own_may (A := A1) i LR.len (by decide) q4
   obtain ⟨hx_2, hA_1, hc_1⟩ := hx_1 oM
   refine go ?_
   refine y_ix i hA_1 ?_
   refine go ?_
   refine y_lN (vs := [(.int .i64 x_1.e.kind), (.int .i64 x_1.e.frm), (.int .i64 x_1.e.to), (.int .i64 x_1.e.min), (.int .i64 x_1.e.max), (.slice x_1.e.A x_1.e.list.length x_1.e.c)]) (CellsL.sub hc_1 2 6 rfl) ?_
   have hex_ : s.lex[i]? = some x_1 := (drop_get0 hd).symm.trans hx_2
   have x3 : Ext w w7 := (Ext.chg1 (Ext.trans (Chg.trans (Ext.chg1 (Ext.trans x1 e3) e4 (by omega)) x2 (fun b hb hl => (absurd hl (by have _h := hn1.2 b hb; omega)))) e5) e6 (by omega))
   refine yCa (ret_mono (ownExpr_calls w5.heap.size w x_1.e w7 1 4096 x3 (hS.ex _ (List.mem_of_getElem? hex_)) (by omega) b5 (by omega) (by omega)) ?_)
   rintro _ w8 ⟨y_1, rfl, hb1, ht1, e7⟩
   have he7 := e7.size
   refine go ?_
   refine y_al ?_
   intro w9 e8 z6 b6
   refine y_st b6 ?_
   intro w10 e9 z7 b7
   replace b7 : Blk w10 w8.heap.size #[(.int .i64 y_1.kind), (.int .i64 y_1.frm), (.int .i64 y_1.to), (.int .i64 y_1.min), (.int .i64 y_1.max), (.slice y_1.A y_1.list.length y_1.c)] 64 := blk_full b7 rfl
   refine go ?_
   refine xc_cond (b := (!((ownB x_1.e 1 4096).1))) rfl (fun h2 => ?_) (fun h2 => ?_)
   ·
    have h2' := bS h2
    have hok_ : (ownB x_1.e 1 4096).1 = false := by revert h2; cases (ownB x_1.e 1 4096).1 <;> simp
    refine go ?_
    refine yOp (ox_mkStruct (ps := []) (cs := #[(.int .i64 0), (.int .i64 0), (.int .i64 0), (.int .i64 0), (.int .i64 0), (.slice none 0 0)]) tZ_64.h tP_64.h rfl (by kernel_rfl) ?_)
    refine y_st b7 ?_
    intro w11 e10 z8 b8
    replace b8 : Blk w11 w8.heap.size #[(.int .i64 0), (.int .i64 0), (.int .i64 0), (.int .i64 0), (.int .i64 0), (.slice none 0 0)] 64 := blk_full b8 rfl
    have q5 := (q3.keep1 e7 (by have _q := b3.lt; omega))
    have q6 := ((q5.ext e8).keep1 e9 ((q5.ext e8).ne b6 (by decide)))
    refine go ?_
    refine y_ld (q6.keep1 e10 (q6.ne b7 (by decide))) ?_
    refine go ?_
    refine y_lN (vs := [(.int .i64 0), (.int .i64 0), (.int .i64 0), (.int .i64 0), (.int .i64 0), (.slice none 0 0)]) ⟨b8.cell rfl, b8.cell rfl, b8.cell rfl, b8.cell rfl, b8.cell rfl, b8.cell rfl, trivial⟩ ?_
    have q7 := (q4.keep1 e7 (fun k hk => by have _q := hn1.2 k hk; have _q2 := hlt1 k hk; omega))
    have q8 := ((q7.ext e8).keep1 e9 (fun k hk => by have _q := hn1.2 k hk; have _q2 := hlt1 k hk; omega))
    have q9 := (q8.keep1 e10 (fun k hk => by have _q := hn1.2 k hk; have _q2 := hlt1 k hk; omega))
    obtain ⟨x_2, g_2, hx_3⟩ := own_may (A := A1) i LR.len (by decide) q9
    obtain ⟨hx_4, hA_2, hc_2⟩ := hx_3 oM
    refine y_ix i hA_2 ?_
    refine go ?_
    refine yNp (ox_stE (i := i) (off := 2) (vs := [(.int .i64 0), (.int .i64 0), (.int .i64 0), (.int .i64 0), (.int .i64 0), (.slice none 0 0)]) (b := ((LR.mk x_2.name x_2.trivia (EX.mk 0 0 0 0 0 none 0 [])) : LR)) LR.len tS_64.h hA_2 rfl (v := (.agg #[(.int .i64 0), (.int .i64 0), (.int .i64 0), (.int .i64 0), (.int .i64 0), (.slice none 0 0)])) rfl rfl rfl rfl q9 hx_4 rfl (by decide) (by omega) ?_)
    intro w12 e11 z9 o1
    refine go ?_
    refine y_add ?_
    have hxx9 : x_1 = x_2 := Option.some.inj (hx_2.symm.trans hx_4)
    have x4 : Ext w5 w11 := (Ext.chg1 (Ext.chg1 (Ext.trans (Ext.chg1 (Ext.chg1 e5 e6 (by omega)) e7 (by omega)) e8) e9 (by omega)) e10 (by omega))
    have y1 : Chg (fun b => ((.slice A1 s.lex.length c1) : Value).ownBlock = some b) w4 w12 := (Chg.trans (Chg.chg1 (Chg.chg1 (Chg.ext (Chg.chg1 (Chg.chg1 (Chg.ext (Chg.trans (Chg.refl (fun b => ((.slice A1 s.lex.length c1) : Value).ownBlock = some b) w4) x2 (fun b hb hl => hb)) e5) e6 (.inr (by omega))) e7 (.inr (by omega))) e8) e9 (.inr (by omega))) e10 (.inr (by omega))) e11 (fun b hb hl => hb))
    refine go ?_
    exact ⟨rfl, s.lex.length - (i + 1), by omega, i + 1, (L.set i ((LR.mk x_2.name x_2.trivia (EX.mk 0 0 0 0 0 none 0 [])))), by omega, (by omega), (drop_set hd), rfl, rfl, rfl, vW, o1, (LoF.snoc (LoF.keep (LoF.ext t0_f1 x4) e11 hlt1) hex_ ⟨(by rw [hxx9]), (by rw [hxx9]), (fun h9 => by rw [hok_] at h9; cases h9), fun _ => rfl⟩ (by omega)), y1⟩
   ·
    have h2' := bS h2
    have hok_ : (ownB x_1.e 1 4096).1 = true := by revert h2; cases (ownB x_1.e 1 4096).1 <;> simp
    have q10 := (q3.keep1 e7 (by have _q := b3.lt; omega))
    have q11 := ((q10.ext e8).keep1 e9 ((q10.ext e8).ne b6 (by decide)))
    refine go ?_
    refine y_ld q11 ?_
    refine go ?_
    refine y_lN (vs := [(.int .i64 y_1.kind), (.int .i64 y_1.frm), (.int .i64 y_1.to), (.int .i64 y_1.min), (.int .i64 y_1.max), (.slice y_1.A y_1.list.length y_1.c)]) ⟨b7.cell rfl, b7.cell rfl, b7.cell rfl, b7.cell rfl, b7.cell rfl, b7.cell rfl, trivial⟩ ?_
    have q12 := (q4.keep1 e7 (fun k hk => by have _q := hn1.2 k hk; have _q2 := hlt1 k hk; omega))
    have q13 := ((q12.ext e8).keep1 e9 (fun k hk => by have _q := hn1.2 k hk; have _q2 := hlt1 k hk; omega))
    obtain ⟨x_3, g_3, hx_5⟩ := own_may (A := A1) i LR.len (by decide) q13
    obtain ⟨hx_6, hA_3, hc_3⟩ := hx_5 oM
    refine y_ix i hA_3 ?_
    refine go ?_
    refine yNp (ox_stE (i := i) (off := 2) (vs := [(.int .i64 y_1.kind), (.int .i64 y_1.frm), (.int .i64 y_1.to), (.int .i64 y_1.min), (.int .i64 y_1.max), (.slice y_1.A y_1.list.length y_1.c)]) (b := ((LR.mk x_3.name x_3.trivia y_1) : LR)) LR.len tS_64.h hA_3 rfl (v := (.agg #[(.int .i64 y_1.kind), (.int .i64 y_1.frm), (.int .i64 y_1.to), (.int .i64 y_1.min), (.int .i64 y_1.max), (.slice y_1.A y_1.list.length y_1.c)])) rfl rfl rfl rfl q13 hx_6 rfl (by decide) (by omega) ?_)
    intro w13 e12 z10 o2
    refine go ?_
    refine y_add ?_
    have hxx9 : x_1 = x_3 := Option.some.inj (hx_2.symm.trans hx_6)
    have hcp9 : CpX w4.heap.size w8 x_1.e y_1 := (CpX.mono (by omega) (ht1 hok_))
    have x5 : Ext w8 w10 := (Ext.chg1 e8 e9 (by omega))
    have x6 : Ext w5 w10 := (Ext.chg1 (Ext.trans (Ext.chg1 (Ext.chg1 e5 e6 (by omega)) e7 (by omega)) e8) e9 (by omega))
    have y2 : Chg (fun b => ((.slice A1 s.lex.length c1) : Value).ownBlock = some b) w4 w13 := (Chg.trans (Chg.chg1 (Chg.ext (Chg.chg1 (Chg.chg1 (Chg.ext (Chg.trans (Chg.refl (fun b => ((.slice A1 s.lex.length c1) : Value).ownBlock = some b) w4) x2 (fun b hb hl => hb)) e5) e6 (.inr (by omega))) e7 (.inr (by omega))) e8) e9 (.inr (by omega))) e12 (fun b hb hl => hb))
    refine go ?_
    exact ⟨rfl, s.lex.length - (i + 1), by omega, i + 1, (L.set i ((LR.mk x_3.name x_3.trivia y_1))), by omega, (by omega), (drop_set hd), rfl, rfl, rfl, vW, o2, (LoF.snoc (LoF.keep (LoF.ext t0_f1 x6) e12 hlt1) hex_ ⟨(by rw [hxx9]), (by rw [hxx9]), fun _ => (CpX.keep (CpX.ext hcp9 x5) e12 hlt1), fun h9 => by rw [hok_] at h9; cases h9⟩ (by omega)), y2⟩
  ·
   have q14 := (b3.keep x2 (fun _h => q1.ne_blk b3 (by decide) _ _h rfl))
   refine go ?_
   refine y_ld q14 ?_
   have x7 : Ext w w5 := (Chg.trans (Ext.chg1 (Ext.trans x1 e3) e4 (by omega)) x2 (fun b hb hl => (absurd hl (by have _h := hn1.2 b hb; omega))))
   refine yCa (ret_mono (cloneStr s.names s.nA s.nc w5 (RowA.ext hS.names x7) (by omega)) ?_)
   rintro _ w14 ⟨A2, c2, rfl, hn2, hnil2, e13⟩
   have he13 := e13.size
   refine go ?_
   refine y_st (q14.ext e13) ?_
   intro w15 e14 z11 b9
   replace b9 : Blk w15 w.heap.size #[(.slice A1 s.lex.length c1), (.slice A2 s.names.length c2), (.int .i64 s.start), (.slice s.pA s.prods.length s.pc)] 26 := b9
   refine go ?_
   refine y_ld b9 ?_
   have x8 : Ext w w15 := (Ext.chg1 (Ext.trans x7 e13) e14 (by omega))
   refine yCa (ret_mono (clonePD s.prods s.pA s.pc w15 (RowA.ext hS.prods x8) (by omega)) ?_)
   rintro _ w16 ⟨A3, c3, rfl, hn3, hnil3, e15⟩
   have he15 := e15.size
   refine go ?_
   refine y_st (b9.ext e15) ?_
   intro w17 e16 z12 b10
   replace b10 : Blk w17 w.heap.size #[(.slice A1 s.lex.length c1), (.slice A2 s.names.length c2), (.int .i64 s.start), (.slice A3 s.prods.length c3)] 26 := b10
   refine go ?_
   refine y_ld b10 ?_
   have q15 := (hn3.1.keep1 e16 (fun k hk => hn3.1.ne_blk (b9.ext e15) (by decide) k hk))
   have hlt2 : ∀ b, (Value.slice A3 s.prods.length c3).ownBlock = some b → b < w17.heap.size := q15.lt
   refine go ?_
   refine xc_loopN (fun m_ f_ Wx => ∃ (k : Nat) (M : List PD), m_ = s.prods.length - k ∧ (k ≤ s.prods.length) ∧ (M.drop k = s.prods.drop k) ∧ f_ 1 = (.pointer (some ⟨w.heap.size, 0, none⟩)) ∧ f_ 2 = (.pointer (some ⟨w1.heap.size, 0, none⟩)) ∧ f_ 14 = (.int .i64 (((s.lex.length : Nat) : Int))) ∧ f_ 15 = (.int .i64 ((i : Nat))) ∧ f_ 16 = (.bool (decide (((i : Nat) : Int) < (((s.lex.length : Nat) : Int))))) ∧ f_ 38 = (.pointer (some ⟨w.heap.size, 1, none⟩)) ∧ f_ 39 = (.slice s.nA s.names.length s.nc) ∧ f_ 40 = (.slice A2 s.names.length c2) ∧ f_ 41 = (.pointer (some ⟨w.heap.size, 1, none⟩)) ∧ f_ 42 = (.pointer (some ⟨w.heap.size, 3, none⟩)) ∧ f_ 43 = (.slice s.pA s.prods.length s.pc) ∧ f_ 44 = (.slice A3 s.prods.length c3) ∧ f_ 45 = (.pointer (some ⟨w.heap.size, 3, none⟩)) ∧ f_ 46 = (.pointer (some ⟨w.heap.size, 3, none⟩)) ∧ f_ 47 = (.slice A3 s.prods.length c3) ∧ f_ 48 = (.int .i64 (((s.prods.length : Nat) : Int))) ∧ f_ 49 = (.int .i64 ((k : Nat))) ∧ Vx.Own Wx 37 2 (.slice A3 s.prods.length c3) s.prods.length (M.flatMap PD.cs) ∧ (PoF w17.heap.size Wx s.prods M k) ∧ Chg (fun b => ((.slice A3 s.prods.length c3) : Value).ownBlock = some b) w17 Wx) (s.prods.length) ?_ ?_
   ·
    exact ⟨0, s.prods, (by omega), (by omega), rfl, rfl, rfl, rfl, rfl, rfl, rfl, rfl, rfl, rfl, rfl, rfl, rfl, rfl, rfl, rfl, rfl, vW, q15, (PoF.zero _ _ _ _), (Chg.refl _ _)⟩
   ·
    rintro m_ f2 w18 ⟨k, M, hm_f2, hk, hd2, g1_f2, g2_f2, g14_f2, g15_f2, g16_f2, g38_f2, g39_f2, g40_f2, g41_f2, g42_f2, g43_f2, g44_f2, g45_f2, g46_f2, g47_f2, g48_f2, g49_f2, o0_f2, t0_f2, x9⟩
    have hx9 := x9.size
    have hl_M : M.length = s.prods.length := by have _q := (o0_f2).len; rw [fm_len PD.len] at _q; omega
    rw [← usf g1_f2, ← usf g2_f2, ← usf g14_f2, ← usf g15_f2, ← usf g16_f2, ← usf g38_f2, ← usf g39_f2, ← usf g40_f2, ← usf g41_f2, ← usf g42_f2, ← usf g43_f2, ← usf g44_f2, ← usf g45_f2, ← usf g46_f2, ← usf g47_f2, ← usf g48_f2, ← usf g49_f2]
    refine go ?_
    refine y_if (fun h3 => ?_) (fun h3 => ?_)
    ·
     refine go ?_
     refine xc_regionE [12] (fun W_ => Chg (fun _ => False) w18 W_) hmix ?_
     intro w19 e17 z13
     have hS1 : Chg (fun _ => False) w18 w19 := Ext.to e17
     refine yDp 0 ?_
     have q16 := (b10.keep x9 (fun _h => q15.ne_blk b10 (by decide) _ _h rfl))
     refine yDt (i := 1) rfl hS1 (fun W_ hW_ => ox_load tA_24.h rfl ((q16.ext hW_).cell rfl) ⟨rfl, rfl⟩) ?_
     refine yDp 2 ?_
     refine yDp 3 ?_
     have q17 := (b10.keep x9 (fun _h => q15.ne_blk b10 (by decide) _ _h rfl))
     refine yDt (i := 4) rfl hS1 (fun W_ hW_ => ox_load tA_24.h rfl ((q17.ext hW_).cell rfl) ⟨rfl, rfl⟩) ?_
     refine yDp 5 ?_
     obtain ⟨x_4, g_4, hx_7⟩ := own_may (A := A3) k PD.len (by decide) o0_f2
     obtain ⟨hx_8, hA_4, hc_4⟩ := hx_7 oM
     refine yDx (i := 6) k hA_4 ?_
     refine yDp 7 ?_
     refine yDt (i := 8) rfl hS1 (fun W_ hW_ => ox_load tA_33.h rfl (CellsL.at1 (CellsL.keep hW_ not_false hc_4) 1 rfl) ⟨rfl, rfl⟩) ?_
     have hpx_x_4 : s.prods[k]? = some x_4 := (drop_get0 hd2).symm.trans hx_8
     have hpf_x_4 := (hS.fr _ (List.mem_of_getElem? hpx_x_4)).by
     have x10 : Ext w w19 := (Ext.trans (Chg.trans (Ext.chg1 (Ext.trans x8 e15) e16 (by omega)) x9 (fun b hb hl => (absurd hl (by have _h := hn3.2 b hb; omega)))) e17)
     refine yD1 (i := 9) rfl (yCx (ret_mono (cloneSym x_4.right x_4.rA x_4.rc w19 (RowA.ext (hS.right _ (List.mem_of_getElem? hpx_x_4)) x10) (by omega)) ?_))
     rintro _ w20 ⟨A4, c4, rfl, hn4, hnil4, e18⟩
     have he18 := e18.size
     have hS2 : Chg (fun _ => False) w18 w20 := Chg.ext hS1 e18
     refine ⟨.inr fun _ => hS2, ?_⟩
     have x11 : Ext w18 w20 := (Ext.trans e17 e18)
     refine yDx (i := 10) k hA_4 ?_
     refine yDp 11 ?_
     refine yD1 (i := 12) rfl (ox_stE (i := k) (off := 1) (vs := [(.slice A4 x_4.right.length c4)]) (b := ((PD.mk x_4.left A4 c4 x_4.right) : PD)) PD.len tS_33.h hA_4 rfl (v := (.slice A4 x_4.right.length c4)) rfl rfl rfl rfl ((o0_f2.ext e17).ext e18) hx_8 rfl (by decide) (by omega) ?_)
     intro w21 e19 z14 o3
     refine ⟨.inl (by decide), ?_⟩
     refine xd_done (by kernel_rfl) ?_ _
     refine go ?_
     refine y_add ?_
     have q18 := (hn4.1.keep e19 (fun _k _hk => hn4.1.ne_own ((o0_f2.ext e17).ext e18) (by decide) _k _hk))
     have y3 : Chg (fun b => ((.slice A3 s.prods.length c3) : Value).ownBlock = some b) w17 w21 := (Chg.trans (Chg.ext (Chg.ext (Chg.trans (Chg.refl (fun b => ((.slice A3 s.prods.length c3) : Value).ownBlock = some b) w17) x9 (fun b hb hl => hb)) e17) e18) e19 (fun b hb hl => hb))
     refine go ?_
     exact ⟨rfl, s.prods.length - (k + 1), by omega, k + 1, (M.set k ((PD.mk x_4.left A4 c4 x_4.right))), by omega, (by omega), (drop_set hd2), rfl, rfl, rfl, rfl, rfl, rfl, rfl, rfl, rfl, rfl, rfl, rfl, rfl, rfl, rfl, rfl, vW, o3, (PoF.snoc (PoF.keep (PoF.ext t0_f2 x11) e19 hlt2) hpx_x_4 (y := ⟨x_4.left, A4, c4, x_4.right⟩) (PoR.of hnil4 (by omega) q18 (fun k hk => by have _h := hn4.2 k hk; omega)) (by omega)), y3⟩
    ·
     have q19 := (b10.keep x9 (fun _h => q15.ne_blk b10 (by decide) _ _h rfl))
     refine go ?_
     refine y_lN (vs := [(.slice A1 s.lex.length c1), (.slice A2 s.names.length c2), (.int .i64 s.start), (.slice A3 s.prods.length c3)]) ⟨q19.cell rfl, q19.cell rfl, q19.cell rfl, q19.cell rfl, trivial⟩ ?_
     have q20 := ((b2.ext e3).keep1 e4 (by have _q := b2.lt; omega))
     have q21 := (q20.keep x2 (fun _h => q1.ne_blk q20 (by decide) _ _h rfl))
     have q22 := ((q21.ext e13).keep1 e14 (by have _q := b2.lt; omega))
     have q23 := ((q22.ext e15).keep1 e16 (by have _q := b2.lt; omega))
     have q24 := (q23.keep x9 (fun _h => q15.ne_blk q23 (by decide) _ _h rfl))
     refine y_st q24 ?_
     intro w22 e20 z15 b11
     replace b11 : Blk w22 w1.heap.size #[(.slice A1 s.lex.length c1), (.slice A2 s.names.length c2), (.int .i64 s.start), (.slice A3 s.prods.length c3)] 26 := blk_full b11 rfl
     refine go ?_
     change leaves _ _ _ _ _ _ _
     refine leaves_nil (n := 66) (rs := [.cell 2 26]) (vs := [.agg #[(.slice A1 s.lex.length c1), (.slice A2 s.names.length c2), (.int .i64 s.start), (.slice A3 s.prods.length c3)]]) rfl ⟨⟨by decide, w1.heap.size, 0, 4, [(.slice A1 s.lex.length c1), (.slice A2 s.names.length c2), (.int .i64 s.start), (.slice A3 s.prods.length c3)], rfl, tA_26.h, tS_26.h, rfl, ⟨b11.cell rfl, b11.cell rfl, b11.cell rfl, b11.cell rfl, trivial⟩, rfl⟩, trivial⟩ ?_
     have hLl : L.length = s.lex.length := hl_L
     have hMl : M.length = s.prods.length := hl_M
     have y4 : Chg1 w.heap.size w5 w18 := (Chg.trans (Chg.trans (Chg.ext (Chg.trans (Chg.ext (Chg.refl (fun x => x = w.heap.size) w5) e13) e14 (fun b hb hl => hb)) e15) e16 (fun b hb hl => hb)) x9 (fun b hb hl => absurd hl (by have _h := hn3.2 b hb; omega)))
     have hT9 := LoF.keep (LoF.keep t0_f1 y4 (fun b hb => by subst hb; omega)) e20 (fun b hb => by subst hb; omega)
     have q25 := ((o0_f1.ext e13).keep1 e14 (fun k hk => by have _q := hn1.2 k hk; have _q2 := hlt1 k hk; omega))
     have q26 := ((q25.ext e15).keep1 e16 (fun k hk => by have _q := hn1.2 k hk; have _q2 := hlt1 k hk; omega))
     have q27 := (q26.keep x9 (fun _k _hk => q26.ne_own q15 (by decide) _k _hk))
     have q28 := (q27.keep1 e20 (fun k hk => by have _q := hn1.2 k hk; have _q2 := hlt1 k hk; omega))
     have q29 := (hn2.1.keep1 e14 (fun k hk => hn2.1.ne_blk (q14.ext e13) (by decide) k hk))
     have q30 := ((q29.ext e15).keep1 e16 (fun k hk => (q29.ext e15).ne_blk (b9.ext e15) (by decide) k hk))
     have q31 := (q30.keep x9 (fun _k _hk => q30.ne_own q15 (by decide) _k _hk))
     have q32 := (q31.keep1 e20 (fun k hk => q31.ne_blk q24 (by decide) k hk))
     have q33 := (o0_f2.keep1 e20 (fun k hk => by have _q := hn3.2 k hk; have _q2 := hlt2 k hk; omega))
     have x12 : Ext w w22 := (Ext.chg1 (Chg.trans (Ext.chg1 (Ext.trans x8 e15) e16 (by omega)) x9 (fun b hb hl => (absurd hl (by have _h := hn3.2 b hb; omega)))) e20 (by omega))
     exact ⟨⟨A1, c1, L, A2, c2, s.names, s.start, A3, c3, M⟩, by show Go.Vx.one [_] = Value.agg #[.slice _ L.length _, _, _, .slice _ M.length _]; rw [hLl, hMl] <;> rfl, ⟨RowN.of q28 (fun k hk => by have _h := hn1.2 k hk; omega), hLl, (LoF.mono (by omega) hT9).all (by omega), RowN.of q32 (fun k hk => by have _h := hn2.2 k hk; omega), rfl, rfl, RowN.of q33 (fun k hk => by have _h := hn3.2 k hk; omega), hMl, (PoF.mono (by omega) (PoF.keep t0_f2 e20 (fun b hb => by subst hb; omega))).all (by omega), hnil1, hnil2, hnil3, ⟨by show L.length ≤ _; rw [hLl]; exact Own.capn q28, by show L.length * _ ≤ _; rw [hLl]; omega⟩, ⟨Own.capn q32, by show s.names.length * _ ≤ _; omega⟩, ⟨by show M.length ≤ _; rw [hMl]; exact Own.capn q33, by show M.length * _ ≤ _; rw [hMl]; omega⟩⟩, x12⟩
end Go.Proofs.YtnnmdkglgnlenaaGreatDoor
