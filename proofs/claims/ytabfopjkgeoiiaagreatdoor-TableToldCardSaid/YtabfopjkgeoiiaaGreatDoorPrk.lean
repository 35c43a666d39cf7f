/-
  Part 11 of the proof: texts Rda. No conditions.
-/
import Derived.SizedLaws
import Derived.ChangeArms
import Derived.OpenShut
import Derived.Deep.Slices
import Derived.Below
import Derived.Test.YtabfopjkgeoiiaaGreatDoorPre
set_option linter.unusedVariables false
set_option linter.unusedSimpArgs false
set_option linter.unusedSectionVars false
set_option maxRecDepth 100000
set_option maxHeartbeats 4000000
namespace Go.Vx
open Go Go.RowKit Go.ChangeShapes Go.WideShapes
def Rdv(P:Program)(w:World):Nat→TypeId→List Value→Prop
  | 0,_,_=>False
  | n+1,t,cs =>
    match P.underlying t with
    | some .bool=>∃b,cs = [.bool b]
    | some (.int k)=>∃i,cs = [.int k i]∧(Lit.int k i).wf=true
    | some .string=>∃s:ByteArray,cs = [.string s]∧s.size≤reachBytes
    | some (.slice e)=>∃A len cap,cs = [.slice A len cap]∧(A=none→len=0∧cap=0)∧len≤cap∧cap≤maxLen∧cap*P.bytesOf e≤reachBytes ∧
        ∀a,A=some a→∀i,i<len→∃cs',cs'.length=P.cellsOf e∧(∀j v,cs'[j]?=some v→w.cell? (a.add (i*P.cellsOf e+j))=some v)∧Rdv P w n e cs'
    | some (.struct fs)=>cs.length=P.cellsOf t∧∀(i:Nat) (f:Field),fs[i]?=some f→Rdv P w n f.type ((cs.drop f.offset).take (P.cellsOf f.type))
    | some (.array m e)=>cs.length=P.cellsOf t∧∀i,i<m→Rdv P w n e ((cs.drop (i*P.cellsOf e)).take (P.cellsOf e))
    | _=>True
section
variable {H:Type}{enc:TypeId×Value→H}{P:Program}{w:World}{base:Nat}{spare:Nat→Bool}{held:Bool}
theorem weightsAll_in{e:TypeId} : ∀ {l:List (DataW H)} {d:DataW H},d∈l→∀n∈d.weights P e,n∈DataW.weightsAll P e l
  | _::_,_,.head _,n,hn=>by simp only [DataW.weightsAll,List.mem_append];exact .inl hn
  | _::_,_,.tail _ h,n,hn=>by simp only [DataW.weightsAll,List.mem_append];exact .inr (weightsAll_in h n hn)
theorem rdv_of(hsp:∀b,spare b=true):∀(fuel:Nat) (t:TypeId) (cs:List Value) (x:DataW H×List MemPlace),DataW.trod enc P w base spare held fuel t cs=some x→(∀n∈x.1.weights P t,n≤reachBytes)→Rdv P w fuel t cs
  | 0,t,cs,x,h,_=>by simp [DataW.trod] at h
  | fuel+1,t,cs,x,h,hw=>by
    unfold Rdv
    cases hu:P.underlying t with
    | none=>trivial
    | some d =>
      cases d with
      | bool=>obtain ⟨b,h1,_⟩:=DataW.trod_bool hu h;exact ⟨b,h1⟩
      | int k=>obtain ⟨i,h1,_,h3⟩:=DataW.trod_int hu h;exact ⟨i,h1,h3⟩
      | string =>
        obtain ⟨s,h1,h2,_⟩:=DataW.trod_string hu h;subst h2;refine ⟨s,h1,?_⟩;have:=hw s.data.toList.length (by unfold DataW.weights;exact List.Mem.head _);have e:s.data.toList.length=s.size:=Array.length_toList
        rwa [e] at this
      | slice e =>
        rcases DataW.trod_slice hu h with ⟨h1,_⟩|⟨a,len,cap,elems,rest,n,hn,h1,h2,hb,hl,hm,he,hel,hre,_⟩;exact ⟨none,0,0,h1,fun _=>⟨rfl,rfl⟩,Nat.le_refl _,Nat.zero_le _,by rw [Nat.zero_mul];exact Nat.zero_le _,fun a h=>by cases h⟩;obtain rfl:fuel=n:=by omega
        subst h2;obtain ⟨hr,_⟩:=hre (hsp _);refine ⟨some a,len,cap,h1,fun h=>(by cases h),hl,hm,?_,?_⟩;have:=hw ((elems.length+rest.length)*P.bytesOf e) (by simp [DataW.weights,hu])
        rwa [he,hr,show len+(cap-len)=cap by omega] at this
        rintro _ ⟨⟩ i hi;have h3:=hel i hi;rw [List.getElem?_eq_getElem (by omega)] at h3;obtain ⟨cs',h4,h5⟩:=Option.bind_eq_some_iff.1 h3;obtain ⟨_,h6,h7⟩:=World.cells?_some h4;refine ⟨cs',h6,fun j v hj=>?_,rdv_of hsp fuel e cs' _ h5 fun n hn=>hw n ?_⟩;have:=h7 j (by rw [←h6];exact (List.getElem?_eq_some_iff.1 hj).1);rw [Deep.add_add] at this;exact this.trans hj;simp only [DataW.weights,hu,List.mem_cons,List.mem_append];exact .inr (.inl (weightsAll_in (List.mem_map.2 ⟨_,List.getElem_mem _,rfl⟩) n hn))
      | struct fs =>
        obtain ⟨xs,n,hn,h2,h3,h4,h5⟩:=DataW.trod_struct hu h;obtain rfl:fuel=n:=by omega
        subst h2;refine ⟨h3,fun i f hf=>?_⟩;have hi:i<fs.size:=(Array.getElem?_eq_some_iff.1 hf).1;have h6:=h5 i f hf;rw [List.getElem?_eq_getElem (by omega)] at h6;refine rdv_of hsp fuel _ _ _ h6 fun n hn=>hw n ?_
        simp only [DataW.weights,hu];exact DataW.weights_mem_each (j:=i) (t:=f.type) (d:=(xs[i]'(by omega)).1) (by simp [hf]) (by simp [List.getElem?_eq_getElem (show i<xs.length by omega)]) n hn
      | array m e =>
        obtain ⟨xs,n,hn,h2,h3,h4,h5⟩:=DataW.trod_array hu h;obtain rfl:fuel=n:=by omega
        subst h2;refine ⟨h3,fun i hi=>?_⟩;have h6:=h5 i hi;rw [List.getElem?_eq_getElem (by omega)] at h6;refine rdv_of hsp fuel _ _ _ h6 fun n hn=>hw n ?_
        simp only [DataW.weights,hu];exact weightsAll_in (List.mem_map.2 ⟨_,List.getElem_mem _,rfl⟩) n hn
      | _=>trivial
theorem rdv_arg{ts:List TypeId}{ds:List (DataW H)}{j:Nat}{t:TypeId}{v:Value}{d:DataW H}{ps:List MemPlace}(hsz:(DataW.weightsEach P ts ds).all (·≤reachBytes)=true)(ht:ts[j]?=some t)(hd:ds[j]?=some d)
    (h:DataW.Trod enc P w 0 (fun _=>true) held t v d ps):∃n,Rdv P w n t v.cells.toList:=by
  obtain ⟨n,h⟩:=h;refine ⟨n,rdv_of (fun _=>rfl) n t _ _ h fun m hm=>?_⟩;have:=List.all_eq_true.1 hsz _ (DataW.weights_mem_each ht hd m hm)
  simpa using this
end
section
variable {P:Program}{w:World}{n:Nat}{t e:TypeId}{cs:List Value}
theorem Rdv.int{k:IntKind}(h:Rdv P w n t cs)(hu:P.underlying t=some (.int k)):∃i,cs = [.int k i]∧(Lit.int k i).wf=true:=by
  cases n with
  | zero=>exact h.elim
  | succ n=>unfold Rdv at h;rw [hu] at h;exact h
theorem Rdv.bool(h:Rdv P w n t cs)(hu:P.underlying t=some .bool):∃b,cs = [.bool b]:=by
  cases n with
  | zero=>exact h.elim
  | succ n=>unfold Rdv at h;rw [hu] at h;exact h
theorem Rdv.string(h:Rdv P w n t cs)(hu:P.underlying t=some .string):∃s:ByteArray,cs = [.string s]∧s.size≤reachBytes:=by
  cases n with
  | zero=>exact h.elim
  | succ n=>unfold Rdv at h;rw [hu] at h;exact h
theorem Rdv.struct{fs:Array Field}(h:Rdv P w n t cs)(hu:P.underlying t=some (.struct fs)):∃m,cs.length=P.cellsOf t∧∀(i:Nat) (f:Field),fs[i]?=some f→Rdv P w m f.type ((cs.drop f.offset).take (P.cellsOf f.type)):=by
  cases n with
  | zero=>exact h.elim
  | succ n=>unfold Rdv at h;rw [hu] at h;exact ⟨n,h⟩
theorem cellsL_join{w:World}{g:Nat} : ∀ {a b:List Value} {o:Nat},CellsL w g o a→CellsL w g (o+a.length) b→CellsL w g o (a++b)
  | [],b,o,_,h=>by simpa using h
  | x::a,b,o,h,h'=>⟨h.1,cellsL_join h.2 (by rw [List.length_cons] at h';rw [show o+1+a.length=o+(a.length+1) by omega];exact h')⟩
theorem cellsL_rows{α:Type}{w:World}{g k:Nat}(f:α→List Value)(hf:∀a,(f a).length=k):∀ {l:List α} {o:Nat},(∀i x,l[i]?=some x→CellsL w g (o+i*k) (f x))→CellsL w g o (l.flatMap f)
  | [],_,_=>trivial
  | x::l,o,h=>by
    rw [List.flatMap_cons];refine cellsL_join (by simpa using h 0 x rfl) (cellsL_rows f hf fun i y hy=>?_);have:=h (i+1) y (by simpa using hy);rw [hf,show o+k+i*k=o+(i+1)*k by rw [Nat.add_mul];omega];exact this
theorem Rdv.sliceN{α:Type}(f:α→List Value)(Q:α→Prop){k B:Nat}(h:Rdv P w n t cs)(hu:P.underlying t=some (.slice e))(hk:P.cellsOf e=k)(hB:P.bytesOf e=B)(hf:∀a,(f a).length=k)
    (hel:∀cs',cs'.length=k→Rdv P w (n-1) e cs'→∃x,cs'=f x∧Q x) :
    ∃A cap,∃l:List α,cs = [.slice A l.length cap]∧(A=none→cap=0)∧l.length≤cap∧cap≤maxLen∧cap*B≤reachBytes∧RowA w A (l.flatMap f)∧∀x∈l,Q x:=by
  cases n with
  | zero=>exact h.elim
  | succ n =>
    unfold Rdv at h;rw [hu] at h;obtain ⟨A,len,cap,rfl,h1,h2,h3,h4,h5⟩:=h;subst hk;subst hB
    cases A with
    | none =>
      obtain ⟨rfl,rfl⟩:=h1 rfl;exact ⟨none,0,[],rfl,fun _=>rfl,h2,h3,h4,rfl,fun x hx=>by cases hx⟩
    | some a =>
      have key:∀m,m≤len→∃l:List α,l.length=m∧(∀i x,l[i]?=some x→∀j v,(f x)[j]?=some v→w.cell? (a.add (i*P.cellsOf e+j))=some v)∧∀x∈l,Q x:=by
        intro m
        induction m with
        | zero=>exact fun _=>⟨[],rfl,fun i x h=>by simp at h,fun x hx=>by cases hx⟩
        | succ m ih =>
          intro hm;obtain ⟨l,e1,e2,e3⟩:=ih (by omega);obtain ⟨cs',c1,c2,c3⟩:=h5 a rfl m (by omega);obtain ⟨x,rfl,hq⟩:=hel cs' c1 c3;refine ⟨l++[x],by simp [e1],fun i y hy=>?_,fun y hy=>?_⟩;rw [List.getElem?_append] at hy
          split at hy
          exact e2 i y hy;rename_i hi;rw [List.getElem?_singleton] at hy
          split at hy
          rename_i h0;cases hy;obtain rfl:i=m:=by omega
          exact c2;cases hy;rcases List.mem_append.1 hy with hy|hy;exact e3 y hy;simp at hy;subst hy;exact hq
      obtain ⟨l,e1,e2,e3⟩:=key len (Nat.le_refl _);subst e1;refine ⟨some a,cap,l,rfl,(fun h=>by cases h),h2,h3,h4,?_,e3⟩;by_cases hv:l.flatMap f = [];rw [hv];exact RowA.nil w _
      have hsp:a=⟨a.block,a.off,none⟩:=by
        cases l with
        | nil=>simp at hv
        | cons x l =>
          have hx:f x≠[]:=fun h0=>hv (by
            have hk0:P.cellsOf e=0:=by rw [←hf x,h0];rfl
            rw [List.flatMap_eq_nil_iff];intro y _;exact List.eq_nil_of_length_eq_zero ((hf y).trans hk0))
          obtain ⟨v,hv⟩:=List.exists_mem_of_ne_nil _ hx;obtain ⟨j,hj⟩:=List.mem_iff_getElem?.1 hv
          cases hfx:f x with
          | nil=>exact absurd hfx hx
          | cons u r =>
            have:=e2 0 x rfl 0 u (by rw [hfx];rfl);simp only [Nat.zero_mul,Nat.zero_add,Addr.add,if_true] at this;unfold World.cell? at this
            split at this
            split at this
            cases this;rename_i hs;obtain ⟨b,o,s⟩:=a
            cases s with
            | none=>rfl
            | some s=>simp at hs
            cases this
      refine ⟨fun _=>hsp,cellsL_rows f hf fun i x hx=>CellsL.of_get fun j v hj=>?_⟩;have h6:=e2 i x hx j v hj;rw [hsp] at h6
      have h7:(⟨a.block,a.off,none⟩:Addr).add (i*P.cellsOf e+j)=⟨a.block,a.off+i*P.cellsOf e+j,none⟩:=by
        unfold Addr.add;split;rename_i h0;have:i*P.cellsOf e=0∧j=0:=by omega
        simp [this.1,this.2];simp [Nat.add_assoc]
      rw [h7] at h6;exact h6
theorem Rdv.slice{α:Type}(f:α→List Value)(Q:α→Prop){k B:Nat}(h:Rdv P w n t cs)(hu:P.underlying t=some (.slice e))(hk:P.cellsOf e=k)(hB:P.bytesOf e=B)(hf:∀a,(f a).length=k)
    (hel:∀m cs',cs'.length=k→Rdv P w m e cs'→∃x,cs'=f x∧Q x) :
    ∃A cap,∃l:List α,cs = [.slice A l.length cap]∧(A=none→cap=0)∧l.length≤cap∧cap≤maxLen∧cap*B≤reachBytes∧RowA w A (l.flatMap f)∧∀x∈l,Q x :=
  h.sliceN f Q hu hk hB hf fun cs' h1 h2=>hel _ cs' h1 h2
theorem Rdv.structN{fs:Array Field}(h:Rdv P w n t cs)(hu:P.underlying t=some (.struct fs)):cs.length=P.cellsOf t∧0<n∧∀(i:Nat) (f:Field),fs[i]?=some f→Rdv P w (n-1) f.type ((cs.drop f.offset).take (P.cellsOf f.type)):=by
  cases n with
  | zero=>exact h.elim
  | succ n=>unfold Rdv at h;rw [hu] at h;exact ⟨h.1,Nat.succ_pos _,h.2⟩
end
theorem ext_below{w w':World}(h:Ext w w'):Below w.heap.size w w':=Chg.below h (Nat.le_refl _) fun _ h=>h.elim
end Go.Vx
