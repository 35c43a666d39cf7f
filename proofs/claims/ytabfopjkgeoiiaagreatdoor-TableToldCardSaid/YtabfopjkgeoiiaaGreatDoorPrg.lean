/-
  Part 7 of the proof: texts Sg Vz Sd. No conditions.
-/
import Derived.Laws.MakeOwn
import Derived.Laws.Small
import Derived.Test.YtabfopjkgeoiiaaGreatDoorPrc
import Derived.Test.YtabfopjkgeoiiaaGreatDoorPre
set_option linter.unusedVariables false
set_option linter.unusedSimpArgs false
set_option linter.unusedSectionVars false
set_option maxRecDepth 100000
set_option maxHeartbeats 4000000
namespace Go.Vx
open Go Go.RowKit
theorem get_ex{α:Type}{l:List α}{i:Nat}(hi:i<l.length):∃u,l[i]?=some u:=⟨l[i],List.getElem?_eq_getElem hi⟩
theorem cellsL_app{w:World}{g:Nat} : ∀ {a b:List Value} {o:Nat},CellsL w g o (a++b)→CellsL w g o a∧CellsL w g (o+a.length) b
  | [],b,o,h=>⟨trivial,by simpa using h⟩
  | x::a,b,o,h=>by
    have:=cellsL_app (a:=a) (b:=b) h.2;exact ⟨⟨h.1,this.1⟩,by rw [List.length_cons,show o+(a.length+1)=o+1+a.length by omega];exact this.2⟩
theorem cellsL_flat{α:Type}{w:World}{g:Nat}(f:α→List Value)(k:Nat)(hf:∀a,(f a).length=k):∀ {l:List α} {o i:Nat} {e:α},CellsL w g o (l.flatMap f)→l[i]?=some e→CellsL w g (o+i*k) (f e)
  | [],_,_,_,_,h=>by simp at h
  | x::l,o,0,e,h,hi=>by
    simp at hi;subst hi;rw [List.flatMap_cons] at h
    simpa using (cellsL_app h).1
  | x::l,o,i+1,e,h,hi=>by
    rw [List.flatMap_cons] at h;have:=cellsL_flat f k hf (cellsL_app h).2 (i:=i) (e:=e) (by simpa using hi);rw [hf] at this;rw [show o+(i+1)*k=o+k+i*k by rw [Nat.add_mul];omega];exact this
theorem drop_get{α:Type}{l:List α}{i:Nat}{e:α}(h:l[i]?=some e):l.drop i=e::l.drop (i+1):=by
  obtain ⟨h1,h2⟩:=List.getElem?_eq_some_iff.1 h;rw [List.drop_eq_getElem_cons h1,h2]
theorem flat_get{α:Type}(f:α→List Value)(k:Nat)(hf:∀a,(f a).length=k):∀ {l:List α} {i:Nat} {e:α},l[i]?=some e→∀j v,(f e)[j]?=some v→(l.flatMap f)[i*k+j]?=some v
  | [],_,_,h,_,_,_=>by simp at h
  | x::l,0,e,h,j,v,hj=>by
    simp at h;subst h;rw [List.flatMap_cons,Nat.zero_mul,Nat.zero_add,List.getElem?_append_left (List.getElem?_eq_some_iff.1 hj).1];exact hj
  | x::l,i+1,e,h,j,v,hj=>by
    have ih:=flat_get f k hf (l:=l) (i:=i) (e:=e) (by simpa using h) j v hj;rw [List.flatMap_cons,List.getElem?_append_right (by rw [hf,Nat.add_mul];omega),hf];rw [show (i+1)*k+j-k=i*k+j by rw [Nat.add_mul];omega];exact ih
theorem setL_app{α:Type} : ∀(c a b p:List α),a.length=c.length→setL (p++a++b) p.length c=p++c++b
  | [],a,b,p,h=>by
    have:a = []:=List.eq_nil_of_length_eq_zero h;subst this;rfl
  | v::c,[],b,p,h=>by simp at h
  | v::c,u::a,b,p,h=>by
    simp only [setL];have h1:(p++u::a++b).set p.length v=(p++[v])++a++b:=by simp
    rw [h1];have:=setL_app c a b (p++[v]) (by simpa using h);rw [List.length_append,List.length_singleton] at this;rw [this];simp
theorem Own.rowA{w:World}{e:TypeId}{sz n cap g:Nat}{xs:List Value}(h:Own w e sz (.slice (some ⟨g,0,none⟩) n cap) n xs):RowA w (some ⟨g,0,none⟩) xs:=⟨fun _=>rfl,h.cells fun j v hj=>by simpa using hj⟩
theorem Own.rowO{w:World}{e:TypeId}{sz n cap:Nat}{A:Option Addr}{xs:List Value}(h:Own w e sz (.slice A n cap) n xs):RowA w A xs:=by
  rcases h.form with ⟨h1,h2,h3⟩|⟨g,cp,cur,h1,_⟩;simp only [Value.slice.injEq] at h1;rw [h1.1,h3];rfl;simp only [Value.slice.injEq] at h1;obtain ⟨rfl,_,rfl⟩:=h1;exact Own.rowA h
def sfA(A:Option Addr)(cp i0 sz:Nat):Option Addr:=if cp=i0 then A else A.map (·.add (i0*sz))
theorem ox_sliceFromV{P:Program}{ρ:Operand→Value}{w:World}{K:Value→World→Prop}{dst:Option Tmp}{ty:TypeId}{pos:String}{af:Array Edge}{gd:Option (Nat×Bool)}{x y:Operand}{t e:TypeId}{sz by_:Nat}{z:Value}{A:Option Addr}{n cp:Nat}{k:IntKind}{i:Int}
    (i0:Nat) (ht:sliceT P t=some (e,sz,by_,z)) (hx:ρ x = .slice A n cp) (hy:ρ y = .int k i) (hi:i=i0) (h1:i0≤n) (h:K (.slice (sfA A cp i0 sz) (n-i0) (cp-i0)) w):OpX P ⟨dst,.slice t x (some y) none none,ty,pos,af,gd⟩ ρ w K:=by
  subst hi;refine ox_sliceFrom ht hx hy (by omega) (by omega) ?_;rw [show ((i0:Nat):Int).toNat=i0 by omega];exact h
theorem RowA.from{w:World}{A:Option Addr}{n cp sz:Nat}{vs:List Value}(i0:Nat)(h1:i0≤n)(hc:n≤cp)(hA:RowA w A vs)(hl:vs.length=n*sz):RowA w (sfA A cp i0 sz) (vs.drop (i0*sz)):=by
  unfold sfA;by_cases hcp:cp=i0;have hn:n=i0:=by omega
  rw [if_pos hcp,List.drop_eq_nil_of_le (by rw [hl,hn];exact Nat.le_refl _)];exact RowA.nil w _;rw [if_neg hcp]
  cases A with
  | none=>rw [show vs = [] from hA];simp [RowA]
  | some a =>
    by_cases hv:vs = [];subst hv;simp only [List.drop_nil];exact RowA.nil w _;have ha:=hA.1 hv
    have e1:a.add (i0*sz)=⟨a.block,a.off+i0*sz,none⟩:=by
      unfold Addr.add;split;rename_i h0;rw [h0];exact ha
      rfl
    show RowA w (some (a.add (i0*sz))) _;rw [e1];refine ⟨fun _=>rfl,CellsL.of_get fun j v hj=>?_⟩;rw [List.getElem?_drop] at hj;have:=cellsL_get hA.2 hj;rw [show a.off+i0*sz+j=a.off+(i0*sz+j) by omega];exact this
theorem setL_mid{α:Type} : ∀(vs p q r:List α),q.length=vs.length→setL (p++(q++r)) p.length vs=p++(vs++r)
  | [],p,q,r,h=>by rw [List.eq_nil_of_length_eq_zero h];rfl
  | v::vs,p,[],r,h=>by simp at h
  | v::vs,p,x::q,r,h=>by
    simp only [setL];have h1:(p++(x::q++r)).set p.length v=(p++[v])++(q++r):=by simp
    have h2:=setL_mid vs (p++[v]) q r (by simpa using h);rw [List.length_append,List.length_singleton] at h2;rw [h1,h2];simp
theorem own_any{A:Option Addr}{n c m d k:Nat}(h:(Value.slice A n c).ownBlock=some k):(Value.slice A m d).ownBlock=some k:=by cases A<;>exact h
theorem bang{α:Type}[Inhabited α]{l:List α}{i:Nat}(h:i<l.length):l[i]?=some l[i]!:=by simp [h]
theorem row_at{α:Type}{w:World}{A:Option Addr}{cs:α→List Value}{k:Nat}{l:List α}{i:Nat}{x:α}(hk:∀a,(cs a).length=k)(h0:0<k)(h:RowA w A (l.flatMap cs))(hx:l[i]?=some x):∃g o,A=some ⟨g,o,none⟩∧CellsL w g (o+i*k) (cs x):=by
  obtain ⟨g,o,rfl⟩:=h.ex (by
    intro hh;have h1:=flat_get cs k hk hx 0 ((cs x)[0]'(by rw [hk];exact h0)) (List.getElem?_eq_getElem _);rw [hh] at h1;simp at h1)
  exact ⟨g,o,rfl,cellsL_flat cs k hk h.cells hx⟩
theorem row_may{α:Type}[Inhabited α]{w:World}{A:Option Addr}{cs:α→List Value}{k:Nat}{l:List α}(i:Nat)(hk:∀a,(cs a).length=k)(h0:0<k)(h:RowA w A (l.flatMap cs)):∃x g o,i<l.length→l[i]?=some x∧A=some ⟨g,o,none⟩∧CellsL w g (o+i*k) (cs x):=by
  by_cases hi:i<l.length;obtain ⟨g,o,h1,h2⟩:=row_at hk h0 h (bang hi);exact ⟨_,g,o,fun _=>⟨bang hi,h1,h2⟩⟩;exact ⟨default,0,0,fun h=>absurd h hi⟩
theorem CellsL.at1{w:World}{g o:Nat}{vs:List Value}(h:CellsL w g o vs)(k:Nat){v:Value}(hv:vs[k]?=some v):w.cell? ⟨g,o+k,none⟩=some v:=h.get k v hv
theorem CellsL.sub{w:World}{g o:Nat}{vs us:List Value}(h:CellsL w g o vs)(k n:Nat)(hu:(vs.drop k).take n=us):CellsL w g (o+k) us:=by
  subst hu
  exact CellsL.of_get fun j v hj=>by
    have hj':((vs.drop k))[j]?=some v:=by
      rw [List.getElem?_take] at hj;split at hj;exact hj;cases hj
    rw [List.getElem?_drop] at hj';have:=h.get (k+j) v hj'
    rwa [show o+k+j=o+(k+j) by omega]
theorem fm_len{α:Type}{f:α→List Value}{k:Nat}(hf:∀a,(f a).length=k):∀l:List α,(l.flatMap f).length=l.length*k
  | []=>by simp
  | x::l=>by rw [List.flatMap_cons,List.length_append,hf,fm_len hf l,List.length_cons,Nat.add_mul,Nat.one_mul];omega
theorem fm_one{α:Type}{f:α→List Value}(hf:∀a,(f a).all Value.oneCell'=true)(l:List α):(l.flatMap f).all Value.oneCell'=true:=by
  induction l with
  | nil=>rfl
  | cons x l ih=>rw [List.flatMap_cons,List.all_append,hf x,ih];rfl
theorem setL_flat{α:Type}{f:α→List Value}{k:Nat}(hf:∀a,(f a).length=k):∀ {l:List α} {i:Nat} {x y:α} {off:Nat} {vs:List Value},l[i]?=some x→setL (f x) off vs=f y→off+vs.length≤k→setL (l.flatMap f) (i*k+off) vs=(l.set i y).flatMap f
  | [],_,_,_,_,_,h,_,_=>by simp at h
  | a::l,0,x,y,off,vs,h,hs,hl=>by
    simp at h;subst h;rw [List.flatMap_cons,List.set_cons_zero,List.flatMap_cons,←hs,Nat.zero_mul,Nat.zero_add]
    have h1:f a=(f a).take off++(((f a).drop off).take vs.length++(f a).drop (off+vs.length)):=by
      conv=>lhs;rw [←List.take_append_drop off (f a),←List.take_append_drop vs.length ((f a).drop off),List.drop_drop]
    have hp:((f a).take off).length=off:=by rw [List.length_take,hf];omega
    have hq:(((f a).drop off).take vs.length).length=vs.length:=by rw [List.length_take,List.length_drop,hf];omega
    have e1:=setL_mid vs ((f a).take off) (((f a).drop off).take vs.length) ((f a).drop (off+vs.length)) hq;have e2:=setL_mid vs ((f a).take off) (((f a).drop off).take vs.length) ((f a).drop (off+vs.length)++l.flatMap f) hq;rw [hp] at e1 e2;rw [←h1] at e1;rw [e1]
    conv=>lhs;rw [h1]
    simp only [List.append_assoc] at e2 ⊢;exact e2
  | a::l,i+1,x,y,off,vs,h,hs,hl=>by
    have ih:=setL_flat hf (l:=l) (i:=i) (x:=x) (y:=y) (by simpa using h) hs hl;rw [List.flatMap_cons,List.set_cons_succ,List.flatMap_cons,←ih]
    have h2:∀(vs p xs:List Value) (o:Nat),setL (p++xs) (p.length+o) vs=p++setL xs o vs:=by
      intro vs
      induction vs with
      | nil=>intro p xs o;rfl
      | cons v vs ih2 =>
        intro p xs o;simp only [setL];rw [List.set_append_right _ _ (by omega),Nat.add_sub_cancel_left];exact ih2 p _ (o+1)
    have h3:=h2 vs (f a) (l.flatMap f) (i*k+off);rw [hf] at h3;rw [←h3,Nat.add_mul,Nat.one_mul,show i*k+k+off=k+(i*k+off) by omega]
def NewRow{α:Type}(w w':World)(e sz:Nat)(cs:α→List Value)(l:List α)(A:Option Addr)(c:Nat):Prop :=
  Own w' e sz (.slice A l.length c) l.length (l.flatMap cs)∧∀k,(Value.slice A l.length c).ownBlock=some k→w.heap.size≤k
section ox
variable {P:Program}{ρ:Operand→Value}{w:World}{K:Value→World→Prop}{dst:Option Tmp}{ty:TypeId}{pos:String}{af:Array Edge}{gd:Option (Nat×Bool)}
theorem ox_ixA{x ix:Operand}{t e:TypeId}{sz by_:Nat}{z:Value}{b o n cp:Nat}{k:IntKind}{i:Int}{A:Option Addr}(i0:Nat)(ht:sliceT P t=some (e,sz,by_,z))(hA:A=some ⟨b,o,none⟩)(hx:ρ x = .slice A n cp)(hi:ρ ix = .int k i)(h0:i=(i0:Int))(h1:i0<n)
    (h:K (.pointer (some ⟨b,o+i0*sz,none⟩)) w):OpX P ⟨dst,.indexAddr t x ix,ty,pos,af,gd⟩ ρ w K:=by
  subst hA;subst h0;exact ox_indexAddr ht hx hi (by omega) (by omega) h
theorem ox_stE{α:Type}{x y:Operand}{t e:TypeId}{g k n c m i off:Nat}{v:Value}{vs:List Value}{A:Option Addr}{f:α→List Value}{l:List α}{a b:α}(hf:∀a,(f a).length=k)(hs:sizeT P t=some m)(hA:A=some ⟨g,0,none⟩)(hx:ρ x = .pointer (some ⟨g,0+i*k+off,none⟩))(hy:ρ y=v)(hv:v.cells=vs.toArray)(hm:vs.length=m)(h1:vs.all Value.oneCell'=true)
    (ho:Own w e k (.slice A n c) n (l.flatMap f)) (ha:l[i]?=some a) (hb:setL (f a) off vs=f b) (hr:off+m≤k) (hin:i<n) (h:∀w',Chg (fun b=>(Value.slice A n c).ownBlock=some b) w w'→w'.heap.size=w.heap.size→Own w' e k (.slice A n c) n ((l.set i b).flatMap f)→K undef w') :
    OpX P ⟨dst,.store t x y,ty,pos,af,gd⟩ ρ w K:=by
  subst hA;have hle:i*k+k≤n*k:=by rw [←Nat.succ_mul];exact Nat.mul_le_mul_right _ hin
  refine ox_storeO (vs:=vs) hs hx hy hv hm h1 ho (by omega) fun w' hc hz ho'=>h w' (hc.mono fun b _ hb=>by cases hb;rfl) hz ?_
  rw [Nat.zero_add,setL_flat hf ha hb (by omega)] at ho';exact ho'
theorem ox_eqlBool{x y:Operand}{t u:TypeId}{a b:Bool}(hu:P.underlying t=some .bool)(hx:ρ x = .bool a)(hy:ρ y = .bool b)(h:K (.bool (decide (a=b))) w):OpX P ⟨dst,.binOp .eql t x y u,ty,pos,af,gd⟩ ρ w K :=
  ox_val (v:=.bool (decide (a=b))) (w':=w) (by cases a<;>cases b<;>simp [execOp,hx,hy,eqGuard,binOp,Sem.run_bind,Go.run_equal_bool w t _ _ hu,Result.andThen]) h
theorem ox_neqBool{x y:Operand}{t u:TypeId}{a b:Bool}(hu:P.underlying t=some .bool)(hx:ρ x = .bool a)(hy:ρ y = .bool b)(h:K (.bool (decide (a≠b))) w):OpX P ⟨dst,.binOp .neq t x y u,ty,pos,af,gd⟩ ρ w K :=
  ox_val (v:=.bool (decide (a≠b))) (w':=w) (by cases a<;>cases b<;>simp [execOp,hx,hy,eqGuard,binOp,Sem.run_bind,Go.run_equal_bool w t _ _ hu,Result.andThen]) h
theorem ox_makeD{α:Type}{x y:Operand}{t e:TypeId}{sz by_:Nat}{z:Value}{k k':IntKind}{n:Nat}{cs:α→List Value}{l:List α}(ht:sliceT P t=some (e,sz,by_,z))(hx:ρ x = .int k n)(hy:ρ y = .int k' n)(hb:by_*n≤281474976710656)(hm:n≤9223372036854775807)
    (hl:(madeCells z.cells (n*sz)).toList=l.flatMap cs) (h:∀A w',Own w' e sz (.slice A n n) n (l.flatMap cs)→Ext w w'→(∀k,(Value.slice A n n).ownBlock=some k→w.heap.size≤k)→K (.slice A n n) w'):OpX P ⟨dst,.makeSlice t x y,ty,pos,af,gd⟩ ρ w K:=by
  refine ox_makeSlice ht hx hy hb hm fun w' ho he _=>h _ w' (by rw [←hl];exact ho) he fun k hk=>?_
  cases hk;exact Nat.le_refl _
theorem ox_appD{α:Type}{c:Call}{x y:Operand}{t e:TypeId}{sz by_ m g cp:Nat}{z:Value}{v:Value}{cs:α→List Value}{l r:List α}{n:Nat}(hc:c = { callee:=.builtin .append,args:=#[x,y],argTypes:=#[t,t] })(ht:sliceT P t=some (e,sz,by_,z))
    (hzs:z.cells.size=sz) (hsz:0<sz) (hlen:∀a,(cs a).length=sz) (hone:∀a,(cs a).all Value.oneCell'=true) (hx:ρ x=v) (hy:ρ y = .slice (some ⟨g,0,none⟩) m cp) (hm:m=r.length) (hown:Own w e sz v n (l.flatMap cs)) (hnews:CellsL w g 0 (r.flatMap cs))
    (hb:(l++r).length*by_≤140737488355328) (hby:0<by_)
    (h:∀A c w',Own w' e sz (.slice A (l++r).length c) (l++r).length ((l++r).flatMap cs)→Chg (fun b=>v.ownBlock=some b) w w'→((Value.slice A (l++r).length c).ownBlock=v.ownBlock∨(Value.slice A (l++r).length c).ownBlock=some w.heap.size)→(l++r).length≤c→K (.slice A (l++r).length c) w') :
    OpX P ⟨dst,.call c,ty,pos,af,gd⟩ ρ w K:=by
  have hn:n=l.length:=by
    have h1:=hown.len;rw [fm_len hlen] at h1;exact (Nat.eq_of_mul_eq_mul_right hsz h1).symm
  subst hn;subst hm;rw [List.length_append] at hb
  have hle:l.length+r.length≤9223372036854775807:=by
    have:l.length+r.length≤(l.length+r.length)*by_:=Nat.le_mul_of_pos_right _ hby;omega
  refine ox_append hc ht hzs hsz hx hy hown (fm_len hlen r) hnews (fm_one hone r) hle hb fun v' w' ho hch hat _=>?_
  obtain ⟨A,c,rfl,hcc⟩:=ho.shape;rw [←List.flatMap_append,←List.length_append] at ho;rw [←List.length_append] at hat hcc ⊢;exact h A c w' ho hch hat hcc
theorem ox_appR{α:Type}{c:Call}{x y:Operand}{t e:TypeId}{sz by_ cp:Nat}{z:Value}{v:Value}{A0:Option Addr}{cs:α→List Value}{l r:List α}{n:Nat}(hc:c = { callee:=.builtin .append,args:=#[x,y],argTypes:=#[t,t] })(ht:sliceT P t=some (e,sz,by_,z))
    (hzs:z.cells.size=sz) (hsz:0<sz) (hlen:∀a,(cs a).length=sz) (hone:∀a,(cs a).all Value.oneCell'=true) (hx:ρ x=v) (hy:ρ y = .slice A0 r.length cp) (hown:Own w e sz v n (l.flatMap cs)) (hnews:RowA w A0 (r.flatMap cs))
    (hb:(l++r).length*by_≤140737488355328) (hby:0<by_)
    (h:∀A c w',Own w' e sz (.slice A (l++r).length c) (l++r).length ((l++r).flatMap cs)→Chg (fun b=>v.ownBlock=some b) w w'→((Value.slice A (l++r).length c).ownBlock=v.ownBlock∨(Value.slice A (l++r).length c).ownBlock=some w.heap.size)→(l++r).length≤c→K (.slice A (l++r).length c) w') :
    OpX P ⟨dst,.call c,ty,pos,af,gd⟩ ρ w K:=by
  have hn:n=l.length:=by
    have h1:=hown.len;rw [fm_len hlen] at h1;exact (Nat.eq_of_mul_eq_mul_right hsz h1).symm
  subst hn;rw [List.length_append] at hb
  have hle:l.length+r.length≤9223372036854775807:=by
    have:l.length+r.length≤(l.length+r.length)*by_:=Nat.le_mul_of_pos_right _ hby;omega
  refine ox_appendR hc ht hzs hsz hx hy hown (fm_len hlen r) hnews (fm_one hone r) hle hb fun v' w' ho hch hat _=>?_
  obtain ⟨A,c,rfl,hcc⟩:=ho.shape;rw [←List.flatMap_append,←List.length_append] at ho;rw [←List.length_append] at hat hcc ⊢;exact h A c w' ho hch hat hcc
end ox
theorem own_may{α:Type}[Inhabited α]{w:World}{A:Option Addr}{e k n c:Nat}{cs:α→List Value}{l:List α}(i:Nat)(hk:∀a,(cs a).length=k)(h0:0<k)(h:Own w e k (.slice A n c) n (l.flatMap cs)):∃x g,i<l.length→l[i]?=some x∧A=some ⟨g,0,none⟩∧CellsL w g (0+i*k) (cs x):=by
  by_cases hi:i<l.length
  have hn:0<n:=by
    have h1:=h.len;rw [fm_len hk] at h1;have:=Nat.eq_of_mul_eq_mul_right h0 h1;omega
  obtain ⟨g,c',heq,_⟩:=h.some_of hn;simp only [Value.slice.injEq,true_and] at heq;obtain ⟨rfl,rfl⟩:=heq;exact ⟨_,g,fun _=>⟨bang hi,rfl,cellsL_flat cs k hk h.rowO.cells (bang hi)⟩⟩;exact ⟨default,0,fun h=>absurd h hi⟩
end Go.Vx
namespace Go.Vx
open Go Go.RowKit
section
variable {P:Program}{r:Option Nat}{n:Nat}{ops:Array Oper}{Q:(Nat→Value)→World→Prop}{f:Nat→Value}{w:World}{rest:List Oper}{d:Nat}{dst:Option Nat}{ty:TypeId}{pos:String}{af:Array Edge}{gd:Option (Nat×Bool)}{x y c:Operand}{op:Op}
theorem y_ix{t e:TypeId}{sz by_:Nat}{z:Value}{ix:Operand}{b o m cp:Nat}{k:IntKind}{i:Int}{A:Option Addr}(i0:Nat)(hA:A=some ⟨b,o,none⟩)[ht:SlT P t (e,sz,by_,z)](h:XL P r n ops Q rest (upd f d (.pointer (some ⟨b,o+i0*sz,none⟩))) w)
    (hw:Wtd gd (yl n f ops)=true:=by first | apply wt0 | (apply wt1;(conv=>arg 1;whnf);first | exact litOT | exact litOF)) (hx:ev n f x = .slice A m cp:=by rfl) (hi:ev n f ix = .int k i:=by rfl) (h0:i=(i0:Int):=by first | rfl | omega) (h1:i0<m:=by omega):XL P r n ops Q (⟨some d,.indexAddr t x ix,ty,pos,af,gd⟩::rest) f w:=yOp (ox_ixA i0 ht.h hA hx hi h0 h1 h) hw
end
section
variable {P:Program}{n:Nat}{ops:Array Oper}{S:World→Prop}{md:Region.Mode}{Z:List Nat}{Q:(Nat→Value)→World→Prop}{fuel:Nat}{listed:Array Bool}{f:Nat→Value}{w:World}{dst:Option Nat}{op:Op}{ty:TypeId}{pos:String}{af:Array Edge}{gd:Option (Nat×Bool)}{v:Value}
theorem yDx{t e:TypeId}{sz by_ d:Nat}{z:Value}{x ix:Operand}{b o m cp:Nat}{k:IntKind}{j:Int}{A:Option Addr}{i:Nat}(i0:Nat)(hA:A=some ⟨b,o,none⟩)(h:XD P n md ops Z S Q fuel (listed.setIfInBounds i true) (updo f (some d) (.pointer (some ⟨b,o+i0*sz,none⟩))) w)(hi:ops[i]?=some ⟨some d,.indexAddr t x ix,ty,pos,af,gd⟩:=by rfl)[ht:SlT P t (e,sz,by_,z)]
    (hs:(Region.noSelect ops && Region.free md ops listed i && (Region.ready md ops listed).contains i)=true:=by kernel_rfl)
    (hw:Wtd gd (yl n f ops)=true:=by first | apply wt0 | (apply wt1;(conv=>arg 1;whnf);first | exact litOT | exact litOF)) (hx:ev n f x = .slice A m cp:=by rfl) (hj:ev n f ix = .int k j:=by rfl) (h0:j=(i0:Int):=by first | rfl | omega) (h1:i0<m:=by omega):XD P n md ops Z S Q (fuel+1) listed f w:=xd_pure i _ hi rfl hs (qy (fun _ _=>ox_ixA i0 ht.h hA hx hj h0 h1 ⟨rfl,rfl⟩) hw) h
end
end Go.Vx
namespace Go.Proofs.YtabfopjkgeoiiaaGreatDoor
open Go Go.RowKit Go.Vx
structure Sym where
  kind:Int
  n:Int
deriving Inhabited,DecidableEq
def Sym.cs(x:Sym):List Value:=[.int .i64 x.kind,.int .i64 x.n]
structure Itm where
  p:Int
  dot:Int
deriving Inhabited,DecidableEq
def Itm.cs(x:Itm):List Value:=[.int .i64 x.p,.int .i64 x.dot]
def ints(x:Int):List Value:=[.int .i64 x]
def bools(x:Bool):List Value:=[.bool x]
def strs(x:ByteArray):List Value:=[.string x]
structure PD where
  left:Int
  rA:Option Addr
  rc:Nat
  right:List Sym
deriving Inhabited
def PD.cs(x:PD):List Value:=[.int .i64 x.left,.slice x.rA x.right.length x.rc]
inductive EX where
  | mk (kind frm to min max:Int) (A:Option Addr) (c:Nat) (list:List EX)
deriving Inhabited
def EX.kind:EX→Int | .mk k _ _ _ _ _ _ _=>k
def EX.frm:EX→Int | .mk _ k _ _ _ _ _ _=>k
def EX.to:EX→Int | .mk _ _ k _ _ _ _ _=>k
def EX.min:EX→Int | .mk _ _ _ k _ _ _ _=>k
def EX.max:EX→Int | .mk _ _ _ _ k _ _ _=>k
def EX.A:EX→Option Addr | .mk _ _ _ _ _ k _ _=>k
def EX.c:EX→Nat | .mk _ _ _ _ _ _ k _=>k
def EX.list:EX→List EX | .mk _ _ _ _ _ _ _ k=>k
def EX.cs(x:EX):List Value:=[.int .i64 x.kind,.int .i64 x.frm,.int .i64 x.to,.int .i64 x.min,.int .i64 x.max,.slice x.A x.list.length x.c]
structure LR where
  name:ByteArray
  trivia:Bool
  e:EX
deriving Inhabited
def LR.cs(x:LR):List Value:=[.string x.name,.bool x.trivia,.int .i64 x.e.kind,.int .i64 x.e.frm,.int .i64 x.e.to,.int .i64 x.e.min,.int .i64 x.e.max,.slice x.e.A x.e.list.length x.e.c]
structure SP where
  lA:Option Addr
  lc:Nat
  lex:List LR
  nA:Option Addr
  nc:Nat
  names:List ByteArray
  start:Int
  pA:Option Addr
  pc:Nat
  prods:List PD
deriving Inhabited
theorem Sym.len(x:Sym):x.cs.length=2:=rfl
theorem Itm.len(x:Itm):x.cs.length=2:=rfl
theorem PD.len(x:PD):x.cs.length=2:=rfl
theorem EX.len(x:EX):x.cs.length=6:=rfl
theorem LR.len(x:LR):x.cs.length=8:=rfl
theorem ints_len(x:Int):(ints x).length=1:=rfl
theorem bools_len(x:Bool):(bools x).length=1:=rfl
theorem strs_len(x:ByteArray):(strs x).length=1:=rfl
theorem Sym.one(x:Sym):x.cs.all Value.oneCell'=true:=rfl
theorem Itm.one(x:Itm):x.cs.all Value.oneCell'=true:=rfl
theorem PD.one(x:PD):x.cs.all Value.oneCell'=true:=rfl
theorem EX.one(x:EX):x.cs.all Value.oneCell'=true:=rfl
theorem LR.one(x:LR):x.cs.all Value.oneCell'=true:=rfl
theorem ints_one(x:Int):(ints x).all Value.oneCell'=true:=rfl
theorem strs_one(x:ByteArray):(strs x).all Value.oneCell'=true:=rfl
def few(b n c:Nat):Prop:=n≤c∧n*b≤140737488355328
theorem few.by{b n c:Nat}(h:few b n c):n*b≤140737488355328:=h.2
theorem few.le{b n c:Nat}(h:few b n c)(hb:16≤b:=by decide):n≤8796093022208:=by
  have h1:=h.by
  have h2:n*16≤n*b:=Nat.mul_le_mul_left _ hb;omega
theorem few.cap{b n c:Nat}(h:few b n c):n≤c:=h.1
mutual
def ExR(w:World):EX→Prop
  | .mk _ _ _ _ _ A c l=>RowA w A (l.flatMap EX.cs)∧few 64 l.length c∧ExRL w l
def ExRL(w:World):List EX→Prop
  | []=>True
  | x::r=>ExR w x∧ExRL w r
end
mutual
theorem ExR.keep{K:Nat→Prop}{w w':World}(c:Ext w w'):∀ {x:EX},ExR w x→ExR w' x
  | .mk _ _ _ _ _ A _ l,h=>by
    simp only [ExR] at h ⊢;exact ⟨h.1.ext c,h.2.1,ExRL.keep (K:=K) c h.2.2⟩
theorem ExRL.keep{K:Nat→Prop}{w w':World}(c:Ext w w'):∀ {l:List EX},ExRL w l→ExRL w' l
  | [],_=>trivial
  | x::r,h=>⟨ExR.keep (K:=K) c h.1,ExRL.keep (K:=K) c h.2⟩
end
theorem ExR.ext{w w':World}{x:EX}(h:ExR w x)(c:Ext w w'):ExR w' x:=ExR.keep (K:=fun _=>False) c h
theorem ExR.row{w:World}{x:EX}(h:ExR w x):RowA w x.A (x.list.flatMap EX.cs)∧few 64 x.list.length x.c∧∀y∈x.list,ExR w y:=by
  cases x with
  | mk k a b m n A c l =>
    simp only [ExR] at h;refine ⟨h.1,h.2.1,?_⟩
    have:∀l:List EX,ExRL w l→∀y∈l,ExR w y:=by
      intro l
      induction l with
      | nil=>intro _ y hy;cases hy
      | cons z r ih =>
        intro h y hy;rcases List.mem_cons.1 hy with rfl|hy;exact h.1;exact ih h.2 y hy
    exact this l h.2.2
structure SpR(w:World)(s:SP):Prop where
  lex:RowA w s.lA (s.lex.flatMap LR.cs)
  names:RowA w s.nA (s.names.flatMap strs)
  prods:RowA w s.pA (s.prods.flatMap PD.cs)
  ex:∀r∈s.lex,ExR w r.e
  right:∀p∈s.prods,RowA w p.rA (p.right.flatMap Sym.cs)
  fl:few 88 s.lex.length s.lc
  fn:few 16 s.names.length s.nc
  fp:few 32 s.prods.length s.pc
  fr:∀p∈s.prods,few 16 p.right.length p.rc
theorem SpR.ext{w w':World}{s:SP}(h:SpR w s)(c:Ext w w'):SpR w' s :=
  ⟨h.lex.ext c,h.names.ext c,h.prods.ext c,fun r hr=>(h.ex r hr).ext c,fun p hp=>(h.right p hp).ext c,h.fl,h.fn,h.fp,h.fr⟩
theorem made_flat{α:Type}{z:Array Value}{cs:α→List Value}{x:α}(hz:z.toList=cs x)(h0:0<z.size)(n:Nat):(madeCells z (n*z.size)).toList=(List.replicate n x).flatMap cs:=by
  have hl:(cs x).length=z.size:=by rw [←hz];simp
  apply List.ext_getElem?;intro j;by_cases hj:j<n*z.size
  have hn:0<n:=by
    rcases Nat.eq_zero_or_pos n with h|h;subst h;simp at hj;exact h
  have h1:j / z.size<n:=(Nat.div_lt_iff_lt_mul h0).2 hj;have h2:j % z.size<z.size:=Nat.mod_lt _ h0
  have hf:∀(m:Nat),((List.replicate m x).flatMap cs).length=m*z.size:=fun m=>by
    induction m with
    | zero=>simp
    | succ m ih=>rw [List.replicate_succ,List.flatMap_cons,List.length_append,ih,hl,Nat.add_mul];omega
  have hg:∀(m i:Nat),i<m*z.size→((List.replicate m x).flatMap cs)[i]?=(cs x)[i % z.size]?:=fun m=>by
    induction m with
    | zero=>intro i hi;simp at hi
    | succ m ih =>
      intro i hi;rw [List.replicate_succ,List.flatMap_cons];by_cases hc:i<z.size;rw [List.getElem?_append_left (by omega),Nat.mod_eq_of_lt hc];rw [List.getElem?_append_right (by omega),hl,ih _ (by rw [Nat.add_mul] at hi;omega),Nat.mod_eq_sub_mod (by omega:i≥z.size)]
  rw [hg n j hj,←hz];simp [madeCells,hj,h2];rw [List.getElem?_eq_none (by simp [madeCells];omega),List.getElem?_eq_none]
  have hf:∀(m:Nat),((List.replicate m x).flatMap cs).length=m*z.size:=fun m=>by
    induction m with
    | zero=>simp
    | succ m ih=>rw [List.replicate_succ,List.flatMap_cons,List.length_append,ih,hl,Nat.add_mul];omega
  rw [hf];omega
theorem made_bools(n:Nat):(madeCells (Value.bool false).cells (n*1)).toList=(List.replicate n false).flatMap bools:=by
  rw [show (Value.bool false).cells=#[Value.bool false] from rfl,toList_madeCells_one,Nat.mul_one]
  induction n with
  | zero=>rfl
  | succ n ih=>rw [List.replicate_succ,List.replicate_succ,List.flatMap_cons,ih];rfl
theorem made_ints(n:Nat):(madeCells (Value.int .i64 0).cells (n*1)).toList=(List.replicate n 0).flatMap ints:=by
  rw [show (Value.int .i64 0).cells=#[Value.int .i64 0] from rfl,toList_madeCells_one,Nat.mul_one]
  induction n with
  | zero=>rfl
  | succ n ih=>rw [List.replicate_succ,List.replicate_succ,List.flatMap_cons,ih];rfl
def fixN{α:Type}(f:α→α×Bool):Nat→α→α
  | 0,h=>h
  | k+1,h=>if (f h).2=true then fixN f k (f h).1 else (f h).1
theorem fixN_more{α:Type}{f:α→α×Bool}{μ:α→Nat}{Inv:α→Prop}(hf:∀h,Inv h→(f h).2=true→Inv (f h).1∧μ (f h).1<μ h):∀(k:Nat) (h:α),Inv h→μ h<k→fixN f k h=fixN f (μ h+1) h
  | 0,h,_,hk=>by omega
  | k+1,h,hi,hk=>by
    simp only [fixN]
    split
    rename_i hg;obtain ⟨h1,h2⟩:=hf h hi hg;rw [fixN_more hf k _ h1 (by omega)];exact (fixN_more hf (μ h) _ h1 h2).symm
    rfl
  termination_by k=>k
theorem fixN_step{α:Type}{f:α→α×Bool}{μ:α→Nat}{Inv:α→Prop}(hf:∀h,Inv h→(f h).2=true→Inv (f h).1∧μ (f h).1<μ h){h:α}(hi:Inv h)(hg:(f h).2=true):fixN f (μ h+1) h=fixN f (μ (f h).1+1) (f h).1:=by
  obtain ⟨h1,h2⟩:=hf h hi hg;rw [fixN,if_pos hg];exact fixN_more hf _ _ h1 h2
theorem fixN_done{α:Type}{f:α→α×Bool}{k:Nat}{h:α}(hg:(f h).2=false):fixN f (k+1) h=(f h).1:=by rw [fixN,if_neg (by rw [hg];decide)]
theorem fixN_inv{α:Type}{f:α→α×Bool}{P:α→Prop}(hP:∀h,P h→P (f h).1):∀(k:Nat) (h:α),P h→P (fixN f k h)
  | 0,_,h0=>h0
  | k+1,h,h0=>by
    simp only [fixN]
    split
    exact fixN_inv hP k _ (hP h h0);exact hP h h0
abbrev P2:=Int×List Sym
def PD.d(p:PD):P2:=(p.left,p.right)
structure GD where
  triv:List Bool
  names:Nat
  start:Int
  prods:List P2
def SP.g(s:SP):GD:=⟨s.lex.map LR.trivia,s.names.length,s.start,s.prods.map PD.d⟩
theorem map_get{α β:Type}{f:α→β}{l:List α}{i:Nat}{x:α}(h:l[i]?=some x):(l.map f)[i]?=some (f x):=by simp [h]
theorem drop_map{α β:Type}{f:α→β}{l:List α}{i:Nat}{x:α}(h:l[i]?=some x):(l.map f).drop i=f x::(l.map f).drop (i+1):=drop_get (map_get h)
theorem SP.dp{s:SP}{i:Nat}{p:PD}(h:s.prods[i]?=some p):s.g.prods.drop i=p.d::s.g.prods.drop (i+1):=drop_map h
theorem SP.glex(s:SP):s.g.triv.length=s.lex.length:=by simp [SP.g]
theorem SP.gprods(s:SP):s.g.prods.length=s.prods.length:=by simp [SP.g]
end Go.Proofs.YtabfopjkgeoiiaaGreatDoor
