/-
  Part 3 of the proof: texts Vxd Vxf Vxg Vxj Vxn. No conditions.
-/
import Derived.Laws.OwnMore
import Derived.Laws.StructEq
import Derived.Test.YtabfopjkgeoiiaaGreatDoorPra
import Derived.Test.YtabfopjkgeoiiaaGreatDoorPrb
set_option linter.unusedVariables false
set_option linter.unusedSimpArgs false
set_option linter.unusedSectionVars false
set_option maxRecDepth 100000
set_option maxHeartbeats 4000000
namespace Go.Vx
open Go Go.RowKit
def Own(w:World)(e:TypeId)(sz:Nat)(v:Value)(n:Nat)(xs:List Value):Prop:=w.ownsRow 0 e sz v n xs
theorem Own.nil(w:World)(e:TypeId)(sz:Nat):Own w e sz (.slice none 0 0) 0 []:=World.ownsRow_nil w 0 e sz
theorem Own.len{w:World}{e:TypeId}{sz:Nat}{v:Value}{n:Nat}{xs:List Value}(h:Own w e sz v n xs):xs.length=n*sz:=h.1
theorem Own.form{w:World}{e:TypeId}{sz:Nat}{v:Value}{n:Nat}{xs:List Value}(h:Own w e sz v n xs) :
    (v = .slice none 0 0∧n=0∧xs = [])∨∃g cap cur,v = .slice (some ⟨g,0,none⟩) n cap∧Blk w g cur e∧n≤cap∧cap≤maxLen∧cur.size=cap*sz∧cur.toList.take (n*sz)=xs:=by
  obtain ⟨h1,⟨rfl,rfl⟩|⟨g,cap,cur,rfl,_,hb,hn,hc,hs,ht⟩⟩:=h;exact .inl ⟨rfl,rfl,by simpa using h1⟩;exact .inr ⟨g,cap,cur,rfl,hb,hn,hc,hs,ht⟩
theorem Own.shape{w:World}{e:TypeId}{sz:Nat}{v:Value}{n:Nat}{xs:List Value}(h:Own w e sz v n xs):∃A c,v = .slice A n c∧n≤c:=by
  rcases h.form with ⟨rfl,rfl,_⟩|⟨g,cap,cur,rfl,_,hn,_⟩;exact ⟨_,_,rfl,Nat.le_refl _⟩;exact ⟨_,_,rfl,hn⟩
theorem Own.lt{w:World}{e:TypeId}{sz:Nat}{v:Value}{n:Nat}{xs:List Value}(h:Own w e sz v n xs):∀k,v.ownBlock=some k→k<w.heap.size:=fun k hk=>(World.ownsRow.lt h k hk).2
theorem Own.keep{K:Nat→Prop}{w w':World}{e:TypeId}{sz:Nat}{v:Value}{n:Nat}{xs:List Value}(h:Own w e sz v n xs)(c:Chg K w w')(hk:∀k,v.ownBlock=some k→¬K k):Own w' e sz v n xs:=by
  obtain ⟨h1,h2⟩:=h;refine ⟨h1,?_⟩;rcases h2 with h2|⟨g,cap,cur,rfl,hb,hh,r⟩;exact .inl h2;exact .inr ⟨g,cap,cur,rfl,hb,(c.keep g (Blk.lt hh) (hk g rfl)).trans hh,r⟩
theorem Own.ext{w w':World}{e:TypeId}{sz:Nat}{v:Value}{n:Nat}{xs:List Value}(h:Own w e sz v n xs)(c:Ext w w'):Own w' e sz v n xs:=h.keep c fun _ _=>id
theorem Own.of_blk{w:World}{g:Nat}{cur:Array Value}{e:TypeId}{sz n cap:Nat}{xs:List Value}(hb:Blk w g cur e)(hn:n≤cap)(hc:cap≤maxLen)(hs:cur.size=cap*sz)(ht:cur.toList.take (n*sz)=xs) :
    Own w e sz (.slice (some ⟨g,0,none⟩) n cap) n xs:=by
  refine ⟨?_,.inr ⟨g,cap,cur,rfl,Nat.zero_le _,hb,hn,hc,hs,ht⟩⟩;rw [←ht,List.length_take,Array.length_toList,hs];exact Nat.min_eq_left (Nat.mul_le_mul_right _ hn)
theorem Own.lit{w:World}{g:Nat}{cs:Array Value}{e:TypeId}{sz n:Nat}(hb:Blk w g cs e)(hs:cs.size=n*sz)(hc:n≤maxLen):Own w e sz (.slice (some ⟨g,0,none⟩) n n) n cs.toList :=
  Own.of_blk hb (Nat.le_refl _) hc hs (by rw [←hs,←Array.length_toList,List.take_length])
theorem Own.ne_blk{w:World}{e t:TypeId}{sz n b:Nat}{v:Value}{xs:List Value}{cs:Array Value}(h:Own w e sz v n xs)(hb:Blk w b cs t)(ht:e≠t):∀k,v.ownBlock=some k→¬(k=b):=by
  intro k hk e1;subst e1;rcases h.form with ⟨rfl,_⟩|⟨g,cap,cur,rfl,hg,_⟩;simp [Value.ownBlock] at hk;have:g=k:=by simpa [Value.ownBlock] using hk
  subst this;exact ht (hg.same hb).2
theorem Own.ne_own{w:World}{e t:TypeId}{sz n sz' n':Nat}{v v':Value}{xs xs':List Value}(h:Own w e sz v n xs)(h':Own w t sz' v' n' xs')(ht:e≠t):∀k,v.ownBlock=some k→¬(v'.ownBlock=some k):=by
  intro k hk hk';rcases h.form with ⟨rfl,_⟩|⟨g,cap,cur,rfl,hg,_⟩;simp [Value.ownBlock] at hk;rcases h'.form with ⟨rfl,_⟩|⟨g',cap',cur',rfl,hg',_⟩;simp [Value.ownBlock] at hk';simp only [Value.ownBlock,Option.some.injEq] at hk hk';subst hk;subst hk';exact ht (hg.same hg').2
theorem CellsL.of_get{w:World}{b:Nat} : ∀ {vs:List Value} {o:Nat},(∀j v,vs[j]?=some v→w.cell? ⟨b,o+j,none⟩=some v)→CellsL w b o vs
  | [],_,_=>trivial
  | v::vs,o,h=>⟨by have:=h 0 v rfl;simpa using this,CellsL.of_get fun j u hj=>by have:=h (j+1) u (by simpa using hj);rwa [Nat.add_assoc,Nat.add_comm 1 j]⟩
theorem CellsL.get{w:World}{b:Nat} : ∀ {vs:List Value} {o:Nat},CellsL w b o vs→∀j v,vs[j]?=some v→w.cell? ⟨b,o+j,none⟩=some v
  | [],_,_,j,v,h=>by simp at h
  | u::vs,o,h,0,v,hj=>by simp at hj;subst hj;exact h.1
  | u::vs,o,h,j+1,v,hj=>by
    have:=CellsL.get h.2 j v (by simpa using hj)
    rwa [Nat.add_assoc,Nat.add_comm 1 j] at this
theorem CellsL.keep{K:Nat→Prop}{w w':World}{b:Nat}(c:Chg K w w')(hk:¬K b):∀ {vs:List Value} {o:Nat},CellsL w b o vs→CellsL w' b o vs
  | [],_,_=>trivial
  | v::vs,o,h=>⟨Chg.cell h.1 c hk,CellsL.keep c hk h.2⟩
theorem Blk.cells{w:World}{b:Nat}{cs:Array Value}{t:TypeId}(h:Blk w b cs t){o:Nat}{vs:List Value}(hv:∀j v,vs[j]?=some v→cs[o+j]?=some v):CellsL w b o vs :=
  CellsL.of_get fun j v hj=>h.cell (hv j v hj)
theorem Blk.all{w:World}{b:Nat}{vs:List Value}{t:TypeId}(h:Blk w b vs.toArray t):CellsL w b 0 vs:=h.cells fun j v hj=>by simpa using hj
theorem Own.cells{w:World}{e:TypeId}{sz n g cap:Nat}{xs:List Value}(h:Own w e sz (.slice (some ⟨g,0,none⟩) n cap) n xs){o:Nat}{vs:List Value}(hv:∀j v,vs[j]?=some v→xs[o+j]?=some v):CellsL w g o vs:=by
  rcases h.form with ⟨h1,_⟩|⟨g',cap',cur,h1,hb,hn,_,hs,ht⟩;cases h1;simp at h1;obtain ⟨rfl,rfl⟩:=h1;refine hb.cells fun j v hj=>?_
  have:=hv j v hj;rw [←ht,List.getElem?_take] at this
  split at this
  simpa using this
  cases this
theorem Own.some_of{w:World}{e:TypeId}{sz n:Nat}{v:Value}{xs:List Value}(h:Own w e sz v n xs)(hn:0<n):∃g cap,v = .slice (some ⟨g,0,none⟩) n cap∧n≤cap:=by
  rcases h.form with ⟨_,h0,_⟩|⟨g,cap,cur,rfl,_,hc,_⟩;omega;exact ⟨g,cap,rfl,hc⟩
def setL{α:Type}(xs:List α)(o:Nat):List α→List α
  | []=>xs
  | v::vs=>setL (xs.set o v) (o+1) vs
theorem setAll_list:∀(vs:List Value) (cs:Array Value) (o:Nat),(setAll cs o vs).toList=setL cs.toList o vs
  | [],_,_=>rfl
  | v::vs,cs,o=>by simp [setAll,setL,setAll_list vs]
theorem setAll_size:∀(vs:List Value) (cs:Array Value) (o:Nat),(setAll cs o vs).size=cs.size
  | [],_,_=>rfl
  | v::vs,cs,o=>by simp [setAll,setAll_size vs]
theorem setL_take{α:Type} : ∀(vs:List α) (xs:List α) (o k:Nat),o+vs.length≤k→(setL xs o vs).take k=setL (xs.take k) o vs
  | [],_,_,_,_=>rfl
  | v::vs,xs,o,k,h=>by
    simp only [List.length_cons] at h;simp only [setL];rw [setL_take vs _ _ _ (by omega),List.take_set]
theorem Own.toBlk{w:World}{e:TypeId}{sz n g cap:Nat}{xs:List Value}(h:Own w e sz (.slice (some ⟨g,0,none⟩) n cap) n xs):∃cur,Blk w g cur e∧n*sz≤cur.size ∧
    ∀(vs:List Value) (o:Nat) (w':World),o+vs.length≤n*sz→Blk w' g (setAll cur o vs) e→Own w' e sz (.slice (some ⟨g,0,none⟩) n cap) n (setL xs o vs):=by
  rcases h.form with ⟨h1,_⟩|⟨g',cap',cur,h1,hb,hn,hc,hs,ht⟩;cases h1;simp at h1;obtain ⟨rfl,rfl⟩:=h1;refine ⟨cur,hb,by rw [hs];exact Nat.mul_le_mul_right _ hn,fun vs o w' ho hb'=>Own.of_blk hb' hn hc (by rw [setAll_size,hs]) ?_⟩;rw [setAll_list,setL_take _ _ _ _ ho,ht]
section ox
variable {P:Program}{ρ:Operand→Value}{w:World}{K:Value→World→Prop}{dst:Option Tmp}{ty:TypeId}{pos:String}{af:Array Edge}{gd:Option (Nat×Bool)}
theorem slice_of{t e:TypeId}{sz by_:Nat}{z:Value}(h:sliceT P t=some (e,sz,by_,z)):P.underlying t=some (.slice e)∧∃i,P.info? e=some i∧i.zero=some z∧i.size=sz∧i.bytes=by_:=by
  unfold sliceT at h
  cases hu:P.underlying t with
  | none=>rw [hu] at h;cases h
  | some d =>
    rw [hu] at h;cases d<;>try (cases h;done)
    rename_i e';simp only at h
    cases hi:P.info? e' with
    | none=>rw [hi] at h;cases h
    | some i =>
      rw [hi] at h;simp only [Option.bind_some] at h
      cases hz:i.zero with
      | none=>rw [hz] at h;cases h
      | some z' =>
        rw [hz] at h;simp at h;obtain ⟨rfl,rfl,rfl,rfl⟩:=h;exact ⟨rfl,i,hi,hz,rfl,rfl⟩
theorem ox_len{c:Call}{x:Operand}{t e:TypeId}{A:Option Addr}{n cp:Nat}(hc:c = { callee:=.builtin .len,args:=#[x],argTypes:=#[t] })(hu:P.underlying t=some (.slice e))(hx:ρ x = .slice A n cp)(h:K (.int .i64 n) w) :
    OpX P ⟨dst,.call c,ty,pos,af,gd⟩ ρ w K:=by
  subst hc;exact ox_val (w':=w) (by simp [execOp,resolve,invoke,builtin,Builtin.len_,hx,Sem.run_bind,run_underlying hu,Result.andThen,goInt]) h
theorem ox_lenS{c:Call}{x:Operand}{t:TypeId}{s:ByteArray}(hc:c = { callee:=.builtin .len,args:=#[x],argTypes:=#[t] })(hu:P.underlying t=some .string)(hx:ρ x = .string s)(h:K (.int .i64 s.size) w) :
    OpX P ⟨dst,.call c,ty,pos,af,gd⟩ ρ w K:=by
  subst hc;exact ox_val (w':=w) (by simp [execOp,resolve,invoke,builtin,Builtin.len_,hx,Sem.run_bind,run_underlying hu,Result.andThen,goInt]) h
theorem ox_min{c:Call}{x y:Operand}{ts:Array TypeId}{k:IntKind}{a b:Int}(hc:c = { callee:=.builtin .min,args:=#[x,y],argTypes:=ts })(hx:ρ x = .int k a)(hy:ρ y = .int k b)(h:K (.int k (if b<a then b else a)) w) :
    OpX P ⟨dst,.call c,ty,pos,af,gd⟩ ρ w K:=by
  subst hc;exact ox_val (v:=.int k (if b<a then b else a)) (w':=w) (by simp [execOp,resolve,invoke,builtin,Builtin.min_,Builtin.min2,hx,hy]) h
theorem ox_indexAddr{x ix:Operand}{t e:TypeId}{sz by_:Nat}{z:Value}{b o n cp:Nat}{k:IntKind}{i:Int}(ht:sliceT P t=some (e,sz,by_,z))(hx:ρ x = .slice (some ⟨b,o,none⟩) n cp)(hi:ρ ix = .int k i)(h0:0≤i)(h1:i<n)
    (h:K (.pointer (some ⟨b,o+i.toNat*sz,none⟩)) w):OpX P ⟨dst,.indexAddr t x ix,ty,pos,af,gd⟩ ρ w K:=by
  obtain ⟨hu,inf,hinf,_,hs,_⟩:=slice_of ht;refine ox_val (v:=.pointer (some ⟨b,o+i.toNat*sz,none⟩)) (w':=w) ?_ h
  have ha:(⟨b,o,none⟩:Addr).add (i.toNat*sz)=⟨b,o+i.toNat*sz,none⟩:=by
    unfold Addr.add;split;rename_i h0;simp [h0]
    rfl
  simp [execOp,Instr.indexAt,hx,hi,asIntOf,Sem.run_bind,run_underlying hu,Result.andThen,h0,h1,sizeOf,typeInfo,hinf,hs,ha]
theorem ox_sliceTo{x y:Operand}{t e:TypeId}{sz by_:Nat}{z:Value}{A:Option Addr}{n cp:Nat}{k:IntKind}{i:Int}(ht:sliceT P t=some (e,sz,by_,z))(hx:ρ x = .slice A n cp)(hy:ρ y = .int k i)(h0:0≤i)(h1:i≤cp)
    (h:K (.slice A i.toNat cp) w):OpX P ⟨dst,.slice t x none (some y) none,ty,pos,af,gd⟩ ρ w K:=by
  obtain ⟨hu,inf,hinf,_,hs,_⟩:=slice_of ht;refine ox_val (v:=.slice A i.toNat cp) (w':=w) ?_ h;have ha:(A.map fun a:Addr=>a.add 0)=A:=by cases A<;>simp [Addr.add]
  simp [execOp,Instr.sliceAt,Instr.slice,Instr.sliceBounds,Instr.sliceBound,hx,hy,asIntOf,Sem.run_bind,run_underlying hu,Result.andThen,h0,h1,sizeOf,typeInfo,hinf,ha]
theorem ox_sliceFrom{x y:Operand}{t e:TypeId}{sz by_:Nat}{z:Value}{A:Option Addr}{n cp:Nat}{k:IntKind}{i:Int}(ht:sliceT P t=some (e,sz,by_,z))(hx:ρ x = .slice A n cp)(hy:ρ y = .int k i)(h0:0≤i)(h1:i≤n)
    (h:K (.slice (if cp=i.toNat then A else A.map (·.add (i.toNat*sz))) (n-i.toNat) (cp-i.toNat)) w):OpX P ⟨dst,.slice t x (some y) none none,ty,pos,af,gd⟩ ρ w K:=by
  obtain ⟨hu,inf,hinf,_,hs,_⟩:=slice_of ht;refine ox_val (w':=w) ?_ h;simp [execOp,Instr.sliceAt,Instr.slice,Instr.sliceBounds,Instr.sliceBound,hx,hy,asIntOf,Sem.run_bind,run_underlying hu,Result.andThen,h0,h1,sizeOf,typeInfo,hinf,hs]
theorem run_equal_slice{t e:TypeId}(hu:P.underlying t=some (.slice e))(A B:Option Addr)(n c n' c':Nat)(hpq:A=none∨B=none):(Op.equal t (.slice A n c) (.slice B n' c')).run P w = .ok (decide (A=B)) w:=by
  show (Op.equalIn (9999+1) t (.slice A n c) (.slice B n' c')).run P w=_;unfold Op.equalIn;simp only [Sem.run_bind,run_underlying hu,Result.andThen];rcases hpq with rfl|rfl;cases B<;>simp;cases A<;>simp
theorem ox_eqlSlice{x y:Operand}{t e u:TypeId}{A B:Option Addr}{n c n' c':Nat}(hu:P.underlying t=some (.slice e))(hx:ρ x = .slice A n c)(hy:ρ y = .slice B n' c')(hpq:A=none∨B=none)(h:K (.bool (decide (A=B))) w) :
    OpX P ⟨dst,.binOp .eql t x y u,ty,pos,af,gd⟩ ρ w K :=
  ox_val (v:=.bool (decide (A=B))) (w':=w) (by simp [execOp,hx,hy,eqGuard,binOp,Sem.run_bind,run_equal_slice hu A B n c n' c' hpq,Result.andThen]) h
theorem ox_append{c:Call}{x y:Operand}{t e:TypeId}{sz by_:Nat}{z:Value}{v:Value}{n g o m cp:Nat}{xs news:List Value}(hc:c = { callee:=.builtin .append,args:=#[x,y],argTypes:=#[t,t] })(ht:sliceT P t=some (e,sz,by_,z))
    (hzs:z.cells.size=sz) (hsz:0<sz) (hx:ρ x=v) (hy:ρ y = .slice (some ⟨g,o,none⟩) m cp) (hown:Own w e sz v n xs) (hl:news.length=m*sz) (hnews:CellsL w g o news) (h1:news.all Value.oneCell'=true)
    (hm:n+m≤9223372036854775807) (hb:(n+m)*by_≤140737488355328)
    (h:∀v' w',Own w' e sz v' (n+m) (xs++news)→Chg (fun b=>v.ownBlock=some b) w w'→(v'.ownBlock=v.ownBlock∨v'.ownBlock=some w.heap.size)→(v' = .slice none 0 0↔v = .slice none 0 0∧m=0)→K v' w') :
    OpX P ⟨dst,.call c,ty,pos,af,gd⟩ ρ w K:=by
  subst hc;obtain ⟨hu,i,hi,hz,hs,hby⟩:=slice_of ht
  have hnews':∀j u,news[j]?=some u→w.cell? ((⟨g,o,none⟩:Addr).add j)=some u:=fun j u hj=>by
    have ha:(⟨g,o,none⟩:Addr).add j=⟨g,o+j,none⟩:=by
      unfold Addr.add;split;rename_i h0;simp [h0]
      rfl
    rw [ha];exact hnews.get j u hj
  obtain ⟨v',w',hr,ho,hg,hn,hat⟩:=run_append_own_at (P:=P) w 0 t ty e i z sz by_ hu hi hz hs hby hzs hsz v n xs hown ⟨g,o,none⟩ m cp news hl hnews' (by simpa using h1) (by unfold maxLen;omega) hb (Nat.zero_le _);refine ox_val (v:=v') (w':=w') ?_ (h v' w' ho (chg_grown hg fun k hk=>hk) hat hn);simp [execOp,resolve,invoke,builtin,hx,hy,Sem.run_bind,Result.andThen,hr]
theorem ox_append0{c:Call}{x y:Operand}{t e:TypeId}{sz by_:Nat}{z:Value}{A:Option Addr}{n cp cp':Nat}(hc:c = { callee:=.builtin .append,args:=#[x,y],argTypes:=#[t,t] })(ht:sliceT P t=some (e,sz,by_,z))
    (hx:ρ x = .slice A n cp) (hn:n≤cp) (hy:ρ y = .slice none 0 cp') (h:K (.slice A n cp) w):OpX P ⟨dst,.call c,ty,pos,af,gd⟩ ρ w K:=by
  subst hc;obtain ⟨hu,i,hi,hz,hs,hby⟩:=slice_of ht;refine ox_val (v:=.slice A n cp) (w':=w) ?_ h;cases A<;>simp [execOp,resolve,invoke,builtin,Builtin.append_,hx,hy,Sem.run_bind,Result.andThen,run_underlying hu,sizeOf,typeInfo,hi,Builtin.lenOf,Builtin.firstCells,hn,storeCells]
theorem ox_makeSlice{x y:Operand}{t e:TypeId}{sz by_:Nat}{z:Value}{k k':IntKind}{n:Nat}(ht:sliceT P t=some (e,sz,by_,z))(hx:ρ x = .int k n)(hy:ρ y = .int k' n)(hb:by_*n≤281474976710656)(hm:n≤9223372036854775807)
    (h:∀w',Own w' e sz (.slice (some ⟨w.heap.size,0,none⟩) n n) n (madeCells z.cells (n*sz)).toList→Ext w w'→w.heap.size<w'.heap.size→K (.slice (some ⟨w.heap.size,0,none⟩) n n) w'):OpX P ⟨dst,.makeSlice t x y,ty,pos,af,gd⟩ ρ w K:=by
  obtain ⟨hu,i,hi,hz,hs,hby⟩:=slice_of ht;obtain ⟨w',hr,ho,hg⟩:=run_make_full (P:=P) w 0 t e i z sz hu hi hz hs k k' n (by rw [hby];exact hb) (by unfold maxLen;omega) (Nat.zero_le _);have ho':Own w' e sz (.slice (some ⟨w.heap.size,0,none⟩) n n) n (madeCells z.cells (n*sz)).toList:=ho;refine ox_val (v:=.slice (some ⟨w.heap.size,0,none⟩) n n) (w':=w') ?_ (h w' ho' (chg_grown hg fun k hk=>by cases hk) (ho'.lt _ rfl));simp [execOp,hx,hy,Sem.run_bind,Result.andThen,hr]
theorem run_fieldSizes{fs:Array Field}{pl:Array (Nat×Nat)}(h:(fs.mapM fun f=>(sizeT P f.type).map fun s=>(f.offset,s))=some pl)(w:World) :
    (fs.mapM fun f=>do pure (f.offset,←sizeOf f.type):Sem (Array (Nat×Nat))).run P w = .ok pl w:=by
  have key:∀(l:List Field) (r:List (Nat×Nat)),(l.mapM fun f=>(sizeT P f.type).map fun s=>(f.offset,s))=some r→(l.mapM fun f=>do pure (f.offset,←sizeOf f.type):Sem (List (Nat×Nat))).run P w = .ok r w:=by
    intro l
    induction l with
    | nil=>intro r hr;simp at hr;subst hr;simp
    | cons f l ih =>
      intro r hr;simp only [List.mapM_cons,bind,Option.bind_eq_some_iff,pure,Option.some.injEq] at hr;obtain ⟨a,ha,b,hb,rfl⟩:=hr
      cases hs:sizeT P f.type with
      | none=>rw [hs] at ha;cases ha
      | some s =>
        rw [hs] at ha;simp only [Option.map_some,Option.some.injEq] at ha;subst ha;have:=ih b hb;simp only [List.mapM_cons,Sem.run_bind,run_size hs,Result.andThen,Sem.run_pure,this]
  have h2:(fs.toList.mapM fun f=>(sizeT P f.type).map fun s=>(f.offset,s))=some pl.toList:=by
    rw [Array.mapM_eq_mapM_toList] at h
    cases hq:(fs.toList.mapM fun f=>(sizeT P f.type).map fun s=>(f.offset,s)) with
    | none=>rw [hq] at h;cases h
    | some l=>rw [hq] at h;simp at h;subst h;simp
  have h3:=key fs.toList pl.toList h2;rw [Array.mapM_eq_mapM_toList];show ((fs.toList.mapM fun f=>do pure (f.offset,←sizeOf f.type):Sem (List (Nat×Nat))) >>= fun l=>pure l.toArray:Sem (Array (Nat×Nat))).run P w = .ok pl w;rw [Sem.run_bind,h3];simp [Result.andThen]
theorem ox_build{t:TypeId}{parts:Array (Nat×Operand)}{z:Value}{pl:Array (Nat×Nat)}{ps:List (Nat×Value)}{cs:Array Value}(hz:zeroOf P t=some z)(hp:placesT P t=some pl)(hps:(parts.map fun (i,x)=>(i,ρ x)).toList=ps)
    (hf:Instr.fill (fun i=>pl[i]?) z.cells ps=some cs) (h:K (.agg cs) w):OpX P ⟨dst,.build t parts,ty,pos,af,gd⟩ ρ w K:=by
  unfold placesT at hp
  cases hu:P.underlying t with
  | none=>rw [hu] at hp;cases hp
  | some d =>
    rw [hu] at hp;cases d<;>try (cases hp;done)
    rename_i fs;refine ox_val (v:=.agg cs) (w':=w) ?_ h;simp only [execOp,Instr.build,Sem.run_bind,run_zero hz,Result.andThen,run_underlying hu,hps,run_fieldSizes hp,hf,Sem.run_pure]
theorem ox_buildSlice{t e:TypeId}{sz by_ n:Nat}{z:Value}{parts:Array (Nat×Operand)}{ps:List (Nat×Value)}{cs:Array Value}(ht:sliceT P t=some (e,sz,by_,z))(hps:(parts.map fun (i,x)=>(i,ρ x)).toList=ps)(hn:n*sz≤16777216)
    (hf:Instr.fill (fun i=>some (i*sz,sz)) ((Array.range (n*sz)).map fun i=>(if n*sz=0 then #[] else z.cells)[i % (if n*sz=0 then #[] else z.cells).size]!) ps=some cs)
    (h:∀w',Ext w w'→w'.heap.size=w.heap.size+1→Blk w' w.heap.size cs e→K (.slice (some ⟨w.heap.size,0,none⟩) n n) w'):OpX P ⟨dst,.buildSlice t n parts,ty,pos,af,gd⟩ ρ w K:=by
  obtain ⟨hu,i,hi,hz,hs,hby⟩:=slice_of ht;refine ox_val (v:=.slice (some ⟨w.heap.size,0,none⟩) n n) (w':=w.alloc (.cells cs e)) ?_ (h _ (chg_alloc _ _ _) (World.size_alloc _ _) (blk_alloc _ _ _));have hzo:zeroOf P e=some z:=by unfold zeroOf;rw [hi];exact hz
  have hso:sizeT P e=some sz:=by unfold sizeT;rw [hi];simp [hs]
  by_cases h0:n*sz=0;simp only [h0,if_true] at hf;simp only [execOp,Instr.buildSlice,Sem.run_bind,run_underlying hu,Result.andThen,run_size hso,h0,if_true,Sem.run_pure,hps];have hgt:¬(0 > 2 ^ 24):=by omega
  simp only [hgt,if_false];rw [Sem.run_bind];simp only [Sem.run_pure,Result.andThen];rw [hf];simp [newRow,newObj,Sem.run,Sem.run_bind];simp only [h0,if_false] at hf;simp only [execOp,Instr.buildSlice,Sem.run_bind,run_underlying hu,Result.andThen,run_size hso,h0,if_false,run_zero hzo,hps];have hgt:¬(n*sz > 2 ^ 24):=by omega
  simp only [hgt,if_false];rw [Sem.run_bind,run_zero hzo];simp only [Result.andThen];rw [Sem.run_bind];simp only [Sem.run_pure,Result.andThen];rw [hf];simp [newRow,newObj,Sem.run,Sem.run_bind]
end ox
end Go.Vx
namespace Go.Vx
open Go Go.RowKit
section defs
variable {κ:Type}[DecidableEq κ]
def lookM(m:List (κ×Value))(k:κ):Option Value:=(m.find? (fun p=>p.1=k)).map (·.2)
def setM:List (κ×Value)→κ→Value→List (κ×Value)
  | [],k,v=>[(k,v)]
  | p::r,k,v=>if p.1=k then (k,v)::r else p::setM r k v
theorem lookM_setM(m:List (κ×Value))(k k':κ)(v:Value):lookM (setM m k v) k'=if k'=k then some v else lookM m k':=by
  induction m with
  | nil =>
    by_cases h:k'=k;subst h;simp [setM,lookM];simp [setM,lookM,h,Ne.symm h]
  | cons p r ih =>
    obtain ⟨a,u⟩:=p;unfold lookM at *;simp only [setM];by_cases ha:a=k;subst ha;by_cases h:k'=a;subst h;simp;simp [h,Ne.symm h];simp only [ha,if_false,List.find?_cons];by_cases h:a=k';subst h;simp [ha];simp [h,ih]
theorem mem_setM{m:List (κ×Value)}{k:κ}{v:Value}{x:κ} : x∈(setM m k v).map (·.1)↔x=k∨x∈m.map (·.1):=by
  induction m with
  | nil=>simp [setM]
  | cons p r ih =>
    obtain ⟨a,u⟩:=p;simp only [setM];by_cases ha:a=k;subst ha;simp;simp only [ha,if_false,List.map_cons,List.mem_cons,ih];constructor;rintro (h|h|h)<;>simp [h];rintro (h|h|h)<;>simp [h]
theorem nodup_setM{m:List (κ×Value)}{k:κ}{v:Value}(h:(m.map (·.1)).Nodup):((setM m k v).map (·.1)).Nodup:=by
  induction m with
  | nil=>simp [setM]
  | cons p r ih =>
    obtain ⟨a,u⟩:=p;simp only [List.map_cons,List.nodup_cons] at h;simp only [setM];by_cases ha:a=k;subst ha;simp only [if_true,List.map_cons,List.nodup_cons];exact h;simp only [ha,if_false,List.map_cons,List.nodup_cons];exact ⟨fun hm=>(mem_setM.1 hm).elim ha h.1,ih h.2⟩
theorem lookM_none{m:List (κ×Value)}{k:κ}(h:k∉m.map (·.1)):lookM m k=none:=by
  unfold lookM;rw [List.find?_eq_none.2];rfl;intro p hp he;exact h (List.mem_map.2 ⟨p,hp,by simpa using he⟩)
end defs
def findV{κ:Type}[DecidableEq κ]:List (κ×Value)→κ→Nat→Option (Nat×Value)
  | [],_,_=>none
  | p::r,k,i=>if p.1=k then some (i,p.2) else findV r k (i+1)
structure KeyT{κ:Type}[DecidableEq κ](P:Program)(kt:TypeId)(enc:κ→Value):Prop where
  check:∀e k w,(Instr.checkKey e 10000 kt (enc k)).run P w = .ok () w
  find:∀(es:List MapEntry) (m:List (κ×Value)),es.map (fun e=>(e.key,e.val))=m.map (fun p=>(enc p.1,p.2))→∀k w,(Instr.findKey kt (enc k) es).run P w = .ok (findV m k 0) w
  stays:∀k,Instr.sameBits 10000 (enc k) (enc k)=true
def MapB{κ:Type}(enc:κ→Value)(w:World)(b:Nat)(m:List (κ×Value)):Prop :=
  ∃es clock,w.heap[b]?=some (.map es clock)∧es.toList.map (fun e=>(e.key,e.val))=m.map (fun p=>(enc p.1,p.2))∧(m.map (·.1)).Nodup∧(∀x∈es.toList,x.born<clock)∧(es.toList.map (·.born)).Nodup
theorem MapB.lt{κ:Type}{enc:κ→Value}{w:World}{b:Nat}{m:List (κ×Value)}(h:MapB enc w b m):b<w.heap.size:=by
  obtain ⟨es,c,h,_⟩:=h;exact (Array.getElem?_eq_some_iff.1 h).1
theorem MapB.keep{κ:Type}{enc:κ→Value}{K:Nat→Prop}{w w':World}{b:Nat}{m:List (κ×Value)}(h:MapB enc w b m)(c:Chg K w w')(hk:¬K b):MapB enc w' b m:=by
  have hlt:=h.lt;obtain ⟨es,cl,h,r⟩:=h;exact ⟨es,cl,(c.keep b hlt hk).trans h,r⟩
theorem MapB.ext{κ:Type}{enc:κ→Value}{w w':World}{b:Nat}{m:List (κ×Value)}(h:MapB enc w b m)(c:Ext w w'):MapB enc w' b m:=h.keep c id
theorem MapB.ne_blk{κ:Type}{enc:κ→Value}{w:World}{b b':Nat}{m:List (κ×Value)}{cs:Array Value}{t:TypeId}(h:MapB enc w b m)(h':Blk w b' cs t):b≠b':=by
  intro e;subst e;obtain ⟨es,cl,h,_⟩:=h;unfold Blk at h';rw [h] at h';simp at h'
theorem findV_index{κ:Type}[DecidableEq κ]:∀(m:List (κ×Value)) (k:κ) (i:Nat),findV m k i=(match findV m k 0 with | some (j,v)=>some (i+j,v) | none=>none)
  | [],_,_=>rfl
  | p::r,k,i=>by
    simp only [findV];by_cases h:p.1=k;simp [h];simp only [h,if_false];rw [findV_index r k (i+1),findV_index r k (0+1)];cases findV r k 0<;>simp [Nat.add_assoc]
theorem findV_look{κ:Type}[DecidableEq κ]:∀(m:List (κ×Value)) (k:κ) (i:Nat),(findV m k i).map (·.2)=lookM m k
  | [],_,_=>rfl
  | p::r,k,i=>by
    simp only [findV,lookM,List.find?_cons];by_cases h:p.1=k;simp [h];simp only [h,if_false,decide_false];exact findV_look r k (i+1)
theorem modify_set{κ:Type}[DecidableEq κ](enc:κ→Value)(v:Value):∀(es:List MapEntry) (m:List (κ×Value)),es.map (fun e=>(e.key,e.val))=m.map (fun p=>(enc p.1,p.2))→∀k j u,findV m k 0=some (j,u) →
    (es.modify j fun e=>{ e with key:=enc k,val:=v }).map (fun e=>(e.key,e.val))=(setM m k v).map (fun p=>(enc p.1,p.2))∧(es[j]?).map (·.key)=some (enc k)
  | [],[],_,k,j,u,h=>by cases h
  | [],p::r,he,_,_,_,_=>by simp at he
  | e::es,[],he,_,_,_,_=>by simp at he
  | e::es,p::r,he,k,j,u,h=>by
    simp only [List.map_cons,List.cons.injEq,Prod.mk.injEq] at he;obtain ⟨⟨h1,h2⟩,h3⟩:=he;simp only [findV] at h;by_cases hk:p.1=k;simp only [hk,if_true,Option.some.injEq,Prod.mk.injEq] at h;obtain ⟨rfl,rfl⟩:=h;simp only [setM,hk,if_true];exact ⟨by simp [h3],by simp [h1,hk]⟩;simp only [hk,if_false] at h;rw [findV_index] at h
    cases hf:findV r k 0 with
    | none=>rw [hf] at h;cases h
    | some q =>
      obtain ⟨j',u'⟩:=q;rw [hf] at h;simp only [Option.some.injEq,Prod.mk.injEq] at h;obtain ⟨rfl,rfl⟩:=h;obtain ⟨i1,i2⟩:=modify_set enc v es r h3 k j' u' hf;have e1:0+1+j'=j'+1:=by omega
      rw [e1];simp only [setM,hk,if_false,List.modify_succ_cons,List.map_cons,h1,h2,i1];exact ⟨trivial,by simpa using i2⟩
theorem set_none{κ:Type}[DecidableEq κ](v:Value):∀(m:List (κ×Value)) (k:κ),findV m k 0=none→setM m k v=m++[(k,v)]
  | [],_,_=>rfl
  | p::r,k,h=>by
    simp only [findV] at h;by_cases hk:p.1=k;simp [hk] at h;simp only [hk,if_false] at h;rw [findV_index] at h
    cases hf:findV r k 0 with
    | none=>simp only [setM,hk,if_false,set_none v r k hf,List.cons_append]
    | some q=>rw [hf] at h;cases h
section ox
variable {P:Program}{ρ:Operand→Value}{w:World}{K:Value→World→Prop}{dst:Option Tmp}{ty:TypeId}{pos:String}{af:Array Edge}{gd:Option (Nat×Bool)}
variable {κ:Type}[DecidableEq κ]{enc:κ→Value}{kt e:TypeId}{t:TypeId}
theorem mem_modify{f:MapEntry→MapEntry} : ∀ {l:List MapEntry} {j:Nat} {x:MapEntry},x∈l.modify j f→∃y∈l,x=y∨x=f y
  | [],j,x,h=>by cases j<;>simp at h
  | y::l,0,x,h=>by
    rw [List.modify_zero_cons,List.mem_cons] at h;rcases h with rfl|h;exact ⟨y,by simp,.inr rfl⟩;exact ⟨x,by simp [h],.inl rfl⟩
  | y::l,j+1,x,h=>by
    rw [List.modify_succ_cons,List.mem_cons] at h;rcases h with rfl|h;exact ⟨x,by simp,.inl rfl⟩;obtain ⟨u,hu,e⟩:=mem_modify h;exact ⟨u,by simp [hu],e⟩
theorem born_modify{k v:Value} : ∀ {l:List MapEntry} {j:Nat},(l.modify j fun e=>{ e with key:=k,val:=v }).map (·.born)=l.map (·.born)
  | [],j=>by cases j<;>rfl
  | y::l,0=>by rw [List.modify_zero_cons];rfl
  | y::l,j+1=>by rw [List.modify_succ_cons,List.map_cons,List.map_cons,born_modify]
theorem ox_makeMap{r:Option Operand}(hr:r=none)(h:∀w',Ext w w'→w'.heap.size=w.heap.size+1→MapB enc w' w.heap.size []→K (.map (some w.heap.size)) w'):OpX P ⟨dst,.makeMap t r,ty,pos,af,gd⟩ ρ w K:=by
  subst hr;refine ox_val (v:=.map (some w.heap.size)) (w':=w.alloc (.map #[] 0)) ?_ (h _ (chg_alloc _ _ _) (World.size_alloc _ _) ⟨#[],0,heap_alloc_new w _,by simp,by simp,by simp,by simp⟩);simp [execOp,Instr.makeMap,newObj,Sem.run,Sem.run_bind,Result.andThen]
theorem run_lookupM(hk:KeyT P kt enc)(hu:P.underlying t=some (.map kt e)){z:Value}(hz:zeroOf P e=some z){b:Nat}{m:List (κ×Value)}(hm:MapB enc w b m)(k:κ)(ok:Bool) :
    (Instr.lookup t (.map (some b)) (enc k) ok).run P w = .ok (if ok then .tuple #[(lookM m k).getD z,.bool (lookM m k).isSome] else (lookM m k).getD z) w:=by
  obtain ⟨es,clock,hb,he,_⟩:=hm;have hf:=hk.find es.toList m he k w;have hl:=findV_look m k 0
  cases hq:findV m k 0 with
  | none =>
    rw [hq] at hf hl;simp only [Option.map_none] at hl;simp [Instr.lookup,Sem.run_bind,run_underlying hu,Result.andThen,getObj,Sem.run,hb,hk.check,hf,run_zero hz,←hl]
  | some q =>
    rw [hq] at hf hl;simp only [Option.map_some] at hl;simp [Instr.lookup,Sem.run_bind,run_underlying hu,Result.andThen,getObj,Sem.run,hb,hk.check,hf,run_zero hz,←hl]
theorem ox_lookup{x ix:Operand}{b:Nat}{m:List (κ×Value)}{k:κ}{z:Value}(hk:KeyT P kt enc)(hu:P.underlying t=some (.map kt e))(hz:zeroOf P e=some z)(hm:MapB enc w b m)(hx:ρ x = .map (some b))(hi:ρ ix=enc k)(h:K ((lookM m k).getD z) w) :
    OpX P ⟨dst,.lookup t x ix false,ty,pos,af,gd⟩ ρ w K:=by
  refine ox_val (v:=(lookM m k).getD z) (w':=w) ?_ h;simp [execOp,hx,hi,Sem.run_bind,run_lookupM hk hu hz hm k false,Result.andThen]
theorem ox_lookup2{x ix:Operand}{b:Nat}{m:List (κ×Value)}{k:κ}{z:Value}(hk:KeyT P kt enc)(hu:P.underlying t=some (.map kt e))(hz:zeroOf P e=some z)(hm:MapB enc w b m)(hx:ρ x = .map (some b))(hi:ρ ix=enc k)(h:K (.tuple #[(lookM m k).getD z,.bool (lookM m k).isSome]) w) :
    OpX P ⟨dst,.lookup t x ix true,ty,pos,af,gd⟩ ρ w K:=by
  refine ox_val (v:=.tuple #[(lookM m k).getD z,.bool (lookM m k).isSome]) (w':=w) ?_ h;simp [execOp,hx,hi,Sem.run_bind,run_lookupM hk hu hz hm k true,Result.andThen]
theorem run_setMap{b:Nat}{es es':Array MapEntry}{c c':Nat}(hb:w.heap[b]?=some (.map es c)):(setObj b (.map es' c')).run P w = .ok () (w.putObj b (.map es' c')):=by simp [setObj,Sem.run,hb,World.putObj]
theorem ox_mapUpdate{x ix y:Operand}{b:Nat}{m:List (κ×Value)}{k:κ}{v:Value}(hk:KeyT P kt enc)(hu:P.underlying t=some (.map kt e))(hm:MapB enc w b m)(hx:ρ x = .map (some b))(hi:ρ ix=enc k)(hy:ρ y=v)
    (h:∀w',Chg1 b w w'→w'.heap.size=w.heap.size→MapB enc w' b (setM m k v)→K undef w'):OpX P ⟨dst,.mapUpdate t x ix y,ty,pos,af,gd⟩ ρ w K:=by
  obtain ⟨es,clock,hb,he,hn,hs1,hs2⟩:=hm;have hlt:b<w.heap.size:=(Array.getElem?_eq_some_iff.1 hb).1;have hf:=hk.find es.toList m he k w
  cases hq:findV m k 0 with
  | none =>
    rw [hq] at hf;refine ox_skipr (w':=w.putObj b (.map (es.push { key:=enc k,val:=v,born:=clock }) (clock+1))) ?_ (h _ (chg_putObj _ _ _ rfl) World.putObj_size ⟨_,_,World.putObj_heap_same hlt,?_,nodup_setM hn,?_,?_⟩);simp [execOp,hx,hi,hy,Instr.mapUpdate,Sem.run_bind,run_underlying hu,Result.andThen,getObj,Sem.run,hb,hk.check,hf,run_setMap hb];rw [set_none v m k hq];simp [he];intro x hx;rw [Array.toList_push,List.mem_append,List.mem_singleton] at hx;rcases hx with hx|rfl;have:=hs1 x hx;omega;exact Nat.lt_succ_self _;rw [Array.toList_push,List.map_append,List.nodup_append];refine ⟨hs2,by simp,fun a ha b hb=>?_⟩;obtain ⟨x,hx,rfl⟩:=List.mem_map.1 ha;have:=hs1 x hx;simp only [List.map_cons,List.map_nil,List.mem_singleton] at hb;omega
  | some q =>
    obtain ⟨j,u⟩:=q;rw [hq] at hf;obtain ⟨i1,i2⟩:=modify_set enc v es.toList m he k j u hq;refine ox_skipr (w':=w.putObj b (.map (es.modify j fun e=>{ e with key:=enc k,val:=v }) clock)) ?_ (h _ (chg_putObj _ _ _ rfl) World.putObj_size ⟨_,_,World.putObj_heap_same hlt,?_,nodup_setM hn,?_,?_⟩);have i2':(es[j]?).map (·.key)=some (enc k):=by simpa using i2
    simp [execOp,hx,hi,hy,Instr.mapUpdate,Sem.run_bind,run_underlying hu,Result.andThen,getObj,Sem.run,hb,hk.check,hf,i2',Instr.keyThatStays,hk.stays,run_setMap hb];rw [Array.toList_modify];exact i1;intro x hx;rw [Array.toList_modify] at hx;obtain ⟨y,hy,e⟩:=mem_modify hx;have h1:=hs1 y hy;rcases e with rfl|rfl;exact h1;exact h1;rw [Array.toList_modify,born_modify];exact hs2
end ox
theorem check_int{P:Program}{kt:TypeId}{k:IntKind}(hu:P.underlying kt=some (.int k))(e:Bool)(d:Nat)(v:Value)(w:World):(Instr.checkKey e (d+1) kt v).run P w = .ok () w:=by
  simp [Instr.checkKey,Sem.run_bind,run_underlying hu,Result.andThen]
theorem check_string{P:Program}{kt:TypeId}(hu:P.underlying kt=some .string)(e:Bool)(d:Nat)(v:Value)(w:World):(Instr.checkKey e (d+1) kt v).run P w = .ok () w:=by
  simp [Instr.checkKey,Sem.run_bind,run_underlying hu,Result.andThen]
theorem bytes_beq(a b:ByteArray):(a == b)=decide (a=b):=by
  rw [beq_toListBytes];by_cases h:a=b;subst h;simp
  have:¬a.toList=b.toList:=fun e=>h (by
    rw [ByteArray.toList_eq,ByteArray.toList_eq] at e;obtain ⟨⟨x⟩⟩:=a;obtain ⟨⟨y⟩⟩:=b
    simpa using e)
  simp [h,this]
theorem keyT_string{P:Program}{kt:TypeId}(hu:P.underlying kt=some .string):KeyT P kt (fun s:ByteArray=>.string s) where
  check:=fun e i w=>check_string hu e 9999 _ w
  find:=fun es m he i w=>by
    have key:∀(es:List MapEntry) (m:List (ByteArray×Value)) (j:Nat),es.map (fun e=>(e.key,e.val))=m.map (fun p=>(Value.string p.1,p.2))→Instr.findNow .string (.string i) es j=some (findV m i j):=by
      intro es
      induction es with
      | nil=>intro m j h;cases m with | nil=>rfl | cons=>simp at h
      | cons e es ih =>
        intro m j h
        cases m with
        | nil=>simp at h
        | cons p r =>
          simp only [List.map_cons,List.cons.injEq,Prod.mk.injEq] at h;obtain ⟨⟨h1,h2⟩,h3⟩:=h;simp only [Instr.findNow,h1,Instr.sameNow,findV,bytes_beq];by_cases hp:p.1=i;simp [hp,h2];have:¬i=p.1:=Ne.symm hp;simp [hp,this,ih r (j+1) h3]
    simp [Instr.findKey,Sem.run_bind,run_underlying hu,Result.andThen,key es m 0 he]
  stays:=fun i=>by
    have:∀d,Instr.sameBits (d+1) (.string i) (.string i)=true:=fun d=>by simp [Instr.sameBits,bytes_beq]
    exact this 9999
end Go.Vx
namespace Go.Vx
open Go Go.RowKit
theorem Blk.keep1{w w':World}{b b':Nat}{cs:Array Value}{t:TypeId}(h:Blk w b cs t)(c:Chg1 b' w w')(hne:b≠b'):Blk w' b cs t:=h.keep c hne
theorem MapB.keep1{κ:Type}{enc:κ→Value}{w w':World}{b b':Nat}{m:List (κ×Value)}(h:MapB enc w b m)(c:Chg1 b' w w')(hne:b≠b'):MapB enc w' b m:=h.keep c hne
theorem Own.keep1{w w':World}{e:TypeId}{sz:Nat}{v:Value}{n:Nat}{xs:List Value}{b':Nat}(h:Own w e sz v n xs)(c:Chg1 b' w w')(hne:∀k,v.ownBlock=some k→k≠b'):Own w' e sz v n xs:=h.keep c hne
theorem ret_mono{P:Program}{g:FuncId}{args:Array Value}{w:World}{K K':Value→World→Prop}(h:Calls P g args w (Ret K))(hk:∀v w',K v w'→K' v w'):Calls P g args w (Ret K') :=
  Calls.mono h fun _ _ ⟨v,e,hv⟩=>⟨v,e,hk v _ hv⟩
section ox
variable {P:Program}{ρ:Operand→Value}{w:World}{K:Value→World→Prop}{dst:Option Tmp}{ty:TypeId}{pos:String}{af:Array Edge}{gd:Option (Nat×Bool)}
theorem map_list{α β:Type}(h:α→β)(args:Array α):args.map h=(args.toList.map h).toArray:=by
  apply Array.ext';simp
theorem ox_callE{n:Nat}{f:Nat→Value}{args:Array Operand}{ats:Array TypeId}{g:FuncId}{al:List Value}(hp:plainF P g=true)(ha:args.toList.map (ev n f)=al)(h:Calls P g al.toArray w (Ret K)) :
    OpX P ⟨dst,.call { callee:=.value (.func g),args:=args,argTypes:=ats },ty,pos,af,gd⟩ (ev n f) w K:=by
  refine ox_call (first:=#[]) (cap:=#[]) hp rfl rfl (args:=al.toArray) ?_ h;rw [map_list,ha];simp
theorem ox_callV{n:Nat}{f:Nat→Value}{x:Operand}{args:Array Operand}{ats:Array TypeId}{g:FuncId}{cap al:List Value}(hp:plainF P g=true)(hx:ev n f x = .func (.func g) #[] cap.toArray)(ha:args.toList.map (ev n f)=al)(h:Calls P g (al++cap).toArray w (Ret K)) :
    OpX P ⟨dst,.call { callee:=.value x,args:=args,argTypes:=ats },ty,pos,af,gd⟩ (ev n f) w K:=by
  refine ox_call (first:=#[]) (cap:=cap.toArray) hp rfl hx (args:=(al++cap).toArray) ?_ h;rw [map_list,ha];simp
theorem ox_extern{n:Nat}{f:Nat→Value}{args:Array Operand}{ats:Array TypeId}{g:FuncId}{al:List Value}{v:Value}{w':World}(ha:args.toList.map (ev n f)=al)(hr:(callFunc g al.toArray).run P w = .ok (.value v) w')(h:K v w') :
    OpX P ⟨dst,.call { callee:=.value (.func g),args:=args,argTypes:=ats },ty,pos,af,gd⟩ (ev n f) w K:=by
  refine ox_val (v:=v) (w':=w') ?_ h;have hm:args.map (ev n f)=al.toArray:=by rw [map_list,ha]
  simp [execOp,resolve,ev,Deferred.ofValue,invoke,Sem.run_bind,Result.andThen,hm,hr]
theorem ox_mkFunc{fn:Fn}{cap:Array Operand}{cs:List Value}(h2:cap.toList.map ρ=cs)(h:K (.func fn #[] cs.toArray) w):OpX P ⟨dst,.makeFunc fn #[] cap,ty,pos,af,gd⟩ ρ w K :=
  ox_makeFunc (by simp) (by rw [map_list,h2]) h
theorem ox_mkStruct{t:TypeId}{parts:Array (Nat×Operand)}{z:Value}{pl:Array (Nat×Nat)}{ps:List (Nat×Value)}{cs:Array Value}(hz:zeroOf P t=some z)(hp:placesT P t=some pl)(hps:parts.toList.map (fun p=>(p.1,ρ p.2))=ps)
    (hf:Instr.fill (fun i=>pl[i]?) z.cells ps=some cs) (h:K (.agg cs) w):OpX P ⟨dst,.build t parts,ty,pos,af,gd⟩ ρ w K :=
  ox_build hz hp (by rw [Array.toList_map];exact hps) hf h
theorem ox_mkSlice{t e:TypeId}{sz by_ n:Nat}{z:Value}{parts:Array (Nat×Operand)}{ps:List (Nat×Value)}{cs:Array Value}{zs:Array Value}(ht:sliceT P t=some (e,sz,by_,z))(hps:parts.toList.map (fun p=>(p.1,ρ p.2))=ps)(hn:n*sz≤16777216)
    (hzs:((Array.range (n*sz)).map fun i=>(if n*sz=0 then #[] else z.cells)[i % (if n*sz=0 then #[] else z.cells).size]!)=zs)
    (hf:Instr.fill (fun i=>some (i*sz,sz)) zs ps=some cs)
    (h:∀w',Ext w w'→w'.heap.size=w.heap.size+1→Blk w' w.heap.size cs e→K (.slice (some ⟨w.heap.size,0,none⟩) n n) w'):OpX P ⟨dst,.buildSlice t n parts,ty,pos,af,gd⟩ ρ w K :=
  ox_buildSlice (ps:=ps) ht (by rw [Array.toList_map];exact hps) hn (by rw [hzs];exact hf) h
end ox
section xc
variable {P:Program}{r:Option Nat}{n:Nat}{Q:QX}{f:Nat→Value}{ds:List Deferred}{w:World}
theorem xc_loopN{c:Code}(I:Nat→(Nat→Value)→World→Prop)(m:Nat)(h₀:I m f w)
    (round:∀m f w,I m f w→XC P r n c (qseq (fun f' ds' w'=>ds'=ds∧∃m',m'<m∧I m' f' w') Q) f ds w):XC P r n (.loop c) Q f ds w:=by
  intro b k cs hro hb hr;have key:∀m f w,I m f w →
      ∃e a' w',lift n Q e a' w'∧ArrivesIn (Machine.fenced P (FW r)) P (lone (b.atR (fr n f ds) (.code c::.inLoop c::k)) cs w) b k cs e a' w':=by
    intro m
    induction m using Nat.strongRecOn with
    | _ m ih =>
      intro f w hI;obtain ⟨e,a₁,w₁,⟨f₁,ds₁,rfl,hq⟩,harr⟩:=round m f w hI b (.inLoop c::k) cs hro hb hr
      cases e with
      | normal =>
        obtain ⟨rfl,m',hlt,hI₁⟩:=hq;obtain ⟨e₂,a₂,w₂,hq₂,harr₂⟩:=ih m' hlt f₁ w₁ hI₁;exact ⟨e₂,a₂,w₂,hq₂,.of_steps (StepsIn.trans harr (.one (fenced_calm hb hr rfl) stepR_inLoop)) harr₂⟩
      | exit id=>exact ⟨_,_,w₁,⟨f₁,ds₁,rfl,hq⟩,.pass (x:=.inLoop c) rfl (fun _ _=>.inl (by simp)) harr⟩
      | goto l=>exact ⟨_,_,w₁,⟨f₁,ds₁,rfl,hq⟩,.pass (x:=.inLoop c) rfl (fun _ _=>.inl (by simp)) harr⟩
      | ret=>exact ⟨_,_,w₁,⟨f₁,ds₁,rfl,hq⟩,.pass (x:=.inLoop c) rfl (fun _ _=>.inl (by simp)) harr⟩
      | panic ch=>exact ⟨_,_,w₁,⟨f₁,ds₁,rfl,hq⟩,.pass (x:=.inLoop c) rfl (fun _ _=>.inl (by simp)) harr⟩
      | outgrown=>exact ⟨_,_,w₁,⟨f₁,ds₁,rfl,hq⟩,.pass (x:=.inLoop c) rfl (fun _ _=>.inl (by simp)) harr⟩
  obtain ⟨e,a',w',hq,harr⟩:=key _ f w h₀;exact ⟨e,a',w',hq,.of_steps (.one (fenced_calm hb hr rfl) stepR_loop) harr⟩
theorem xc_scopeN{c rest:Code}(l:Nat)(J:Nat→(Nat→Value)→List Deferred→World→Prop)(hf:findLabel c l=some rest)
    (first:XC P r n c (qjump l (fun f ds w=>∃m,J m f ds w) Q) f ds w)
    (pass:∀m f ds w,J m f ds w→XC P r n rest (qjump l (fun f' ds' w'=>∃m',m'<m∧J m' f' ds' w') Q) f ds w):XC P r n (.scope c) Q f ds w:=by
  intro b k cs hro hb hr;have hg:gotoIn l (.inScope c::k)=some (.code rest::.inScope c::k):=by simp [gotoIn,hf]
  have hx:∀i,exitTo i (.inScope c::k)=exitTo i k:=fun i=>by simp [exitTo]
  have key:∀m f ds w,J m f ds w→∃e a' w',lift n Q e a' w'∧ArrivesIn (Machine.fenced P (FW r)) P (lone (b.atR (fr n f ds) (.code rest::.inScope c::k)) cs w) b k cs e a' w':=by
    intro m
    induction m using Nat.strongRecOn with
    | _ m ih =>
      intro f ds w hJ;obtain ⟨e,a₁,w₁,⟨f₁,ds₁,rfl,hq⟩,harr⟩:=pass m f ds w hJ b (.inScope c::k) cs hro hb hr
      cases e with
      | normal=>exact ⟨.normal,_,w₁,⟨f₁,ds₁,rfl,hq⟩,StepsIn.trans harr (.one (fenced_calm hb hr rfl) stepR_inScope)⟩
      | exit id=>exact ⟨.exit id,_,w₁,⟨f₁,ds₁,rfl,hq⟩,fun k' hk=>harr.1 k' (by rw [hx];exact hk),fun hr' hk=>harr.2 hr' (by rw [hx];exact hk)⟩
      | goto l' =>
        obtain ⟨rfl,m',hlt,hJ'⟩:=hq;obtain ⟨e₂,a₂,w₂,hq₂,harr₂⟩:=ih m' hlt f₁ ds₁ w₁ hJ';exact ⟨e₂,a₂,w₂,hq₂,.of_steps (harr.1 _ hg) harr₂⟩
      | ret=>exact ⟨_,_,w₁,⟨f₁,ds₁,rfl,hq⟩,harr⟩
      | panic ch=>exact ⟨_,_,w₁,⟨f₁,ds₁,rfl,hq⟩,harr⟩
      | outgrown=>exact ⟨_,_,w₁,⟨f₁,ds₁,rfl,hq⟩,harr⟩
  have h0:(lone (b.atR (fr n f ds) (.code (.scope c)::k)) cs w).fenced P (FW r):=fenced_calm hb hr rfl;obtain ⟨e,a₁,w₁,⟨f₁,ds₁,rfl,hq⟩,harr⟩:=first b (.inScope c::k) cs hro hb hr
  cases e with
  | normal=>exact ⟨.normal,_,w₁,⟨f₁,ds₁,rfl,hq⟩,.head h0 stepR_scope (StepsIn.trans harr (.one (fenced_calm hb hr rfl) stepR_inScope))⟩
  | exit id=>exact ⟨.exit id,_,w₁,⟨f₁,ds₁,rfl,hq⟩,fun k' hk=>.head h0 stepR_scope (harr.1 k' (by rw [hx];exact hk)),fun hr' hk=>let ⟨k₁,h1,h2⟩:=harr.2 hr' (by rw [hx];exact hk);⟨k₁,h1,.head h0 stepR_scope h2⟩⟩
  | goto l' =>
    obtain ⟨rfl,m',hJ'⟩:=hq;obtain ⟨e₂,a₂,w₂,hq₂,harr₂⟩:=key m' f₁ ds₁ w₁ hJ';exact ⟨e₂,a₂,w₂,hq₂,.of_steps (.head h0 stepR_scope (harr.1 _ hg)) harr₂⟩
  | ret=>exact ⟨_,_,w₁,⟨f₁,ds₁,rfl,hq⟩,.of_steps (.one h0 stepR_scope) harr⟩
  | panic ch=>exact ⟨_,_,w₁,⟨f₁,ds₁,rfl,hq⟩,.of_steps (.one h0 stepR_scope) harr⟩
  | outgrown=>exact ⟨_,_,w₁,⟨f₁,ds₁,rfl,hq⟩,.of_steps (.one h0 stepR_scope) harr⟩
theorem xc_cut{c:Code}(R:(Nat→Value)→World→Prop)(h:XC P r n c (qseq (fun f' ds' w'=>ds'=ds∧R f' w') Q) f ds w)(k:∀f w,R f w→Q .normal f ds w):XC P r n c Q f ds w :=
  h.mono fun e f' ds' w' hq=>by
    cases e with
    | normal=>obtain ⟨rfl,hR⟩:=hq;exact k _ _ hR
    | _=>exact hq
end xc
theorem xc_regionE{P:Program}{r:Option Nat}{n:Nat}{Q:QX}{f:Nat→Value}{ds:List Deferred}{w:World}{id:Nat}{ops:Array Oper}(Z:List Nat)(S:World→Prop)(hm:P.follows .mixedOrders=true)
    (h:∀w',Ext w w'→w'.heap.size=w.heap.size→XD P n .any ops Z S (fun f w=>Q .normal f ds w) ops.size (Array.replicate ops.size false) f w'):XC P r n (.region id ops true) Q f ds w :=
  xc_regionD Z S hm fun w' hw=>h w' (by subst hw;exact chg_drew _ w 1) (by subst hw;rfl)
def RV(P:Program)(n:Nat)(f:Nat→Value)(w:World):List ResultVar→List Value→Prop
  | [],[]=>True
  | .tmp t::r,v::vs=>(t<n∧f t=v)∧RV P n f w r vs
  | .cell a t::r,v::vs=>(a<n∧∃b o m cs,f a = .pointer (some ⟨b,o,none⟩)∧isAggT P t=some true∧sizeT P t=some m∧cs.length=m∧CellsL w b o cs∧v = .agg cs.toArray)∧RV P n f w r vs
  | _,_=>False
def one(vs:List Value):Value:=match vs with | [v]=>v | vs=>.tuple vs.toArray
def readR(n:Nat)(f:Nat→Value):ResultVar→Sem Value
  | .tmp t=>pure ((fr n f []).tmps.getD t undef)
  | .cell a t=>do loadVar t (←asAddr ((fr n f []).tmps.getD a undef))
theorem run_results{P:Program}{n:Nat}{f:Nat→Value}{w:World} : ∀(rs:List ResultVar) (vs:List Value),RV P n f w rs vs→(rs.mapM (readR n f):Sem (List Value)).run P w = .ok vs w
  | [],[],_=>by simp
  | .tmp t::r,v::vs,h=>by
    obtain ⟨⟨ht,hv⟩,h⟩:=h;have hg:(fr n f []).tmps.getD t undef=v:=by rw [Array.getD_eq_getD_getElem?,fr_get];simp [ht,hv]
    have ih:=run_results r vs h;simp only [List.mapM_cons,readR,hg,Sem.run_bind,Sem.run_pure,Result.andThen,ih]
  | .cell a t::r,v::vs,h=>by
    obtain ⟨⟨ha,b,o,m,cs,hp,hagg,hsz,hlen,hc,rfl⟩,h⟩:=h;have hg:(fr n f []).tmps.getD a undef = .pointer (some ⟨b,o,none⟩):=by rw [Array.getD_eq_getD_getElem?,fr_get];simp [ha,hp]
    have ih:=run_results r vs h;subst hlen;have hl:=run_loadCells (P:=P) cs o 0 #[] hc
    have hv:(loadVar t ⟨b,o,none⟩).run P w = .ok (.agg cs.toArray) w:=by
      simp only [loadVar,Sem.run_bind,run_isAgg hagg,Result.andThen,run_size hsz,loadCells,hl,if_true,Sem.run_pure];simp
    simp only [List.mapM_cons,readR,hg,Sem.run_bind,asAddr,Sem.run_pure,Result.andThen,hv,ih]
  | [],v::vs,h=>by cases h
  | .tmp t::r,[],h=>by cases h
  | .cell a t::r,[],h=>by cases h
theorem leaves_nil{P:Program}{fn:Func}{n:Nat}{f:Nat→Value}{K:Value→World→Prop}{w:World}{rs:List ResultVar}{vs:List Value}(hr:fn.results=rs.toArray)(h:RV P n f w rs vs)(hk:K (one vs) w):leaves P fn n f K [] w:=by
  refine ⟨one vs,?_,hk⟩;have h1:=run_results rs vs h
  have h2:(rs.toArray.mapM (readR n f):Sem (Array Value)).run P w = .ok vs.toArray w:=by
    rw [Array.mapM_eq_mapM_toList];show ((rs.mapM (readR n f):Sem (List Value)) >>= fun l=>pure l.toArray:Sem (Array Value)).run P w=_;rw [Sem.run_bind,h1];simp [Result.andThen]
  have h3:(results fn (fr n f []).tmps).run P w=(do let vs←(rs.toArray.mapM (readR n f):Sem (Array Value));pure (if h:vs.size=1 then vs[0] else .tuple vs):Sem Value).run P w:=by
    unfold results;rw [hr]
    rfl
  rw [h3,Sem.run_bind,h2]
  cases vs with
  | nil=>simp [one,Result.andThen]
  | cons v vs=>cases vs<;>simp [one,Result.andThen]
end Go.Vx
namespace Go.Vx
open Go Go.RowKit
section
variable {P:Program}{r:Option Nat}{n:Nat}{md:Region.Mode}{ops:Array Oper}{S:World→Prop}{Q:(Nat→Value)→World→Prop}
theorem xd_firstU{Z U:List Nat}{S' R:World→Prop}{i:Nat}{oi:Oper}{v:Value}(hi:ops[i]?=some oi)(hsel:∀(j:Nat) (o:Oper) cs b,ops[j]?=some o→o.op≠.select cs b)
    (hR1:∀w,R w→S' w) (hU:∀u∈U,u≠i∧(i::U).any (fun k=>waitsB md ops u k)=true) (hR3:∀(j:Nat) (w w':World),R w→j∉U→(j∈Z∨(S w→S w'))→R w') :
    ∀(fuel:Nat) (listed:Array Bool) (f:Nat→Value) (w:World),
      (∀j oj,ops[j]?=some oj→j≠i→listed.getD j true=false→(∀e∈oj.after,Region.binds md e=true→e.on≠i)→oi.apart ops oj=true) →
      (∀u∈U,listed.getD u true=false)→i∈Region.ready md ops listed→Quiet P n ops S' oi v f→R w →
      XD P n md ops Z S Q fuel (listed.setIfInBounds i true) (updo f oi.dst v) w→XD P n md ops Z S Q (fuel+1) listed f w:=by
  intro fuel
  induction fuel with
  | zero =>
    intro listed f w _ hun hr hy hS H;refine ⟨fun h=>(by rw [h] at hr;cases hr),fun j hj=>?_⟩;by_cases hji:j=i;subst hji;exact hy.stepX hi (hR1 _ hS) ⟨.inr fun h=>h,H⟩;have:=ready_mono hj hji;rw [H.1] at this;cases this
  | succ fuel ih =>
    intro listed f w hfree hun hr hy hS H;refine ⟨fun h=>(by rw [h] at hr;cases hr),fun j hj=>?_⟩;by_cases hji:j=i;subst hji;exact hy.stepX hi (hR1 _ hS) ⟨.inr fun h=>h,H⟩;have h1:=H.2 j (ready_mono hj hji);obtain ⟨hjun,oj,hoj,hall⟩:=mem_ready.1 hj
    have hnot:∀e∈oj.after,Region.binds md e=true→e.on≠i:=fun e he hb heq=>by
      have h1:=hall e he hb;have h0:=(mem_ready.1 hr).1;rw [heq] at h1;rcases Nat.lt_or_ge i listed.size with h'|h';simp [h'] at h0 h1;rw [h0] at h1;cases h1;simp [Array.getElem?_eq_none h'] at h1
    have hjU:j∉U:=fun hjU=>by
      obtain ⟨k,hk,hw⟩:=List.any_eq_true.1 (hU j hjU).2;have h5:=waitsB_ready hw hj;rcases List.mem_cons.1 hk with rfl|hk;exact getD_tf (mem_ready.1 hr).1 h5;exact getD_tf (hun k hk) h5
    have hun':∀u∈U,(listed.setIfInBounds j true).getD u true=false:=fun u hu=>by
      have hne:¬j=u:=fun e=>hjU (by rw [e];exact hu)
      rw [getD_set_ne true hne];exact hun u hu
    have h2:=stepX_put hoj (hfree j oj hoj hji hjun hnot) (fun cs b=>hsel i oi cs b hi) (fun cs b=>hsel j oj cs b hoj) hy h1;have hfree':∀k ok,ops[k]?=some ok→k≠i→(listed.setIfInBounds j true).getD k true=false →
        (∀e∈ok.after,Region.binds md e=true→e.on≠i)→oi.apart ops ok=true:=fun k ok hk hki hun hno=>by
      refine hfree k ok hk hki ?_ hno;by_cases hjk:j=k;subst hjk;exact hjun;rw [getD_set_ne true hjk] at hun;exact hun
    refine stepX_mono (fun f' w' h3=>⟨h3.2.1,ih (listed.setIfInBounds j true) f' w' hfree' hun' (ready_mono hr (Ne.symm hji)) h3.1 (hR3 j w w' hS hjU h3.2.1) ?_⟩) h2;rw [Array.setIfInBounds_comm _ _ hji];exact h3.2.2
theorem xd_takeU{Z:List Nat}{oi:Oper}{v:Value}{fuel:Nat}{listed:Array Bool}{f:Nat→Value}{w:World}(i:Nat)(d:Option Nat)(U:List Nat)(hi:ops[i]?=some oi)(hd:oi.dst=d)
    (hs:(Region.noSelect ops && Region.free md ops listed i && (Region.ready md ops listed).contains i && (Z.all fun j=>U.contains j) && U.all fun u=>(!(u == i)) && ((i::U).any fun k=>waitsB md ops u k) && (!listed.getD u true))=true)
    (hy:Quiet P n ops S oi v f) (hS:S w)
    (h:XD P n md ops Z S Q fuel (listed.setIfInBounds i true) (updo f d v) w):XD P n md ops Z S Q (fuel+1) listed f w:=by
  subst hd;simp only [Bool.and_eq_true] at hs;obtain ⟨⟨⟨⟨hs,hf⟩,hr⟩,hz⟩,hu⟩:=hs
  have hu':∀u∈U,(u≠i∧(i::U).any (fun k=>waitsB md ops u k)=true)∧listed.getD u true=false:=fun u hm=>by
    have h1:=List.all_eq_true.1 hu u hm;simp only [Bool.and_eq_true] at h1;exact ⟨⟨by simpa using h1.1.1,h1.1.2⟩,by simpa using h1.2⟩
  refine xd_firstU (S':=S) (R:=S) (U:=U) hi (Region.noSelect_spec hs) (fun w h=>h) (fun u hm=>(hu' u hm).1) (fun j w w' hw hj h=>h.resolve_left (fun hjz=>hj ?_) hw) fuel listed f w (Region.free_spec hi hf) (fun u hm=>(hu' u hm).2) (by simpa using hr) hy hS h
  simpa using List.all_eq_true.1 hz j hjz
theorem xd_three{Z:List Nat}{oi ok oj:Oper}{fuel:Nat}{listed:Array Bool}{f:Nat→Value}{w:World}(i k l:Nat)(d e c:Option Nat)(hi:ops[i]?=some oi)(hk:ops[k]?=some ok)(hj:ops[l]?=some oj)(hd:oi.dst=d)(he:ok.dst=e)(hc:oj.dst=c)(hr:Region.ready md ops listed = [i,k,l])(hg:oi.guard=none)(hg':ok.guard=none)(hg'':oj.guard=none)
    (h:OpX P oi (ev n f) w (fun v w'=>(i∈Z∨(S w→S w'))∧XD P n md ops Z S Q fuel (listed.setIfInBounds i true) (updo f d v) w'))
    (h':OpX P ok (ev n f) w (fun v w'=>(k∈Z∨(S w→S w'))∧XD P n md ops Z S Q fuel (listed.setIfInBounds k true) (updo f e v) w'))
    (h'':OpX P oj (ev n f) w (fun v w'=>(l∈Z∨(S w→S w'))∧XD P n md ops Z S Q fuel (listed.setIfInBounds l true) (updo f c v) w')):XD P n md ops Z S Q (fuel+1) listed f w:=by
  subst hd;subst he;subst hc;refine ⟨fun h0=>absurd (hr ▸ h0) (by simp),fun j hj2=>?_⟩;rw [hr] at hj2;have hj3:j=i∨j=k∨j=l:=by simpa using hj2
  rcases hj3 with rfl|rfl|rfl;unfold stepX;simp only [hi];rw [if_pos (by simp [Region.wanted,hg])];exact h;unfold stepX;simp only [hk];rw [if_pos (by simp [Region.wanted,hg'])];exact h';unfold stepX;simp only [hj];rw [if_pos (by simp [Region.wanted,hg''])];exact h''
theorem xd_oneW{Z:List Nat}{oi:Oper}{fuel:Nat}{listed:Array Bool}{f:Nat→Value}{w:World}(i:Nat)(d:Option Nat)(hi:ops[i]?=some oi)(hd:oi.dst=d)(hr:Region.ready md ops listed = [i])(hw:Region.wanted oi (yl n f ops)=true)
    (h:OpX P oi (ev n f) w (fun v w'=>(i∈Z∨(S w→S w'))∧XD P n md ops Z S Q fuel (listed.setIfInBounds i true) (updo f d v) w')):XD P n md ops Z S Q (fuel+1) listed f w:=by
  subst hd;refine ⟨fun h0=>absurd (hr ▸ h0) (by simp),fun j hj=>?_⟩;rw [hr] at hj;obtain rfl:j=i:=by simpa using hj
  unfold stepX;simp only [hi];rw [if_pos hw];exact h
end
end Go.Vx
namespace Go.Vx
open Go Go.RowKit
def fieldTT(P:Program)(t:TypeId)(i:Nat):Option (TypeId×Nat) :=
  match P.underlying t with
  | some (.struct fs)=>(fs[i]?).map fun f=>(f.type,f.offset)
  | _=>none
section
variable {P:Program}{ρ:Operand→Value}{w:World}{K:Value→World→Prop}{dst:Option Tmp}{ty:TypeId}{pos:String}{af:Array Edge}{gd:Option (Nat×Bool)}
theorem run_field{x:Value}{t ft:TypeId}{i off:Nat}(hf:fieldTT P t i=some (ft,off)):(Instr.field t x i).run P w=(do part ft (←asAgg x) off:Sem Value).run P w:=by
  unfold fieldTT at hf
  cases hu:P.underlying t with
  | none=>rw [hu] at hf;cases hf
  | some d =>
    rw [hu] at hf;cases d<;>try (cases hf;done)
    rename_i fs;simp only at hf
    cases hi:fs[i]? with
    | none=>rw [hi] at hf;cases hf
    | some f =>
      rw [hi] at hf;cases hf;simp only [Instr.field,Sem.run_bind,run_underlying hu,Result.andThen,hi]
theorem ox_field{x:Operand}{t ft:TypeId}{i off:Nat}{vs:Array Value}{v:Value}(hf:fieldTT P t i=some (ft,off))(ha:isAggT P ft=some false)(hx:ρ x = .agg vs)(hv:vs[off]?=some v)(h:K v w) :
    OpX P ⟨dst,.field t x i,ty,pos,af,gd⟩ ρ w K:=by
  refine ox_val (v:=v) (w':=w) ?_ h;simp only [execOp,hx];rw [Sem.run_bind,run_field hf];simp [asAgg,Sem.run_bind,Result.andThen,part,run_isAgg ha,hv]
end
end Go.Vx
