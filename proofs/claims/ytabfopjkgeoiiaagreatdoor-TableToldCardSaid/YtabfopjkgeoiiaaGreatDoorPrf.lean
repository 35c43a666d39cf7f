/-
  Part 6 of the proof: texts Vw. No conditions.
-/
import Derived.Laws.BitsAllLaws
import Derived.Maps.RangeRun
import Derived.Test.YtabfopjkgeoiiaaGreatDoorPrc
import Derived.Test.YtabfopjkgeoiiaaGreatDoorPrd
set_option linter.unusedVariables false
set_option linter.unusedSimpArgs false
set_option linter.unusedSectionVars false
set_option maxRecDepth 100000
set_option maxHeartbeats 4000000
namespace Go.Vx
open Go Go.RowKit
section bits
variable {P:Program}{ρ:Operand→Value}{w:World}{K:Value→World→Prop}{dst:Option Tmp}{ty:TypeId}{pos:String}{af:Array Edge}{gd:Option (Nat×Bool)}
theorem ox_shr{x y:Operand}{t u:TypeId}{k ky:IntKind}{a b:Int}(hx:ρ x = .int k a)(hy:ρ y = .int ky b)(h0:0≤b)(h1:b≤k.bits)(h:K (.int k (a / 2 ^ b.toNat)) w):OpX P ⟨dst,.binOp .shr t x y u,ty,pos,af,gd⟩ ρ w K :=
  ox_val (v:=.int k (a / 2 ^ b.toNat)) (w':=w) (by simp [execOp,hx,hy,binOp,eqGuard,shift_shr k ky a b h0 h1,Sem.run_bind,Result.andThen]) h
theorem ox_shl{x y:Operand}{t u:TypeId}{k ky:IntKind}{a b:Int}(hx:ρ x = .int k a)(hy:ρ y = .int ky b)(h0:0≤b)(h1:b≤k.bits)(h:K (.int k (k.wrap (a*2 ^ b.toNat))) w):OpX P ⟨dst,.binOp .shl t x y u,ty,pos,af,gd⟩ ρ w K :=
  ox_val (v:=.int k (k.wrap (a*2 ^ b.toNat))) (w':=w) (by simp [execOp,hx,hy,binOp,eqGuard,shift_shl k ky a b h0 h1,Sem.run_bind,Result.andThen]) h
theorem ox_bAnd{x y:Operand}{t u:TypeId}{k:IntKind}{a b:Int}(hx:ρ x = .int k a)(hy:ρ y = .int k b)(h:K (.int k (bits .and k a b)) w):OpX P ⟨dst,.binOp .and t x y u,ty,pos,af,gd⟩ ρ w K :=
  ox_val (v:=.int k (bits .and k a b)) (w':=w) (by simp [execOp,hx,hy,binOp,eqGuard,intBits_and,Sem.run_bind,Result.andThen]) h
theorem ox_bOr{x y:Operand}{t u:TypeId}{k:IntKind}{a b:Int}(hx:ρ x = .int k a)(hy:ρ y = .int k b)(h:K (.int k (bits .or k a b)) w):OpX P ⟨dst,.binOp .or t x y u,ty,pos,af,gd⟩ ρ w K :=
  ox_val (v:=.int k (bits .or k a b)) (w':=w) (by simp [execOp,hx,hy,binOp,eqGuard,intBits_or,Sem.run_bind,Result.andThen]) h
theorem ox_shrV{x y:Operand}{t u:TypeId}{k ky:IntKind}{a b v:Int}(hx:ρ x = .int k a)(hy:ρ y = .int ky b)(h0:0≤b)(h1:b≤k.bits)(he:a / 2 ^ b.toNat=v)(h:K (.int k v) w):OpX P ⟨dst,.binOp .shr t x y u,ty,pos,af,gd⟩ ρ w K:=by
  subst he;exact ox_shr hx hy h0 h1 h
theorem ox_shlV{x y:Operand}{t u:TypeId}{k ky:IntKind}{a b v:Int}(hx:ρ x = .int k a)(hy:ρ y = .int ky b)(h0:0≤b)(h1:b≤k.bits)(he:k.wrap (a*2 ^ b.toNat)=v)(h:K (.int k v) w):OpX P ⟨dst,.binOp .shl t x y u,ty,pos,af,gd⟩ ρ w K:=by
  subst he;exact ox_shl hx hy h0 h1 h
theorem ox_andV{x y:Operand}{t u:TypeId}{k:IntKind}{a b v:Int}(hx:ρ x = .int k a)(hy:ρ y = .int k b)(he:bits .and k a b=v)(h:K (.int k v) w):OpX P ⟨dst,.binOp .and t x y u,ty,pos,af,gd⟩ ρ w K:=by
  subst he;exact ox_bAnd hx hy h
theorem ox_orV{x y:Operand}{t u:TypeId}{k:IntKind}{a b v:Int}(hx:ρ x = .int k a)(hy:ρ y = .int k b)(he:bits .or k a b=v)(h:K (.int k v) w):OpX P ⟨dst,.binOp .or t x y u,ty,pos,af,gd⟩ ρ w K:=by
  subst he;exact ox_bOr hx hy h
def arrTT(P:Program)(t:TypeId):Option (Nat×TypeId×Nat):=match P.underlying t with | some (.array n e)=>(sizeT P e).map fun s=>(n,e,s) | _=>none
theorem arr_of{t e:TypeId}{n sz:Nat}(h:arrTT P t=some (n,e,sz)):P.underlying t=some (.array n e)∧sizeT P e=some sz:=by
  unfold arrTT at h
  cases hu:P.underlying t with
  | none=>rw [hu] at h;cases h
  | some d =>
    rw [hu] at h;cases d<;>try (cases h;done)
    rename_i n' e';simp only [Option.map_eq_some_iff,Prod.mk.injEq] at h;obtain ⟨s,h1,rfl,rfl,rfl⟩:=h;exact ⟨rfl,h1⟩
theorem ox_indexArrV{x ix:Operand}{t e:TypeId}{n sz b o:Nat}{k:IntKind}{i:Int}(ht:arrTT P t=some (n,e,sz))(hx:ρ x = .pointer (some ⟨b,o,none⟩))(hi:ρ ix = .int k i)(h0:0≤i)(h1:i<n)(h:K (.pointer (some ⟨b,o+i.toNat*sz,none⟩)) w) :
    OpX P ⟨dst,.indexAddr t x ix,ty,pos,af,gd⟩ ρ w K:=by
  obtain ⟨hu,hs⟩:=arr_of ht;refine ox_val (v:=.pointer (some ⟨b,o+i.toNat*sz,none⟩)) (w':=w) ?_ h
  have ha:(⟨b,o,none⟩:Addr).add (i.toNat*sz)=⟨b,o+i.toNat*sz,none⟩:=by
    unfold Addr.add;split;rename_i h9;rw [h9];rfl
    rfl
  simp [execOp,hx,hi,Instr.indexAt,Instr.sureAddr,asIntOf,Sem.run_bind,run_underlying hu,Result.andThen,h0,h1,run_size hs,ha]
theorem ox_mkArr{t e:TypeId}{n sz:Nat}{parts:Array (Nat×Operand)}{z:Value}{ps:List (Nat×Value)}{cs:Array Value}(hz:zeroOf P t=some z)(ht:arrTT P t=some (n,e,sz))(hps:parts.toList.map (fun p=>(p.1,ρ p.2))=ps)
    (hf:Instr.fill (fun i=>some (i*sz,sz)) z.cells ps=some cs) (h:K (.agg cs) w):OpX P ⟨dst,.build t parts,ty,pos,af,gd⟩ ρ w K:=by
  obtain ⟨hu,hs⟩:=arr_of ht;have hps':(parts.map fun (i,x)=>(i,ρ x)).toList=ps:=by rw [Array.toList_map];exact hps
  refine ox_val (v:=.agg cs) (w':=w) ?_ h;simp only [execOp,Instr.build,Sem.run_bind,run_zero hz,Result.andThen,run_underlying hu,hps',run_size hs,hf,Sem.run_pure]
end bits
theorem xc_cut2{P:Program}{r:Option Nat}{n:Nat}{Q:QX}{f:Nat→Value}{ds:List Deferred}{w:World}{a b:Code}(R:(Nat→Value)→World→Prop)(h:XC P r n a (qseq (fun f' ds' w'=>XC P r n b (qseq (fun f' ds' w'=>ds'=ds∧R f' w') Q) f' ds' w') Q) f ds w)
    (k:∀f w,R f w→Q .normal f ds w):XC P r n a (qseq (fun f' ds' w'=>XC P r n b Q f' ds' w') Q) f ds w :=
  h.mono fun e f' ds' w' hq=>by
    cases e with
    | normal =>
      exact XC.mono hq fun e f'' ds'' w'' h2=>by
        cases e with
        | normal=>obtain ⟨rfl,hR⟩:=h2;exact k _ _ hR
        | _=>exact h2
    | _=>exact hq
def pairE(p:Int×Int):Value:=.agg #[.int .i64 p.1,.int .i64 p.2]
def intB(P:Program)(t:TypeId):Bool:=match P.underlying t with | some (.int _)=>true | _=>false
def pairB(P:Program)(kt:TypeId):Bool:=match P.underlying kt with
  | some (.struct fs)=>match fs.toList with
    | [a,b]=>decide (a.offset=0) && decide (b.offset=1) && intB P a.type && intB P b.type && decide (isAggT P a.type=some false) && decide (isAggT P b.type=some false)
    | _=>false
  | _=>false
theorem int_of{P:Program}{t:TypeId}(h:intB P t=true):∃k,P.underlying t=some (.int k):=by
  unfold intB at h
  split at h
  exact ⟨_,by assumption⟩;cases h
theorem pair_of{P:Program}{kt:TypeId}(h:pairB P kt=true):∃(fs:Array Field) (a b:Field),P.underlying kt=some (.struct fs)∧fs.toList = [a,b]∧a.offset=0∧b.offset=1∧intB P a.type=true∧intB P b.type=true∧isAggT P a.type=some false∧isAggT P b.type=some false:=by
  unfold pairB at h
  split at h
  rename_i fs hu
  split at h
  rename_i a b hl;simp only [Bool.and_eq_true,decide_eq_true_eq] at h;obtain ⟨⟨⟨⟨⟨h1,h2⟩,h3⟩,h4⟩,h5⟩,h6⟩:=h;exact ⟨fs,a,b,hu,hl,h1,h2,h3,h4,h5,h6⟩;cases h;cases h
theorem run_equal_pair{P:Program}{kt:TypeId}(hf:flatS P kt [.int .i64,.int .i64]=true)(p q:Int×Int)(w:World):(Op.equal kt (pairE p) (pairE q)).run P w = .ok (decide (p=q)) w:=by
  simp only [flatS,Bool.and_eq_true,decide_eq_true_eq,Bool.not_eq_true'] at hf;obtain ⟨⟨h1,h2⟩,h3⟩:=hf;obtain ⟨r,e1,i1⟩:=run_flatT (P:=P) 9 9991 kt _ [.int .i64 p.1,.int .i64 p.2] [.int .i64 q.1,.int .i64 q.2] h1 rfl rfl w;simp only [valT,h2,if_true] at e1
  have hr:r=decide (p=q):=by
    rw [Bool.eq_iff_iff,i1];simp [Prod.ext_iff]
  subst hr;exact e1
theorem keyT_pair{P:Program}{kt:TypeId}(hf:flatS P kt [.int .i64,.int .i64]=true)(hp:pairB P kt=true):KeyT P kt pairE where
  check:=fun e i w=>by
    obtain ⟨fs,a,b,hu,hl,ha,hb,hka,hkb,h5,h6⟩:=pair_of hp;obtain ⟨ka,hka⟩:=int_of hka;obtain ⟨kb,hkb⟩:=int_of hkb
    have:∀d,(Instr.checkKey e (d+1+1) kt (pairE i)).run P w = .ok () w:=fun d=>by
      unfold pairE;rw [Instr.checkKey];simp only [Sem.run_bind,run_underlying hu,Result.andThen_ok];rw [←Array.forIn_toList,hl];have h1:∀v,(Instr.checkKey e (d+1) a.type v).run P w = .ok () w:=fun v=>check_int hka e d v w
      have h2:∀v,(Instr.checkKey e (d+1) b.type v).run P w = .ok () w:=fun v=>check_int hkb e d v w
      have p1:(part a.type #[.int .i64 i.1,.int .i64 i.2] a.offset).run P w = .ok (.int .i64 i.1) w:=by simp [part,Sem.run_bind,run_isAgg h5,Result.andThen,ha]
      have p2:(part b.type #[.int .i64 i.1,.int .i64 i.2] b.offset).run P w = .ok (.int .i64 i.2) w:=by simp [part,Sem.run_bind,run_isAgg h6,Result.andThen,hb]
      simp only [List.forIn_cons,List.forIn_nil];by_cases n1 : a.name = "_" <;> by_cases n2 : b.name = "_" <;> simp [n1, n2, Sem.run_bind, Result.andThen_ok, p1, p2, h1, h2]
    exact this 9998
  find:=fun es m he i w=>by
    obtain ⟨fs,a,b,hu,hl,_⟩:=pair_of hp
    have now:∀(es:List MapEntry) (j:Nat),es≠[]→Instr.findNow (.struct fs) (pairE i) es j=none:=fun es j h=>by
      cases es with
      | nil=>exact absurd rfl h
      | cons e es=>simp [Instr.findNow,Instr.sameNow,pairE]
    have ask:∀(es:List MapEntry) (m:List ((Int×Int)×Value)) (j:Nat),es.map (fun e=>(e.key,e.val))=m.map (fun p=>(pairE p.1,p.2))→(Instr.findAsking kt (pairE i) es j).run P w = .ok (findV m i j) w:=by
      intro es
      induction es with
      | nil=>intro m j h;cases m with | nil=>simp [Instr.findAsking,findV] | cons=>simp at h
      | cons e es ih =>
        intro m j h
        cases m with
        | nil=>simp at h
        | cons p r =>
          simp only [List.map_cons,List.cons.injEq,Prod.mk.injEq] at h;obtain ⟨⟨h1,h2⟩,h3⟩:=h;rw [Instr.findAsking,Sem.run_bind,h1,run_equal_pair hf];by_cases hp:p.1=i;simp [Result.andThen,findV,hp,h2];have:¬i=p.1:=Ne.symm hp;simp only [Result.andThen,this,decide_false,Bool.false_eq_true,if_false,findV,hp];exact ih r (j+1) h3
    cases es with
    | nil=>cases m with | nil=>simp [Instr.findKey,Sem.run_bind,run_underlying hu,Result.andThen,Instr.findNow,findV] | cons=>simp at he
    | cons e es =>
      simp only [Instr.findKey,Sem.run_bind,run_underlying hu,Result.andThen,now (e::es) 0 (by simp)];exact ask (e::es) m 0 he
  stays:=fun i=>by
    have:∀d,Instr.sameBits (d+2) (pairE i) (pairE i)=true:=fun d=>by simp [Instr.sameBits,pairE]
    exact this 9998
def ItB{κ:Type}(enc:κ→Value)(w:World)(r b:Nat)(m:List (κ×Value))(left:List (κ×Value))(cur:Option (κ×Value)):Prop :=
  ∃es clock since seen,r≠b∧w.heap[b]?=some (.map es clock)∧w.heap[r]?=some (.mapIter (some b) since seen clock)∧es.toList.map (fun e=>(e.key,e.val))=m.map (fun p=>(enc p.1,p.2))∧(∀x∈es.toList,x.born<since)∧since≤clock∧(es.toList.map (·.born)).Nodup ∧
    (leftOf es seen).toList.map (fun e=>(e.key,e.val))=left.map (fun p=>(enc p.1,p.2))∧(∀p,cur=some p→∃e∈es.toList,seen.back?=some e.born∧e.key=enc p.1∧e.val=p.2)
section it
variable {κ:Type}{enc:κ→Value}{w w':World}{r b:Nat}{m left:List (κ×Value)}{cur:Option (κ×Value)}
theorem ItB.lt(h:ItB enc w r b m left cur):r<w.heap.size∧b<w.heap.size:=by
  obtain ⟨es,cl,si,se,h0,h1,h2,_⟩:=h;exact ⟨(Array.getElem?_eq_some_iff.1 h2).1,(Array.getElem?_eq_some_iff.1 h1).1⟩
theorem ItB.keep{K:Nat→Prop}(h:ItB enc w r b m left cur)(c:Chg K w w')(hr:¬K r)(hb:¬K b):ItB enc w' r b m left cur:=by
  have hl:=h.lt;obtain ⟨es,cl,si,se,h0,h1,h2,hh⟩:=h;exact ⟨es,cl,si,se,h0,(c.keep b hl.2 hb).trans h1,(c.keep r hl.1 hr).trans h2,hh⟩
theorem ItB.ext(h:ItB enc w r b m left cur)(c:Ext w w'):ItB enc w' r b m left cur:=h.keep c id id
theorem ItB.ne_blk{b':Nat}{cs:Array Value}{t:TypeId}(h:ItB enc w r b m left cur)(h':Blk w b' cs t):r≠b'∧b≠b':=by
  obtain ⟨es,cl,si,se,h0,h1,h2,_⟩:=h;unfold Blk at h';constructor<;>(intro e;subst e);rw [h2] at h';simp at h';rw [h1] at h';simp at h'
theorem ItB.ne_map{κ':Type}{enc':κ'→Value}{b':Nat}{m':List (κ'×Value)}(h:ItB enc w r b m left cur)(h':MapB enc' w b' m'):r≠b':=by
  obtain ⟨es,cl,si,se,h0,h1,h2,_⟩:=h;obtain ⟨es',c',h',_⟩:=h';intro e;subst e;rw [h2] at h';simp at h'
theorem ItB.ne_own{e:TypeId}{sz n:Nat}{v:Value}{xs:List Value}(h:ItB enc w r b m left cur)(h':Vx.Own w e sz v n xs):∀k,v.ownBlock=some k→k≠r∧k≠b:=by
  intro k hk;rcases h'.form with ⟨e1,_⟩|⟨g,c,cu,e1,hb,_⟩;rw [e1] at hk;simp [Value.ownBlock] at hk;rw [e1] at hk;simp [Value.ownBlock] at hk;subst hk;have:=h.ne_blk hb;exact ⟨fun e=>this.1 e.symm,fun e=>this.2 e.symm⟩
theorem chg_setBl{K:Nat→Prop}(w:World){b:Nat}(o:Obj)(hk:K b):Chg K w (ChangeMaps.setBlock w b o) :=
  ⟨rfl,rfl,rfl,by simp [ChangeMaps.setBlock],fun x _ hn=>by
    unfold ChangeMaps.setBlock;simp only;have hne:b≠x:=fun e=>hn (by rw [←e];exact hk)
    rw [Array.getElem?_setIfInBounds_ne hne]⟩
theorem left_push{es:List MapEntry}(hn:(es.map (·.born)).Nodup){seen:Array Nat}{e:MapEntry}(he:e∈es.filter fun e=>!seen.contains e.born) :
    (es.filter fun e=>!seen.contains e.born).Perm (e::es.filter fun x=>!(seen.push e.born).contains x.born):=by
  induction es with
  | nil=>simp at he
  | cons x r ih =>
    simp only [List.map_cons,List.nodup_cons] at hn;by_cases hx:x=e;subst hx
    have hc:(!seen.contains x.born)=true:=by
      have:=List.mem_filter.1 he;exact this.2
    rw [List.filter_cons,if_pos hc,List.filter_cons,if_neg (by simp [contains_push])];refine List.Perm.cons _ (List.Perm.of_eq (List.filter_congr fun y hy=>?_));have:y.born≠x.born:=fun h=>hn.1 (List.mem_map.2 ⟨y,hy,h⟩)
    simp [contains_push,this]
    have her:e∈r.filter fun e=>!seen.contains e.born:=by
      rw [List.mem_filter] at he ⊢;exact ⟨(List.mem_cons.1 he.1).resolve_left (Ne.symm hx),he.2⟩
    have hb:x.born≠e.born:=fun h=>hn.1 (List.mem_map.2 ⟨e,(List.mem_filter.1 her).1,h.symm⟩)
    have h1:(!(seen.push e.born).contains x.born) = !seen.contains x.born:=by simp [contains_push,hb]
    rw [List.filter_cons,List.filter_cons (p:=fun y:MapEntry=>!(seen.push e.born).contains y.born) (x:=x),h1]
    split
    exact ((ih hn.2 her).cons x).trans (List.Perm.swap ..);exact ih hn.2 her
theorem perm_map_inv{α β:Type}{f:α→β} : ∀ {l:List α} {b:β} {k:List β},(l.map f).Perm (b::k)→∃a r,l.Perm (a::r)∧f a=b∧(r.map f).Perm k:=by
  intro l b k h;have hm:b∈l.map f:=h.mem_iff.2 (by simp);obtain ⟨a,ha,rfl⟩:=List.mem_map.1 hm;obtain ⟨s,t,rfl⟩:=List.append_of_mem ha;refine ⟨a,s++t,List.perm_middle,rfl,?_⟩;have h2:(List.map f (s++a::t)).Perm (f a::List.map f (s++t)):=(List.perm_middle.map f);exact (h2.symm.trans h).cons_inv
end it
section ox
variable {P:Program}{ρ:Operand→Value}{w:World}{K:Value→World→Prop}{dst:Option Tmp}{ty:TypeId}{pos:String}{af:Array Edge}{gd:Option (Nat×Bool)}
variable {κ:Type}{enc:κ→Value}{kt e:TypeId}{t:TypeId}
theorem ox_rangeM{x:Operand}{b:Nat}{m:List (κ×Value)}(hu:P.underlying t=some (.map kt e))(hm:MapB enc w b m)(hx:ρ x = .map (some b))
    (h:∀w',Ext w w'→w'.heap.size=w.heap.size+1→ItB enc w' w.heap.size b m m none→K (.pointer (some ⟨w.heap.size,0,none⟩)) w'):OpX P ⟨dst,.range t x,ty,pos,af,gd⟩ ρ w K:=by
  obtain ⟨es,cl,h1,h2,_,h3,h4⟩:=hm;have hlt:b<w.heap.size:=(Array.getElem?_eq_some_iff.1 h1).1;refine ox_val (v:=.pointer (some ⟨w.heap.size,0,none⟩)) (w':=w.alloc (.mapIter (some b) cl #[] cl)) ?_ (h _ (chg_alloc _ _ _) (World.size_alloc _ _) ⟨es,cl,cl,#[],by omega,?_,heap_alloc_new w _,h2,h3,Nat.le_refl _,h4,?_,fun p hp=>by cases hp⟩);simp [execOp,hx,Instr.range,Sem.run_bind,run_underlying hu,Result.andThen,getObj,Sem.run,h1,newObj];rw [Below.heap_alloc w _ b hlt];exact h1;have:leftOf es #[]=es:=by unfold leftOf;simp
  rw [this];exact h2
theorem ox_nextM{x:Operand}{r b:Nat}{m left:List (κ×Value)}{cur:Option (κ×Value)}(hi:ItB enc w r b m left cur)(hx:ρ x = .pointer (some ⟨r,0,none⟩))(h0:left = []→K (.tuple #[.bool false]) w)
    (h1:∀(p:κ×Value) (k' v':Value) (left':List (κ×Value)) (w':World),left.Perm (p::left')→k'=enc p.1→v'=p.2→Chg1 r w w'→w'.heap.size=w.heap.size→ItB enc w' r b m left' (some p)→K (.tuple #[.bool true,k',v']) w'):OpX P ⟨dst,.next x false,ty,pos,af,gd⟩ ρ w K:=by
  obtain ⟨es,cl,si,se,a0,a1,a2,a3,a4,a5,a6,a7,a8⟩:=hi;rcases run_next_at (P:=P) w ty r b si cl se es cl a2 a1 a4 a5 with ⟨c1,c2⟩|⟨e,c1,w1,c2,c3⟩
  have hl:left = []:=by
    have:(leftOf es se).toList = []:=List.eq_nil_of_length_eq_zero (by simpa using c1);rw [this] at a7;exact List.map_eq_nil_iff.1 a7.symm
  exact ox_val (v:=.tuple #[.bool false]) (w':=w) (by simp only [execOp,hx];rw [Sem.run_bind,c2];rfl) (h0 hl);have hlt:r<w.heap.size:=(Array.getElem?_eq_some_iff.1 a2).1;have hme:=mem_left c1
  have hperm:((leftOf es se).toList).Perm (e::(leftOf es (se.push e.born)).toList):=by
    have:=left_push a6 (seen:=se) (e:=e) (by unfold leftOf at c1;simpa using c1);unfold leftOf;simpa using this
  have h2:=hperm.map (fun e=>(e.key,e.val));rw [a7,List.map_cons] at h2;obtain ⟨p,left',q1,q2,q3⟩:=perm_map_inv h2;simp only [Prod.mk.injEq] at q2
  obtain ⟨l2,q4,q5⟩:∃l2:List (κ×Value),l2.Perm left'∧(leftOf es (se.push e.born)).toList.map (fun e=>(e.key,e.val))=l2.map (fun p=>(enc p.1,p.2)):=by
    have gen:∀ {α β:Type} (f:α→β) {k:List β} {m:List β},m.Perm k→∀l:List α,m=l.map f→∃l2:List α,l2.Perm l∧k=l2.map f:=by
      intro α β f k m hp
      induction hp with
      | nil=>intro l hl;exact ⟨[],by rw [List.map_eq_nil_iff.1 hl.symm],rfl⟩
      | cons x _ ih =>
        intro l hl
        cases l with
        | nil=>cases hl
        | cons y l =>
          simp only [List.map_cons,List.cons.injEq] at hl;obtain ⟨l2,i1,i2⟩:=ih l hl.2;exact ⟨y::l2,i1.cons y,by rw [List.map_cons,←i2,hl.1]⟩
      | swap x y k =>
        intro l hl
        cases l with
        | nil=>cases hl
        | cons u l =>
          cases l with
          | nil=>simp at hl
          | cons u2 l =>
            simp only [List.map_cons,List.cons.injEq] at hl;exact ⟨u2::u::l,List.Perm.swap ..,by rw [List.map_cons,List.map_cons,←hl.1,←hl.2.1,hl.2.2]⟩
      | trans _ _ ih1 ih2 =>
        intro l hl;obtain ⟨l2,i1,i2⟩:=ih1 l hl;obtain ⟨l3,j1,j2⟩:=ih2 l2 i2;exact ⟨l3,j1.trans i1,j2⟩
    exact gen _ q3 left' rfl
  have hc:Chg1 r w (ChangeMaps.setBlock w1 r (.mapIter (some b) si (se.push e.born) cl)):=by
    rcases c2 with rfl|rfl;exact chg_setBl (K:=fun x=>x=r) _ _ rfl;exact (chg_drew (fun x=>x=r) w 1).trans (chg_setBl (K:=fun x=>x=r) _ _ rfl) fun x hx _=>hx
  have hsz:(ChangeMaps.setBlock w1 r (.mapIter (some b) si (se.push e.born) cl)).heap.size=w.heap.size:=by
    rcases c2 with rfl|rfl;simp [ChangeMaps.setBlock];show (w.heap.setIfInBounds r _).size=_;simp
  refine ox_val (v:=.tuple #[.bool true,e.key,e.val]) (w':=ChangeMaps.setBlock w1 r (.mapIter (some b) si (se.push e.born) cl)) (by simp only [execOp,hx];rw [Sem.run_bind,c3];rfl) ?_;refine h1 p e.key e.val l2 _ (q1.trans (q4.symm.cons p)) q2.1.symm q2.2.symm hc hsz ⟨es,cl,si,se.push e.born,a0,?_,?_,a3,a4,a5,a6,q5,fun p' hp'=>?_⟩;exact (hc.keep b (Array.getElem?_eq_some_iff.1 a1).1 (fun h=>a0 h.symm)).trans a1;rcases c2 with rfl|rfl;simp [ChangeMaps.setBlock,hlt];show (w.heap.setIfInBounds r _)[r]?=_;simp [hlt];cases hp';exact ⟨e,hme.1,Array.back?_push ..,q2.1.symm,q2.2.symm⟩
theorem ox_entryM{x:Operand}{r b:Nat}{m left:List (κ×Value)}{p:κ×Value}(hi:ItB enc w r b m left (some p))(hx:ρ x = .pointer (some ⟨r,0,none⟩))(h:K (.tuple #[enc p.1,p.2]) w):OpX P ⟨dst,.entry x,ty,pos,af,gd⟩ ρ w K:=by
  obtain ⟨es,cl,si,se,a0,a1,a2,a3,a4,a5,a6,a7,a8⟩:=hi;obtain ⟨e,b1,b2,b3,b4⟩:=a8 p rfl;have hf:es.find? (·.born == e.born)=some e:=by rw [←Array.find?_toList];exact find_born e es.toList a6 b1
  refine ox_val (v:=.tuple #[enc p.1,p.2]) (w':=w) ?_ h;simp [execOp,hx,Instr.entry,getObj,Sem.run_bind,Sem.run,a2,a1,Result.andThen,b2,hf,b3,b4]
theorem ox_lookupV1 [DecidableEq κ]{x ix:Operand}{b:Nat}{m:List (κ×Value)}{k:κ}{z v:Value}(hk:KeyT P kt enc)(hu:P.underlying t=some (.map kt e))(hz:zeroOf P e=some z)(hm:MapB enc w b m)(hx:ρ x = .map (some b))(hi:ρ ix=enc k)(hv:(lookM m k).getD z=v)(h:K v w) :
    OpX P ⟨dst,.lookup t x ix false,ty,pos,af,gd⟩ ρ w K:=by
  subst hv;exact ox_lookup hk hu hz hm hx hi h
end ox
end Go.Vx
