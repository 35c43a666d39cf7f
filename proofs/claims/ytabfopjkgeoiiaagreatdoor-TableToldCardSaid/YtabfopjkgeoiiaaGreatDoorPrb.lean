/-
  Part 2 of the proof: texts Vxc. No conditions.
-/
import Derived.Maps.AppendAt
import Derived.Test.YtabfopjkgeoiiaaGreatDoorPra
set_option linter.unusedVariables false
set_option linter.unusedSimpArgs false
set_option linter.unusedSectionVars false
set_option maxRecDepth 100000
set_option maxHeartbeats 4000000
namespace Go.Vx
open Go Go.RowKit
structure Chg(K:Nat→Prop)(w w':World):Prop where
  os:w'.os=w.os
  tape:w'.tape=w.tape
  output:w'.output=w.output
  size:w.heap.size≤w'.heap.size
  keep:∀b,b<w.heap.size→¬K b→w'.heap[b]?=w.heap[b]?
abbrev Ext(w w':World):Prop:=Chg (fun _=>False) w w'
abbrev Chg1(b:Nat)(w w':World):Prop:=Chg (fun x=>x=b) w w'
theorem Chg.refl(K:Nat→Prop)(w:World):Chg K w w:=⟨rfl,rfl,rfl,Nat.le_refl _,fun _ _ _=>rfl⟩
theorem Chg.mono{K K':Nat→Prop}{w w':World}(h:Chg K w w')(hk:∀x,x<w.heap.size→K x→K' x):Chg K' w w' :=
  ⟨h.os,h.tape,h.output,h.size,fun b hb hn=>h.keep b hb fun hx=>hn (hk b hb hx)⟩
theorem Ext.to{K:Nat→Prop}{w w':World}(h:Ext w w'):Chg K w w':=h.mono fun _ _ h=>h.elim
theorem Chg.trans{K K':Nat→Prop}{a b c:World}(h:Chg K a b)(k:Chg K' b c)(hs:∀x,K' x→x<a.heap.size→K x):Chg K a c :=
  ⟨k.os.trans h.os,k.tape.trans h.tape,k.output.trans h.output,Nat.le_trans h.size k.size,
   fun x hx hn=>(k.keep x (Nat.lt_of_lt_of_le hx h.size) fun hk=>hn (hs x hk hx)).trans (h.keep x hx hn)⟩
theorem Chg.ext{K:Nat→Prop}{a b c:World}(h:Chg K a b)(k:Ext b c):Chg K a c:=h.trans k fun _ h=>h.elim
theorem Ext.trans{a b c:World}(h:Ext a b)(k:Ext b c):Ext a c:=Chg.trans h k fun _ h _=>h
theorem Ext.chg1{a b c:World}{x:Nat}(h:Ext a b)(k:Chg1 x b c)(hx:a.heap.size≤x):Ext a c:=Chg.trans h k fun y hy hl=>by subst hy;omega
theorem Chg.chg1{K:Nat→Prop}{a b c:World}{x:Nat}(h:Chg K a b)(k:Chg1 x b c)(hx:K x∨a.heap.size≤x):Chg K a c:=Chg.trans h k fun y hy hl=>by
  subst hy;exact hx.resolve_right (by omega)
theorem Chg.cell{K:Nat→Prop}{w w':World}{p:Addr}{v:Value}(h:w.cell? p=some v)(c:Chg K w w')(hk:¬K p.block):w'.cell? p=some v :=
  (World.cell?_of_block (c.keep _ (World.block_lt_of_cell? w p h) hk)).trans h
theorem chg_alloc(K:Nat→Prop)(w:World)(o:Obj):Chg K w (w.alloc o):=⟨rfl,rfl,rfl,by rw [World.size_alloc];omega,fun b hb _=>Below.heap_alloc w o b hb⟩
theorem chg_setCell{K:Nat→Prop}(w:World)(p:Addr)(v:Value)(hk:K p.block):Chg K w (w.setCell p v) :=
  ⟨rfl,rfl,rfl,by simp [World.setCell],fun b _ hn=>Below.heap_setCell w p v b fun e=>hn (e ▸ hk)⟩
theorem chg_drew(K:Nat→Prop)(w:World)(n:Nat):Chg K w { w with drawn:=w.drawn+n }:=⟨rfl,rfl,rfl,Nat.le_refl _,fun _ _ _=>rfl⟩
theorem chg_grown{K:Nat→Prop}{w w':World}{row:Option Nat}(h:w.grownBy w' row)(hk:∀k,row=some k→K k):Chg K w w' :=
  ⟨h.os,h.tape,h.output,h.size,fun b hb hn=>h.block b hb fun e=>hn (hk b e.symm)⟩
theorem chg_putObj{K:Nat→Prop}(w:World)(b:Nat)(o:Obj)(hk:K b):Chg K w (w.putObj b o) :=
  ⟨rfl,rfl,rfl,by simp [World.putObj],fun x _ hn=>World.putObj_heap_other fun e=>hn (e ▸ hk)⟩
theorem Chg.below{K:Nat→Prop}{w w':World}(h:Chg K w w'){B:Nat}(hB:B≤w.heap.size)(hK:∀x,K x→B≤x):Below B w w' :=
  ⟨h.os,h.tape,h.output,h.size,fun b hb=>h.keep b (by omega) fun hk=>by have:=hK b hk;omega⟩
def Blk(w:World)(b:Nat)(cs:Array Value)(t:TypeId):Prop:=w.heap[b]?=some (.cells cs t (0,0))
theorem Blk.lt{w:World}{b:Nat}{cs:Array Value}{t:TypeId}(h:Blk w b cs t):b<w.heap.size:=(Array.getElem?_eq_some_iff.1 h).1
theorem Blk.keep{K:Nat→Prop}{w w':World}{b:Nat}{cs:Array Value}{t:TypeId}(h:Blk w b cs t)(c:Chg K w w')(hk:¬K b):Blk w' b cs t:=(c.keep b h.lt hk).trans h
theorem Blk.ext{w w':World}{b:Nat}{cs:Array Value}{t:TypeId}(h:Blk w b cs t)(c:Ext w w'):Blk w' b cs t:=h.keep c id
theorem Blk.cell{w:World}{b:Nat}{cs:Array Value}{t:TypeId}(h:Blk w b cs t){i:Nat}{v:Value}(hi:cs[i]?=some v):w.cell? ⟨b,i,none⟩=some v:=by
  unfold Blk at h;simp [World.cell?,h,hi]
theorem Blk.frozen{w:World}{b:Nat}{cs:Array Value}{t:TypeId}(h:Blk w b cs t)(i:Nat):w.frozen? ⟨b,i,none⟩=false:=by
  unfold Blk at h;simp [World.frozen?,h]
theorem Blk.same{w:World}{b:Nat}{cs cs':Array Value}{t t':TypeId}(h:Blk w b cs t)(h':Blk w b cs' t'):cs=cs'∧t=t':=by
  unfold Blk at *;rw [h] at h';simp at h';exact h'
theorem Blk.ne{w:World}{b b':Nat}{cs cs':Array Value}{t t':TypeId}(h:Blk w b cs t)(h':Blk w b' cs' t')(ht:t≠t'):b≠b':=fun e=>by subst e;exact ht (h.same h').2
theorem blk_alloc(w:World)(cs:Array Value)(t:TypeId):Blk (w.alloc (.cells cs t)) w.heap.size cs t:=heap_alloc_new w _
theorem blk_set{w:World}{b:Nat}{cs:Array Value}{t:TypeId}(h:Blk w b cs t)(i:Nat)(u:Value):Blk (w.setCell ⟨b,i,none⟩ u) b (cs.setIfInBounds i u) t:=by
  unfold Blk at *;simp [World.setCell,Array.getElem?_modify,h]
def setAll(cs:Array Value)(o:Nat):List Value→Array Value
  | []=>cs
  | v::vs=>setAll (cs.setIfInBounds o v) (o+1) vs
def CellsL(w:World)(b o:Nat):List Value→Prop
  | []=>True
  | v::vs=>w.cell? ⟨b,o,none⟩=some v∧CellsL w b (o+1) vs
def zeroOf(P:Program)(t:TypeId):Option Value:=(P.info? t).bind (·.zero)
def sizeT(P:Program)(t:TypeId):Option Nat:=(P.info? t).map (·.size)
def isAggT(P:Program)(t:TypeId):Option Bool:=(P.underlying t).map fun | .struct _ | .array _ _=>true | _=>false
def fieldT(P:Program)(t:TypeId)(i:Nat):Option Nat :=
  match P.underlying t with
  | some (.struct fs)=>(fs[i]?).bind fun f=>match P.info? f.type with | some j=>if j.size=0 then none else some f.offset | none=>none
  | _=>none
def placesT(P:Program)(t:TypeId):Option (Array (Nat×Nat)) :=
  match P.underlying t with
  | some (.struct fs)=>fs.mapM fun f=>(sizeT P f.type).map fun s=>(f.offset,s)
  | _=>none
def sliceT(P:Program)(t:TypeId):Option (TypeId×Nat×Nat×Value) :=
  match P.underlying t with
  | some (.slice e)=>(P.info? e).bind fun i=>i.zero.map fun z=>(e,i.size,i.bytes,z)
  | _=>none
def plainF(P : Program)(g : FuncId) : Bool := match P.funcs[g]? with | some fn => fn.name != "runtime.NumGoroutine" && fn.body.isSome | none => false
theorem run_zero{P:Program}{t:TypeId}{z:Value}(h:zeroOf P t=some z)(w:World):(zeroValue t).run P w = .ok z w:=by
  unfold zeroOf at h
  cases hi:P.info? t with
  | none=>rw [hi] at h;cases h
  | some i=>rw [hi] at h;simp at h;simp [zeroValue,typeInfo,hi,h]
theorem run_size{P:Program}{t:TypeId}{n:Nat}(h:sizeT P t=some n)(w:World):(sizeOf t).run P w = .ok n w:=by
  unfold sizeT at h
  cases hi:P.info? t with
  | none=>rw [hi] at h;cases h
  | some i=>rw [hi] at h;simp at h;simp [sizeOf,typeInfo,hi,h]
theorem run_isAgg{P:Program}{t:TypeId}{b:Bool}(h:isAggT P t=some b)(w:World):(isAgg t).run P w = .ok b w:=by
  unfold isAggT at h
  cases hi:P.underlying t with
  | none=>rw [hi] at h;cases h
  | some d =>
    rw [hi] at h;simp at h;simp only [isAgg,run_underlying hi,Sem.run_bind,Result.andThen];cases d<;>simp_all
section ox
variable {P:Program}{ρ:Operand→Value}{w:World}{K:Value→World→Prop}{dst:Option Tmp}{ty:TypeId}{pos:String}{af:Array Edge}{gd:Option (Nat×Bool)}
theorem ox_val{o:Oper}{v:Value}{w':World}(hr:(execOp ρ o).run P w = .ok (.value v) w')(h:K v w'):OpX P o ρ w K:=by unfold OpX;rw [hr];exact h
theorem ox_skipr{o:Oper}{w':World}(hr:(execOp ρ o).run P w = .ok .skip w')(h:K undef w'):OpX P o ρ w K:=by unfold OpX;rw [hr];exact h
theorem ox_move{x:Operand}{v:Value}(hx:ρ x=v)(h:K v w):OpX P ⟨dst,.move x,ty,pos,af,gd⟩ ρ w K:=ox_val (by simp [execOp,hx]) h
theorem ox_assign{x:Operand}{v:Value}(hx:ρ x=v)(h:K v w):OpX P ⟨dst,.assign x,ty,pos,af,gd⟩ ρ w K:=ox_val (by simp [execOp,hx]) h
theorem ox_pick_t{c x y:Operand}{v:Value}(hc:ρ c = .bool true)(hx:ρ x=v)(h:K v w):OpX P ⟨dst,.pick c x y,ty,pos,af,gd⟩ ρ w K:=ox_val (by simp [execOp,hc,hx,asBool]) h
theorem ox_pick_f{c x y:Operand}{v:Value}(hc:ρ c = .bool false)(hy:ρ y=v)(h:K v w):OpX P ⟨dst,.pick c x y,ty,pos,af,gd⟩ ρ w K:=ox_val (by simp [execOp,hc,hy,asBool]) h
theorem ox_nilCheck{x:Operand}{p:Addr}(hx:ρ x = .pointer (some p))(h:K (.pointer (some p)) w):OpX P ⟨dst,.nilCheck x,ty,pos,af,gd⟩ ρ w K:=ox_val (by simp [execOp,hx]) h
theorem ox_fieldAddr{x:Operand}{t:TypeId}{i b o off:Nat}(hf:fieldT P t i=some off)(hx:ρ x = .pointer (some ⟨b,o,none⟩))(h:K (.pointer (some ⟨b,o+off,none⟩)) w) :
    OpX P ⟨dst,.fieldAddr t x i,ty,pos,af,gd⟩ ρ w K:=by
  unfold fieldT at hf
  cases hu:P.underlying t with
  | none=>rw [hu] at hf;cases hf
  | some d =>
    rw [hu] at hf;cases d<;>try (cases hf;done)
    rename_i fs;simp only at hf
    cases hi:fs[i]? with
    | none=>rw [hi] at hf;cases hf
    | some f =>
      rw [hi] at hf;simp only [Option.bind_some] at hf
      cases hj:P.info? f.type with
      | none=>rw [hj] at hf;cases hf
      | some j =>
        rw [hj] at hf;simp only at hf
        split at hf
        cases hf;rename_i hs;obtain rfl:f.offset=off:=by simpa using hf
        refine ox_val (v:=.pointer (some ⟨b,o+f.offset,none⟩)) (w':=w) ?_ h
        have ha:(⟨b,o,none⟩:Addr).add f.offset=⟨b,o+f.offset,none⟩:=by
          unfold Addr.add;split;rename_i h0;simp [h0]
          rfl
        simp [execOp,hx,Instr.fieldAt,run_underlying hu,hi,Instr.sureAddr,fieldPlace,sizeOf,typeInfo,hj,hs,ha]
theorem ox_load{x:Operand}{t:TypeId}{p:Addr}{v:Value}(ha:isAggT P t=some false)(hx:ρ x = .pointer (some p))(hc:w.cell? p=some v)(h:K v w):OpX P ⟨dst,.load t x,ty,pos,af,gd⟩ ρ w K:=by
  refine ox_val (v:=v) (w':=w) ?_ h;simp [execOp,hx,Instr.loadAt,Instr.sureAddr,loadVar,Sem.run_bind,run_isAgg ha,Result.andThen,load,Sem.run,hc]
theorem run_loadCells{b:Nat} : ∀(vs:List Value) (o i:Nat) (acc:Array Value) ,CellsL w b (o+i) vs→(loadCellsFrom ⟨b,o,none⟩ i vs.length acc).run P w = .ok (acc++vs.toArray) w
  | [],_,_,acc,_=>by simp [loadCellsFrom]
  | v::vs,o,i,acc,h=>by
    have ha:(⟨b,o,none⟩:Addr).add i=⟨b,o+i,none⟩:=by
      unfold Addr.add;split;rename_i h0;simp [h0]
      rfl
    have ih:=run_loadCells vs o (i+1) (acc.push v) (by have:=h.2;rwa [Nat.add_assoc] at this);simp only [List.length_cons,loadCellsFrom,Sem.run_bind,load,Sem.run,ha,h.1,Result.andThen,ih];simp
theorem ox_loadN{x:Operand}{t:TypeId}{b o n:Nat}{vs:List Value}(ha:isAggT P t=some true)(hs:sizeT P t=some n)(hx:ρ x = .pointer (some ⟨b,o,none⟩))(hn:vs.length=n)(hc:CellsL w b o vs)(h:K (.agg vs.toArray) w) :
    OpX P ⟨dst,.load t x,ty,pos,af,gd⟩ ρ w K:=by
  refine ox_val (v:=.agg vs.toArray) (w':=w) ?_ h;subst hn;have hl:=run_loadCells (P:=P) vs o 0 #[] hc;simp only [execOp,hx,Instr.loadAt,Instr.sureAddr,loadVar,Sem.run_bind,run_isAgg ha,Result.andThen,run_size hs,loadCells,Sem.run_pure,hl,if_true];simp
theorem run_storeCells{b:Nat}{t:TypeId} : ∀(vs:List Value) (o i:Nat) (w:World) (cs:Array Value),Blk w b cs t→o+i+vs.length≤cs.size→(∀u∈vs,u.oneCell'=true) →
    ∃w',(storeCells ⟨b,o,none⟩ vs i).run P w = .ok () w'∧Chg1 b w w'∧w'.heap.size=w.heap.size∧Blk w' b (setAll cs (o+i) vs) t
  | [],_,_,w,cs,h,_,_=>⟨w,by simp [storeCells],Chg.refl _ _,rfl,h⟩
  | v::vs,o,i,w,cs,h,hl,h1=>by
    have ha:(⟨b,o,none⟩:Addr).add i=⟨b,o+i,none⟩:=by
      unfold Addr.add;split;rename_i h0;simp [h0]
      rfl
    have hl':o+i+(vs.length+1)≤cs.size:=hl;obtain ⟨w',hr,hc,hsz,hb⟩:=run_storeCells vs o (i+1) (w.setCell ⟨b,o+i,none⟩ v) _ (blk_set h (o+i) v) (by rw [Array.size_setIfInBounds];omega) (fun u hu=>h1 u (List.mem_cons_of_mem _ hu));have hcell:w.cell? ⟨b,o+i,none⟩=some cs[o+i]:=h.cell (by rw [Array.getElem?_eq_getElem (by omega)]);refine ⟨w',?_,Chg.trans (chg_setCell w _ v rfl) hc (fun _ h _=>h),by rw [hsz];simp [World.setCell],hb⟩;simp only [storeCells,Sem.run_bind,ha];rw [run_store P w _ v _ (h1 v (List.mem_cons_self ..)),hcell];simp only [h.frozen]
    simpa [Result.andThen] using hr
theorem ox_store{x y:Operand}{t e:TypeId}{b o n:Nat}{v:Value}{vs:List Value}{cs:Array Value}(hs:sizeT P t=some n)(hx:ρ x = .pointer (some ⟨b,o,none⟩))(hy:ρ y=v)(hv:v.cells=vs.toArray)(hn:vs.length=n)
    (h1:vs.all Value.oneCell'=true) (hb:Blk w b cs e) (hr:o+n≤cs.size) (h:∀w',Chg1 b w w'→w'.heap.size=w.heap.size→Blk w' b (setAll cs o vs) e→K undef w') :
    OpX P ⟨dst,.store t x y,ty,pos,af,gd⟩ ρ w K:=by
  subst hn;obtain ⟨w',hrun,hc,hsz,hb'⟩:=run_storeCells (P:=P) vs o 0 w cs hb hr (by simpa using h1);refine ox_skipr (w':=w') ?_ (h w' hc hsz hb');simp [execOp,hx,hy,Instr.storeAt,Instr.sureAddr,storeVar,Sem.run_bind,Result.andThen,run_size hs,hv,hrun]
theorem ox_alloc{e:TypeId}{z:Value}(hz:zeroOf P e=some z)(h:∀w',Ext w w'→w'.heap.size=w.heap.size+1→Blk w' w.heap.size z.cells e→K (.pointer (some ⟨w.heap.size,0,none⟩)) w') :
    OpX P ⟨dst,.alloc e,ty,pos,af,gd⟩ ρ w K:=by
  refine ox_val (v:=.pointer (some ⟨w.heap.size,0,none⟩)) (w':=w.alloc (.cells z.cells e)) ?_ (h _ (chg_alloc _ _ _) (World.size_alloc _ _) (blk_alloc _ _ _));simp [execOp,Instr.alloc,Sem.run_bind,run_zero hz,Result.andThen,newVar,newRow,newObj,Sem.run]
theorem ox_box{e:TypeId}{x:Operand}{v:Value}(hx:ρ x=v)(h:∀w',Ext w w'→w'.heap.size=w.heap.size+1→Blk w' w.heap.size v.cells e→K (.pointer (some ⟨w.heap.size,0,none⟩)) w') :
    OpX P ⟨dst,.box e x,ty,pos,af,gd⟩ ρ w K:=by
  refine ox_val (v:=.pointer (some ⟨w.heap.size,0,none⟩)) (w':=w.alloc (.cells v.cells e)) ?_ (h _ (chg_alloc _ _ _) (World.size_alloc _ _) (blk_alloc _ _ _));simp [execOp,hx,Instr.box,Sem.run_bind,Result.andThen,newVar,newRow,newObj,Sem.run]
theorem ox_add{x y:Operand}{t u:TypeId}{k:IntKind}{a b:Int}(hx:ρ x = .int k a)(hy:ρ y = .int k b)(h:K (.int k (k.wrap (a+b))) w):OpX P ⟨dst,.binOp .add t x y u,ty,pos,af,gd⟩ ρ w K :=
  ox_val (by simp [execOp,hx,hy,binOp,eqGuard,Op.intArith]) h
theorem ox_sub{x y:Operand}{t u:TypeId}{k:IntKind}{a b:Int}(hx:ρ x = .int k a)(hy:ρ y = .int k b)(h:K (.int k (k.wrap (a-b))) w):OpX P ⟨dst,.binOp .sub t x y u,ty,pos,af,gd⟩ ρ w K :=
  ox_val (by simp [execOp,hx,hy,binOp,eqGuard,Op.intArith]) h
theorem wrap_in{a:Int}(h : -9223372036854775808≤a∧a≤9223372036854775807):IntKind.i64.wrap a=a:=by
  simp only [IntKind.wrap_i64];omega
theorem ox_add64{x y:Operand}{t u:TypeId}{a b:Int}(hx:ρ x = .int .i64 a)(hy:ρ y = .int .i64 b)(hr : -9223372036854775808≤a+b∧a+b≤9223372036854775807)(h:K (.int .i64 (a+b)) w) :
    OpX P ⟨dst,.binOp .add t x y u,ty,pos,af,gd⟩ ρ w K:=ox_add hx hy (by rw [wrap_in hr];exact h)
theorem ox_sub64{x y:Operand}{t u:TypeId}{a b:Int}(hx:ρ x = .int .i64 a)(hy:ρ y = .int .i64 b)(hr : -9223372036854775808≤a-b∧a-b≤9223372036854775807)(h:K (.int .i64 (a-b)) w) :
    OpX P ⟨dst,.binOp .sub t x y u,ty,pos,af,gd⟩ ρ w K:=ox_sub hx hy (by rw [wrap_in hr];exact h)
theorem ox_lss{x y:Operand}{t u:TypeId}{k:IntKind}{a b:Int}(hx:ρ x = .int k a)(hy:ρ y = .int k b)(h:K (.bool (decide (a<b))) w):OpX P ⟨dst,.binOp .lss t x y u,ty,pos,af,gd⟩ ρ w K :=
  ox_val (by simp [execOp,hx,hy,binOp,eqGuard,Op.intCmp]) h
theorem ox_leq{x y:Operand}{t u:TypeId}{k:IntKind}{a b:Int}(hx:ρ x = .int k a)(hy:ρ y = .int k b)(h:K (.bool (decide (a≤b))) w):OpX P ⟨dst,.binOp .leq t x y u,ty,pos,af,gd⟩ ρ w K :=
  ox_val (by simp [execOp,hx,hy,binOp,eqGuard,Op.intCmp]) h
theorem ox_gtr{x y:Operand}{t u:TypeId}{k:IntKind}{a b:Int}(hx:ρ x = .int k a)(hy:ρ y = .int k b)(h:K (.bool (decide (b<a))) w):OpX P ⟨dst,.binOp .gtr t x y u,ty,pos,af,gd⟩ ρ w K :=
  ox_val (by simp [execOp,hx,hy,binOp,eqGuard,Op.intCmp]) h
theorem ox_geq{x y:Operand}{t u:TypeId}{k:IntKind}{a b:Int}(hx:ρ x = .int k a)(hy:ρ y = .int k b)(h:K (.bool (decide (b≤a))) w):OpX P ⟨dst,.binOp .geq t x y u,ty,pos,af,gd⟩ ρ w K :=
  ox_val (by simp [execOp,hx,hy,binOp,eqGuard,Op.intCmp]) h
theorem ox_eql{x y:Operand}{t u:TypeId}{k:IntKind}{a b:Int}(hx:ρ x = .int k a)(hy:ρ y = .int k b)(h:K (.bool (decide (a=b))) w):OpX P ⟨dst,.binOp .eql t x y u,ty,pos,af,gd⟩ ρ w K :=
  ox_val (v:=.bool (decide (a=b))) (w':=w) (by simp [execOp,hx,hy,binOp,eqGuard,Op.intCmp];rfl) h
theorem ox_neq{x y:Operand}{t u:TypeId}{k:IntKind}{a b:Int}(hx:ρ x = .int k a)(hy:ρ y = .int k b)(h:K (.bool (decide (a≠b))) w):OpX P ⟨dst,.binOp .neq t x y u,ty,pos,af,gd⟩ ρ w K :=
  ox_val (v:=.bool (decide (a≠b))) (w':=w) (by simp [execOp,hx,hy,binOp,eqGuard,Op.intCmp,bne];rfl) h
theorem ox_not{x:Operand}{t:TypeId}{b:Bool}(hx:ρ x = .bool b)(h:K (.bool (!b)) w):OpX P ⟨dst,.unOp .not t x,ty,pos,af,gd⟩ ρ w K :=
  ox_val (by simp [execOp,hx,Op.unary]) h
theorem run_equalIn_ptr(d:Nat){t e:TypeId}(hu:P.underlying t=some (.pointer e))(p q:Option Addr)(hpq:p=none∨q=none):(Op.equalIn (d+1) t (.pointer p) (.pointer q)).run P w = .ok (decide (p=q)) w:=by
  unfold Op.equalIn;simp only [Sem.run_bind,run_underlying hu,Result.andThen];rcases hpq with rfl|rfl;cases q<;>simp;cases p<;>simp
theorem run_equal_ptr{t e:TypeId}(hu:P.underlying t=some (.pointer e))(p q:Option Addr)(hpq:p=none∨q=none):(Op.equal t (.pointer p) (.pointer q)).run P w = .ok (decide (p=q)) w :=
  run_equalIn_ptr 9999 hu p q hpq
theorem ox_eqlNil{x y:Operand}{t e u:TypeId}{p q:Option Addr}(hu:P.underlying t=some (.pointer e))(hx:ρ x = .pointer p)(hy:ρ y = .pointer q)(hpq:p=none∨q=none)(h:K (.bool (decide (p=q))) w) :
    OpX P ⟨dst,.binOp .eql t x y u,ty,pos,af,gd⟩ ρ w K :=
  ox_val (v:=.bool (decide (p=q))) (w':=w) (by simp [execOp,hx,hy,eqGuard,binOp,Sem.run_bind,run_equal_ptr hu p q hpq,Result.andThen]) h
theorem run_call{c:Call}{g:FuncId}{first cap:Array Value}{f:Operand}(hp:plainF P g=true)(hc:c.callee = .value f)(hf:ρ f = .func (.func g) first cap) :
    (execOp ρ ⟨dst,.call c,ty,pos,af,gd⟩).run P w = .ok (.enter g (first++c.args.map ρ++cap)) w:=by
  unfold plainF at hp
  cases hg:P.funcs[g]? with
  | none=>rw [hg] at hp;cases hp
  | some fn =>
    rw [hg] at hp;simp only [Bool.and_eq_true,bne_iff_ne,ne_eq] at hp;obtain ⟨bd,hb⟩:=Option.isSome_iff_exists.1 hp.2;simp [execOp,resolve,hc,hf,Deferred.ofValue,invoke,callFunc,program,Sem.run_bind,Sem.run,Result.andThen,hg,hp.1,hb]
theorem ox_call{c:Call}{g:FuncId}{first cap:Array Value}{f:Operand}(hp:plainF P g=true)(hc:c.callee = .value f)(hf:ρ f = .func (.func g) first cap){args:Array Value}(ha:first++c.args.map ρ++cap=args)
    (h:Calls P g args w (Ret K)):OpX P ⟨dst,.call c,ty,pos,af,gd⟩ ρ w K:=by
  unfold OpX;rw [run_call hp hc hf,ha];exact h
theorem ox_makeFunc{fn:Fn}{first cap:Array Operand}{fs cs:Array Value}(h1:first.map ρ=fs)(h2:cap.map ρ=cs)(h:K (.func fn fs cs) w):OpX P ⟨dst,.makeFunc fn first cap,ty,pos,af,gd⟩ ρ w K :=
  ox_val (by simp [execOp,Instr.makeFunc,h1,h2]) h
theorem ox_extract{x:Operand}{i:Nat}{vs:Array Value}{v:Value}(hx:ρ x = .tuple vs)(hi:vs[i]?=some v)(h:K v w):OpX P ⟨dst,.extract x i,ty,pos,af,gd⟩ ρ w K :=
  ox_val (by simp [execOp,hx,Instr.extract,hi]) h
end ox
end Go.Vx
