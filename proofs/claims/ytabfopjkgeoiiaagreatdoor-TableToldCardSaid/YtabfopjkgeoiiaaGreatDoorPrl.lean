/-
  Part 12 of the proof: texts Sw Ya. No conditions.
-/
import Derived.Sort.Grow
import Derived.Deep.Draws
import Derived.Test.YtabfopjkgeoiiaaGreatDoorRows
import Derived.Test.YtabfopjkgeoiiaaGreatDoorPrg
import Derived.Test.YtabfopjkgeoiiaaGreatDoorPrh
import Derived.Test.YtabfopjkgeoiiaaGreatDoorPri
set_option linter.unusedVariables false
set_option linter.unusedSimpArgs false
set_option linter.unusedSectionVars false
set_option maxRecDepth 100000
set_option maxHeartbeats 4000000
namespace Go.Proofs.YtabfopjkgeoiiaaGreatDoor
open Go Go.RowKit Go.Vx
def cmpI(x y:Int):Int:=if x<y then -1 else if y<x then 1 else 0
def orL:List Int→Int
  | []=>0
  | x::l=>if x≠0 then x else orL l
theorem orL_hit{l:List Int}{i:Nat}{x:Int}(h:l[i]?=some x)(e:x≠0):orL (l.drop i)=x:=by rw [drop_get h,orL,if_pos e]
theorem orL_next{l:List Int}{i:Nat}{x:Int}(h:l[i]?=some x)(e:¬x≠0):orL (l.drop i)=orL (l.drop (i+1)):=by rw [drop_get h,orL,if_neg e]
def cmpItm(x y:Itm):Int:=orL [cmpI x.p y.p,cmpI x.dot y.dot]
def cmpSym(x y:Sym):Int:=orL [cmpI x.kind y.kind,cmpI x.n y.n]
def Gr(w w':World):Prop:=∃q os,w'=Sort.grow (w.drewN q) os
theorem Gr.refl(w:World):Gr w w:=⟨0,#[],by simp [World.drewN,Sort.grow]⟩
theorem Gr.trans{a b c:World}(h:Gr a b)(k:Gr b c):Gr a c:=by
  obtain ⟨q,os,rfl⟩:=h;obtain ⟨q',os',rfl⟩:=k;exact ⟨q+q',os++os',by simp [World.drewN,Sort.grow,Nat.add_assoc,Array.append_assoc]⟩
theorem Gr.alloc(w:World)(o:Obj):Gr w (w.alloc o):=⟨0,#[o],by rw [Sort.alloc_eq_grow];rfl⟩
section
variable {P:Program}{ρ:Operand→Value}{w:World}{K:Value→World→Prop}{dst:Option Tmp}{ty:TypeId}{pos:String}{af:Array Edge}{gd:Option (Nat×Bool)}
theorem ox_boxG{e:TypeId}{x:Operand}{v:Value}(hx:ρ x=v)(h:∀w',Gr w w'→Ext w w'→w'.heap.size=w.heap.size+1→Blk w' w.heap.size v.cells e→K (.pointer (some ⟨w.heap.size,0,none⟩)) w') :
    OpX P ⟨dst,.box e x,ty,pos,af,gd⟩ ρ w K:=by
  refine ox_val (v:=.pointer (some ⟨w.heap.size,0,none⟩)) (w':=w.alloc (.cells v.cells e)) ?_ (h _ (Gr.alloc _ _) (chg_alloc _ _ _) (World.size_alloc _ _) (blk_alloc _ _ _));simp [execOp,hx,Instr.box,Sem.run_bind,Result.andThen,newVar,newRow,newObj,Sem.run]
theorem ox_mkSliceG{t e:TypeId}{sz by_ n:Nat}{z:Value}{parts:Array (Nat×Operand)}{ps:List (Nat×Value)}{cs:Array Value}{zs:Array Value}(ht:sliceT P t=some (e,sz,by_,z))(hps:parts.toList.map (fun p=>(p.1,ρ p.2))=ps)(hn:n*sz≤16777216)
    (hzs:((Array.range (n*sz)).map fun i=>(if n*sz=0 then #[] else z.cells)[i % (if n*sz=0 then #[] else z.cells).size]!)=zs)
    (hf:Instr.fill (fun i=>some (i*sz,sz)) zs ps=some cs)
    (h:∀w',Gr w w'→Ext w w'→w'.heap.size=w.heap.size+1→Blk w' w.heap.size cs e→K (.slice (some ⟨w.heap.size,0,none⟩) n n) w'):OpX P ⟨dst,.buildSlice t n parts,ty,pos,af,gd⟩ ρ w K:=by
  have hps:(parts.map fun (i,x)=>(i,ρ x)).toList=ps:=by rw [Array.toList_map];exact hps
  rw [←hzs] at hf;obtain ⟨hu,i,hi,hz,hs,hby⟩:=slice_of ht;refine ox_val (v:=.slice (some ⟨w.heap.size,0,none⟩) n n) (w':=w.alloc (.cells cs e)) ?_ (h _ (Gr.alloc _ _) (chg_alloc _ _ _) (World.size_alloc _ _) (blk_alloc _ _ _));have hzo:zeroOf P e=some z:=by unfold zeroOf;rw [hi];exact hz
  have hso:sizeT P e=some sz:=by unfold sizeT;rw [hi];simp [hs]
  by_cases h0:n*sz=0;simp only [h0,if_true] at hf;simp only [execOp,Instr.buildSlice,Sem.run_bind,run_underlying hu,Result.andThen,run_size hso,h0,if_true,Sem.run_pure,hps];have hgt:¬(0 > 2 ^ 24):=by omega
  simp only [hgt,if_false];rw [Sem.run_bind];simp only [Sem.run_pure,Result.andThen];rw [hf];simp [newRow,newObj,Sem.run,Sem.run_bind];simp only [h0,if_false] at hf;simp only [execOp,Instr.buildSlice,Sem.run_bind,run_underlying hu,Result.andThen,run_size hso,h0,if_false,run_zero hzo,hps];have hgt:¬(n*sz > 2 ^ 24):=by omega
  simp only [hgt,if_false];rw [Sem.run_bind,run_zero hzo];simp only [Result.andThen];rw [Sem.run_bind];simp only [Sem.run_pure,Result.andThen];rw [hf];simp [newRow,newObj,Sem.run,Sem.run_bind]
end
theorem xc_regionG{P:Program}{r:Option Nat}{n:Nat}{Q:QX}{f:Nat→Value}{ds:List Deferred}{w:World}{id:Nat}{ops:Array Oper}(Z:List Nat)(S:World→Prop)(hm:P.follows .mixedOrders=true)
    (h:∀w',Gr w w'→Ext w w'→w'.heap.size=w.heap.size→XD P n .any ops Z S (fun f w=>Q .normal f ds w) ops.size (Array.replicate ops.size false) f w'):XC P r n (.region id ops true) Q f ds w :=
  xc_regionD Z S hm fun w' hw=>h w' (by subst hw;exact ⟨1,#[],by rw [Sort.grow_empty];rfl⟩) (by subst hw;exact chg_drew _ w 1) (by subst hw;rfl)
instance pf_188:PlF Tryz.prog 188 where
instance pf_199:PlF Tryz.prog 199 where
instance pf_205:PlF Tryz.prog 205 where
theorem isNaN_calls(x:Int)(w:World)  :
    Calls Tryz.prog 205 #[(.int .i64 x)] w (Ret (fun v w'=>v = .bool false∧w=w')):=by
 refine calls_y (n:=6) Tryz.func205 ?_;refine go ?_;refine y_r1 ?_;exact ⟨congrArg Value.bool (by simp),rfl⟩
theorem compare_calls(x y:Int)(w:World)  :
    Calls Tryz.prog 188 #[(.int .i64 x),(.int .i64 y)] w (Ret (fun v w'=>v = .int .i64 (cmpI x y)∧w=w')):=by
 refine calls_y (n:=20) Tryz.func188 ?_;refine go ?_;refine yOp (ox_callE (al:=[(.int .i64 x)]) pf_205.h rfl (ret_mono (isNaN_calls x w) ?_));rintro _ _ ⟨rfl,rfl⟩;refine go ?_;refine yOp (ox_callE (al:=[(.int .i64 y)]) pf_205.h rfl (ret_mono (isNaN_calls y w) ?_));rintro _ _ ⟨rfl,rfl⟩;refine go ?_;refine y_if (fun h1=>?_) (fun h1=>?_);refine go ?_;refine y_r1 ?_;exact ⟨congrArg (Value.int .i64) (by unfold cmpI;split<;>first | rfl | omega | (split<;>first | rfl | omega)),rfl⟩;refine go ?_;refine y_if (fun h2=>?_) (fun h2=>?_);refine go ?_;refine y_r1 ?_;exact ⟨congrArg (Value.int .i64) (by unfold cmpI;split<;>first | rfl | omega | (split<;>first | rfl | omega)),rfl⟩;refine go ?_;refine y_r1 ?_;exact ⟨congrArg (Value.int .i64) (by unfold cmpI;split<;>first | rfl | omega | (split<;>first | rfl | omega)),rfl⟩
theorem or_calls(l:List Int)(A:Option Addr)(c:Nat)(w:World)(hA:RowA w A (l.flatMap ints))(hn:l.length≤8796093022208) :
    Calls Tryz.prog 199 #[(.slice A l.length c)] w (Ret (fun v w'=>v = .int .i64 (orL l)∧Gr w w'∧Ext w w')):=by
 refine calls_y (n:=18) Tryz.func199 ?_;refine go ?_;refine xc_loopN (fun m_ f_ Wx=>∃(i:Nat),m_=l.length-i∧(i≤l.length)∧(orL l=orL (l.drop i))∧f_ 3=(.int .i64 0)∧f_ 6=(.slice A l.length c)∧f_ 7=(.int .i64 (((l.length:Nat):Int)))∧f_ 8=(.int .i64 ((i:Nat)))∧(Gr w Wx)∧Ext w Wx) (l.length) ?_ ?_;exact ⟨0,(by omega),(by omega),(by simp),rfl,rfl,rfl,vW,(Gr.refl w),(Chg.refl _ _)⟩;rintro m_ f1 w1 ⟨i,hm_f1,hi,hq,g3_f1,g6_f1,g7_f1,g8_f1,t0_f1,x1⟩;have hx1:=x1.size;rw [←usf g3_f1,←usf g6_f1,←usf g7_f1,←usf g8_f1];refine go ?_;refine y_if (fun h1=>?_) (fun h1=>?_);obtain ⟨x_1,g_1,o_1,hx_1⟩:=row_may (A:=A) (cs:=ints) i ints_len (by decide) (RowA.ext hA x1);obtain ⟨hx_2,hA_1,hc_1⟩:=hx_1 oM;refine go ?_;refine y_ix i hA_1 ?_;refine y_lc (CellsL.at1 hc_1 0 rfl) ?_;refine go ?_;refine y_if (fun h2=>?_) (fun h2=>?_);refine go ?_;refine y_r1 ?_;exact ⟨congrArg (Value.int .i64) (by rw [hq,orL_hit hx_2 h2]),t0_f1,x1⟩;refine go ?_;refine y_add ?_;refine go ?_;exact ⟨rfl,l.length-(i+1),by omega,i+1,by omega,(by omega),(by rw [hq,orL_next hx_2 h2]),rfl,rfl,rfl,vW,t0_f1,x1⟩;refine go ?_;refine y_r1 ?_;exact ⟨congrArg (Value.int .i64) (by rw [hq,List.drop_of_length_le (by omega)]<;>rfl),t0_f1,x1⟩
theorem byItem_calls(x y:Itm)(w:World)  :
    Calls Tryz.prog 156 #[(.agg #[(.int .i64 x.p),(.int .i64 x.dot)]),(.agg #[(.int .i64 y.p),(.int .i64 y.dot)])] w (Ret (fun v w'=>v = .int .i64 (cmpItm x y)∧Gr w w')):=by
 refine calls_y (n:=17) Tryz.func156 ?_;refine go ?_;refine yOp (ox_boxG (by (conv=>lhs;whnf)<;>rfl) ?_);intro w1 gr0 e1 z1 b1;refine yOp (ox_boxG (by (conv=>lhs;whnf)<;>rfl) ?_);intro w2 gr1 e2 z2 b2;refine go ?_;refine xc_regionG [] (fun W_=>Chg (fun _=>False) w2 W_) hmix ?_;intro w3 gr2 e3 z3;have hS1:Chg (fun _=>False) w2 w3:=Ext.to e3;refine yDp 0 ?_;refine yDt (i:=1) rfl hS1 (fun W_ hW_=>ox_load tA_3.h rfl (((b1.ext e2).ext hW_).cell rfl) ⟨rfl,rfl⟩) ?_;refine yDp 2 ?_;refine yDt (i:=3) rfl hS1 (fun W_ hW_=>ox_load tA_3.h rfl ((b2.ext hW_).cell rfl) ⟨rfl,rfl⟩) ?_;refine xd_take 4 (some 9) rfl rfl (by kernel_rfl) (v:=(.int .i64 ((cmpI x.p y.p)))) (.inl ⟨rfl,fun W_ hW_=>ox_callE (al:=[(.int .i64 x.p),(.int .i64 y.p)]) pf_188.h rfl (ret_mono (compare_calls x.p y.p W_) (by rintro _ _ ⟨rfl,rfl⟩;exact ⟨rfl,rfl⟩))⟩) hS1 ?_;refine yDp 5 ?_;refine yDt (i:=6) rfl hS1 (fun W_ hW_=>ox_load tA_3.h rfl (((b1.ext e2).ext hW_).cell rfl) ⟨rfl,rfl⟩) ?_;refine yDp 7 ?_;refine yDt (i:=8) rfl hS1 (fun W_ hW_=>ox_load tA_3.h rfl ((b2.ext hW_).cell rfl) ⟨rfl,rfl⟩) ?_;refine xd_take 9 (some 14) rfl rfl (by kernel_rfl) (v:=(.int .i64 ((cmpI x.dot y.dot)))) (.inl ⟨rfl,fun W_ hW_=>ox_callE (al:=[(.int .i64 x.dot),(.int .i64 y.dot)]) pf_188.h rfl (ret_mono (compare_calls x.dot y.dot W_) (by rintro _ _ ⟨rfl,rfl⟩;exact ⟨rfl,rfl⟩))⟩) hS1 ?_;refine yD1 (i:=10) rfl (ox_mkSliceG (ps:=[(0,(.int .i64 ((cmpI x.p y.p)))),(1,(.int .i64 ((cmpI x.dot y.dot))))]) (zs:=#[(.int .i64 0),(.int .i64 0)]) (cs:=#[(.int .i64 ((cmpI x.p y.p))),(.int .i64 ((cmpI x.dot y.dot)))]) tE_39.h rfl (by decide) (by kernel_rfl) (by kernel_rfl) ?_);intro w4 gr3 e4 z4 b3;replace b3:Blk w4 w3.heap.size #[(.int .i64 ((cmpI x.p y.p))),(.int .i64 ((cmpI x.dot y.dot)))] 3:=b3;have hS2:Chg (fun _=>False) w2 w4:=Chg.ext hS1 e4;refine ⟨.inr fun _=>hS2,?_⟩;refine yD1 (i:=11) rfl (yCx (ret_mono (or_calls [(cmpI x.p y.p),(cmpI x.dot y.dot)] (some ⟨w3.heap.size,0,none⟩) 2 w4 ⟨fun _=>rfl,b3.cell rfl,b3.cell rfl,trivial⟩ (by simp)) ?_));rintro _ w5 ⟨rfl,gr4,e5⟩;have he5:=e5.size;have hS3:Chg (fun _=>False) w2 w5:=Chg.ext hS2 e5;refine ⟨.inr fun _=>hS3,?_⟩;refine yDp 12 ?_;refine xd_done (by kernel_rfl) ?_ _;refine go ?_;refine y_r1 ?_;exact ⟨rfl,(Gr.trans (Gr.trans (Gr.trans (Gr.trans gr0 gr1) gr2) gr3) gr4)⟩
theorem bySym_calls(x y:Sym)(w:World)  :
    Calls Tryz.prog 158 #[(.agg #[(.int .i64 x.kind),(.int .i64 x.n)]),(.agg #[(.int .i64 y.kind),(.int .i64 y.n)])] w (Ret (fun v w'=>v = .int .i64 (cmpSym x y)∧Gr w w')):=by
 refine calls_y (n:=17) Tryz.func158 ?_;refine go ?_;refine yOp (ox_boxG (by (conv=>lhs;whnf)<;>rfl) ?_);intro w1 gr0 e1 z1 b1;refine yOp (ox_boxG (by (conv=>lhs;whnf)<;>rfl) ?_);intro w2 gr1 e2 z2 b2;refine go ?_;refine xc_regionG [] (fun W_=>Chg (fun _=>False) w2 W_) hmix ?_;intro w3 gr2 e3 z3;have hS1:Chg (fun _=>False) w2 w3:=Ext.to e3;refine yDp 0 ?_;refine yDt (i:=1) rfl hS1 (fun W_ hW_=>ox_load tA_3.h rfl (((b1.ext e2).ext hW_).cell rfl) ⟨rfl,rfl⟩) ?_;refine yDp 2 ?_;refine yDt (i:=3) rfl hS1 (fun W_ hW_=>ox_load tA_3.h rfl ((b2.ext hW_).cell rfl) ⟨rfl,rfl⟩) ?_;refine xd_take 4 (some 9) rfl rfl (by kernel_rfl) (v:=(.int .i64 ((cmpI x.kind y.kind)))) (.inl ⟨rfl,fun W_ hW_=>ox_callE (al:=[(.int .i64 x.kind),(.int .i64 y.kind)]) pf_188.h rfl (ret_mono (compare_calls x.kind y.kind W_) (by rintro _ _ ⟨rfl,rfl⟩;exact ⟨rfl,rfl⟩))⟩) hS1 ?_;refine yDp 5 ?_;refine yDt (i:=6) rfl hS1 (fun W_ hW_=>ox_load tA_3.h rfl (((b1.ext e2).ext hW_).cell rfl) ⟨rfl,rfl⟩) ?_;refine yDp 7 ?_;refine yDt (i:=8) rfl hS1 (fun W_ hW_=>ox_load tA_3.h rfl ((b2.ext hW_).cell rfl) ⟨rfl,rfl⟩) ?_;refine xd_take 9 (some 14) rfl rfl (by kernel_rfl) (v:=(.int .i64 ((cmpI x.n y.n)))) (.inl ⟨rfl,fun W_ hW_=>ox_callE (al:=[(.int .i64 x.n),(.int .i64 y.n)]) pf_188.h rfl (ret_mono (compare_calls x.n y.n W_) (by rintro _ _ ⟨rfl,rfl⟩;exact ⟨rfl,rfl⟩))⟩) hS1 ?_;refine yD1 (i:=10) rfl (ox_mkSliceG (ps:=[(0,(.int .i64 ((cmpI x.kind y.kind)))),(1,(.int .i64 ((cmpI x.n y.n))))]) (zs:=#[(.int .i64 0),(.int .i64 0)]) (cs:=#[(.int .i64 ((cmpI x.kind y.kind))),(.int .i64 ((cmpI x.n y.n)))]) tE_39.h rfl (by decide) (by kernel_rfl) (by kernel_rfl) ?_);intro w4 gr3 e4 z4 b3;replace b3:Blk w4 w3.heap.size #[(.int .i64 ((cmpI x.kind y.kind))),(.int .i64 ((cmpI x.n y.n)))] 3:=b3;have hS2:Chg (fun _=>False) w2 w4:=Chg.ext hS1 e4;refine ⟨.inr fun _=>hS2,?_⟩;refine yD1 (i:=11) rfl (yCx (ret_mono (or_calls [(cmpI x.kind y.kind),(cmpI x.n y.n)] (some ⟨w3.heap.size,0,none⟩) 2 w4 ⟨fun _=>rfl,b3.cell rfl,b3.cell rfl,trivial⟩ (by simp)) ?_));rintro _ w5 ⟨rfl,gr4,e5⟩;have he5:=e5.size;have hS3:Chg (fun _=>False) w2 w5:=Chg.ext hS2 e5;refine ⟨.inr fun _=>hS3,?_⟩;refine yDp 12 ?_;refine xd_done (by kernel_rfl) ?_ _;refine go ?_;refine y_r1 ?_;exact ⟨rfl,(Gr.trans (Gr.trans (Gr.trans (Gr.trans gr0 gr1) gr2) gr3) gr4)⟩
theorem drop_cons{α:Type}{l:List α}{i:Nat}{x:α}(h:l[i]?=some x):l.drop i=x::l.drop (i+1):=by
  obtain ⟨h1,rfl⟩:=List.getElem?_eq_some_iff.1 h;exact List.drop_eq_getElem_cons h1
theorem cmp_at{a b:List Int}{i:Nat}{x y:Int}(hx:a[i]?=some x)(hy:b[i]?=some y):cmpL (a.drop i) (b.drop i)=if cmpI x y=0 then cmpL (a.drop (i+1)) (b.drop (i+1)) else cmpI x y:=by
  rw [drop_cons hx,drop_cons hy,cmpL];unfold cmpI
  split
  rfl
  split<;>rfl
theorem cmp_long{a b:List Int}{i:Nat}{x:Int}(hx:a[i]?=some x)(h:b.length≤i):cmpL (a.drop i) (b.drop i)=1:=by
  rw [drop_cons hx,List.drop_of_length_le h];rfl
theorem cmp_end{a b:List Int}{i:Nat}(h:a.length≤i)(hb:i≤b.length):cmpL (a.drop i) (b.drop i)=if i<b.length then -1 else 0:=by
  rw [List.drop_of_length_le h];by_cases hc:i<b.length;rw [if_pos hc,List.drop_eq_getElem_cons hc];rfl;rw [if_neg hc,List.drop_of_length_le (by omega)];rfl
theorem compareL_calls(a b:List Int)(A A2:Option Addr)(c c2:Nat)(w:World)(hA:RowA w A (a.flatMap ints))(hA2:RowA w A2 (b.flatMap ints))(hl:a.length≤8796093022208)(hl2:b.length≤8796093022208) :
    Calls Tryz.prog 138 #[(.slice A a.length c),(.slice A2 b.length c2)] w (Ret (fun v w'=>v = .int .i64 (cmpL a b)∧Ext w w')):=by
 refine calls_y (n:=36) Tryz.func138 ?_;refine go ?_;refine xc_loopN (fun m_ f_ Wx=>∃(i:Nat),m_=a.length-i∧(i≤a.length)∧(cmpL a b=cmpL (a.drop i) (b.drop i))∧(i≤b.length)∧f_ 0=(.slice A a.length c)∧f_ 1=(.slice A2 b.length c2)∧f_ 9=(.slice A a.length c)∧f_ 10=(.int .i64 (((a.length:Nat):Int)))∧f_ 11=(.int .i64 ((i:Nat)))∧Ext w Wx) (a.length) ?_ ?_;exact ⟨0,(by omega),(by omega),rfl,(by omega),rfl,rfl,rfl,rfl,vW,(Chg.refl _ _)⟩;rintro m_ f1 w1 ⟨i,hm_f1,hi,hq,hib,g0_f1,g1_f1,g9_f1,g10_f1,g11_f1,x1⟩;have hx1:=x1.size;rw [←usf g0_f1,←usf g1_f1,←usf g9_f1,←usf g10_f1,←usf g11_f1];refine go ?_;refine y_if (fun h1=>?_) (fun h1=>?_);obtain ⟨x_1,g_1,o_1,hx_1⟩:=row_may (A:=A) (cs:=ints) i ints_len (by decide) (RowA.ext hA x1);obtain ⟨hx_2,hA_1,hc_1⟩:=hx_1 oM;refine go ?_;refine y_ix i hA_1 ?_;refine y_lc (CellsL.at1 hc_1 0 rfl) ?_;refine go ?_;refine y_if (fun h2=>?_) (fun h2=>?_);refine go ?_;refine y_r1 ?_;exact ⟨congrArg (Value.int .i64) (by symm;rw [hq,cmp_long hx_2 (by omega)]),x1⟩;obtain ⟨x_2,g_2,o_2,hx_3⟩:=row_may (A:=A2) (cs:=ints) i ints_len (by decide) (RowA.ext hA2 x1);obtain ⟨hx_4,hA_2,hc_2⟩:=hx_3 oM;refine go ?_;refine y_ix i hA_2 ?_;refine y_lc (CellsL.at1 hc_2 0 rfl) ?_;refine go ?_;refine yOp (ox_callE (al:=[(.int .i64 x_1),(.int .i64 x_2)]) pf_188.h rfl (ret_mono (compare_calls x_1 x_2 w1) ?_));rintro _ _ ⟨rfl,rfl⟩;refine go ?_;refine y_if (fun h3=>?_) (fun h3=>?_);refine go ?_;refine y_r1 ?_;exact ⟨congrArg (Value.int .i64) (by symm;rw [hq,cmp_at hx_2 hx_4,if_neg h3]),x1⟩;have hne9:(cmpI x_1 x_2)=0:=by omega
 refine go ?_;refine y_add ?_;refine go ?_;exact ⟨rfl,a.length-(i+1),by omega,i+1,by omega,(by omega),(by rw [hq,cmp_at hx_2 hx_4,←hne9];exact if_pos rfl),(by omega),rfl,rfl,rfl,rfl,vW,x1⟩;refine go ?_;refine y_if (fun h4=>?_) (fun h4=>?_);refine go ?_;refine y_r1 ?_;exact ⟨congrArg (Value.int .i64) (by symm;rw [hq,cmp_end (by omega) hib,show i=a.length from (by omega)];(first | rw [if_pos (by omega)] | rw [if_neg (by omega)])),x1⟩;refine go ?_;refine y_r1 ?_;exact ⟨congrArg (Value.int .i64) (by symm;rw [hq,cmp_end (by omega) hib,show i=a.length from (by omega)];(first | rw [if_pos (by omega)] | rw [if_neg (by omega)])),x1⟩
end Go.Proofs.YtabfopjkgeoiiaaGreatDoor
