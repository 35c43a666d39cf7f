/-
  Part 10 of the proof: texts Sp Xi Xk Sa Xb Xc Xd Xe Xf Xg. No conditions.
-/
import Derived.Test.YtabfopjkgeoiiaaGreatDoorRows
import Derived.Test.YtabfopjkgeoiiaaGreatDoorPrf
import Derived.Test.YtabfopjkgeoiiaaGreatDoorPrg
import Derived.Test.YtabfopjkgeoiiaaGreatDoorPrh
import Derived.Test.YtabfopjkgeoiiaaGreatDoorPri
set_option linter.unusedVariables false
set_option linter.unusedSimpArgs false
set_option linter.unusedSectionVars false
set_option maxRecDepth 100000
set_option maxHeartbeats 4000000
namespace Go.Proofs.YtabfopjkgeoiiaaGreatDoor
open Go Go.RowKit Go.Vx
mutual
/-- is a pattern copied outright,with v parts left,at depth d? and what is left behind it -/
def ownB:EX→Int→Int→Bool×Int
  | .mk _ _ _ _ _ _ _ l,d,v=>if v-1<0∨64<d then (false,v-1) else ownBL l (d+1) (v-1)
def ownBL:List EX→Int→Int→Bool×Int
  | [],_,v=>(true,v)
  | x::r,d,v=>if (ownB x d v).1=true then ownBL r d (ownB x d v).2 else (false,(ownB x d v).2)
end
theorem ownB_no{e:EX}{d v:Int}(h:v-1<0∨64<d):ownB e d v=(false,v-1):=by
  cases e;rw [ownB,if_pos h]
theorem ownB_yes{e:EX}{d v:Int}(h:¬(v-1<0∨64<d)):ownB e d v=ownBL e.list (d+1) (v-1):=by
  cases e;rw [ownB,if_neg h];rfl
theorem ownBL_next{l:List EX}{i:Nat}{x:EX}{d v:Int}(hx:l[i]?=some x)(h:(ownB x d v).1=true):ownBL (l.drop i) d v=ownBL (l.drop (i+1)) d (ownB x d v).2:=by
  rw [drop_get hx,ownBL,if_pos h]
theorem ownBL_bad{l:List EX}{i:Nat}{x:EX}{d v:Int}(hx:l[i]?=some x)(h:(ownB x d v).1=false):ownBL (l.drop i) d v=(false,(ownB x d v).2):=by
  rw [drop_get hx,ownBL,if_neg (by rw [h];decide)]
mutual
theorem ownB_bd:∀(e:EX) (d v:Int),(ownB e d v).1=true→0≤v→0≤(ownB e d v).2∧(ownB e d v).2≤v
  | .mk _ _ _ _ _ _ _ l,d,v,h,hv=>by
    rw [ownB] at h ⊢
    split at h
    cases h;rename_i hn;rw [if_neg hn];have:=ownBL_bd l (d+1) (v-1) h (by omega);omega
theorem ownBL_bd:∀(l:List EX) (d v:Int),(ownBL l d v).1=true→0≤v→0≤(ownBL l d v).2∧(ownBL l d v).2≤v
  | [],_,v,_,hv=>⟨hv,Int.le_refl _⟩
  | x::r,d,v,h,hv=>by
    rw [ownBL] at h ⊢
    split at h
    rename_i hx;rw [if_pos hx];have h1:=ownB_bd x d v hx hv;have h2:=ownBL_bd r d _ h h1.1;omega;cases h
end
theorem drop_get0{α:Type}{l m:List α}{i:Nat}(h:l.drop i=m.drop i):l[i]?=m[i]?:=by
  have h1:(l.drop i)[0]?=(m.drop i)[0]?:=by rw [h]
  rwa [List.getElem?_drop,List.getElem?_drop,Nat.add_zero] at h1
theorem drop_set{α:Type}{l m:List α}{i:Nat}{y:α}(h:l.drop i=m.drop i):(l.set i y).drop (i+1)=m.drop (i+1):=by
  rw [List.drop_set_of_lt (by omega),←List.drop_drop,←List.drop_drop,h]
mutual
/-- e' is e,copied into memory from block B on -/
def CpX(B:Nat)(w:World):EX→EX→Prop
  | .mk k a b m n A _ l,e'=>(e'.kind=k∧e'.frm=a∧e'.to=b∧e'.min=m∧e'.max=n)∧(A=none↔e'.A=none)∧RowA w e'.A (e'.list.flatMap EX.cs)∧(∀a,e'.A=some a→B≤a.block∧a.block<w.heap.size)∧few 64 e'.list.length e'.c∧CpL B w l e'.list
def CpL(B:Nat)(w:World):List EX→List EX→Prop
  | [],l'=>l' = []
  | x::l,l'=>∃y r,l'=y::r∧CpX B w x y∧CpL B w l r
end
mutual
theorem CpX.keepC{B:Nat}{K:Nat→Prop}{w w':World}(c:Chg K w w')(hk:∀b,B≤b→b<w.heap.size→¬K b):∀ {e e':EX},CpX B w e e'→CpX B w' e e'
  | .mk k a b m n _ _ l,e',h=>by
    simp only [CpX] at h ⊢;exact ⟨h.1,h.2.1,h.2.2.1.keep c fun a ha=>hk _ (h.2.2.2.1 a ha).1 (h.2.2.2.1 a ha).2,fun a ha=>⟨(h.2.2.2.1 a ha).1,Nat.lt_of_lt_of_le (h.2.2.2.1 a ha).2 c.size⟩,h.2.2.2.2.1,CpL.keepC c hk h.2.2.2.2.2⟩
theorem CpL.keepC{B:Nat}{K:Nat→Prop}{w w':World}(c:Chg K w w')(hk:∀b,B≤b→b<w.heap.size→¬K b):∀ {l l':List EX},CpL B w l l'→CpL B w' l l'
  | [],_,h=>h
  | x::l,l',h=>by
    obtain ⟨y,r,h1,h2,h3⟩:=h;exact ⟨y,r,h1,CpX.keepC c hk h2,CpL.keepC c hk h3⟩
end
theorem CpX.keep{B:Nat}{K:Nat→Prop}{w w':World}{e e':EX}(h:CpX B w e e')(c:Chg K w w')(hk:∀b,K b→b<B):CpX B w' e e':=CpX.keepC c (fun b hb _ hK=>by have:=hk b hK;omega) h
theorem CpX.ext{B:Nat}{w w':World}{e e':EX}(h:CpX B w e e')(c:Ext w w'):CpX B w' e e':=h.keep c fun _ hb=>hb.elim
mutual
theorem CpX.mono{B B':Nat}{w:World}(hB:B'≤B):∀ {e e':EX},CpX B w e e'→CpX B' w e e'
  | .mk k a b m n _ _ l,e',h=>by
    simp only [CpX] at h ⊢;exact ⟨h.1,h.2.1,h.2.2.1,fun a ha=>⟨Nat.le_trans hB (h.2.2.2.1 a ha).1,(h.2.2.2.1 a ha).2⟩,h.2.2.2.2.1,CpL.mono hB h.2.2.2.2.2⟩
theorem CpL.mono{B B':Nat}{w:World}(hB:B'≤B):∀ {l l':List EX},CpL B w l l'→CpL B' w l l'
  | [],_,h=>h
  | x::l,l',h=>by
    obtain ⟨y,r,h1,h2,h3⟩:=h;exact ⟨y,r,h1,CpX.mono hB h2,CpL.mono hB h3⟩
end
mutual
theorem CpX.exr{B:Nat}{w:World} : ∀ {e e':EX},CpX B w e e'→ExR w e'
  | .mk k a b m n _ _ l,.mk k' a' b' m' n' A' c' l',h=>by
    simp only [CpX,EX.A,EX.c,EX.list] at h;simp only [ExR];exact ⟨h.2.2.1,h.2.2.2.2.1,CpL.exr h.2.2.2.2.2⟩
theorem CpL.exr{B:Nat}{w:World} : ∀ {l l':List EX},CpL B w l l'→ExRL w l'
  | [],_,h=>by
    have h:_ = []:=h;subst h;trivial
  | x::l,l',h=>by
    obtain ⟨y,r,h1,h2,h3⟩:=h;subst h1;exact ⟨CpX.exr h2,CpL.exr h3⟩
end
def CpF(B:Nat)(w:World)(l L:List EX)(i:Nat):Prop:=∀(j:Nat) (x y:EX),j<i→l[j]?=some x→L[j]?=some y→CpX B w x y
theorem CpF.zero(B:Nat)(w:World)(l L:List EX):CpF B w l L 0:=fun j _ _ h=>by omega
theorem CpF.keep{B i:Nat}{K:Nat→Prop}{w w':World}{l L:List EX}(h:CpF B w l L i)(c:Chg K w w')(hk:∀b,K b→b<B):CpF B w' l L i:=fun j x y hj hx hy=>(h j x y hj hx hy).keep c hk
theorem CpF.ext{B i:Nat}{w w':World}{l L:List EX}(h:CpF B w l L i)(c:Ext w w'):CpF B w' l L i:=fun j x y hj hx hy=>(h j x y hj hx hy).ext c
theorem CpF.snoc{B i:Nat}{w:World}{l L:List EX}{x y:EX}(h:CpF B w l L i)(hx:l[i]?=some x)(ht:CpX B w x y)(hi:i<L.length):CpF B w l (L.set i y) (i+1):=fun j a b hj ha hb=>by
  by_cases hji:j=i;subst hji;rw [hx] at ha;cases ha;rw [List.getElem?_set_self hi] at hb;cases hb;exact ht;rw [List.getElem?_set_ne (fun hh=>hji hh.symm)] at hb;exact h j a b (by omega) ha hb
theorem CpL.of{B:Nat}{w:World} : ∀ {l L:List EX},l.length=L.length→(∀(j:Nat) (x y:EX),l[j]?=some x→L[j]?=some y→CpX B w x y)→CpL B w l L
  | [],[],_,_=>rfl
  | x::l,[],h,_=>by simp at h
  | [],y::L,h,_=>by simp at h
  | x::l,y::L,h,hh=>⟨y,L,rfl,hh 0 x y rfl rfl,CpL.of (by simpa using h) fun j a b ha hb=>hh (j+1) a b (by simpa using ha) (by simpa using hb)⟩
theorem CpF.all{B i:Nat}{w:World}{l L:List EX}(h:CpF B w l L i)(hi:l.length≤i)(hL:L.length=l.length):CpL B w l L:=CpL.of hL.symm fun j x y hx hy=>by
  have hj:=(List.getElem?_eq_some_iff.1 hx).1;exact h j x y (by omega) hx hy
theorem CpX.node{B t c:Nat}{w:World}{e:EX}{A:Option Addr}{L:List EX}(hn:e.A=none↔A=none)(hl:L.length=e.list.length)(hby:e.list.length*64≤140737488355328)(ho:Vx.Own w t 6 (.slice A e.list.length c) e.list.length (L.flatMap EX.cs))(hB:∀k,(Value.slice A e.list.length c).ownBlock=some k→B≤k)(ht:CpL B w e.list L):CpX B w e (.mk e.kind e.frm e.to e.min e.max A c L):=by
  obtain ⟨A',c',h1,h2⟩:=ho.shape
  cases e with
  | mk k a b m n A0 c0 l =>
    simp only [EX.list,EX.A] at *;simp only [CpX];refine ⟨⟨rfl,rfl,rfl,rfl,rfl⟩,hn,ho.rowO,fun a ha=>?_,?_,ht⟩;have hob:(Value.slice A l.length c).ownBlock=some a.block:=by simp only [EX.A] at ha;subst ha;rfl
    exact ⟨hB _ hob,ho.lt _ hob⟩;simp only [EX.list,EX.c,hl];simp only [Value.slice.injEq,true_and] at h1;exact ⟨by omega,hby⟩
instance pf_145:PlF Tryz.prog 145 where
instance pf_192:PlF Tryz.prog 192 where
instance tA_80:AggF Tryz.prog 80 where
instance tA_82:AggT Tryz.prog 82 where
instance tF_82_5:FdT Tryz.prog 82 5 5 where
instance tP_82:PcT Tryz.prog 82 #[(0,1),(1,1),(2,1),(3,1),(4,1),(5,1)] where
instance tS_80:SzT Tryz.prog 80 1 where
instance tS_82:SzT Tryz.prog 82 6 where
instance tZ_82:ZrT Tryz.prog 82 (.agg #[(.int .i64 0),(.int .i64 0),(.int .i64 0),(.int .i64 0),(.int .i64 0),(.slice none 0 0)]) where
theorem ownExpr_step(e:EX)(d v:Int)(bc:Nat)(w0:World)(ih:∀(x:EX) (w:World) (d v:Int),exN x<exN e→Ext w0 w→ExR w0 x→w0.heap.size≤bc→Blk w bc #[.int .i64 v] 3→0≤v∧v≤4096→0≤d∧d≤65→Calls Tryz.prog 145 #[(.agg #[(.int .i64 x.kind),(.int .i64 x.frm),(.int .i64 x.to),(.int .i64 x.min),(.int .i64 x.max),(.slice x.A x.list.length x.c)]),.int .i64 d,.pointer (some ⟨bc,0,none⟩)] w (Ret fun v' w'=>∃e',v' = .tuple #[.agg (EX.cs e').toArray,.bool (ownB x d v).1]∧Blk w' bc #[.int .i64 (ownB x d v).2] 3∧((ownB x d v).1=true→CpX w.heap.size w' x e')∧Chg1 bc w w'))(w:World)(hE0:Ext w0 w)(hE:ExR w0 e)(hbc:w0.heap.size≤bc)(hc:Blk w bc #[.int .i64 v] 3)(hv:0≤v∧v≤4096)(hd0:0≤d∧d≤65) :
    Calls Tryz.prog 145 #[(.agg #[(.int .i64 e.kind),(.int .i64 e.frm),(.int .i64 e.to),(.int .i64 e.min),(.int .i64 e.max),(.slice e.A e.list.length e.c)]),(.int .i64 d),(.pointer (some ⟨bc,0,none⟩))] w (Ret (fun v' w'=>∃e',v' = .tuple #[.agg (EX.cs e').toArray,.bool (ownB e d v).1]∧Blk w' bc #[.int .i64 (ownB e d v).2] 3∧((ownB e d v).1=true→CpX w.heap.size w' e e')∧Chg1 bc w w')):=by
 have hby:=hE.row.2.1.by;have hbcw:=hc.lt
 have hsz0_:=hE0.size;refine calls_y (n:=57) Tryz.func145 ?_;refine go ?_;refine y_bx ?_;intro w1 e1 z1 b1;refine y_al ?_;intro w2 e2 z2 b2;refine go ?_;refine y_ld ((hc.ext e1).ext e2) ?_;refine y_sub ?_;refine go ?_;refine y_st ((hc.ext e1).ext e2) ?_;intro w3 e3 z3 b3;replace b3:Blk w3 bc #[(.int .i64 (v-1))] 3:=b3;refine go ?_;refine y_ld b3 ?_;refine go ?_;by_cases h1:(v-1:Int)<0;refine ysL (s:=20) (bT (decide_eq_true h1)) ?_;refine go ?_;refine yOp (ox_mkStruct (ps:=[]) (cs:=#[(.int .i64 0),(.int .i64 0),(.int .i64 0),(.int .i64 0),(.int .i64 0),(.slice none 0 0)]) tZ_82.h tP_82.h rfl (by kernel_rfl) ?_);have q1:=(b2.kb e3 ((hc.ext e1).ext e2));refine y_st q1 ?_;intro w4 e4 z4 b4;replace b4:Blk w4 w1.heap.size #[(.int .i64 0),(.int .i64 0),(.int .i64 0),(.int .i64 0),(.int .i64 0),(.slice none 0 0)] 82:=blk_full b4 rfl;refine go ?_;change leaves _ _ _ _ _ _ _;refine leaves_nil (n:=57) (rs:=[.cell 6 82,.tmp 7]) (vs:=[(.agg #[(.int .i64 0),(.int .i64 0),(.int .i64 0),(.int .i64 0),(.int .i64 0),(.slice none 0 0)]),(.bool false)]) rfl ⟨⟨by decide,w1.heap.size,0,6,[(.int .i64 0),(.int .i64 0),(.int .i64 0),(.int .i64 0),(.int .i64 0),(.slice none 0 0)],rfl,tA_82.h,tS_82.h,rfl,⟨b4.cell rfl,b4.cell rfl,b4.cell rfl,b4.cell rfl,b4.cell rfl,b4.cell rfl,trivial⟩,rfl⟩,⟨by decide,rfl⟩,trivial⟩ ?_;have hob:ownB e d v=(false,v-1):=ownB_no (by omega);have y1:Chg1 bc w w4:=(Chg.chg1 (Ct (Chg.ext (Chg.ext (Chg.refl (fun x=>x=bc) w) e1) e2) e3) e4 (.inr (by omega)));exact ⟨exZero,by rw [hob]<;>rfl,by rw [hob];exact (b3.kb e4 q1),(fun h9=>by rw [hob] at h9;cases h9),y1⟩;refine ysL (s:=20) (bF (decide_eq_false h1)) ?_;refine go ?_;refine y_if (fun h2=>?_) (fun h2=>?_);refine go ?_;refine yOp (ox_mkStruct (ps:=[]) (cs:=#[(.int .i64 0),(.int .i64 0),(.int .i64 0),(.int .i64 0),(.int .i64 0),(.slice none 0 0)]) tZ_82.h tP_82.h rfl (by kernel_rfl) ?_);have q2:=(b2.kb e3 ((hc.ext e1).ext e2));refine y_st q2 ?_;intro w5 e5 z5 b5;replace b5:Blk w5 w1.heap.size #[(.int .i64 0),(.int .i64 0),(.int .i64 0),(.int .i64 0),(.int .i64 0),(.slice none 0 0)] 82:=blk_full b5 rfl;refine go ?_;change leaves _ _ _ _ _ _ _;refine leaves_nil (n:=57) (rs:=[.cell 6 82,.tmp 7]) (vs:=[(.agg #[(.int .i64 0),(.int .i64 0),(.int .i64 0),(.int .i64 0),(.int .i64 0),(.slice none 0 0)]),(.bool false)]) rfl ⟨⟨by decide,w1.heap.size,0,6,[(.int .i64 0),(.int .i64 0),(.int .i64 0),(.int .i64 0),(.int .i64 0),(.slice none 0 0)],rfl,tA_82.h,tS_82.h,rfl,⟨b5.cell rfl,b5.cell rfl,b5.cell rfl,b5.cell rfl,b5.cell rfl,b5.cell rfl,trivial⟩,rfl⟩,⟨by decide,rfl⟩,trivial⟩ ?_;have hob:ownB e d v=(false,v-1):=ownB_no (by omega);have y2:Chg1 bc w w5:=(Chg.chg1 (Ct (Chg.ext (Chg.ext (Chg.refl (fun x=>x=bc) w) e1) e2) e3) e5 (.inr (by omega)));exact ⟨exZero,by rw [hob]<;>rfl,by rw [hob];exact (b3.kb e5 q2),(fun h9=>by rw [hob] at h9;cases h9),y2⟩;have q3:=((b1.ext e2).kb e3 ((hc.ext e1).ext e2));refine go ?_;refine y_ld q3 ?_;have x1:Ext w0 w3:=(Xc (Xt (Xt hE0 e1) e2) e3);refine yCa (ret_mono (cloneEX e.list e.A e.c w3 (hE.row.1.ext x1) (by omega)) ?_)
 rintro _ w6 ⟨A1,c1,rfl,hn1,hnil1,e6⟩;have he6:=e6.size;refine go ?_;refine y_st (q3.ext e6) ?_;intro w7 e7 z6 b6;replace b6:Blk w7 w.heap.size #[(.int .i64 e.kind),(.int .i64 e.frm),(.int .i64 e.to),(.int .i64 e.min),(.int .i64 e.max),(.slice A1 e.list.length c1)] 82:=b6;refine go ?_;refine y_ld b6 ?_;have q4:=(hn1.1.kw e7 hn1.2);have hAlt:∀b,(Value.slice A1 e.list.length c1).ownBlock=some b→b<w7.heap.size:=q4.lt;have q5:=((b3.ext e6).kb e7 (q3.ext e6));have hbcl:bc<w7.heap.size:=q5.lt;have q6:=(b2.kb e3 ((hc.ext e1).ext e2));have q7:=((q6.ext e6).kl e7 b2.lt);have y3:Chg1 bc w w7:=(Chg.chg1 (Chg.ext (Ct (Chg.ext (Chg.ext (Chg.refl (fun x=>x=bc) w) e1) e2) e3) e6) e7 (.inr (by omega)));refine go ?_;refine xc_loopN (fun m_ f_ Wx=>∃(i:Nat) (vv:Int) (L:List EX),m_=e.list.length-i∧(i≤e.list.length)∧(ownBL e.list (d+1) (v-1)=ownBL (e.list.drop i) (d+1) vv)∧(L.drop i=e.list.drop i)∧(0≤vv∧vv≤4096)∧f_ 1=(.int .i64 d)∧f_ 2=(.pointer (some ⟨bc,0,none⟩))∧f_ 3=(.pointer (some ⟨w.heap.size,0,none⟩))∧f_ 6=(.pointer (some ⟨w1.heap.size,0,none⟩))∧f_ 31=(.int .i64 (((e.list.length:Nat):Int)))∧f_ 32=(.int .i64 ((i:Nat)))∧Vx.Own Wx 82 6 (.slice A1 e.list.length c1) e.list.length (L.flatMap EX.cs)∧(Blk Wx bc #[.int .i64 vv] 3)∧(CpF w7.heap.size Wx e.list L i)∧(w7.heap.size≤Wx.heap.size)∧Blk Wx w.heap.size #[(.int .i64 e.kind),(.int .i64 e.frm),(.int .i64 e.to),(.int .i64 e.min),(.int .i64 e.max),(.slice A1 e.list.length c1)] 82∧Blk Wx w1.heap.size #[(.int .i64 0),(.int .i64 0),(.int .i64 0),(.int .i64 0),(.int .i64 0),(.slice none 0 0)] 82∧Chg1 bc w Wx) (e.list.length) ?_ ?_;exact ⟨0,(v-1),e.list,(by omega),(by omega),rfl,rfl,(by omega),rfl,rfl,rfl,rfl,rfl,vW,q4,q5,(CpF.zero _ _ _ _),(Nat.le_refl _),b6,q7,y3⟩;rintro m_ f1 w8 ⟨i,vv,L,hm_f1,hi,hq,hd,hvv,g1_f1,g2_f1,g3_f1,g6_f1,g31_f1,g32_f1,o0_f1,t0_f1,t1_f1,t2_f1,c0_f1,c1_f1,x2⟩;have hx2:=x2.size;have hl_L:L.length=e.list.length:=by have _q:=(o0_f1).len;rw [fm_len EX.len] at _q;omega
 rw [←usf g1_f1,←usf g2_f1,←usf g3_f1,←usf g6_f1,←usf g31_f1,←usf g32_f1];refine go ?_;refine y_if (fun h3=>?_) (fun h3=>?_);refine go ?_;refine y_ld c0_f1 ?_;obtain ⟨x_1,g_1,hx_1⟩:=own_may (A:=A1) i EX.len (by decide) o0_f1;obtain ⟨hx_2,hA_1,hc_1⟩:=hx_1 oM;refine go ?_;refine y_ix i hA_1 ?_;refine y_lN (vs:=[(.int .i64 x_1.kind),(.int .i64 x_1.frm),(.int .i64 x_1.to),(.int .i64 x_1.min),(.int .i64 x_1.max),(.slice x_1.A x_1.list.length x_1.c)]) hc_1 ?_;refine go ?_;refine y_add ?_;have hex_:e.list[i]?=some x_1:=(drop_get0 hd).symm.trans hx_2;have x3:Ext w0 w8:=(Xc hE0 x2);refine go ?_;refine yCa (ret_mono (ih x_1 w8 (d+1) vv (exN_mem (List.mem_of_getElem? hex_)) x3 (hE.row.2.2 _ (List.mem_of_getElem? hex_)) hbc t0_f1 hvv (by omega)) ?_);rintro _ w9 ⟨y_1,rfl,hb1,ht1,e8⟩;have he8:=e8.size;refine go ?_;refine y_al ?_;intro w10 e9 z7 b7;refine y_st b7 ?_;intro w11 e10 z8 b8;replace b8:Blk w11 w9.heap.size #[(.int .i64 y_1.kind),(.int .i64 y_1.frm),(.int .i64 y_1.to),(.int .i64 y_1.min),(.int .i64 y_1.max),(.slice y_1.A y_1.list.length y_1.c)] 82:=blk_full b8 rfl;refine go ?_;refine xc_cond (b:=(!((ownB x_1 (d+1) vv).1))) rfl (fun h4=>?_) (fun h4=>?_);have h4':=bS h4;have hok_:(ownB x_1 (d+1) vv).1=false:=by revert h4;cases (ownB x_1 (d+1) vv).1<;>simp
 refine go ?_;refine yOp (ox_mkStruct (ps:=[]) (cs:=#[(.int .i64 0),(.int .i64 0),(.int .i64 0),(.int .i64 0),(.int .i64 0),(.slice none 0 0)]) tZ_82.h tP_82.h rfl (by kernel_rfl) ?_);have q8:=(c1_f1.kl e8 c1_f1.lt);have q9:=((q8.ext e9).kl e10 c1_f1.lt);refine y_st q9 ?_;intro w12 e11 z9 b9;replace b9:Blk w12 w1.heap.size #[(.int .i64 0),(.int .i64 0),(.int .i64 0),(.int .i64 0),(.int .i64 0),(.slice none 0 0)] 82:=blk_full b9 rfl;refine go ?_;change leaves _ _ _ _ _ _ _;refine leaves_nil (n:=57) (rs:=[.cell 6 82,.tmp 7]) (vs:=[(.agg #[(.int .i64 0),(.int .i64 0),(.int .i64 0),(.int .i64 0),(.int .i64 0),(.slice none 0 0)]),(.bool false)]) rfl ⟨⟨by decide,w1.heap.size,0,6,[(.int .i64 0),(.int .i64 0),(.int .i64 0),(.int .i64 0),(.int .i64 0),(.slice none 0 0)],rfl,tA_82.h,tS_82.h,rfl,⟨b9.cell rfl,b9.cell rfl,b9.cell rfl,b9.cell rfl,b9.cell rfl,b9.cell rfl,trivial⟩,rfl⟩,⟨by decide,rfl⟩,trivial⟩ ?_;have q10:=((hb1.ext e9).kb e10 b7);have hob:ownB e d v=(false,(ownB x_1 (d+1) vv).2):=(ownB_yes (by omega)).trans (hq.trans (ownBL_bad hex_ hok_));have y4:Chg1 bc w w12:=(Chg.chg1 (Chg.chg1 (Chg.ext (Ct (Ct (Chg.refl (fun x=>x=bc) w) x2) e8) e9) e10 (.inr (by omega))) e11 (.inr (by omega)));exact ⟨exZero,by rw [hob]<;>rfl,by rw [hob];exact (q10.kb e11 q9),(fun h9=>by rw [hob] at h9;cases h9),y4⟩;have h4':=bS h4;have hok_:(ownB x_1 (d+1) vv).1=true:=by revert h4;cases (ownB x_1 (d+1) vv).1<;>simp
 have q11:=(c0_f1.kl e8 c0_f1.lt);have q12:=((q11.ext e9).kl e10 c0_f1.lt);refine go ?_;refine y_ld q12 ?_;refine go ?_;refine y_lN (vs:=[(.int .i64 y_1.kind),(.int .i64 y_1.frm),(.int .i64 y_1.to),(.int .i64 y_1.min),(.int .i64 y_1.max),(.slice y_1.A y_1.list.length y_1.c)]) ⟨b8.cell rfl,b8.cell rfl,b8.cell rfl,b8.cell rfl,b8.cell rfl,b8.cell rfl,trivial⟩ ?_;have q13:=(o0_f1.kw e8 hn1.2);have q14:=((q13.ext e9).kl e10 (q13.lt));obtain ⟨x_2,g_2,hx_3⟩:=own_may (A:=A1) i EX.len (by decide) q14;obtain ⟨hx_4,hA_2,hc_2⟩:=hx_3 oM;refine y_ix i hA_2 ?_;refine yNp (ox_stE (i:=i) (off:=0) (vs:=[(.int .i64 y_1.kind),(.int .i64 y_1.frm),(.int .i64 y_1.to),(.int .i64 y_1.min),(.int .i64 y_1.max),(.slice y_1.A y_1.list.length y_1.c)]) (b:=(y_1:EX)) EX.len tS_82.h hA_2 rfl (v:=(.agg #[(.int .i64 y_1.kind),(.int .i64 y_1.frm),(.int .i64 y_1.to),(.int .i64 y_1.min),(.int .i64 y_1.max),(.slice y_1.A y_1.list.length y_1.c)])) rfl rfl rfl rfl q14 hx_4 rfl (by decide) (by omega) ?_);intro w13 e12 z10 o1;refine go ?_;refine y_add ?_;have q15:=((hb1.ext e9).kb e10 b7);have q16:=(q15.ko e12 q14);have hcp9:CpX w7.heap.size w9 x_1 y_1:=(CpX.mono (by omega) (ht1 hok_));have x4:Ext w9 w11:=(Xc e9 e10);have q17:=(CpF.ext (CpF.keep t1_f1 e8 (fun b hb=>by subst hb;omega)) x4);have q18:=(q12.keep e12 (fun _h=>by have _q:=hn1.2 _ _h;have _q2:=c0_f1.lt;omega));have q19:=(c1_f1.kl e8 c1_f1.lt);have q20:=((q19.ext e9).kl e10 c1_f1.lt);have q21:=(q20.keep e12 (fun _h=>by have _q:=hn1.2 _ _h;have _q2:=c1_f1.lt;omega));have y5:Chg1 bc w w13:=(Co (Chg.chg1 (Chg.ext (Ct (Ct (Chg.refl (fun x=>x=bc) w) x2) e8) e9) e10 (.inr (by omega))) e12 hn1.2);refine go ?_;exact ⟨rfl,e.list.length-(i+1),by omega,i+1,(ownB x_1 (d+1) vv).2,(L.set i y_1),by omega,(by omega),(hq.trans (ownBL_next hex_ hok_)),(drop_set hd),(by have _b:=(ownB_bd x_1 (d+1) vv hok_ (by omega));omega),rfl,rfl,rfl,rfl,rfl,vW,o1,q16,(CpF.snoc (CpF.keep q17 e12 hAlt) hex_ (CpX.keep (CpX.ext hcp9 x4) e12 hAlt) (by omega)),(by omega),q18,q21,y5⟩;refine go ?_;refine y_lN (vs:=[(.int .i64 e.kind),(.int .i64 e.frm),(.int .i64 e.to),(.int .i64 e.min),(.int .i64 e.max),(.slice A1 e.list.length c1)]) ⟨c0_f1.cell rfl,c0_f1.cell rfl,c0_f1.cell rfl,c0_f1.cell rfl,c0_f1.cell rfl,c0_f1.cell rfl,trivial⟩ ?_;refine y_st c1_f1 ?_;intro w14 e13 z11 b10;replace b10:Blk w14 w1.heap.size #[(.int .i64 e.kind),(.int .i64 e.frm),(.int .i64 e.to),(.int .i64 e.min),(.int .i64 e.max),(.slice A1 e.list.length c1)] 82:=blk_full b10 rfl;refine go ?_;change leaves _ _ _ _ _ _ _;refine leaves_nil (n:=57) (rs:=[.cell 6 82,.tmp 7]) (vs:=[(.agg #[(.int .i64 e.kind),(.int .i64 e.frm),(.int .i64 e.to),(.int .i64 e.min),(.int .i64 e.max),(.slice A1 e.list.length c1)]),(.bool true)]) rfl ⟨⟨by decide,w1.heap.size,0,6,[(.int .i64 e.kind),(.int .i64 e.frm),(.int .i64 e.to),(.int .i64 e.min),(.int .i64 e.max),(.slice A1 e.list.length c1)],rfl,tA_82.h,tS_82.h,rfl,⟨b10.cell rfl,b10.cell rfl,b10.cell rfl,b10.cell rfl,b10.cell rfl,b10.cell rfl,trivial⟩,rfl⟩,⟨by decide,rfl⟩,trivial⟩ ?_
 have q22:=(t0_f1.kb e13 c1_f1);have hob:ownB e d v=(true,vv):=(ownB_yes (by omega)).trans (hq.trans (by rw [List.drop_of_length_le (by omega)]<;>rfl));have q23:=(o0_f1.kw e13 hn1.2);have hLl:L.length=e.list.length:=hl_L;have hT9:=(CpF.keep t1_f1 e13 (fun b hb=>by subst hb;omega));have y6:Chg1 bc w w14:=(Chg.chg1 (Ct (Chg.refl (fun x=>x=bc) w) x2) e13 (.inr (by omega)));exact ⟨EX.mk e.kind e.frm e.to e.min e.max A1 c1 L,by rw [hob];show one [_,_]=Value.tuple #[Value.agg #[_,_,_,_,_,.slice _ L.length _],_];rw [hLl]<;>rfl,by rw [hob];exact q22,fun _=>CpX.node hnil1 hLl (by omega) q23 (fun k hk=>by have _h:=hn1.2 k hk;omega) (CpL.mono (by omega) (hT9.all (by omega) hLl)),y6⟩
theorem ownExpr_calls(bc:Nat)(w0:World)(e:EX)(w:World)(d v:Int):Ext w0 w→ExR w0 e→w0.heap.size≤bc→Blk w bc #[.int .i64 v] 3→0≤v∧v≤4096→0≤d∧d≤65→Calls Tryz.prog 145 #[(.agg #[(.int .i64 e.kind),(.int .i64 e.frm),(.int .i64 e.to),(.int .i64 e.min),(.int .i64 e.max),(.slice e.A e.list.length e.c)]),.int .i64 d,.pointer (some ⟨bc,0,none⟩)] w (Ret fun v' w'=>∃e',v' = .tuple #[.agg (EX.cs e').toArray,.bool (ownB e d v).1]∧Blk w' bc #[.int .i64 (ownB e d v).2] 3∧((ownB e d v).1=true→CpX w.heap.size w' e e')∧Chg1 bc w w'):=by
  have key:∀n:Nat,∀e:EX,exN e=n→∀(w:World) (d v:Int),Ext w0 w→ExR w0 e→w0.heap.size≤bc→Blk w bc #[.int .i64 v] 3→0≤v∧v≤4096→0≤d∧d≤65→Calls Tryz.prog 145 #[(.agg #[(.int .i64 e.kind),(.int .i64 e.frm),(.int .i64 e.to),(.int .i64 e.min),(.int .i64 e.max),(.slice e.A e.list.length e.c)]),.int .i64 d,.pointer (some ⟨bc,0,none⟩)] w (Ret fun v' w'=>∃e',v' = .tuple #[.agg (EX.cs e').toArray,.bool (ownB e d v).1]∧Blk w' bc #[.int .i64 (ownB e d v).2] 3∧((ownB e d v).1=true→CpX w.heap.size w' e e')∧Chg1 bc w w'):=by
    intro n
    induction n using Nat.strongRecOn with
    | _ n ih=>intro e he w d v h1 h2 h3 h4 h5 h6;exact ownExpr_step e d v bc w0 (fun x w d v hx=>ih (exN x) (by omega) x rfl w d v) w h1 h2 h3 h4 h5 h6
  exact key _ e rfl w d v
structure BS where
  a:Nat
  b:Nat
deriving Inhabited,DecidableEq
def BS.cs(x:BS):List Value:=[.int .u64 (x.a:Nat),.int .u64 (x.b:Nat)]
theorem BS.len(x:BS):x.cs.length=2:=rfl
theorem BS.one(x:BS):x.cs.all Value.oneCell'=true:=rfl
def BS.ok(x:BS):Prop:=x.a<18446744073709551616∧x.b<18446744073709551616
def BS.z:BS:=⟨0,0⟩
def BS.has(x:BS)(t:Nat):Bool:=if t<64 then x.a.testBit t else x.b.testBit (t-64)
def BS.and(x:BS)(t:Nat):BS:=if t<64 then ⟨x.a ||| 2 ^ t,x.b⟩ else ⟨x.a,x.b ||| 2 ^ (t-64)⟩
def BS.or(x y:BS):BS:=⟨x.a ||| y.a,x.b ||| y.b⟩
theorem BS.z_ok:BS.z.ok:=by unfold BS.ok BS.z;decide
theorem BS.z_has(t:Nat):BS.z.has t=false:=by unfold BS.has BS.z;simp
theorem BS.or_ok{x y:BS}(hx:x.ok)(hy:y.ok):(x.or y).ok:=by
  unfold BS.ok BS.or at *;exact ⟨Nat.or_lt_two_pow (n:=64) hx.1 hy.1,Nat.or_lt_two_pow (n:=64) hx.2 hy.2⟩
theorem BS.or_has(x y:BS)(t:Nat):(x.or y).has t=(x.has t || y.has t):=by
  unfold BS.has BS.or
  split<;>simp [Nat.testBit_or]
theorem BS.and_ok{x:BS}(hx:x.ok){t:Nat}(ht:t<128):(x.and t).ok:=by
  unfold BS.ok BS.and at *
  split
  exact ⟨Nat.or_lt_two_pow (n:=64) hx.1 (Nat.pow_lt_pow_right (by decide) (by omega)),hx.2⟩;exact ⟨hx.1,Nat.or_lt_two_pow (n:=64) hx.2 (Nat.pow_lt_pow_right (by decide) (by omega))⟩
theorem BS.and_has(x:BS){t u:Nat}(ht:t<128)(hu:u<128):(x.and t).has u=(x.has u || decide (t=u)):=by
  unfold BS.has BS.and;by_cases h1:t<64<;>by_cases h2:u<64<;>simp [h1,h2,Nat.testBit_or,Nat.testBit_two_pow];omega;omega;congr 1;exact decide_eq_decide.2 (by omega)
theorem sh6{t:Nat} : (((t:Nat):Int) / 2 ^ (6:Int).toNat)=((t / 64:Nat):Int):=by
  show ((t:Nat):Int) / 64=_;omega
theorem and63{t:Nat}(ht:t<128):bits .and .i64 (t:Nat) 63=((t % 64:Nat):Int):=by
  have:=bits_mask .i64 63 (by decide) (fun n h0 h1=>by rw [IntKind.wrap_i64];omega) 6 (by decide) (t:Nat) (by omega) (by omega)
  simpa using this
theorem shr1{a n:Nat}(ha:a<18446744073709551616):bits .and .u64 (((a:Nat):Int) / 2 ^ (((n:Nat):Int)).toNat) 1=if a.testBit n=true then 1 else 0:=by
  have h1:(((a:Nat):Int) / 2 ^ (((n:Nat):Int)).toNat)=((a / 2 ^ n:Nat):Int):=by rw [Int.toNat_natCast];norm_cast
  have h2:a / 2 ^ n<18446744073709551616:=Nat.lt_of_le_of_lt (Nat.div_le_self _ _) ha;rw [h1,show (1:Int)=((1:Nat):Int) from rfl,u64_and_nat _ _ h2 (by decide),nat_mask1];have h3:=Nat.testBit_eq_decide_div_mod_eq (x:=a) (i:=n);rw [h3];have h4:a / 2 ^ n % 2=0∨a / 2 ^ n % 2=1:=by omega
  rcases h4 with h4|h4<;>rw [h4]<;>simp
theorem shl1{n:Nat}(hn:n<64):IntKind.u64.wrap (1*2 ^ (((n:Nat):Int)).toNat)=((2 ^ n:Nat):Int):=by
  have h:(2:Nat) ^ n<2 ^ 64:=Nat.pow_lt_pow_right (by decide) hn;rw [IntKind.wrap_u64,Int.toNat_natCast,Int.one_mul];have h2:((2 ^ n:Nat):Int)=(2:Int) ^ n:=by norm_cast
  rw [←h2];have h3:(2:Nat) ^ 64=18446744073709551616:=by decide
  rw [h3] at h;exact Int.emod_eq_of_lt (Int.natCast_nonneg _) (Int.ofNat_lt.2 h)
theorem or64{a b:Nat}(ha:a<18446744073709551616)(hb:b<18446744073709551616):bits .or .u64 (a:Nat) (b:Nat)=((a ||| b:Nat):Int):=u64_or_nat a b ha hb
theorem pow64{n:Nat}(h:n<64):2 ^ n<18446744073709551616:=by
  have h:=Nat.pow_lt_pow_right (a:=2) (by decide) h;have h3:(2:Nat) ^ 64=18446744073709551616:=by decide
  rw [h3] at h;exact h
theorem hasLo{s:BS}{t:Nat}(h:t<64):decide ((if (s.a).testBit (t % 64)=true then 1 else 0:Int)≠0)=s.has t:=by
  unfold BS.has;rw [if_pos h,Nat.mod_eq_of_lt h];cases s.a.testBit t<;>simp
theorem hasHi{s:BS}{t:Nat}(h:64≤t)(ht:t<128:=by omega):decide ((if (s.b).testBit (t % 64)=true then 1 else 0:Int)≠0)=s.has t:=by
  unfold BS.has;rw [if_neg (show ¬t<64 by omega),show t % 64=t-64 by omega];cases s.b.testBit (t-64)<;>simp
theorem andLo{s:BS}{t:Nat}(h:t<64):(Value.agg #[.int .u64 ((s.a ||| 2 ^ (t % 64):Nat):Int),.int .u64 (s.b:Nat)]) = .agg #[.int .u64 ((s.and t).a:Nat),.int .u64 ((s.and t).b:Nat)]:=by
  unfold BS.and;rw [if_pos h,Nat.mod_eq_of_lt h]
theorem andHi{s:BS}{t:Nat}(h:64≤t)(ht:t<128:=by omega):(Value.agg #[.int .u64 (s.a:Nat),.int .u64 ((s.b ||| 2 ^ (t % 64):Nat):Int)]) = .agg #[.int .u64 ((s.and t).a:Nat),.int .u64 ((s.and t).b:Nat)]:=by
  unfold BS.and;rw [if_neg (show ¬t<64 by omega),show t % 64=t-64 by omega]
def symT(g:GD)(t:Int):Sym×Bool:=if t=(g.triv.length:Int) then (⟨2,0⟩,true) else if 0≤t∧t<(g.triv.length:Int)∧g.triv[t.toNat]! = false then (⟨1,t⟩,true) else (⟨0,0⟩,false)
theorem triv_at{s:SP}{i:Nat}{x:LR}(h:s.lex[i]?=some x):s.g.triv[i]! = x.trivia:=by
  show (s.lex.map LR.trivia)[i]! = _;rw [List.getElem!_eq_getElem?_getD,List.getElem?_map,h];rfl
theorem symT_err{s:SP}{t:Int}(h:t=(s.lex.length:Int)):symT s.g t=(⟨2,0⟩,true):=by unfold symT;rw [s.glex,if_pos h]
theorem symT_tm{s:SP}{t:Int}(h0:0≤t)(h1:t<(s.lex.length:Int)){x:LR}(hx:s.lex[t.toNat]?=some x)(hf:x.trivia=false):symT s.g t=(⟨1,t⟩,true):=by
  unfold symT;rw [s.glex,if_neg (by omega),if_pos ⟨h0,h1,by rw [triv_at hx];exact hf⟩]
theorem symT_no{s:SP}{t:Int}(h:¬t=(s.lex.length:Int))(h1:0≤t→t<(s.lex.length:Int)→s.g.triv[t.toNat]! = true):symT s.g t=(⟨0,0⟩,false):=by
  unfold symT;rw [s.glex,if_neg h,if_neg (fun hh=>by have h9:=h1 hh.1 hh.2.1;rw [hh.2.2] at h9;cases h9)]
instance tA_158:AggF Tryz.prog 158 where
instance tA_160:AggT Tryz.prog 160 where
instance tS_158:SzT Tryz.prog 158 1 where
instance tS_160:SzT Tryz.prog 160 2 where
theorem tV_160:arrTT Tryz.prog 160=some (2,158,1):=by kernel_rfl
instance tZ_160:ZrT Tryz.prog 160 (.agg #[(.int .u64 0),(.int .u64 0)]) where
theorem has_lo(s:BS)(t:Nat)(w:World)(hs:s.ok)(ht:t<128)(h64:t<64) :
    Calls Tryz.prog 83 #[(.agg #[(.int .u64 ((s.a:Nat))),(.int .u64 ((s.b:Nat)))]),(.int .i64 ((t:Nat)))] w (Ret (fun v w'=>v = .bool (s.has t)∧Ext w w')):=by
 refine calls_y (n:=14) Tryz.func83 ?_;refine go ?_;refine y_bx ?_;intro w1 e1 z1 b1;refine go ?_;refine yOp (ox_shrV (k:=.i64) (a:=((t:Nat))) (b:=6) (v:=0) rfl rfl (by omega) (by first | (simp [IntKind.bits];done) | (simp [IntKind.bits];omega)) (by rw [sh6];omega) ?_);refine yOp (ox_indexArrV (b:=w.heap.size) (o:=0) (i:=0) tV_160 rfl rfl (by decide) (by decide) ?_);refine y_ld b1 ?_;refine go ?_;refine yOp (ox_andV (k:=.i64) (a:=((t:Nat))) (b:=63) (v:=(((t % 64:Nat):Int))) rfl rfl (and63 (by omega)) ?_);refine yOp (ox_shrV (k:=.u64) (a:=((s.a:Nat))) (b:=(((t % 64:Nat):Int))) (v:=(((s.a:Nat):Int) / 2 ^ (((t % 64:Nat):Int)).toNat)) rfl rfl (by omega) (by first | (simp [IntKind.bits];done) | (simp [IntKind.bits];omega)) rfl ?_);refine yOp (ox_andV (k:=.u64) (a:=(((s.a:Nat):Int) / 2 ^ (((t % 64:Nat):Int)).toNat)) (b:=1) (v:=((if (s.a).testBit (t % 64)=true then 1 else 0:Int))) rfl rfl (shr1 (by have:=hs.1;have:=hs.2;omega)) ?_);refine go ?_;refine y_r1 ?_;exact ⟨congrArg Value.bool (hasLo h64),e1⟩
theorem and_lo(s:BS)(t:Nat)(w:World)(hs:s.ok)(ht:t<128)(h64:t<64) :
    Calls Tryz.prog 115 #[(.agg #[(.int .u64 ((s.a:Nat))),(.int .u64 ((s.b:Nat)))]),(.int .i64 ((t:Nat)))] w (Ret (fun v w'=>v = .agg #[.int .u64 ((s.and t).a:Nat),.int .u64 ((s.and t).b:Nat)]∧Ext w w')):=by
 refine calls_y (n:=15) Tryz.func115 ?_;refine go ?_;refine y_bx ?_;intro w1 e1 z1 b1;refine y_al ?_;intro w2 e2 z2 b2;refine go ?_;refine xc_regionE [9] (fun W_=>Chg (fun _=>False) w2 W_) hmix ?_;intro w3 e3 z3;have hS1:Chg (fun _=>False) w2 w3:=Ext.to e3;refine yDp 0 ?_;refine yDq (i:=1) rfl (fun W_ hW_=>ox_shrV (k:=.i64) (a:=((t:Nat))) (b:=6) (v:=0) rfl rfl (by omega) (by first | (simp [IntKind.bits];done) | (simp [IntKind.bits];omega)) (by rw [sh6];omega) ⟨rfl,rfl⟩) ?_;refine yDq (i:=2) rfl (fun W_ hW_=>ox_indexArrV (b:=w.heap.size) (o:=0) (i:=0) tV_160 rfl rfl (by decide) (by decide) ⟨rfl,rfl⟩) ?_;refine yDt (i:=3) rfl hS1 (fun W_ hW_=>ox_load tA_158.h rfl (((b1.ext e2).ext hW_).cell rfl) ⟨rfl,rfl⟩) ?_;refine yDp 4 ?_;refine yDq (i:=5) rfl (fun W_ hW_=>ox_andV (k:=.i64) (a:=((t:Nat))) (b:=63) (v:=(((t % 64:Nat):Int))) rfl rfl (and63 (by omega)) ⟨rfl,rfl⟩) ?_;refine yDq (i:=6) rfl (fun W_ hW_=>ox_shlV (k:=.u64) (a:=1) (b:=(((t % 64:Nat):Int))) (v:=(((2 ^ (t % 64):Nat):Int))) rfl rfl (by omega) (by first | (simp [IntKind.bits];done) | (simp [IntKind.bits];omega)) (shl1 (by omega)) ⟨rfl,rfl⟩) ?_;refine yDq (i:=7) rfl (fun W_ hW_=>ox_orV (k:=.u64) (a:=((s.a:Nat))) (b:=(((2 ^ (t % 64):Nat):Int))) (v:=(((s.a ||| 2 ^ (t % 64):Nat):Int))) rfl rfl (or64 (by have:=hs.1;have:=hs.2;omega) (pow64 (by omega))) ⟨rfl,rfl⟩) ?_;refine yDq (i:=8) rfl (fun W_ hW_=>ox_indexArrV (b:=w.heap.size) (o:=0) (i:=0) tV_160 rfl rfl (by decide) (by decide) ⟨rfl,rfl⟩) ?_;refine yD1 (i:=9) rfl (ox_store (n:=1) (vs:=[(.int .u64 (((s.a ||| 2 ^ (t % 64):Nat):Int)))]) tS_158.h rfl (v:=(.int .u64 (((s.a ||| 2 ^ (t % 64):Nat):Int)))) rfl rfl rfl rfl ((b1.ext e2).ext e3) (Nat.le_of_ble_eq_true rfl) ?_);intro w4 e4 z4 b3;replace b3:Blk w4 w.heap.size #[(.int .u64 (((s.a ||| 2 ^ (t % 64):Nat):Int))),(.int .u64 ((s.b:Nat)))] 160:=b3;refine ⟨.inl (by decide),?_⟩;refine xd_done (by kernel_rfl) ?_ _;refine go ?_;refine y_lN (vs:=[(.int .u64 (((s.a ||| 2 ^ (t % 64):Nat):Int))),(.int .u64 ((s.b:Nat)))]) ⟨b3.cell rfl,b3.cell rfl,trivial⟩ ?_;have q1:=((b2.ext e3).kl e4 b2.lt);refine y_st q1 ?_;intro w5 e5 z5 b4;replace b4:Blk w5 w1.heap.size #[(.int .u64 (((s.a ||| 2 ^ (t % 64):Nat):Int))),(.int .u64 ((s.b:Nat)))] 160:=blk_full b4 rfl;refine go ?_;change leaves _ _ _ _ _ _ _;refine leaves_nil (n:=15) (rs:=[.cell 4 160]) (vs:=[(.agg #[(.int .u64 (((s.a ||| 2 ^ (t % 64):Nat):Int))),(.int .u64 ((s.b:Nat)))])]) rfl ⟨⟨by decide,w1.heap.size,0,2,[(.int .u64 (((s.a ||| 2 ^ (t % 64):Nat):Int))),(.int .u64 ((s.b:Nat)))],rfl,tA_160.h,tS_160.h,rfl,⟨b4.cell rfl,b4.cell rfl,trivial⟩,rfl⟩,trivial⟩ ?_;have x1:Ext w w5:=(Xc (Xc (Xt (Xt e1 e2) e3) e4) e5);exact ⟨andLo h64,x1⟩
theorem has_hi(s:BS)(t:Nat)(w:World)(hs:s.ok)(ht:t<128)(h64:64≤t) :
    Calls Tryz.prog 83 #[(.agg #[(.int .u64 ((s.a:Nat))),(.int .u64 ((s.b:Nat)))]),(.int .i64 ((t:Nat)))] w (Ret (fun v w'=>v = .bool (s.has t)∧Ext w w')):=by
 refine calls_y (n:=14) Tryz.func83 ?_;refine go ?_;refine y_bx ?_;intro w1 e1 z1 b1;refine go ?_;refine yOp (ox_shrV (k:=.i64) (a:=((t:Nat))) (b:=6) (v:=1) rfl rfl (by omega) (by first | (simp [IntKind.bits];done) | (simp [IntKind.bits];omega)) (by rw [sh6];omega) ?_);refine yOp (ox_indexArrV (b:=w.heap.size) (o:=0) (i:=1) tV_160 rfl rfl (by decide) (by decide) ?_);refine y_ld b1 ?_;refine go ?_;refine yOp (ox_andV (k:=.i64) (a:=((t:Nat))) (b:=63) (v:=(((t % 64:Nat):Int))) rfl rfl (and63 (by omega)) ?_);refine yOp (ox_shrV (k:=.u64) (a:=((s.b:Nat))) (b:=(((t % 64:Nat):Int))) (v:=(((s.b:Nat):Int) / 2 ^ (((t % 64:Nat):Int)).toNat)) rfl rfl (by omega) (by first | (simp [IntKind.bits];done) | (simp [IntKind.bits];omega)) rfl ?_);refine yOp (ox_andV (k:=.u64) (a:=(((s.b:Nat):Int) / 2 ^ (((t % 64:Nat):Int)).toNat)) (b:=1) (v:=((if (s.b).testBit (t % 64)=true then 1 else 0:Int))) rfl rfl (shr1 (by have:=hs.1;have:=hs.2;omega)) ?_);refine go ?_;refine y_r1 ?_;exact ⟨congrArg Value.bool (hasHi h64),e1⟩
theorem and_hi(s:BS)(t:Nat)(w:World)(hs:s.ok)(ht:t<128)(h64:64≤t) :
    Calls Tryz.prog 115 #[(.agg #[(.int .u64 ((s.a:Nat))),(.int .u64 ((s.b:Nat)))]),(.int .i64 ((t:Nat)))] w (Ret (fun v w'=>v = .agg #[.int .u64 ((s.and t).a:Nat),.int .u64 ((s.and t).b:Nat)]∧Ext w w')):=by
 refine calls_y (n:=15) Tryz.func115 ?_;refine go ?_;refine y_bx ?_;intro w1 e1 z1 b1;refine y_al ?_;intro w2 e2 z2 b2;refine go ?_;refine xc_regionE [9] (fun W_=>Chg (fun _=>False) w2 W_) hmix ?_;intro w3 e3 z3;have hS1:Chg (fun _=>False) w2 w3:=Ext.to e3;refine yDp 0 ?_;refine yDq (i:=1) rfl (fun W_ hW_=>ox_shrV (k:=.i64) (a:=((t:Nat))) (b:=6) (v:=1) rfl rfl (by omega) (by first | (simp [IntKind.bits];done) | (simp [IntKind.bits];omega)) (by rw [sh6];omega) ⟨rfl,rfl⟩) ?_;refine yDq (i:=2) rfl (fun W_ hW_=>ox_indexArrV (b:=w.heap.size) (o:=0) (i:=1) tV_160 rfl rfl (by decide) (by decide) ⟨rfl,rfl⟩) ?_;refine yDt (i:=3) rfl hS1 (fun W_ hW_=>ox_load tA_158.h rfl (((b1.ext e2).ext hW_).cell rfl) ⟨rfl,rfl⟩) ?_;refine yDp 4 ?_;refine yDq (i:=5) rfl (fun W_ hW_=>ox_andV (k:=.i64) (a:=((t:Nat))) (b:=63) (v:=(((t % 64:Nat):Int))) rfl rfl (and63 (by omega)) ⟨rfl,rfl⟩) ?_;refine yDq (i:=6) rfl (fun W_ hW_=>ox_shlV (k:=.u64) (a:=1) (b:=(((t % 64:Nat):Int))) (v:=(((2 ^ (t % 64):Nat):Int))) rfl rfl (by omega) (by first | (simp [IntKind.bits];done) | (simp [IntKind.bits];omega)) (shl1 (by omega)) ⟨rfl,rfl⟩) ?_;refine yDq (i:=7) rfl (fun W_ hW_=>ox_orV (k:=.u64) (a:=((s.b:Nat))) (b:=(((2 ^ (t % 64):Nat):Int))) (v:=(((s.b ||| 2 ^ (t % 64):Nat):Int))) rfl rfl (or64 (by have:=hs.1;have:=hs.2;omega) (pow64 (by omega))) ⟨rfl,rfl⟩) ?_;refine yDq (i:=8) rfl (fun W_ hW_=>ox_indexArrV (b:=w.heap.size) (o:=0) (i:=1) tV_160 rfl rfl (by decide) (by decide) ⟨rfl,rfl⟩) ?_;refine yD1 (i:=9) rfl (ox_store (n:=1) (vs:=[(.int .u64 (((s.b ||| 2 ^ (t % 64):Nat):Int)))]) tS_158.h rfl (v:=(.int .u64 (((s.b ||| 2 ^ (t % 64):Nat):Int)))) rfl rfl rfl rfl ((b1.ext e2).ext e3) (Nat.le_of_ble_eq_true rfl) ?_);intro w4 e4 z4 b3;replace b3:Blk w4 w.heap.size #[(.int .u64 ((s.a:Nat))),(.int .u64 (((s.b ||| 2 ^ (t % 64):Nat):Int)))] 160:=b3;refine ⟨.inl (by decide),?_⟩;refine xd_done (by kernel_rfl) ?_ _;refine go ?_;refine y_lN (vs:=[(.int .u64 ((s.a:Nat))),(.int .u64 (((s.b ||| 2 ^ (t % 64):Nat):Int)))]) ⟨b3.cell rfl,b3.cell rfl,trivial⟩ ?_;have q1:=((b2.ext e3).kl e4 b2.lt);refine y_st q1 ?_;intro w5 e5 z5 b4;replace b4:Blk w5 w1.heap.size #[(.int .u64 ((s.a:Nat))),(.int .u64 (((s.b ||| 2 ^ (t % 64):Nat):Int)))] 160:=blk_full b4 rfl;refine go ?_;change leaves _ _ _ _ _ _ _;refine leaves_nil (n:=15) (rs:=[.cell 4 160]) (vs:=[(.agg #[(.int .u64 ((s.a:Nat))),(.int .u64 (((s.b ||| 2 ^ (t % 64):Nat):Int)))])]) rfl ⟨⟨by decide,w1.heap.size,0,2,[(.int .u64 ((s.a:Nat))),(.int .u64 (((s.b ||| 2 ^ (t % 64):Nat):Int)))],rfl,tA_160.h,tS_160.h,rfl,⟨b4.cell rfl,b4.cell rfl,trivial⟩,rfl⟩,trivial⟩ ?_;have x1:Ext w w5:=(Xc (Xc (Xt (Xt e1 e2) e3) e4) e5);exact ⟨andHi h64,x1⟩
theorem or_calls2(s o:BS)(w:World)(hs:s.ok)(ho:o.ok) :
    Calls Tryz.prog 114 #[(.agg #[(.int .u64 ((s.a:Nat))),(.int .u64 ((s.b:Nat)))]),(.agg #[(.int .u64 ((o.a:Nat))),(.int .u64 ((o.b:Nat)))])] w (Ret (fun v w'=>v = .agg #[.int .u64 ((s.or o).a:Nat),.int .u64 ((s.or o).b:Nat)]∧Ext w w')):=by
 refine calls_y (n:=16) Tryz.func114 ?_;refine go ?_;refine y_bx ?_;intro w1 e1 z1 b1;refine y_bx ?_;intro w2 e2 z2 b2;refine y_al ?_;intro w3 e3 z3 b3;refine go ?_;refine yOp (ox_indexArrV (b:=w.heap.size) (o:=0) (i:=0) tV_160 rfl rfl (by decide) (by decide) ?_);refine y_ld ((b1.ext e2).ext e3) ?_;refine yOp (ox_indexArrV (b:=w1.heap.size) (o:=0) (i:=0) tV_160 rfl rfl (by decide) (by decide) ?_);refine y_ld (b2.ext e3) ?_;refine yOp (ox_orV (k:=.u64) (a:=((s.a:Nat))) (b:=((o.a:Nat))) (v:=(((s.a ||| o.a:Nat):Int))) rfl rfl (or64 (by have:=hs.1;have:=hs.2;omega) (by have:=ho.1;have:=ho.2;omega)) ?_);refine yOp (ox_indexArrV (b:=w.heap.size) (o:=0) (i:=1) tV_160 rfl rfl (by decide) (by decide) ?_);refine y_ld ((b1.ext e2).ext e3) ?_;refine yOp (ox_indexArrV (b:=w1.heap.size) (o:=0) (i:=1) tV_160 rfl rfl (by decide) (by decide) ?_);refine y_ld (b2.ext e3) ?_;refine yOp (ox_orV (k:=.u64) (a:=((s.b:Nat))) (b:=((o.b:Nat))) (v:=(((s.b ||| o.b:Nat):Int))) rfl rfl (or64 (by have:=hs.1;have:=hs.2;omega) (by have:=ho.1;have:=ho.2;omega)) ?_);refine yOp (ox_mkArr (ps:=[(0,(.int .u64 (((s.a ||| o.a:Nat):Int)))),(1,(.int .u64 (((s.b ||| o.b:Nat):Int))))]) (cs:=#[(.int .u64 (((s.a ||| o.a:Nat):Int))),(.int .u64 (((s.b ||| o.b:Nat):Int)))]) tZ_160.h tV_160 rfl (by kernel_rfl) ?_);refine y_st b3 ?_;intro w4 e4 z4 b4;replace b4:Blk w4 w2.heap.size #[(.int .u64 (((s.a ||| o.a:Nat):Int))),(.int .u64 (((s.b ||| o.b:Nat):Int)))] 160:=blk_full b4 rfl;refine go ?_;change leaves _ _ _ _ _ _ _;refine leaves_nil (n:=16) (rs:=[.cell 4 160]) (vs:=[(.agg #[(.int .u64 (((s.a ||| o.a:Nat):Int))),(.int .u64 (((s.b ||| o.b:Nat):Int)))])]) rfl ⟨⟨by decide,w2.heap.size,0,2,[(.int .u64 (((s.a ||| o.a:Nat):Int))),(.int .u64 (((s.b ||| o.b:Nat):Int)))],rfl,tA_160.h,tS_160.h,rfl,⟨b4.cell rfl,b4.cell rfl,trivial⟩,rfl⟩,trivial⟩ ?_;have x1:Ext w w4:=(Xc (Xt (Xt e1 e2) e3) e4);exact ⟨rfl,x1⟩
theorem setHas_calls(s:BS)(t:Nat)(w:World)(hs:s.ok)(ht:t<128):Calls Tryz.prog 83 #[.agg #[.int .u64 (s.a:Nat),.int .u64 (s.b:Nat)],.int .i64 (t:Nat)] w (Ret (fun v w'=>v = .bool (s.has t)∧Ext w w')):=by
  rcases Nat.lt_or_ge t 64 with h|h;exact has_lo s t w hs ht h;exact has_hi s t w hs ht h
theorem setAnd_calls(s:BS)(t:Nat)(w:World)(hs:s.ok)(ht:t<128):Calls Tryz.prog 115 #[.agg #[.int .u64 (s.a:Nat),.int .u64 (s.b:Nat)],.int .i64 (t:Nat)] w (Ret (fun v w'=>v = .agg #[.int .u64 ((s.and t).a:Nat),.int .u64 ((s.and t).b:Nat)]∧Ext w w')):=by
  rcases Nat.lt_or_ge t 64 with h|h;exact and_lo s t w hs ht h;exact and_hi s t w hs ht h
theorem tname_calls(i:Int)(w:World)  :
    Calls Tryz.prog 64 #[(.int .i64 i)] w (Ret (fun v w'=>v = .agg #[.int .i64 3,.int .i64 i]∧Ext w w')):=by
 refine calls_y (n:=5) Tryz.func64 ?_;refine go ?_;refine y_al ?_;intro w1 e1 z1 b1;refine go ?_;refine yOp (ox_mkStruct (ps:=[(0,(.int .i64 3)),(1,(.int .i64 i))]) (cs:=#[(.int .i64 3),(.int .i64 i)]) tZ_75.h tP_75.h rfl (by kernel_rfl) ?_);refine y_st b1 ?_;intro w2 e2 z2 b2;replace b2:Blk w2 w.heap.size #[(.int .i64 3),(.int .i64 i)] 75:=blk_full b2 rfl;refine go ?_;change leaves _ _ _ _ _ _ _;refine leaves_nil (n:=5) (rs:=[.cell 2 75]) (vs:=[(.agg #[(.int .i64 3),(.int .i64 i)])]) rfl ⟨⟨by decide,w.heap.size,0,2,[(.int .i64 3),(.int .i64 i)],rfl,tA_75.h,tS_75.h,rfl,⟨b2.cell rfl,b2.cell rfl,trivial⟩,rfl⟩,trivial⟩ ?_;have x1:Ext w w2:=(Xc e1 e2);exact ⟨rfl,x1⟩
theorem tsymbol_calls(s:SP)(t:Int)(w:World)(hS:SpR w s) :
    Calls Tryz.prog 168 #[(.agg #[(.slice s.lA s.lex.length s.lc),(.slice s.nA s.names.length s.nc),(.int .i64 s.start),(.slice s.pA s.prods.length s.pc)]),(.int .i64 t)] w (Ret (fun v w'=>v = .tuple #[.agg #[.int .i64 (symT s.g t).1.kind,.int .i64 (symT s.g t).1.n],.bool (symT s.g t).2]∧Ext w w')):=by
 have hfl:=hS.fl.le;refine calls_y (n:=35) Tryz.func168 ?_;refine go ?_;refine y_bx ?_;intro w1 e1 z1 b1;refine y_al ?_;intro w2 e2 z2 b2;refine go ?_;refine y_ld (b1.ext e2) ?_;refine go ?_;refine y_if (fun h1=>?_) (fun h1=>?_);refine go ?_;refine yOp (ox_mkStruct (ps:=[(0,(.int .i64 2))]) (cs:=#[(.int .i64 2),(.int .i64 0)]) tZ_75.h tP_75.h rfl (by kernel_rfl) ?_);refine y_st b2 ?_;intro w3 e3 z3 b3;replace b3:Blk w3 w1.heap.size #[(.int .i64 2),(.int .i64 0)] 75:=blk_full b3 rfl;refine go ?_;change leaves _ _ _ _ _ _ _;refine leaves_nil (n:=35) (rs:=[.cell 4 75,.tmp 5]) (vs:=[(.agg #[(.int .i64 2),(.int .i64 0)]),(.bool true)]) rfl ⟨⟨by decide,w1.heap.size,0,2,[(.int .i64 2),(.int .i64 0)],rfl,tA_75.h,tS_75.h,rfl,⟨b3.cell rfl,b3.cell rfl,trivial⟩,rfl⟩,⟨by decide,rfl⟩,trivial⟩ ?_;have x1:Ext w w3:=(Xc (Xt e1 e2) e3);exact ⟨by rw [symT_err (by omega)]<;>rfl,x1⟩;refine go ?_;by_cases h2:(0:Int)≤t;refine ysL (s:=16) (bT (decide_eq_true h2)) ?_;refine go ?_;refine y_ld (b1.ext e2) ?_;refine go ?_;by_cases h3:(t:Int)<(((s.lex.length:Nat):Int));refine ysL (s:=23) (bT (decide_eq_true h3)) ?_;refine go ?_;refine y_ld (b1.ext e2) ?_;have x2:Ext w w2:=(Xt e1 e2);obtain ⟨x_1,g_1,o_1,hx_1⟩:=row_may (A:=s.lA) (cs:=LR.cs) t.toNat LR.len (by decide) (RowA.ext hS.lex x2);obtain ⟨hx_2,hA_1,hc_1⟩:=hx_1 oM;refine go ?_;refine y_ix t.toNat hA_1 ?_;refine go ?_;refine y_lc (CellsL.at1 hc_1 1 rfl) ?_;refine go ?_;refine xc_cond (b:=(!x_1.trivia)) rfl (fun h4=>?_) (fun h4=>?_);have h4':=bS h4;refine go ?_;refine yOp (ox_mkStruct (ps:=[(0,(.int .i64 1)),(1,(.int .i64 t))]) (cs:=#[(.int .i64 1),(.int .i64 t)]) tZ_75.h tP_75.h rfl (by kernel_rfl) ?_);refine y_st b2 ?_;intro w4 e4 z4 b4;replace b4:Blk w4 w1.heap.size #[(.int .i64 1),(.int .i64 t)] 75:=blk_full b4 rfl;refine go ?_;change leaves _ _ _ _ _ _ _;refine leaves_nil (n:=35) (rs:=[.cell 4 75,.tmp 5]) (vs:=[(.agg #[(.int .i64 1),(.int .i64 t)]),(.bool true)]) rfl ⟨⟨by decide,w1.heap.size,0,2,[(.int .i64 1),(.int .i64 t)],rfl,tA_75.h,tS_75.h,rfl,⟨b4.cell rfl,b4.cell rfl,trivial⟩,rfl⟩,⟨by decide,rfl⟩,trivial⟩ ?_;have x3:Ext w w4:=(Xc x2 e4);exact ⟨by rw [symT_tm (by omega) (by omega) hx_2 (by simpa using h4)]<;>rfl,x3⟩;have h4':=bS h4;refine go ?_;refine yOp (ox_mkStruct (ps:=[]) (cs:=#[(.int .i64 0),(.int .i64 0)]) tZ_75.h tP_75.h rfl (by kernel_rfl) ?_);refine y_st b2 ?_;intro w5 e5 z5 b5;replace b5:Blk w5 w1.heap.size #[(.int .i64 0),(.int .i64 0)] 75:=blk_full b5 rfl;refine go ?_;change leaves _ _ _ _ _ _ _;refine leaves_nil (n:=35) (rs:=[.cell 4 75,.tmp 5]) (vs:=[(.agg #[(.int .i64 0),(.int .i64 0)]),(.bool false)]) rfl ⟨⟨by decide,w1.heap.size,0,2,[(.int .i64 0),(.int .i64 0)],rfl,tA_75.h,tS_75.h,rfl,⟨b5.cell rfl,b5.cell rfl,trivial⟩,rfl⟩,⟨by decide,rfl⟩,trivial⟩ ?_;have x4:Ext w w5:=(Xc x2 e5);exact ⟨by rw [symT_no (by omega) (fun h0 h1=>by rw [show s.g.triv[t.toNat]! = _ from triv_at hx_2];simpa using h4)]<;>rfl,x4⟩;refine ysL (s:=23) (bF (decide_eq_false h3)) ?_;refine go ?_;refine yOp (ox_mkStruct (ps:=[]) (cs:=#[(.int .i64 0),(.int .i64 0)]) tZ_75.h tP_75.h rfl (by kernel_rfl) ?_)
 refine y_st b2 ?_;intro w6 e6 z6 b6;replace b6:Blk w6 w1.heap.size #[(.int .i64 0),(.int .i64 0)] 75:=blk_full b6 rfl;refine go ?_;change leaves _ _ _ _ _ _ _;refine leaves_nil (n:=35) (rs:=[.cell 4 75,.tmp 5]) (vs:=[(.agg #[(.int .i64 0),(.int .i64 0)]),(.bool false)]) rfl ⟨⟨by decide,w1.heap.size,0,2,[(.int .i64 0),(.int .i64 0)],rfl,tA_75.h,tS_75.h,rfl,⟨b6.cell rfl,b6.cell rfl,trivial⟩,rfl⟩,⟨by decide,rfl⟩,trivial⟩ ?_;have x5:Ext w w6:=(Xc (Xt e1 e2) e6);exact ⟨by rw [symT_no (by omega) (fun h0 h1=>by omega)]<;>rfl,x5⟩;refine ysL (s:=16) (bF (decide_eq_false h2)) ?_;refine go ?_;refine yOp (ox_mkStruct (ps:=[]) (cs:=#[(.int .i64 0),(.int .i64 0)]) tZ_75.h tP_75.h rfl (by kernel_rfl) ?_);refine y_st b2 ?_;intro w7 e7 z7 b7;replace b7:Blk w7 w1.heap.size #[(.int .i64 0),(.int .i64 0)] 75:=blk_full b7 rfl;refine go ?_;change leaves _ _ _ _ _ _ _;refine leaves_nil (n:=35) (rs:=[.cell 4 75,.tmp 5]) (vs:=[(.agg #[(.int .i64 0),(.int .i64 0)]),(.bool false)]) rfl ⟨⟨by decide,w1.heap.size,0,2,[(.int .i64 0),(.int .i64 0)],rfl,tA_75.h,tS_75.h,rfl,⟨b7.cell rfl,b7.cell rfl,trivial⟩,rfl⟩,⟨by decide,rfl⟩,trivial⟩ ?_;have x6:Ext w w7:=(Xc (Xt e1 e2) e7);exact ⟨by rw [symT_no (by omega) (fun h0 h1=>by omega)]<;>rfl,x6⟩
def posS:List Nat→Nat→Nat
  | [],_=>0
  | y::r,x=>if y=x then r.length+1 else posS r x
theorem posS_le:∀(l:List Nat) (x:Nat),posS l x≤l.length
  | [],_=>Nat.le_refl _
  | y::r,x=>by
    have:=posS_le r x;unfold posS
    split<;>simp only [List.length_cons]<;>omega
theorem posS_app:∀ {a b:List Nat} {x:Nat},x∉a→posS (a++b) x=posS b x
  | [],_,_,_=>rfl
  | y::a,b,x,h=>by
    have h1:¬y=x:=fun e=>h (by rw [e];simp)
    show (if y=x then _ else posS (a++b) x)=_;rw [if_neg h1];exact posS_app fun hx=>h (by simp [hx])
theorem posS_head{x:Nat}{b:List Nat} : posS (x::b) x=b.length+1:=by unfold posS;rw [if_pos rfl]
theorem posS_up{a b:List Nat}{x:Nat}(h:x∈a++b)(hn:(a++b).Nodup):b.length<posS (a++b) x↔x∈a:=by
  induction a with
  | nil =>
    have:=posS_le b x;simp only [List.nil_append,List.not_mem_nil,iff_false];omega
  | cons y a ih =>
    show b.length<(if y=x then (a++b).length+1 else posS (a++b) x)↔_;rw [List.cons_append,List.nodup_cons] at hn;by_cases h1:y=x;rw [if_pos h1,List.length_append];simp [h1];omega;rw [if_neg h1]
    have h2:x∈a++b:=by
      rcases List.mem_cons.1 h with rfl|h;exact absurd rfl h1;exact h
    rw [ih h2 hn.2];simp only [List.mem_cons];exact ⟨.inr,fun h=>h.resolve_left fun e=>h1 e.symm⟩
theorem getD_set{α:Type}{l:List α}{i j:Nat}{v d:α} : (l.set i v).getD j d=if i=j∧i<l.length then v else l.getD j d:=by
  rw [List.getD_eq_getElem?_getD,List.getD_eq_getElem?_getD];by_cases h:i=j;subst h;by_cases hl:i<l.length;rw [List.getElem?_set_self hl,if_pos ⟨rfl,hl⟩];rfl;rw [if_neg (fun h=>hl h.2),List.getElem?_eq_none (by rw [List.length_set];omega),List.getElem?_eq_none (by omega)];rw [List.getElem?_set_ne h,if_neg (fun h'=>h h'.1)]
inductive Rch(to:List (List Nat)):Nat→Nat→Prop
  | refl (x:Nat):Rch to x x
  | step {x y u:Nat} : y∈to.getD x []→Rch to y u→Rch to x u
theorem Rch.trans{to:List (List Nat)}{x y u:Nat}(h:Rch to x y)(h2:Rch to y u):Rch to x u:=by
  induction h with
  | refl=>exact h2
  | step h1 _ ih=>exact .step h1 (ih h2)
def doneI:Int:=4611686018427387904
structure SS(β:Type) where
  dp:List Int
  stk:List Nat
  F:List β
section
variable {β:Type}(z:β)(or_:β→β→β)(to:List (List Nat))
def popS(x:Nat):List Nat→SS β→SS β
  | [],s=>⟨s.dp,[],s.F⟩
  | y::r,s=>if y=x then ⟨s.dp.set y doneI,r,s.F.set y (s.F.getD x z)⟩ else popS x r ⟨s.dp.set y doneI,r,s.F.set y (s.F.getD x z)⟩
def edgeS(w:Nat→SS β→SS β)(x:Nat)(s:SS β)(y:Nat):SS β :=
  let s1:=if s.dp.getD y 0=0 then w y s else s
  ⟨s1.dp.set x (if s1.dp.getD y 0<s1.dp.getD x 0 then s1.dp.getD y 0 else s1.dp.getD x 0),s1.stk,s1.F.set x (or_ (s1.F.getD x z) (s1.F.getD y z))⟩
def walkS:Nat→Nat→SS β→SS β
  | 0,_,s=>s
  | k+1,x,s =>
    let s2:=(to.getD x []).foldl (edgeS z or_ (walkS k) x) ⟨s.dp.set x ((s.stk.length+1:Nat):Int),x::s.stk,s.F⟩
    if s2.dp.getD x 0=((s.stk.length+1:Nat):Int) then popS z x s2.stk s2 else s2
def spreadS(n:Nat)(F:List β):List β:=((List.range n).foldl (fun s x=>if s.dp.getD x 0=0 then walkS z or_ to n x s else s) ⟨List.replicate n 0,[],F⟩).F
end
section
variable {β:Type}{z:β}{or_:β→β→β}{to:List (List Nat)}{n:Nat}{mem:β→Nat→Prop}{F0:Nat→β}
def RR(to:List (List Nat))(mem:β→Nat→Prop)(F0:Nat→β)(x t:Nat):Prop:=∃y,Rch to x y∧mem (F0 y) t
theorem RR.edge{x y t:Nat}(h:y∈to.getD x [])(hr:RR to mem F0 y t):RR to mem F0 x t:=by
  obtain ⟨u,h1,h2⟩:=hr;exact ⟨u,.step h h1,h2⟩
structure Bs(z:β)(to:List (List Nat))(n:Nat)(mem:β→Nat→Prop)(F0:Nat→β)(s:SS β):Prop where
  dl:s.dp.length=n
  fl:s.F.length=n
  nd:s.stk.Nodup
  lt:∀x∈s.stk,x<n
  on:∀x∈s.stk,1≤s.dp.getD x 0∧s.dp.getD x 0≤(posS s.stk x:Nat)
  off:∀x,x∉s.stk→s.dp.getD x 0=0∨s.dp.getD x 0=doneI
  low:∀x∈s.stk,∃u∈s.stk,((posS s.stk u:Nat):Int)=s.dp.getD x 0∧Rch to x u
  white:∀x,s.dp.getD x 0=0→s.F.getD x z=F0 x
  snd:∀x t,mem (s.F.getD x z) t→RR to mem F0 x t
  has:∀x t,mem (F0 x) t→mem (s.F.getD x z) t
  black:∀x,s.dp.getD x 0=doneI→(∀t,RR to mem F0 x t→mem (s.F.getD x z) t)∧∀y∈to.getD x [],s.dp.getD y 0=doneI
def Pe(z:β)(mem:β→Nat→Prop)(s:SS β)(v y:Nat):Prop:=(s.dp.getD y 0=doneI∧∀t,mem (s.F.getD y z) t→mem (s.F.getD v z) t)∨(y∈s.stk∧s.dp.getD v 0≤(posS s.stk y:Nat))
structure Fn(z:β)(to:List (List Nat))(mem:β→Nat→Prop)(s:SS β)(x v:Nat):Prop where
  le:s.dp.getD x 0≤s.dp.getD v 0
  sub:∀t,mem (s.F.getD v z) t→mem (s.F.getD x z) t
  rch:Rch to x v
  dlt:s.dp.getD v 0<(posS s.stk v:Nat)
  ed:∀y∈to.getD v [],Pe z mem s v y
structure Wp(z:β)(to:List (List Nat))(n:Nat)(mem:β→Nat→Prop)(F0:Nat→β)(s s':SS β)(x:Nat)(ext:List Nat):Prop where
  bs:Bs z to n mem F0 s'
  stk:s'.stk=ext++s.stk
  new:∀v∈ext,s.dp.getD v 0=0
  same:∀u,s.dp.getD u 0≠0→s'.dp.getD u 0=s.dp.getD u 0∧s'.F.getD u z=s.F.getD u z
  out:(ext = []∧s'.dp.getD x 0=doneI)∨(x∈ext∧s'.dp.getD x 0≤(s.stk.length:Nat)∧∀v∈ext,Fn z to mem s' x v)
structure Rw(z:β)(to:List (List Nat))(n:Nat)(mem:β→Nat→Prop)(F0:Nat→β)(s0 s:SS β)(x:Nat)(zs:List Nat)(ext:List Nat):Prop where
  bs:Bs z to n mem F0 s
  stk:s.stk=ext++x::s0.stk
  new:∀v∈ext,s0.dp.getD v 0=0
  same:∀u,s0.dp.getD u 0≠0→s.dp.getD u 0=s0.dp.getD u 0∧s.F.getD u z=s0.F.getD u z
  le:s.dp.getD x 0≤(s0.stk.length+1:Nat)
  fn:∀v∈ext,Fn z to mem s x v
  pe:∀y∈zs,Pe z mem s x y
theorem nodup_le:∀(n:Nat) (l:List Nat),l.Nodup→(∀x∈l,x<n)→l.length≤n
  | 0,[],_,_=>Nat.le_refl _
  | 0,x::l,_,h=>by have:=h x (by simp);omega
  | n+1,l,hn,h=>by
    by_cases hm:n∈l
    have h1:=nodup_le n (l.erase n) (hn.erase n) fun x hx=>by
      have h2:=(hn.mem_erase_iff).1 hx;have:=h x h2.2;have:=h2.1;omega
    rw [List.length_erase_of_mem hm] at h1;omega
    have:=nodup_le n l hn fun x hx=>by
      have:=h x hx;have:x≠n:=fun e=>hm (by rw [←e];exact hx)
      omega
    omega
theorem Bs.stk_n{s:SS β}(h:Bs z to n mem F0 s):s.stk.length≤n:=by
  exact nodup_le n s.stk h.nd h.lt
theorem Bs.ndone{s:SS β}(h:Bs z to n mem F0 s)(hn:n≤1000000000){x:Nat}(hx:x∈s.stk):s.dp.getD x 0≠doneI∧s.dp.getD x 0≠0:=by
  have h1:=h.on x hx;have h2:=posS_le s.stk x;have h3:=h.stk_n;unfold doneI;exact ⟨by omega,by omega⟩
theorem Bs.upd(hor:∀a b t,mem (or_ a b) t↔mem a t∨mem b t)(hn:n≤1000000000){s:SS β}(h:Bs z to n mem F0 s){x y:Nat}(hx:x∈s.stk)(hy:y∈to.getD x [])(hy0:s.dp.getD y 0≠0) :
    Bs z to n mem F0 ⟨s.dp.set x (if s.dp.getD y 0<s.dp.getD x 0 then s.dp.getD y 0 else s.dp.getD x 0),s.stk,s.F.set x (or_ (s.F.getD x z) (s.F.getD y z))⟩:=by
  have hxn:=h.lt x hx;have hxd:x<s.dp.length:=by rw [h.dl];exact hxn
  have hxf:x<s.F.length:=by rw [h.fl];exact hxn
  have hnd:=h.ndone hn hx;have hon:=h.on x hx;have hd:∀u v,(s.dp.set x v).getD u 0=if x=u then v else s.dp.getD u 0:=fun u v=>by rw [getD_set];simp [hxd]
  have hf:∀u v,(s.F.set x v).getD u z=if x=u then v else s.F.getD u z:=fun u v=>by rw [getD_set];simp [hxf]
  have hyc:y∈s.stk∨s.dp.getD y 0=doneI:=by
    by_cases hm:y∈s.stk;exact .inl hm;exact .inr ((h.off y hm).resolve_left hy0)
  have hmin:1≤(if s.dp.getD y 0<s.dp.getD x 0 then s.dp.getD y 0 else s.dp.getD x 0)∧(if s.dp.getD y 0<s.dp.getD x 0 then s.dp.getD y 0 else s.dp.getD x 0)≤s.dp.getD x 0:=by
    split
    refine ⟨?_,by omega⟩;rcases hyc with hm|hm;exact (h.on y hm).1;rw [hm];decide;exact ⟨hon.1,Int.le_refl _⟩
  refine ⟨by simp [h.dl],by simp [h.fl],h.nd,h.lt,fun u hu=>?_,fun u hu=>?_,fun u hu=>?_,fun u hu=>?_,fun u t ht=>?_,fun u t ht=>?_,fun u hu=>?_⟩;simp only [hd]
  split
  rename_i e;subst e;exact ⟨hmin.1,by have:=hon.2;have:=hmin.2;omega⟩;exact h.on u hu;simp only [hd];rw [if_neg (fun e=>hu (by rw [←e];exact hx))];exact h.off u hu;simp only [hd]
  split
  rename_i e;subst e
  split
  rename_i hlt
  have hm:y∈s.stk:=by
    rcases hyc with hm|hm;exact hm;exfalso;have h2:=posS_le s.stk x;have h3:=h.stk_n;rw [hm] at hlt;unfold doneI at hlt;have:=hon.2;omega
  obtain ⟨w,h1,h2,h3⟩:=h.low y hm;exact ⟨w,h1,h2,.step hy h3⟩;exact h.low x hx;exact h.low u hu;simp only [hd] at hu;simp only [hf]
  split at hu
  have:=hmin.1;omega;rename_i e;rw [if_neg e];exact h.white u hu;simp only [hf] at ht
  split at ht
  rename_i e;subst e;rcases (hor _ _ _).1 ht with ht|ht;exact h.snd x t ht;exact RR.edge hy (h.snd y t ht);exact h.snd u t ht;simp only [hf]
  split
  rename_i e;subst e;exact (hor _ _ _).2 (.inl (h.has x t ht));exact h.has u t ht;simp only [hd] at hu
  split at hu
  have:=hmin.2;have h2:=posS_le s.stk x;have h3:=h.stk_n;unfold doneI at hu;have:=hon.2;omega;rename_i e;obtain ⟨h1,h2⟩:=h.black u hu;refine ⟨fun t ht=>by simp only [hf];rw [if_neg e];exact h1 t ht,fun w hw=>?_⟩;simp only [hd];rw [if_neg (fun e2=>hnd.1 (by rw [e2];exact h2 w hw))];exact h2 w hw
end
section
variable {β:Type}{z:β}{or_:β→β→β}{to:List (List Nat)}{n:Nat}{mem:β→Nat→Prop}{F0:Nat→β}
theorem Pe.grow{s s1:SS β}{e:List Nat}(hs:s1.stk=e++s.stk)(new:∀v∈e,s.dp.getD v 0=0)(same:∀u,s.dp.getD u 0≠0→s1.dp.getD u 0=s.dp.getD u 0∧s1.F.getD u z=s.F.getD u z)(hb:Bs z to n mem F0 s)(hn:n≤1000000000){v u:Nat}(hv:s.dp.getD v 0≠0)(h:Pe z mem s v u):Pe z mem s1 v u:=by
  obtain ⟨h1,h2⟩:=same v hv;rcases h with ⟨h3,h4⟩|⟨h3,h4⟩;obtain ⟨h5,h6⟩:=same u (by rw [h3];decide);exact .inl ⟨by rw [h5];exact h3,fun t ht=>by rw [h2];rw [h6] at ht;exact h4 t ht⟩;refine .inr ⟨by rw [hs];exact List.mem_append_right _ h3,?_⟩;rw [h1,hs,posS_app fun hm=>(hb.ndone hn h3).2 (new u hm)];exact h4
theorem Rw.edge(hor:∀a b t,mem (or_ a b) t↔mem a t∨mem b t)(hn:n≤1000000000){s0 s:SS β}{x y:Nat}{zs ext:List Nat}(h:Rw z to n mem F0 s0 s x zs ext)(hx0:s0.dp.getD x 0=0)(hy:y∈to.getD x []){w:Nat→SS β→SS β}(hw:s.dp.getD y 0=0→∃e,Wp z to n mem F0 s (w y s) y e) :
    (∃ext',Rw z to n mem F0 s0 (edgeS z or_ w x s y) x (zs++[y]) ext')∧∀u,(edgeS z or_ w x s y).dp.getD u 0=0→s.dp.getD u 0=0:=by
  have hxs:x∈s.stk:=by rw [h.stk];simp
  have hxd:=h.bs.ndone hn hxs
  -- what the inner walk gives
  have key:∃(s1:SS β) (e:List Nat),s1=(if s.dp.getD y 0=0 then w y s else s)∧Bs z to n mem F0 s1∧s1.stk=e++s.stk∧(∀v∈e,s.dp.getD v 0=0)∧(∀u,s.dp.getD u 0≠0→s1.dp.getD u 0=s.dp.getD u 0∧s1.F.getD u z=s.F.getD u z)∧s1.dp.getD y 0≠0∧(∀v∈e,Fn z to mem s1 y v):=by
    by_cases hc:s.dp.getD y 0=0;obtain ⟨e,hp⟩:=hw hc;refine ⟨w y s,e,by rw [if_pos hc],hp.bs,hp.stk,hp.new,hp.same,?_,?_⟩;rcases hp.out with ⟨_,h2⟩|⟨h1,_,_⟩;rw [h2];decide;exact (hp.bs.ndone hn (by rw [hp.stk];exact List.mem_append_left _ h1)).2;rcases hp.out with ⟨h1,_⟩|⟨_,_,h3⟩;rw [h1];intro v hv;cases hv;exact h3;exact ⟨s,[],by rw [if_neg hc],h.bs,rfl,fun v hv=>(by cases hv),fun u _=>⟨rfl,rfl⟩,hc,fun v hv=>(by cases hv)⟩
  obtain ⟨s1,e,hs1,hb1,hk1,hnew,hsame,hy1,hfy⟩:=key;have hx1:x∈s1.stk:=by rw [hk1];exact List.mem_append_right _ hxs
  have hxn1:=hb1.ndone hn hx1;obtain ⟨hxD,hxF⟩:=hsame x hxd.2;have hxl:=hb1.lt x hx1;have hd:∀u v,(s1.dp.set x v).getD u 0=if x=u then v else s1.dp.getD u 0:=fun u v=>by rw [getD_set];simp [hb1.dl,hxl]
  have hf:∀u v,(s1.F.set x v).getD u z=if x=u then v else s1.F.getD u z:=fun u v=>by rw [getD_set];simp [hb1.fl,hxl]
  obtain ⟨m,hm⟩:∃m,m=(if s1.dp.getD y 0<s1.dp.getD x 0 then s1.dp.getD y 0 else s1.dp.getD x 0):=⟨_,rfl⟩;have hm1:m≤s1.dp.getD x 0:=by rw [hm];split<;>omega
  have hm2:m≤s1.dp.getD y 0:=by rw [hm];split<;>omega
  have hes:edgeS z or_ w x s y=⟨s1.dp.set x m,s1.stk,s1.F.set x (or_ (s1.F.getD x z) (s1.F.getD y z))⟩:=by
    unfold edgeS;simp only [←hs1,←hm]
  have hbs:=Bs.upd hor hn hb1 hx1 hy hy1;rw [←hm] at hbs;have hvx:∀v,s.dp.getD v 0=0→v≠x:=fun v hv e=>hxd.2 (by rw [←e];exact hv)
  have pe2:∀v u,v≠x→Pe z mem s1 v u→Pe z mem ⟨s1.dp.set x m,s1.stk,s1.F.set x (or_ (s1.F.getD x z) (s1.F.getD y z))⟩ v u:=fun v u hv hp=>by
    rcases hp with ⟨h1,h2⟩|⟨h1,h2⟩;have hu:¬x=u:=fun e=>hxn1.1 (by rw [e];exact h1)
    refine .inl ⟨by simp only [hd];rw [if_neg hu];exact h1,fun t ht=>?_⟩;simp only [hf] at ht ⊢;rw [if_neg hu] at ht;rw [if_neg (fun e=>hv e.symm)];exact h2 t ht;exact .inr ⟨h1,by simp only [hd];rw [if_neg (fun e=>hv e.symm)];exact h2⟩
  have pe3:∀u,Pe z mem s1 x u→Pe z mem ⟨s1.dp.set x m,s1.stk,s1.F.set x (or_ (s1.F.getD x z) (s1.F.getD y z))⟩ x u:=fun u hp=>by
    rcases hp with ⟨h1,h2⟩|⟨h1,h2⟩;have hu:¬x=u:=fun e=>hxn1.1 (by rw [e];exact h1)
    refine .inl ⟨by simp only [hd];rw [if_neg hu];exact h1,fun t ht=>?_⟩;simp only [hf] at ht ⊢;rw [if_neg hu] at ht
    (first | rw [if_pos rfl] | rw [if_pos trivial]);exact (hor _ _ _).2 (.inl (h2 t ht))
    exact .inr ⟨h1,by simp only [hd];(first | rw [if_pos rfl] | rw [if_pos trivial]);omega⟩
  rw [hes];refine ⟨⟨e++ext,hbs,?_,fun v hv=>?_,fun u hu=>?_,?_,fun v hv=>?_,fun u hu=>?_⟩,fun u hu=>?_⟩;show s1.stk=_;rw [hk1,h.stk,List.append_assoc];rcases List.mem_append.1 hv with hv|hv;by_cases hc:s0.dp.getD v 0=0;exact hc;exact absurd (((h.same v hc).1).symm.trans (hnew v hv)) hc;exact h.new v hv;obtain ⟨h1,h2⟩:=h.same u hu;obtain ⟨h3,h4⟩:=hsame u (by rw [h1];exact hu);have hne:¬x=u:=fun e2=>hu (by rw [←e2];exact hx0)
  simp only [hd,hf];rw [if_neg hne,if_neg hne,h3,h4];exact ⟨h1,h2⟩;simp only [hd]
  (first | rw [if_pos rfl] | rw [if_pos trivial])
  have:=h.le;omega;rcases List.mem_append.1 hv with hv|hv;have hne:=hvx v (hnew v hv);have hF:=hfy v hv;refine ⟨?_,fun t ht=>?_,.step hy hF.rch,?_,fun u hu=>pe2 v u hne (hF.ed u hu)⟩;simp only [hd]
  (first | rw [if_pos rfl] | rw [if_pos trivial]);rw [if_neg (fun e2=>hne e2.symm)]
  have:=hF.le;omega;simp only [hf] at ht ⊢;rw [if_neg (fun e2=>hne e2.symm)] at ht
  (first | rw [if_pos rfl] | rw [if_pos trivial])
  exact (hor _ _ _).2 (.inr (hF.sub t ht));simp only [hd];rw [if_neg (fun e2=>hne e2.symm)];exact hF.dlt;have hF:=h.fn v hv;have hvs:v∈s.stk:=by rw [h.stk];exact List.mem_append_left _ hv
  have hv0:=(h.bs.ndone hn hvs).2
  have hne:v≠x:=by
    intro e2;subst e2;have:=h.bs.nd;rw [h.stk] at this;exact (List.nodup_append.1 this).2.2 v hv v (by simp) rfl
  obtain ⟨h1,h2⟩:=hsame v hv0;refine ⟨?_,fun t ht=>?_,hF.rch,?_,fun u hu=>pe2 v u hne (Pe.grow hk1 hnew hsame h.bs hn hv0 (hF.ed u hu))⟩;simp only [hd]
  (first | rw [if_pos rfl] | rw [if_pos trivial]);rw [if_neg (fun e2=>hne e2.symm),h1]
  have:=hF.le;omega;simp only [hf] at ht ⊢;rw [if_neg (fun e2=>hne e2.symm),h2] at ht
  (first | rw [if_pos rfl] | rw [if_pos trivial]);rw [hxF]
  exact (hor _ _ _).2 (.inl (hF.sub t ht));simp only [hd];rw [if_neg (fun e2=>hne e2.symm),h1,hk1,posS_app fun hm=>hv0 (hnew v hm)];exact hF.dlt;rcases List.mem_append.1 hu with hu|hu;exact pe3 u (Pe.grow hk1 hnew hsame h.bs hn hxd.2 (h.pe u hu));obtain rfl:=List.mem_singleton.1 hu;by_cases hux:u=x;subst hux;exact .inr ⟨hx1,by simp only [hd];(first | rw [if_pos rfl] | rw [if_pos trivial]);have:=(hb1.on u hx1).2;omega⟩;by_cases hus:u∈s1.stk;exact .inr ⟨hus,by simp only [hd];(first | rw [if_pos rfl] | rw [if_pos trivial]);have:=(hb1.on u hus).2;omega⟩;have hud:=(hb1.off u hus).resolve_left hy1;refine .inl ⟨by simp only [hd];rw [if_neg (fun e2=>hux e2.symm)];exact hud,fun t ht=>?_⟩;simp only [hf] at ht ⊢;rw [if_neg (fun e2=>hux e2.symm)] at ht
  (first | rw [if_pos rfl] | rw [if_pos trivial]);exact (hor _ _ _).2 (.inr ht)
  by_cases hc:s.dp.getD u 0=0;exact hc;exfalso;simp only [hd] at hu
  split at hu
  rename_i e2;subst e2;have h8:=(hbs.ndone hn hx1).2;simp only [hd] at h8
  (first | rw [if_pos rfl] at h8 | rw [if_pos trivial] at h8);exact h8 hu
  rw [(hsame u hc).1] at hu;exact hc hu
end
section
variable {β:Type}{z:β}{or_:β→β→β}{to:List (List Nat)}{n:Nat}{mem:β→Nat→Prop}{F0:Nat→β}
theorem popS_is{x:Nat}{b:List Nat} : ∀(e:List Nat) (s:SS β),x∉e→(∀v∈e,v<s.dp.length∧v<s.F.length)→x<s.dp.length→x<s.F.length →
    (popS z x (e++x::b) s).stk=b∧(popS z x (e++x::b) s).dp.length=s.dp.length∧(popS z x (e++x::b) s).F.length=s.F.length ∧
    (∀u,(popS z x (e++x::b) s).dp.getD u 0=if u∈e∨u=x then doneI else s.dp.getD u 0)∧(∀u,(popS z x (e++x::b) s).F.getD u z=if u∈e∨u=x then s.F.getD x z else s.F.getD u z)
  | [],s,_,_,h1,h2=>by
    show (popS z x (x::b) s).stk=b∧_;have hp:popS z x (x::b) s=⟨s.dp.set x doneI,b,s.F.set x (s.F.getD x z)⟩:=by unfold popS;rw [if_pos rfl]
    rw [List.nil_append,hp];refine ⟨rfl,by simp,by simp,fun u=>?_,fun u=>?_⟩;simp only [getD_set,List.not_mem_nil,false_or];by_cases h:x=u;rw [if_pos ⟨h,h1⟩,if_pos h.symm];rw [if_neg (fun h'=>h h'.1),if_neg (fun h'=>h h'.symm)];simp only [getD_set,List.not_mem_nil,false_or];by_cases h:x=u;rw [if_pos ⟨h,h2⟩,if_pos h.symm];rw [if_neg (fun h'=>h h'.1),if_neg (fun h'=>h h'.symm)]
  | y::e,s,hx,hl,h1,h2=>by
    have hyx:¬y=x:=fun e2=>hx (by rw [e2];simp)
    have hy:=hl y (by simp)
    have hp:popS z x (y::e++x::b) s=popS z x (e++x::b) ⟨s.dp.set y doneI,e++x::b,s.F.set y (s.F.getD x z)⟩:=by
      show popS z x (y::(e++x::b)) s=_;rw [popS,if_neg hyx]
    rw [hp];obtain ⟨k1,k2,k3,k4,k5⟩:=popS_is e ⟨s.dp.set y doneI,e++x::b,s.F.set y (s.F.getD x z)⟩ (fun h=>hx (List.mem_cons_of_mem _ h)) (fun v hv=>by have:=hl v (List.mem_cons_of_mem _ hv);simpa using this) (by simpa using h1) (by simpa using h2);refine ⟨k1,by rw [k2];simp,by rw [k3];simp,fun u=>?_,fun u=>?_⟩;rw [k4];simp only [getD_set,List.mem_cons];by_cases hc:u∈e∨u=x;rw [if_pos hc,if_pos (hc.elim (fun h=>.inl (.inr h)) .inr)];rw [if_neg hc];by_cases hu:y=u;rw [if_pos ⟨hu,hy.1⟩,if_pos (.inl (.inl hu.symm))];rw [if_neg (fun h=>hu h.1),if_neg (fun h=>h.elim (fun h=>h.elim (fun h=>hu h.symm) fun h=>hc (.inl h)) fun h=>hc (.inr h))];rw [k5];simp only [getD_set,List.mem_cons];have hxe:(if y=x∧y<s.F.length then s.F.getD x z else s.F.getD x z)=s.F.getD x z:=by split<;>rfl
    rw [hxe];by_cases hc:u∈e∨u=x;rw [if_pos hc,if_pos (hc.elim (fun h=>.inl (.inr h)) .inr)];rw [if_neg hc];by_cases hu:y=u;rw [if_pos ⟨hu,hy.2⟩,if_pos (.inl (.inl hu.symm))];rw [if_neg (fun h=>hu h.1),if_neg (fun h=>h.elim (fun h=>h.elim (fun h=>hu h.symm) fun h=>hc (.inl h)) fun h=>hc (.inr h))]
theorem Bs.push(hn:n≤1000000000){s:SS β}(h:Bs z to n mem F0 s){x:Nat}(hx:x<n)(hx0:s.dp.getD x 0=0):Bs z to n mem F0 ⟨s.dp.set x ((s.stk.length+1:Nat):Int),x::s.stk,s.F⟩:=by
  have hxs:x∉s.stk:=fun hm=>(h.ndone hn hm).2 hx0
  have hd:∀u v,(s.dp.set x v).getD u 0=if x=u then v else s.dp.getD u 0:=fun u v=>by rw [getD_set];simp [h.dl,hx]
  have hp:∀u,u∈s.stk→posS (x::s.stk) u=posS s.stk u:=fun u hu=>posS_app (a:=[x]) fun hm=>hxs (by rw [←List.mem_singleton.1 hm];exact hu)
  refine ⟨by simp [h.dl],h.fl,List.nodup_cons.2 ⟨hxs,h.nd⟩,fun u hu=>?_,fun u hu=>?_,fun u hu=>?_,fun u hu=>?_,fun u hu=>?_,h.snd,h.has,fun u hu=>?_⟩;rcases List.mem_cons.1 hu with rfl|hu;exact hx;exact h.lt u hu;simp only [hd];rcases List.mem_cons.1 hu with rfl|hu;simp only [if_true];rw [posS_head];omega;rw [if_neg (fun e=>hxs (by rw [e];exact hu)),hp u hu];exact h.on u hu;simp only [hd];rw [if_neg (fun e=>hu (by rw [e];simp))];exact h.off u fun hm=>hu (by simp [hm])
  simp only [hd];rcases List.mem_cons.1 hu with rfl|hu;exact ⟨u,by simp,by rw [posS_head];simp,.refl u⟩;obtain ⟨w,h1,h2,h3⟩:=h.low u hu;exact ⟨w,by simp [h1],by rw [hp w h1,if_neg (fun e=>hxs (by rw [e];exact hu))];exact h2,h3⟩;simp only [hd] at hu
  split at hu
  omega;exact h.white u hu;have h8:=h.stk_n;simp only [hd] at hu
  split at hu
  unfold doneI at hu;omega;rename_i e;obtain ⟨h1,h2⟩:=h.black u hu;refine ⟨h1,fun w hw=>?_⟩;simp only [hd];rw [if_neg (fun e2=>by have:=h2 w hw;rw [←e2,hx0] at this;cases this)];exact h2 w hw
end
section
variable {β:Type}{z:β}{or_:β→β→β}{to:List (List Nat)}{n:Nat}{mem:β→Nat→Prop}{F0:Nat→β}
theorem Rw.root(hn:n≤1000000000){s0 s:SS β}{x:Nat}{ext:List Nat}(h0:Bs z to n mem F0 s0)(h:Rw z to n mem F0 s0 s x (to.getD x []) ext)(hx0:s0.dp.getD x 0=0)(hr:s.dp.getD x 0=((s0.stk.length+1:Nat):Int)):Wp z to n mem F0 s0 (popS z x s.stk s) x []:=by
  have hnd:=h.bs.nd;rw [h.stk] at hnd;have hap:=List.nodup_append.1 hnd;have hxe:x∉ext:=fun hm=>hap.2.2 x hm x (by simp) rfl
  have hxs:x∈s.stk:=by rw [h.stk];simp
  have hxn:=h.bs.lt x hxs;have hes:∀v∈ext,v∈s.stk:=fun v hv=>by rw [h.stk];exact List.mem_append_left _ hv
  have hen:∀v∈ext,v<s.dp.length∧v<s.F.length:=fun v hv=>by rw [h.bs.dl,h.bs.fl];exact ⟨h.bs.lt v (hes v hv),h.bs.lt v (hes v hv)⟩
  obtain ⟨k1,k2,k3,k4,k5⟩:=popS_is (z:=z) (x:=x) (b:=s0.stk) ext s hxe hen (by rw [h.bs.dl];exact hxn) (by rw [h.bs.fl];exact hxn);rw [←h.stk] at k1 k2 k3 k4 k5
  -- the component
  have hin:∀v,v∈ext∨v=x→v∈s.stk:=fun v hv=>hv.elim (hes v) fun e=>by rw [e];exact hxs
  have hup:∀v∈s.stk,s0.stk.length+1≤posS s.stk v→v∈ext∨v=x:=fun v hv hp=>by
    have h1:v∈(ext++[x])++s0.stk:=by rw [List.append_assoc];simpa [h.stk] using hv
    have h2:((ext++[x])++s0.stk).Nodup:=by rw [List.append_assoc];exact hnd
    have h3:=(posS_up h1 h2).1 (by rw [show (ext++[x])++s0.stk=s.stk by rw [h.stk,List.append_assoc];rfl];omega)
    simpa using h3
  have hge:∀v,v∈ext∨v=x→((s0.stk.length+1:Nat):Int)≤s.dp.getD v 0:=fun v hv=>hv.elim (fun hv=>by have:=(h.fn v hv).le;omega) fun e=>by rw [e];omega
  have hed:∀v,v∈ext∨v=x→∀y∈to.getD v [],Pe z mem s v y:=fun v hv y hy=>hv.elim (fun hv=>(h.fn v hv).ed y hy) fun e=>by rw [e] at hy ⊢;exact h.pe y hy
  have hsub:∀v,v∈ext∨v=x→∀t,mem (s.F.getD v z) t→mem (s.F.getD x z) t:=fun v hv t ht=>hv.elim (fun hv=>(h.fn v hv).sub t ht) fun e=>by rw [e] at ht;exact ht
  have hcl:∀v,v∈ext∨v=x→∀y∈to.getD v [],(s.dp.getD y 0=doneI∧∀t,mem (s.F.getD y z) t→mem (s.F.getD v z) t)∨(y∈ext∨y=x):=fun v hv y hy=>by
    rcases hed v hv y hy with h1|⟨h1,h2⟩;exact .inl h1;have:=hge v hv;exact .inr (hup y h1 (by omega))
  have hrx:∀(p v:Nat),posS s.stk v=p→v∈ext∨v=x→Rch to v x:=by
    intro p
    induction p using Nat.strongRecOn with
    | ind p ih =>
      intro v hp hv;rcases hv with hv|rfl;obtain ⟨u,h1,h2,h3⟩:=h.bs.low v (hes v hv);have h4:=hge v (.inl hv);have h5:=(h.fn v hv).dlt;exact h3.trans (ih (posS s.stk u) (by omega) u rfl (hup u h1 (by omega)));exact .refl _
  have hall:∀v u,Rch to v u→(v∈ext∨v=x)→∀t,mem (F0 u) t→mem (s.F.getD x z) t:=fun v u hrch=>by
    induction hrch with
    | refl v=>intro hv t ht;exact hsub v hv t (h.bs.has v t ht)
    | @step v y u hy hrch ih =>
      intro hv t ht;rcases hcl v hv y hy with ⟨h1,h2⟩|h1;exact hsub v hv t (h2 t ((h.bs.black y h1).1 t ⟨u,hrch,ht⟩));exact ih h1 t ht
  have hd:=k4;have hf:=k5;refine ⟨⟨by rw [k2];exact h.bs.dl,by rw [k3];exact h.bs.fl,by rw [k1];exact h0.nd,by rw [k1];exact h0.lt,fun u hu=>?_,fun u hu=>?_,fun u hu=>?_,fun u hu=>?_,fun u t ht=>?_,fun u t ht=>?_,fun u hu=>?_⟩,k1,fun v hv=>(by cases hv),fun u hu=>?_,.inl ⟨rfl,by rw [hd,if_pos (.inr rfl)]⟩⟩;rw [k1] at hu ⊢;have hu0:=(h0.ndone hn hu).2;have hne:¬(u∈ext∨u=x):=fun hc=>hc.elim (fun hv=>hu0 (h.new u hv)) fun e=>hu0 (by rw [e];exact hx0)
  rw [hd,if_neg hne,(h.same u hu0).1];exact h0.on u hu;rw [k1] at hu;rw [hd]
  split
  exact .inr rfl;rename_i hne;refine h.bs.off u fun hm=>?_
  rw [h.stk] at hm;rcases List.mem_append.1 hm with hm|hm;exact hne (.inl hm);rcases List.mem_cons.1 hm with hm|hm;exact hne (.inr hm);exact hu hm;rw [k1] at hu ⊢;have hu0:=(h0.ndone hn hu).2;have hne:¬(u∈ext∨u=x):=fun hc=>hc.elim (fun hv=>hu0 (h.new u hv)) fun e=>hu0 (by rw [e];exact hx0)
  rw [hd,if_neg hne,(h.same u hu0).1];exact h0.low u hu;rw [hd] at hu;rw [hf]
  split at hu
  unfold doneI at hu;omega;rename_i hne;rw [if_neg hne];exact h.bs.white u hu;rw [hf] at ht
  split at ht
  rename_i hc;obtain ⟨w,h1,h2⟩:=h.bs.snd x t ht;exact ⟨w,(hrx _ u rfl hc).trans h1,h2⟩;exact h.bs.snd u t ht;rw [hf]
  split
  rename_i hc;exact hall u u (.refl u) hc t ht;exact h.bs.has u t ht;rw [hd] at hu
  split at hu
  rename_i hc;refine ⟨fun t ⟨w,h1,h2⟩=>by rw [hf,if_pos hc];exact hall u w h1 hc t h2,fun y hy=>?_⟩;rw [hd];rcases hcl u hc y hy with ⟨h1,_⟩|h1
  split
  rfl
  exact h1;rw [if_pos h1];rename_i hne;obtain ⟨h1,h2⟩:=h.bs.black u hu;refine ⟨fun t ht=>by rw [hf,if_neg hne];exact h1 t ht,fun y hy=>?_⟩;rw [hd]
  split
  rfl
  exact h2 y hy;have hne:¬(u∈ext∨u=x):=fun hc=>hc.elim (fun hv=>hu (h.new u hv)) fun e=>hu (by rw [e];exact hx0)
  rw [hd,hf,if_neg hne,if_neg hne];exact h.same u hu
def whN(n:Nat)(s:SS β):Nat:=(List.range n).countP fun u=>decide (s.dp.getD u 0=0)
theorem countP_lt{α:Type}{p q:α→Bool} : ∀ {l:List α},(∀u∈l,p u=true→q u=true)→∀ {x:α},x∈l→p x=false→q x=true→l.countP p<l.countP q
  | [],_,x,hx,_,_=>by cases hx
  | y::l,h,x,hx,hp,hq=>by
    have hm:l.countP p≤l.countP q:=List.countP_mono_left fun u hu=>h u (by simp [hu])
    rw [List.countP_cons,List.countP_cons];rcases List.mem_cons.1 hx with rfl|hx;rw [hp,hq];simp;omega;have ih:=countP_lt (fun u hu=>h u (by simp [hu])) hx hp hq
    have:(if p y=true then 1 else 0)≤(if q y=true then 1 else 0):=by
      split
      rename_i hy;rw [if_pos (h y (by simp) hy)];exact Nat.le_refl _;exact Nat.zero_le _
    omega
theorem whN_le{s s':SS β}(h:∀u,s'.dp.getD u 0=0→s.dp.getD u 0=0):whN n s'≤whN n s:=List.countP_mono_left fun u _ hu=>by simp only [decide_eq_true_eq] at hu ⊢;exact h u hu
end
section
variable {β:Type}{z:β}{or_:β→β→β}{to:List (List Nat)}{n:Nat}{mem:β→Nat→Prop}{F0:Nat→β}
theorem row_ok(hor:∀a b t,mem (or_ a b) t↔mem a t∨mem b t)(hn:n≤1000000000)(hto:∀x y,y∈to.getD x []→y<n){k x:Nat}{s0:SS β}(hx0:s0.dp.getD x 0=0)(IH:∀(y:Nat) (s:SS β),Bs z to n mem F0 s→y<n→s.dp.getD y 0=0→whN n s≤k→∃e,Wp z to n mem F0 s (walkS z or_ to k y s) y e) :
    ∀(ys zs:List Nat) (s:SS β) (ext:List Nat),(∀y∈ys,y∈to.getD x [])→Rw z to n mem F0 s0 s x zs ext→whN n s≤k→∃ext',Rw z to n mem F0 s0 (ys.foldl (edgeS z or_ (walkS z or_ to k) x) s) x (zs++ys) ext'
  | [],zs,s,ext,_,h,_=>⟨ext,by rw [List.append_nil];exact h⟩
  | y::ys,zs,s,ext,hy,h,hk=>by
    have hym:=hy y (by simp);obtain ⟨⟨e1,h1⟩,h2⟩:=Rw.edge hor hn h hx0 hym (w:=walkS z or_ to k) fun hc=>IH y s h.bs (hto x y hym) hc hk
    obtain ⟨e2,h3⟩:=row_ok hor hn hto hx0 IH ys (zs++[y]) _ e1 (fun u hu=>hy u (by simp [hu])) h1 (Nat.le_trans (whN_le h2) hk);exact ⟨e2,by rw [List.append_assoc] at h3;exact h3⟩
theorem walk_ok(hor:∀a b t,mem (or_ a b) t↔mem a t∨mem b t)(hn:n≤1000000000)(hto:∀x y,y∈to.getD x []→y<n):∀(k x:Nat) (s:SS β),Bs z to n mem F0 s→x<n→s.dp.getD x 0=0→whN n s≤k→∃ext,Wp z to n mem F0 s (walkS z or_ to k x s) x ext
  | 0,x,s,hb,hx,h0,hk=>by
    exfalso;have:0<whN n s:=List.countP_pos_iff.2 ⟨x,List.mem_range.2 hx,decide_eq_true h0⟩;omega
  | k+1,x,s,hb,hx,h0,hk=>by
    have hp:=Bs.push hn hb hx h0;have hd:∀u v,(s.dp.set x v).getD u 0=if x=u then v else s.dp.getD u 0:=fun u v=>by rw [getD_set];simp [hb.dl,hx]
    have hw:whN n (⟨s.dp.set x ((s.stk.length+1:Nat):Int),x::s.stk,s.F⟩:SS β)≤k:=by
      have:whN n (⟨s.dp.set x ((s.stk.length+1:Nat):Int),x::s.stk,s.F⟩:SS β)<whN n s:=by
        refine countP_lt (x:=x) (fun u _ hu=>?_) (List.mem_range.2 hx) ?_ ?_;simp only [hd,decide_eq_true_eq] at hu ⊢
        split at hu
        omega;exact hu;simp only [hd,if_true,decide_eq_false_iff_not];omega;simp only [decide_eq_true_eq];exact h0
      omega
    have hr:Rw z to n mem F0 s ⟨s.dp.set x ((s.stk.length+1:Nat):Int),x::s.stk,s.F⟩ x [] []:=by
      refine ⟨hp,rfl,fun v hv=>(by cases hv),fun u hu=>?_,?_,fun v hv=>(by cases hv),fun v hv=>(by cases hv)⟩;simp only [hd];rw [if_neg (fun e=>hu (by rw [←e];exact h0))];first | exact ⟨rfl,rfl⟩ | exact ⟨rfl,trivial⟩
      simp only [hd,if_true];exact Int.le_refl _
    obtain ⟨ext,h1⟩:=row_ok hor hn hto h0 (walk_ok hor hn hto k) (to.getD x []) [] _ [] (fun y hy=>hy) hr hw;rw [List.nil_append] at h1;rw [walkS]
    split
    rename_i hroot;exact ⟨[],Rw.root hn hb h1 h0 hroot⟩;rename_i hroot;have hle:=h1.le;have hxs:posS (x::s.stk) x=s.stk.length+1:=posS_head;have hnd:=h1.bs.nd;rw [h1.stk] at hnd;have hxe:x∉ext:=fun hm=>(List.nodup_append.1 hnd).2.2 x hm x (by simp) rfl
    have hself:Fn z to mem (List.foldl (edgeS z or_ (walkS z or_ to k) x) ⟨s.dp.set x ((s.stk.length+1:Nat):Int),x::s.stk,s.F⟩ (to.getD x [])) x x:=by
      refine ⟨Int.le_refl _,fun t ht=>ht,.refl x,?_,h1.pe⟩;rw [h1.stk,posS_app hxe,hxs];omega
    refine ⟨ext++[x],h1.bs,by rw [h1.stk,List.append_assoc];rfl,fun v hv=>?_,h1.same,.inr ⟨by simp,by omega,fun v hv=>?_⟩⟩;rcases List.mem_append.1 hv with hv|hv;exact h1.new v hv;rw [List.mem_singleton.1 hv];exact h0;rcases List.mem_append.1 hv with hv|hv;exact h1.fn v hv;rw [List.mem_singleton.1 hv];exact hself
theorem spread_ok(hor:∀a b t,mem (or_ a b) t↔mem a t∨mem b t)(hn:n≤1000000000)(hto:∀x y,y∈to.getD x []→y<n){F:List β}(hF:F.length=n) :
    (spreadS z or_ to n F).length=n∧∀x,x<n→∀t,mem ((spreadS z or_ to n F).getD x z) t↔∃y,Rch to x y∧mem (F.getD y z) t:=by
  have key:∀(l:List Nat) (s:SS β),Bs z to n mem (fun x=>F.getD x z) s→s.stk = []→(∀x∈l,x<n) →
      Bs z to n mem (fun x=>F.getD x z) (l.foldl (fun s x=>if s.dp.getD x 0=0 then walkS z or_ to n x s else s) s)∧(l.foldl (fun s x=>if s.dp.getD x 0=0 then walkS z or_ to n x s else s) s).stk = []∧∀x,(x∈l∨s.dp.getD x 0≠0)→(l.foldl (fun s x=>if s.dp.getD x 0=0 then walkS z or_ to n x s else s) s).dp.getD x 0≠0:=by
    intro l
    induction l with
    | nil=>intro s hb hs _;exact ⟨hb,hs,fun x hx=>hx.elim (fun h=>by cases h) id⟩
    | cons y l ih =>
      intro s hb hs hl;rw [List.foldl_cons];by_cases hc:s.dp.getD y 0=0;rw [if_pos hc];have hw:whN n s≤n:=Nat.le_trans List.countP_le_length (by rw [List.length_range];exact Nat.le_refl _);obtain ⟨ext,hp⟩:=walk_ok hor hn hto n y s hb (hl y (by simp)) hc hw
      have hout:ext = []∧(walkS z or_ to n y s).dp.getD y 0=doneI:=by
        rcases hp.out with h1|⟨h1,h2,_⟩;exact h1;exfalso;have:=(hp.bs.on y (by rw [hp.stk];exact List.mem_append_left _ h1)).1;rw [hs] at h2;have h2':(walkS z or_ to n y s).dp.getD y 0≤0:=h2;omega
      obtain ⟨h1,h2,h3⟩:=ih _ hp.bs (by rw [hp.stk,hout.1,hs];rfl) fun x hx=>hl x (by simp [hx])
      refine ⟨h1,h2,fun x hx=>h3 x ?_⟩;rcases hx with hx|hx;rcases List.mem_cons.1 hx with rfl|hx;exact .inr (by rw [hout.2];decide);exact .inl hx;exact .inr (by rw [(hp.same x hx).1];exact hx);rw [if_neg hc];obtain ⟨h1,h2,h3⟩:=ih s hb hs fun x hx=>hl x (by simp [hx])
      refine ⟨h1,h2,fun x hx=>h3 x ?_⟩;rcases hx with hx|hx;rcases List.mem_cons.1 hx with rfl|hx;exact .inr hc;exact .inl hx;exact .inr hx
  have hz:∀x:Nat,(List.replicate n (0:Int)).getD x 0=0:=fun x=>by
    rw [List.getD_eq_getElem?_getD,List.getElem?_replicate];split<;>rfl
  have h0:Bs z to n mem (fun x=>F.getD x z) ⟨List.replicate n 0,[],F⟩:=by
    refine ⟨by simp,hF,List.nodup_nil,fun x hx=>(by cases hx),fun x hx=>(by cases hx),fun x _=>.inl (hz x),fun x hx=>(by cases hx),fun x _=>rfl,fun x t ht=>⟨x,.refl x,ht⟩,fun x t ht=>ht,fun x hx=>?_⟩;simp only [hz] at hx;cases hx
  obtain ⟨h1,h2,h3⟩:=key (List.range n) _ h0 rfl fun x hx=>List.mem_range.1 hx
  refine ⟨h1.fl,fun x hx t=>⟨fun ht=>h1.snd x t ht,fun ht=>?_⟩⟩;have h4:=h3 x (.inl (List.mem_range.2 hx));have h5:=(h1.off x (by rw [h2];simp)).resolve_left h4;exact (h1.black x h5).1 t ht
end
end Go.Proofs.YtabfopjkgeoiiaaGreatDoor
