/-
  Part 19 of the proof: texts Xw Xx Yh Yi Yj Xy Xz Yk Ud Yl Ym Yn Yo Yp Yq Yr Ys Zg Za Zb Zc Zd Ze Zh Yt Zi. No conditions.
-/
import Derived.Test.YtabfopjkgeoiiaaGreatDoorRows
import Derived.Test.YtabfopjkgeoiiaaGreatDoorPqg
import Derived.Test.YtabfopjkgeoiiaaGreatDoorPqh
import Derived.Test.YtabfopjkgeoiiaaGreatDoorPqq
import Derived.Test.YtabfopjkgeoiiaaGreatDoorPqr
set_option linter.unusedVariables false
set_option linter.unusedSimpArgs false
set_option linter.unusedSectionVars false
set_option maxRecDepth 100000
set_option maxHeartbeats 4000000
namespace Go.Proofs.YtabfopjkgeoiiaaGreatDoor
open Go Go.RowKit Go.Vx
structure AR where
  A:Option Addr
  c:Nat
  l:List (Int×Int)
deriving Inhabited
def AR.cs(x:AR):List Value:=[.slice x.A x.l.length x.c]
theorem AR.len(x:AR):x.cs.length=1:=rfl
theorem AR.one(x:AR):x.cs.all Value.oneCell'=true:=rfl
abbrev AR.sl(x:AR):Value:=.slice x.A x.l.length x.c
def ARs(B:Nat)(w:World)(R:List AR):Prop:=∀x∈R,Vx.Own w 55 2 (.slice x.A x.l.length x.c) x.l.length (x.l.flatMap MV.cs)∧∀k,(Value.slice x.A x.l.length x.c).ownBlock=some k→B≤k
theorem ARs.keep{B:Nat}{K:Nat→Prop}{w w':World}{R:List AR}(h:ARs B w R)(c:Chg K w w')(hk:∀x∈R,∀k,(Value.slice x.A x.l.length x.c).ownBlock=some k→k<w.heap.size→¬K k):ARs B w' R :=
  fun x hx=>⟨(h x hx).1.keep c fun k h1 h2=>hk x hx k h1 ((h x hx).1.lt k h1) h2,(h x hx).2⟩
theorem ARs.ext{B:Nat}{w w':World}{R:List AR}(h:ARs B w R)(c:Ext w w'):ARs B w' R:=h.keep c fun _ _ _ _ _ hk=>hk
theorem ARs.blk{B b t:Nat}{cs:Array Value}{w w':World}{R:List AR}(h:ARs B w R)(c:Chg1 b w w')(hb:Blk w b cs t)(ht:55≠t):ARs B w' R:=h.keep c fun x hx k hk _ hh=>(h x hx).1.ne_blk hb ht k hk hh
theorem ARs.own{B e sz n:Nat}{v:Value}{xs:List Value}{w w':World}{R:List AR}(h:ARs B w R)(c:Chg (fun b=>v.ownBlock=some b) w w')(ho:Vx.Own w e sz v n xs)(ht:55≠e):ARs B w' R:=h.keep c fun x hx k hk _ hh=>(h x hx).1.ne_own ho ht k hk hh
structure AFam(B:Nat)(w:World)(L:List AR):Prop where
  all:ARs B w L
  apart:∀(i j:Nat) (x y:AR),i≠j→L[i]?=some x→L[j]?=some y→∀k,x.sl.ownBlock=some k→¬y.sl.ownBlock=some k
section
variable {B:Nat}{w w':World}{L:List AR}
theorem AFam.keep{K:Nat→Prop}(h:AFam B w L)(c:Chg K w w')(hk:∀x∈L,∀k,x.sl.ownBlock=some k→k<w.heap.size→¬K k):AFam B w' L:=⟨h.all.keep c hk,h.apart⟩
theorem AFam.ext(h:AFam B w L)(c:Ext w w'):AFam B w' L:=⟨h.all.ext c,h.apart⟩
theorem AFam.blk{b t:Nat}{cs:Array Value}(h:AFam B w L)(c:Chg1 b w w')(hb:Blk w b cs t)(ht:55≠t):AFam B w' L:=⟨h.all.blk c hb ht,h.apart⟩
theorem AFam.own{e sz n:Nat}{v:Value}{xs:List Value}(h:AFam B w L)(c:Chg (fun b=>v.ownBlock=some b) w w')(ho:Vx.Own w e sz v n xs)(ht:55≠e):AFam B w' L:=⟨h.all.own c ho ht,h.apart⟩
theorem AFam.at(h:AFam B w L){i:Nat}{x:AR}(hx:L[i]?=some x):Vx.Own w 55 2 x.sl x.l.length (x.l.flatMap MV.cs)∧∀k,x.sl.ownBlock=some k→B≤k:=h.all x (List.mem_of_getElem? hx)
theorem AFam.upd(h:AFam B w L){i:Nat}{x x':AR}(hx:L[i]?=some x)(c:Chg (fun b=>x.sl.ownBlock=some b) w w')(ho:Vx.Own w' 55 2 x'.sl x'.l.length (x'.l.flatMap MV.cs))(hl:∀k,x'.sl.ownBlock=some k→B≤k)(hat:x'.sl.ownBlock=x.sl.ownBlock∨x'.sl.ownBlock=some w.heap.size):AFam B w' (L.set i x'):=by
  have hi:=(List.getElem?_eq_some_iff.1 hx).1
  have get:∀(j:Nat) (y:AR),(L.set i x')[j]?=some y→(j=i∧y=x')∨(j≠i∧L[j]?=some y):=fun j y hy=>by
    by_cases hj:i=j;subst hj;rw [List.getElem?_set_self hi] at hy;cases hy;exact .inl ⟨rfl,rfl⟩;rw [List.getElem?_set_ne hj] at hy;exact .inr ⟨fun e=>hj e.symm,hy⟩
  refine ⟨fun y hy=>?_,fun a b y z hab ha hb k h1 h2=>?_⟩;obtain ⟨j,hj⟩:=List.mem_iff_getElem?.1 hy;rcases get j y hj with ⟨_,rfl⟩|⟨hne,hj⟩;exact ⟨ho,hl⟩;have:=h.at hj;exact ⟨this.1.keep c fun k h1 h2=>h.apart j i y x hne hj hx k h1 h2,this.2⟩;rcases get a y ha with ⟨ea,ra⟩|⟨ea,ha⟩<;>rcases get b z hb with ⟨eb,rb⟩|⟨eb,hb⟩;exact hab (by rw [ea,eb]);rw [ra] at h1;rcases hat with e|e;exact h.apart i b x z (fun e=>eb e.symm) hx hb k (by rw [←e];exact h1) h2;rw [e] at h1;cases h1;have:=(h.at hb).1.lt _ h2;omega;rw [rb] at h2;rcases hat with e|e;exact h.apart a i y x ea ha hx k h1 (by rw [←e];exact h2);rw [e] at h2;cases h2;have:=(h.at ha).1.lt _ h1;omega;exact h.apart a b y z hab ha hb k h1 h2
end
structure MkM(s:SP)(ba mo bt tb be B:Nat)(KX:Nat→Prop)(w0:World)(L:List AR)(aA:Option Addr)(ac:Nat)(e:Int)(w:World):Prop where
  bt:Blk w bt #[.pointer (some ⟨tb,0,none⟩)] 31
  tb:Blk w tb #[(.pointer (some ⟨ba,0,none⟩)),(.slice s.lA s.lex.length s.lc),(.slice s.nA s.names.length s.nc),(.int .i64 s.start),(.slice s.pA s.prods.length s.pc),(.map (some mo)),(.slice aA L.length ac),(.slice none 0 0)] 129
  be:Blk w be #[.int .i64 e] 32
  a:Vx.Own w 131 1 (.slice aA L.length ac) L.length (L.flatMap AR.cs)
  lowA:∀k,(Value.slice aA L.length ac).ownBlock=some k→B≤k
  fam:AFam B w L
  xa:∀k,(Value.slice aA L.length ac).ownBlock=some k→KX k∨w0.heap.size≤k
  xr:∀x∈L,∀k,x.sl.ownBlock=some k→KX k∨w0.heap.size≤k
  ch:Chg KX w0 w
noncomputable def actG(g:GD)(st:List ASt)(n t:Int):Int×Int :=
  if 1<(redG g st n t).length∨((redG g st n t).length=1∧0≤shG g st n t) then (0,0) else if 0≤shG g st n t then (1,shG g st n t) else if (redG g st n t).length=1∧(redG g st n t)[0]! < 0 then (3,0) else if (redG g st n t).length=1 then (2,(redG g st n t)[0]!) else (0,0)
def confG(g:GD)(st:List ASt)(n t:Int):Prop:=1<(redG g st n t).length∨((redG g st n t).length=1∧0≤shG g st n t)
def addR1(R:List (List (Int×Int)))(n:Nat):List (List (Int×Int)):=if n=R.length then R++[[]] else R
def addRow(R:List (List (Int×Int)))(n:Nat)(x:Int×Int):List (List (Int×Int)):=(addR1 R n).set n ((addR1 R n).getD n []++[x])
def actL(l:List Int)(sh:Int):Int×Int:=if 1<l.length∨(l.length=1∧0≤sh) then (0,0) else if 0≤sh then (1,sh) else if l.length=1∧l[0]! < 0 then (3,0) else if l.length=1 then (2,l[0]!) else (0,0)
theorem addR1_lt{L L1:List AR}{n:Nat}(hn:n≤L.length)(h:L1.map AR.l=addR1 (L.map AR.l) n):n<L1.length:=by
  have h9:=congrArg List.length h;unfold addR1 at h9;rw [List.length_map] at h9
  split at h9
  rw [List.length_append,List.length_map] at h9;simp at h9;omega;rename_i h8;rw [List.length_map] at h8 h9;omega
theorem AFam.new{B:Nat}{w:World}{L:List AR}(h:AFam B w L):AFam B w (L++[⟨none,0,[]⟩]):=by
  have no:∀k,¬(AR.sl ⟨none,0,[]⟩).ownBlock=some k:=fun k hk=>by simp [Value.ownBlock,AR.sl] at hk
  refine ⟨fun y hy=>?_,fun a b y z hab ha hb k h1 h2=>?_⟩;rcases List.mem_append.1 hy with hy|hy;exact h.all y hy;rw [List.mem_singleton.1 hy];exact ⟨Vx.Own.nil _ _ _,fun k hk=>absurd hk (no k)⟩;rcases List.mem_append.1 (List.mem_of_getElem? ha) with hy|hy;rcases List.mem_append.1 (List.mem_of_getElem? hb) with hz|hz;refine h.apart a b y z hab ?_ ?_ k h1 h2;by_cases hl:a<L.length;rw [List.getElem?_append_left hl] at ha;exact ha;have h9:=(List.getElem?_eq_some_iff.1 ha).1;rw [List.length_append] at h9;rw [List.getElem?_append_right (by omega),show a-L.length=0 by simp at h9;omega] at ha;simp at ha;rw [←ha] at h1;exact absurd h1 (no k);by_cases hl:b<L.length;rw [List.getElem?_append_left hl] at hb;exact hb;have h9:=(List.getElem?_eq_some_iff.1 hb).1;rw [List.length_append] at h9;rw [List.getElem?_append_right (by omega),show b-L.length=0 by simp at h9;omega] at hb;simp at hb;rw [←hb] at h2;exact absurd h2 (no k);rw [List.mem_singleton.1 hz] at h2;exact no k h2;rw [List.mem_singleton.1 hy] at h1;exact no k h1
theorem actG_L{g:GD}{st:List ASt}{n t:Int} : actG g st n t=actL (redG g st n t) (shG g st n t):=rfl
instance tA_127:AggF Tryz.prog 127 where
instance tA_131:AggF Tryz.prog 131 where
instance tA_31:AggF Tryz.prog 31 where
instance tA_55:AggT Tryz.prog 55 where
instance tE_127:SlT Tryz.prog 127 (131,1,24,(.slice none 0 0)) where
instance tE_131:SlT Tryz.prog 131 (55,2,16,(.agg #[(.int .i64 0),(.int .i64 0)])) where
instance tF_129_3:FdT Tryz.prog 129 3 6 where
instance tP_55:PcT Tryz.prog 55 #[(0,1),(1,1)] where
instance tS_127:SzT Tryz.prog 127 1 where
instance tS_131:SzT Tryz.prog 131 1 where
instance tS_32:SzT Tryz.prog 32 1 where
instance tS_55:SzT Tryz.prog 55 2 where
instance tU_127:UnS Tryz.prog 127 131 where
instance tZ_55:ZrT Tryz.prog 55 (.agg #[(.int .i64 0),(.int .i64 0)]) where
theorem make1_calls(s:SP)(ba mo bt tb be B:Nat)(KX:Nat→Prop)(L:List AR)(aA:Option Addr)(ac:Nat)(e0:Int)(n t:Nat)(sh:Int)(l:List Int)(A:Option Addr)(c:Nat)(w:World)(hZ:MkM s ba mo bt tb be B KX w L aA ac e0 w)(hkt:KX tb)(hke:KX be)(hB:B≤w.heap.size)(hR:∀W,Chg KX w W→RowA W A (l.flatMap ints))(hll:l.length≤8796093022208)(hn:n≤L.length)(hn2:n≤100000)(hlen9:∀(L1:List AR) (x:AR),L1.map AR.l=addR1 (L.map AR.l) n→L1[n]?=some x→x.l.length≤1000)(hLl:L.length≤100000) :
    Calls Tryz.prog 63 #[(.int .i64 ((n:Nat))),(.int .i64 ((t:Nat))),(.int .i64 sh),(.slice A l.length c),(.pointer (some ⟨bt,0,none⟩)),(.pointer (some ⟨be,0,none⟩))] w (Ret (fun v w'=>v = .tuple #[]∧∃(L':List AR) (aA':Option Addr) (ac':Nat),L'.map AR.l=addRow (L.map AR.l) n (actL l sh)∧MkM s ba mo bt tb be B KX w L' aA' ac' (if 1<l.length∨(l.length=1∧0≤sh) then 90 else e0) w')):=by
 refine calls_y (n:=81) Tryz.func63 ?_;have:=hZ.bt.lt;have:=hZ.tb.lt;have:=hZ.be.lt;have hsz_:=hZ.ch.size;refine go0 ?_;refine xc_cut2 (fun f' W'=>∃(L1:List AR) (aA1:Option Addr) (ac1:Nat),MkM s ba mo bt tb be B KX w L1 aA1 ac1 e0 W'∧L1.map AR.l=addR1 (L.map AR.l) n∧f' 0=(.int .i64 ((n:Nat)))∧f' 2=(.int .i64 sh)∧f' 3=(.slice A l.length c)∧f' 4=(.pointer (some ⟨bt,0,none⟩))∧f' 5=(.pointer (some ⟨be,0,none⟩))) ?_ ?_;refine go ?_;refine y_ld hZ.bt ?_;refine go ?_;refine y_ld hZ.tb ?_;refine go ?_;refine y_if (fun h1=>?_) (fun h1=>?_);refine xc_regionE [9] (fun W_=>Chg (fun x=>((.slice aA L.length ac):Value).ownBlock=some x) w W_) hmix ?_;intro w1 e1 z1;have hS1:Chg (fun x=>((.slice aA L.length ac):Value).ownBlock=some x) w w1:=Ext.to e1;refine yDt (i:=0) rfl hS1 (fun W_ hW_=>ox_load tA_31.h rfl ((hZ.bt.ko hW_ (hZ.a)).cell rfl) ⟨rfl,rfl⟩) ?_;refine yDt (i:=1) rfl hS1 (fun W_ hW_=>ox_load tA_31.h rfl ((hZ.bt.ko hW_ (hZ.a)).cell rfl) ⟨rfl,rfl⟩) ?_;refine yDp 2 ?_;refine yDp 3 ?_;refine yDt (i:=4) rfl hS1 (fun W_ hW_=>ox_load tA_127.h rfl ((hZ.tb.ko hW_ (hZ.a)).cell rfl) ⟨rfl,rfl⟩) ?_;refine yD1 (i:=5) rfl (ox_mkSlice (ps:=[(0,(.slice none 0 0))]) (zs:=#[(.slice none 0 0)]) (cs:=#[(.slice none 0 0)]) tE_127.h rfl (by decide) (by kernel_rfl) (by kernel_rfl) ?_);intro w2 e2 z2 b1;replace b1:Blk w2 w1.heap.size #[(.slice none 0 0)] 131:=b1;have hS2:Chg (fun x=>((.slice aA L.length ac):Value).ownBlock=some x) w w2:=Chg.ext hS1 e2;refine ⟨.inr fun _=>hS2,?_⟩;refine yD1 (i:=6) rfl (ox_appD (l:=L) (r:=[(⟨none,0,[]⟩:AR)]) (cs:=AR.cs) rfl tE_127.h rfl (by decide) AR.len AR.one (v:=(.slice aA L.length ac)) rfl rfl (m:=1) rfl ((hZ.a.ext e1).ext e2) b1.all aM (by decide) ?_);intro A1 c1 w3 o1 e3 at1 hc1;have he3:=e3.size;have low1:=low_at at1 hZ.lowA;have hxa1:∀k,(Value.slice A1 ((L++[(⟨none,0,[]⟩:AR)]).length) c1).ownBlock=some k→KX k∨w.heap.size≤k:=fun k hk=>by rcases at1 with _e | _e<;>rw [_e] at hk;exact hZ.xa k hk;(cases hk;exact .inr (by omega))
 have hxr1:∀x∈L++[(⟨none,0,[]⟩:AR)],∀k,x.sl.ownBlock=some k→KX k∨w.heap.size≤k:=fun x hx k hk=>by rcases List.mem_append.1 hx with hx | hx;exact hZ.xr x hx k hk;(rw [List.mem_singleton.1 hx] at hk;simp [Value.ownBlock,AR.sl] at hk)
 have hS3:Chg (fun x=>((.slice aA L.length ac):Value).ownBlock=some x) w w3:=Chg.trans hS2 e3 (fun x hx hl=>hx);refine ⟨.inr fun _=>hS3,?_⟩;refine yDp 7 ?_;refine yDp 8 ?_;have q1:=(((hZ.tb.ext e1).ext e2).ko e3 ((hZ.a.ext e1).ext e2));refine yD1 (i:=9) rfl (ox_store (n:=1) (vs:=[(.slice A1 ((L++[(⟨none,0,[]⟩:AR)]).length) c1)]) tS_127.h rfl (v:=(.slice A1 ((L++[(⟨none,0,[]⟩:AR)]).length) c1)) rfl rfl rfl rfl q1 (Nat.le_of_ble_eq_true rfl) ?_);intro w4 e4 z3 b2;replace b2:Blk w4 tb #[(.pointer (some ⟨ba,0,none⟩)),(.slice s.lA s.lex.length s.lc),(.slice s.nA s.names.length s.nc),(.int .i64 s.start),(.slice s.pA s.prods.length s.pc),(.map (some mo)),(.slice A1 ((L++[(⟨none,0,[]⟩:AR)]).length) c1),(.slice none 0 0)] 129:=b2;refine ⟨.inl (by decide),?_⟩;refine xd_done (by kernel_rfl) ?_ _;refine go ?_;have q2:=(((hZ.bt.ext e1).ext e2).ko e3 ((hZ.a.ext e1).ext e2));have q3:=(((hZ.be.ext e1).ext e2).ko e3 ((hZ.a.ext e1).ext e2));have q4:=(o1.kb e4 q1);have q5:=(AFam.blk (AFam.new (AFam.own (AFam.ext (AFam.ext hZ.fam e1) e2) e3 ((hZ.a.ext e1).ext e2) (by decide))) e4 q1 (by decide));have q6:=(Chg.trans (Chg.ext (Chg.ext hZ.ch e1) e2) e3 (fun b hb hl=>(hZ.xa b hb).resolve_right (by omega)));exact ⟨rfl,L++[(⟨none,0,[]⟩:AR)],A1,c1,⟨(q2.kb e4 q1),b2,(q3.kb e4 q1),q4,low1,q5,hxa1,hxr1,(Chg.chg1 q6 e4 (.inl hkt))⟩,(by unfold addR1;rw [List.length_map];rw [if_pos (by omega),List.map_append]<;>rfl),rfl,rfl,rfl,rfl,rfl⟩;refine go ?_;exact ⟨rfl,L,aA,ac,⟨hZ.bt,hZ.tb,hZ.be,hZ.a,hZ.lowA,hZ.fam,hZ.xa,hZ.xr,hZ.ch⟩,(by unfold addR1;rw [List.length_map];rw [if_neg (by omega)]),rfl,rfl,rfl,rfl,rfl⟩;rintro f1 w5 ⟨L1,aA1,ac1,hZ1,hL1,g0_f1,g2_f1,g3_f1,g4_f1,g5_f1⟩;have:=hZ1.bt.lt;have:=hZ1.tb.lt;have:=hZ1.be.lt;have hsz_:=hZ1.ch.size;have hn1:n<L1.length:=addR1_lt hn hL1;rw [←usf g0_f1,←usf g2_f1,←usf g3_f1,←usf g4_f1,←usf g5_f1];refine go ?_;refine yOp (ox_mkStruct (ps:=[]) (cs:=#[(.int .i64 0),(.int .i64 0)]) tZ_55.h tP_55.h rfl (by kernel_rfl) ?_);refine y_al ?_;intro w6 e5 z4 b3;refine y_st b3 ?_;intro w7 e6 z5 b4;replace b4:Blk w7 w5.heap.size #[(.int .i64 0),(.int .i64 0)] 55:=blk_full b4 rfl;refine go0 ?_;refine xc_cut (fun f' W'=>∃(x1:Int×Int) (e1:Int),MkM s ba mo bt tb be B KX w L1 aA1 ac1 e1 W'∧Blk W' w5.heap.size #[.int .i64 x1.1,.int .i64 x1.2] 55∧(∀x∈L1,∀k,x.sl.ownBlock=some k→¬k=w5.heap.size)∧x1=actL l sh∧e1=(if 1<l.length∨(l.length=1∧0≤sh) then 90 else e0)∧f' 0=(.int .i64 ((n:Nat)))∧f' 4=(.pointer (some ⟨bt,0,none⟩))∧f' 10=(.pointer (some ⟨w5.heap.size,0,none⟩))) ?_ ?_;refine go ?_;by_cases h2:(1:Int)<(((l.length:Nat):Int));refine ysL (s:=32) (bT (decide_eq_true h2)) ?_;have q7:=((hZ1.be.ext e5).kb e6 b3);refine go ?_;refine y_st q7 ?_;intro w8 e7 z6 b5;replace b5:Blk w8 be #[(.int .i64 90)] 32:=b5;refine go ?_;have q8:=((hZ1.bt.ext e5).kb e6 b3);have q9:=((hZ1.tb.ext e5).kb e6 b3);have q10:=((hZ1.a.ext e5).kb e6 b3);have q11:=(q10.kb e7 q7);have q12:=(AFam.keep (AFam.ext hZ1.fam e5) e6 (fun x hx k hk hl hh=>by have _h:k=w5.heap.size:=hh;have _l:=((hZ1.fam).all x hx).1.lt k hk;omega))
 have q13:=(Chg.chg1 (Chg.ext hZ1.ch e5) e6 (.inr (by omega)));exact ⟨rfl,((0,0):Int×Int),90,⟨(q8.kb e7 q7),(q9.kb e7 q7),b5,q11,hZ1.lowA,(AFam.blk q12 e7 q7 (by decide)),hZ1.xa,hZ1.xr,(Chg.chg1 q13 e7 (.inl hke))⟩,(b4.kb e7 q7),(fun x hx k hk hh=>by have _l:=((hZ1.fam).all x hx).1.lt k hk;omega),(by unfold actL;repeat (first | rw [if_pos (by omega)] | rw [if_neg (by omega)])),(by first | rw [if_pos (by omega)] | rw [if_neg (by omega)]),rfl,rfl,rfl⟩;refine ysL (s:=32) (bF (decide_eq_false h2)) ?_;refine go ?_;by_cases h3:(((l.length:Nat):Int):Int)=1;refine ysL (s:=36) (bT (decide_eq_true h3)) ?_;refine go ?_;refine y_if (fun h4=>?_) (fun h4=>?_);have q14:=((hZ1.be.ext e5).kb e6 b3);refine go ?_;refine y_st q14 ?_;intro w9 e8 z7 b6;replace b6:Blk w9 be #[(.int .i64 90)] 32:=b6;refine go ?_;have q15:=((hZ1.bt.ext e5).kb e6 b3);have q16:=((hZ1.tb.ext e5).kb e6 b3);have q17:=((hZ1.a.ext e5).kb e6 b3);have q18:=(q17.kb e8 q14);have q19:=(AFam.keep (AFam.ext hZ1.fam e5) e6 (fun x hx k hk hl hh=>by have _h:k=w5.heap.size:=hh;have _l:=((hZ1.fam).all x hx).1.lt k hk;omega));have q20:=(Chg.chg1 (Chg.ext hZ1.ch e5) e6 (.inr (by omega)));exact ⟨rfl,((0,0):Int×Int),90,⟨(q15.kb e8 q14),(q16.kb e8 q14),b6,q18,hZ1.lowA,(AFam.blk q19 e8 q14 (by decide)),hZ1.xa,hZ1.xr,(Chg.chg1 q20 e8 (.inl hke))⟩,(b4.kb e8 q14),(fun x hx k hk hh=>by have _l:=((hZ1.fam).all x hx).1.lt k hk;omega),(by unfold actL;repeat (first | rw [if_pos (by omega)] | rw [if_neg (by omega)])),(by first | rw [if_pos (by omega)] | rw [if_neg (by omega)]),rfl,rfl,rfl⟩;refine go ?_;refine ysC (s:=41) (bF (decide_eq_false h4)) ?_;refine go ?_;refine ysL (s:=50) (bT (decide_eq_true h3)) ?_;have q21:=(Chg.chg1 (Chg.ext hZ1.ch e5) e6 (.inr (by omega)));obtain ⟨x_1,g_1,o_1,hx_1⟩:=row_may (A:=A) (cs:=ints) 0 ints_len (by decide) (hR _ q21);obtain ⟨hx_2,hA_1,hc_1⟩:=hx_1 oM;refine go ?_;refine y_ix 0 hA_1 ?_;refine y_lc (CellsL.at1 hc_1 0 rfl) ?_;refine go ?_;refine y_if (fun h5=>?_) (fun h5=>?_);refine go ?_;refine yOp (ox_mkStruct (ps:=[(0,(.int .i64 3))]) (cs:=#[(.int .i64 3),(.int .i64 0)]) tZ_55.h tP_55.h rfl (by kernel_rfl) ?_);refine y_st b4 ?_;intro w10 e9 z8 b7;replace b7:Blk w10 w5.heap.size #[(.int .i64 3),(.int .i64 0)] 55:=blk_full b7 rfl;refine go ?_;have q22:=((hZ1.bt.ext e5).kb e6 b3);have q23:=((hZ1.tb.ext e5).kb e6 b3);have q24:=((hZ1.be.ext e5).kb e6 b3);have q25:=((hZ1.a.ext e5).kb e6 b3);have q26:=(q25.kb e9 b4);have q27:=(AFam.keep (AFam.ext hZ1.fam e5) e6 (fun x hx k hk hl hh=>by have _h:k=w5.heap.size:=hh;have _l:=((hZ1.fam).all x hx).1.lt k hk;omega));have q28:=(AFam.keep q27 e9 (fun x hx k hk hl hh=>by have _h:k=w5.heap.size:=hh;have _l:=((hZ1.fam).all x hx).1.lt k hk;omega));exact ⟨rfl,((3,0):Int×Int),e0,⟨(q22.kb e9 b4),(q23.kb e9 b4),(q24.kb e9 b4),q26,hZ1.lowA,q28,hZ1.xa,hZ1.xr,(Chg.chg1 q21 e9 (.inr (by omega)))⟩,b7,(fun x hx k hk hh=>by have _l:=((hZ1.fam).all x hx).1.lt k hk;omega),(by have hb0:l[0]! = x_1:=bang_of hx_2;unfold actL;repeat (first | rw [if_pos (by omega)] | rw [if_neg (by omega)]);(try rw [hb0])),(by first | rw [if_pos (by omega)] | rw [if_neg (by omega)]),rfl,rfl,rfl⟩
 refine go ?_;refine ysC (s:=57) (bT (decide_eq_true h3)) ?_;refine go ?_;refine y_ix 0 hA_1 ?_;refine y_lc (CellsL.at1 hc_1 0 rfl) ?_;refine yOp (ox_mkStruct (ps:=[(0,(.int .i64 2)),(1,(.int .i64 x_1))]) (cs:=#[(.int .i64 2),(.int .i64 x_1)]) tZ_55.h tP_55.h rfl (by kernel_rfl) ?_);refine y_st b4 ?_;intro w11 e10 z9 b8;replace b8:Blk w11 w5.heap.size #[(.int .i64 2),(.int .i64 x_1)] 55:=blk_full b8 rfl;refine go ?_;have q29:=((hZ1.bt.ext e5).kb e6 b3);have q30:=((hZ1.tb.ext e5).kb e6 b3);have q31:=((hZ1.be.ext e5).kb e6 b3);have q32:=((hZ1.a.ext e5).kb e6 b3);have q33:=(q32.kb e10 b4);have q34:=(AFam.keep (AFam.ext hZ1.fam e5) e6 (fun x hx k hk hl hh=>by have _h:k=w5.heap.size:=hh;have _l:=((hZ1.fam).all x hx).1.lt k hk;omega));have q35:=(AFam.keep q34 e10 (fun x hx k hk hl hh=>by have _h:k=w5.heap.size:=hh;have _l:=((hZ1.fam).all x hx).1.lt k hk;omega));exact ⟨rfl,((2,x_1):Int×Int),e0,⟨(q29.kb e10 b4),(q30.kb e10 b4),(q31.kb e10 b4),q33,hZ1.lowA,q35,hZ1.xa,hZ1.xr,(Chg.chg1 q21 e10 (.inr (by omega)))⟩,b8,(fun x hx k hk hh=>by have _l:=((hZ1.fam).all x hx).1.lt k hk;omega),(by have hb0:l[0]! = x_1:=bang_of hx_2;unfold actL;repeat (first | rw [if_pos (by omega)] | rw [if_neg (by omega)]);(try rw [hb0])),(by first | rw [if_pos (by omega)] | rw [if_neg (by omega)]),rfl,rfl,rfl⟩;refine ysL (s:=36) (bF (decide_eq_false h3)) ?_;refine go ?_;refine y_if (fun h6=>?_) (fun h6=>?_);refine go ?_;refine yOp (ox_mkStruct (ps:=[(0,(.int .i64 1)),(1,(.int .i64 sh))]) (cs:=#[(.int .i64 1),(.int .i64 sh)]) tZ_55.h tP_55.h rfl (by kernel_rfl) ?_);refine y_st b4 ?_;intro w12 e11 z10 b9;replace b9:Blk w12 w5.heap.size #[(.int .i64 1),(.int .i64 sh)] 55:=blk_full b9 rfl;refine go ?_;have q36:=((hZ1.bt.ext e5).kb e6 b3);have q37:=((hZ1.tb.ext e5).kb e6 b3);have q38:=((hZ1.be.ext e5).kb e6 b3);have q39:=((hZ1.a.ext e5).kb e6 b3);have q40:=(q39.kb e11 b4);have q41:=(AFam.keep (AFam.ext hZ1.fam e5) e6 (fun x hx k hk hl hh=>by have _h:k=w5.heap.size:=hh;have _l:=((hZ1.fam).all x hx).1.lt k hk;omega));have q42:=(AFam.keep q41 e11 (fun x hx k hk hl hh=>by have _h:k=w5.heap.size:=hh;have _l:=((hZ1.fam).all x hx).1.lt k hk;omega));have q43:=(Chg.chg1 (Chg.ext hZ1.ch e5) e6 (.inr (by omega)));exact ⟨rfl,((1,sh):Int×Int),e0,⟨(q36.kb e11 b4),(q37.kb e11 b4),(q38.kb e11 b4),q40,hZ1.lowA,q42,hZ1.xa,hZ1.xr,(Chg.chg1 q43 e11 (.inr (by omega)))⟩,b9,(fun x hx k hk hh=>by have _l:=((hZ1.fam).all x hx).1.lt k hk;omega),(by unfold actL;repeat (first | rw [if_pos (by omega)] | rw [if_neg (by omega)])),(by first | rw [if_pos (by omega)] | rw [if_neg (by omega)]),rfl,rfl,rfl⟩;refine go ?_;refine ysL (s:=50) (bF (decide_eq_false h3)) ?_;refine go ?_;refine ysC (s:=57) (bF (decide_eq_false h3)) ?_;refine go ?_;have q44:=((hZ1.bt.ext e5).kb e6 b3);have q45:=((hZ1.tb.ext e5).kb e6 b3);have q46:=((hZ1.be.ext e5).kb e6 b3);have q47:=((hZ1.a.ext e5).kb e6 b3);have q48:=(AFam.keep (AFam.ext hZ1.fam e5) e6 (fun x hx k hk hl hh=>by have _h:k=w5.heap.size:=hh;have _l:=((hZ1.fam).all x hx).1.lt k hk;omega))
 have q49:=(Chg.chg1 (Chg.ext hZ1.ch e5) e6 (.inr (by omega)));exact ⟨rfl,((0,0):Int×Int),e0,⟨q44,q45,q46,q47,hZ1.lowA,q48,hZ1.xa,hZ1.xr,q49⟩,b4,(fun x hx k hk hh=>by have _l:=((hZ1.fam).all x hx).1.lt k hk;omega),(by unfold actL;repeat (first | rw [if_pos (by omega)] | rw [if_neg (by omega)])),(by first | rw [if_pos (by omega)] | rw [if_neg (by omega)]),rfl,rfl,rfl⟩;rintro f2 w13 ⟨x1,e1,hZ2,hxb,hxn,hx1,he1,g0_f2,g4_f2,g10_f2⟩;have:=hZ2.bt.lt;have:=hZ2.tb.lt;have:=hZ2.be.lt;have hsz_:=hZ2.ch.size;have:=hxb.lt;rw [←usf g0_f2,←usf g4_f2,←usf g10_f2];obtain ⟨x_2,g_2,hx_3⟩:=own_may (A:=aA1) n AR.len (by decide) hZ2.a;obtain ⟨hx_4,hA_2,hc_2⟩:=hx_3 oM;have hrow9:=AFam.at hZ2.fam hx_4;have hrl9:x_2.l.length≤1000:=hlen9 _ _ hL1 hx_4;refine xc_regionE [16] (fun W_=>Chg (fun x=>((.slice x_2.A x_2.l.length x_2.c):Value).ownBlock=some x) w13 W_) hmix ?_;intro w14 e12 z11;have hS4:Chg (fun x=>((.slice x_2.A x_2.l.length x_2.c):Value).ownBlock=some x) w13 w14:=Ext.to e12;refine yDt (i:=0) rfl hS4 (fun W_ hW_=>ox_load tA_31.h rfl ((hZ2.bt.ko hW_ (hrow9.1)).cell rfl) ⟨rfl,rfl⟩) ?_;refine yDp 1 ?_;refine yDp 2 ?_;refine yDt (i:=3) rfl hS4 (fun W_ hW_=>ox_load tA_127.h rfl ((hZ2.tb.ko hW_ (hrow9.1)).cell rfl) ⟨rfl,rfl⟩) ?_;refine yDp 4 ?_;refine yDt (i:=5) rfl hS4 (fun W_ hW_=>ox_load tA_31.h rfl ((hZ2.bt.ko hW_ (hrow9.1)).cell rfl) ⟨rfl,rfl⟩) ?_;refine yDp 6 ?_;refine yDp 7 ?_;refine yDt (i:=8) rfl hS4 (fun W_ hW_=>ox_load tA_127.h rfl ((hZ2.tb.ko hW_ (hrow9.1)).cell rfl) ⟨rfl,rfl⟩) ?_;refine yDp 9 ?_;refine yDx (i:=10) n hA_2 ?_;refine yDt (i:=11) rfl hS4 (fun W_ hW_=>ox_load tA_131.h rfl (CellsL.at1 (CellsL.keep hW_ (fun _h=>(hZ2.a).ne_own hrow9.1 (by decide) _ (by rw [hA_2]<;>rfl) _h) hc_2) 0 rfl) ⟨rfl,rfl⟩) ?_;refine yDt (i:=12) rfl hS4 (fun W_ hW_=>ox_loadN (vs:=[(.int .i64 x1.1),(.int .i64 x1.2)]) tA_55.h tS_55.h rfl rfl ⟨(hxb.keep hW_ (fun _h=>hxn _ (List.mem_of_getElem? hx_4) _ _h rfl)).cell rfl,(hxb.keep hW_ (fun _h=>hxn _ (List.mem_of_getElem? hx_4) _ _h rfl)).cell rfl,trivial⟩ ⟨rfl,rfl⟩) ?_;refine yD1 (i:=13) rfl (ox_mkSlice (ps:=[(0,(.agg #[(.int .i64 x1.1),(.int .i64 x1.2)]))]) (zs:=#[(.int .i64 0),(.int .i64 0)]) (cs:=#[(.int .i64 x1.1),(.int .i64 x1.2)]) tE_131.h rfl (by decide) (by kernel_rfl) (by kernel_rfl) ?_);intro w15 e13 z12 b10;replace b10:Blk w15 w14.heap.size #[(.int .i64 x1.1),(.int .i64 x1.2)] 55:=b10;have hS5:Chg (fun x=>((.slice x_2.A x_2.l.length x_2.c):Value).ownBlock=some x) w13 w15:=Chg.ext hS4 e13;refine ⟨.inr fun _=>hS5,?_⟩;refine yD1 (i:=14) rfl (ox_appD (l:=x_2.l) (r:=[x1]) (cs:=MV.cs) rfl tE_131.h rfl (by decide) MV.len MV.one (v:=(.slice x_2.A x_2.l.length x_2.c)) rfl rfl (m:=1) rfl ((hrow9.1.ext e12).ext e13) b10.all aM (by decide) ?_);intro A2 c2 w16 o2 e14 at2 hc2;have he14:=e14.size;have low2:=low_at at2 hrow9.2;have hxi1:∀k,(Value.slice A2 ((x_2.l++[x1]).length) c2).ownBlock=some k→KX k∨w.heap.size≤k:=fun k hk=>by rcases at2 with _e | _e<;>rw [_e] at hk;exact (hZ2.xr x_2 (List.mem_of_getElem? hx_4)) k hk;(cases hk;exact .inr (by omega))
 have hS6:Chg (fun x=>((.slice x_2.A x_2.l.length x_2.c):Value).ownBlock=some x) w13 w16:=Chg.trans hS5 e14 (fun x hx hl=>hx);refine ⟨.inr fun _=>hS6,?_⟩;refine yDx (i:=15) n hA_2 ?_;have q50:=(((hZ2.a.ext e12).ext e13).ko e14 ((hrow9.1.ext e12).ext e13));refine yD1 (i:=16) rfl (ox_stE (i:=n) (off:=0) (vs:=[(.slice A2 ((x_2.l++[x1]).length) c2)]) (b:=((⟨A2,c2,x_2.l++[x1]⟩:AR):AR)) AR.len tS_131.h hA_2 rfl (v:=(.slice A2 ((x_2.l++[x1]).length) c2)) rfl rfl rfl rfl q50 hx_4 rfl (by decide) (by omega) ?_);intro w17 e15 z13 o3;refine ⟨.inl (by decide),?_⟩;refine xd_done (by kernel_rfl) ?_ _;refine go ?_;refine y_r0 ?_;have q51:=(((hZ2.bt.ext e12).ext e13).ko e14 ((hrow9.1.ext e12).ext e13));have q52:=(q51.ko e15 q50);have q53:=(((hZ2.tb.ext e12).ext e13).ko e14 ((hrow9.1.ext e12).ext e13));have q54:=(q53.ko e15 q50);have q55:=(((hZ2.be.ext e12).ext e13).ko e14 ((hrow9.1.ext e12).ext e13));have q56:=(q55.ko e15 q50);have q57:=(AFam.own (AFam.upd (x':=(⟨A2,c2,x_2.l++[x1]⟩:AR)) (AFam.ext (AFam.ext hZ2.fam e12) e13) hx_4 e14 o2 low2 at2) e15 q50 (by decide));have q58:=(Chg.trans (Chg.ext (Chg.ext hZ2.ch e12) e13) e14 (fun b hb hl=>((hZ2.xr x_2 (List.mem_of_getElem? hx_4)) b hb).resolve_right (by omega)));have q59:=(Chg.trans q58 e15 (fun b hb hl=>(hZ2.xa b hb).resolve_right (by omega)));exact ⟨rfl,(L1.set n ((⟨A2,c2,x_2.l++[x1]⟩:AR))),aA1,ac1,(by unfold addRow;rw [←hL1,List.map_set,getD_of (map_get (f:=AR.l) hx_4),←hx1]),by rw [←he1];exact ⟨q52,(by rw [List.length_set];exact q54),q56,(by rw [List.length_set];exact o3),(by rw [List.length_set];exact hZ2.lowA),q57,(by rw [List.length_set];exact hZ2.xa),(fun x hx=>(List.mem_or_eq_of_mem_set hx).elim (hZ2.xr x) (fun e9=>by rw [e9];exact hxi1)),q59⟩⟩
noncomputable def actsTo(g:GD)(st:List ASt)(TT i:Nat):List (List (Int×Int)):=(List.range i).foldl (fun R j=>addRow R (j / TT) (actG g st ((j / TT:Nat):Int) ((j % TT:Nat):Int))) []
open Classical in
noncomputable def errTo(g:GD)(st:List ASt)(TT i:Nat):Int:=(List.range i).foldl (fun e j=>if confG g st ((j / TT:Nat):Int) ((j % TT:Nat):Int) then 90 else e) 0
theorem dm_of{n t TT:Nat}(ht:t<TT):(n*TT+t) / TT=n∧(n*TT+t) % TT=t:=by
  have h1:0<TT:=by omega
  constructor;rw [Nat.mul_comm,Nat.mul_add_div h1,Nat.div_eq_of_lt ht,Nat.add_zero];rw [Nat.mul_comm,Nat.mul_add_mod,Nat.mod_eq_of_lt ht]
theorem actsTo_succ{g:GD}{st:List ASt}{TT n t:Nat}(ht:t<TT):actsTo g st TT (n*TT+t+1)=addRow (actsTo g st TT (n*TT+t)) n (actG g st (n:Nat) (t:Nat)):=by
  unfold actsTo;rw [List.range_succ,List.foldl_append,List.foldl_cons,List.foldl_nil,(dm_of ht).1,(dm_of ht).2]
theorem errTo_succ{g:GD}{st:List ASt}{TT n t:Nat}(ht:t<TT):errTo g st TT (n*TT+t+1) = @ite _ (confG g st (n:Nat) (t:Nat)) (Classical.propDecidable _) 90 (errTo g st TT (n*TT+t)):=by
  unfold errTo;rw [List.range_succ,List.foldl_append,List.foldl_cons,List.foldl_nil,(dm_of ht).1,(dm_of ht).2]
noncomputable def rowTo(g:GD)(st:List ASt)(n t:Nat):List (Int×Int):=(List.range t).map fun u:Nat=>actG g st (n:Nat) (u:Nat)
noncomputable def rowsTo(g:GD)(st:List ASt)(TT n:Nat):List (List (Int×Int)):=(List.range n).map fun m=>rowTo g st m TT
theorem rowTo_succ{g:GD}{st:List ASt}{n t:Nat} : rowTo g st n (t+1)=rowTo g st n t++[actG g st (n:Nat) (t:Nat)]:=by unfold rowTo;rw [List.range_succ,List.map_append];rfl
theorem rowTo_len{g:GD}{st:List ASt}{n t:Nat} : (rowTo g st n t).length=t:=by unfold rowTo;rw [List.length_map,List.length_range]
theorem rowsTo_len{g:GD}{st:List ASt}{TT n:Nat} : (rowsTo g st TT n).length=n:=by unfold rowsTo;rw [List.length_map,List.length_range]
theorem addRow_new{R:List (List (Int×Int))}{n:Nat}{x:Int×Int}(h:n=R.length):addRow R n x=R++[[x]]:=by
  subst h;unfold addRow addR1;simp
theorem addRow_old{R:List (List (Int×Int))}{r:List (Int×Int)}{n:Nat}{x:Int×Int}(h:n=R.length):addRow (R++[r]) n x=R++[r++[x]]:=by
  subst h;unfold addRow addR1;rw [if_neg (by simp)];simp
theorem actsTo_part{g:GD}{st:List ASt}{TT n:Nat}(h0:actsTo g st TT (n*TT)=rowsTo g st TT n):∀t,t+1≤TT→actsTo g st TT (n*TT+(t+1))=rowsTo g st TT n++[rowTo g st n (t+1)]
  | 0,h=>by
    have h9:=actsTo_succ (g:=g) (st:=st) (n:=n) (t:=0) (show 0<TT by omega);simp only [Nat.add_zero] at h9;rw [h0,addRow_new (by rw [rowsTo_len])] at h9;exact h9
  | t+1,h=>by
    have h9:=actsTo_succ (g:=g) (st:=st) (n:=n) (t:=t+1) (show t+1<TT by omega);rw [actsTo_part h0 t (by omega),addRow_old (by rw [rowsTo_len]),←rowTo_succ] at h9;exact h9
theorem actsTo_rows{g:GD}{st:List ASt}{TT:Nat}(hT:0<TT):∀n,actsTo g st TT (n*TT)=rowsTo g st TT n
  | 0=>by simp [actsTo,rowsTo]
  | n+1=>by
    have h:=actsTo_part (actsTo_rows (g:=g) (st:=st) hT n) (TT-1) (by omega);rw [show TT-1+1=TT by omega] at h;rw [Nat.add_mul,Nat.one_mul,h];unfold rowsTo;rw [List.range_succ,List.map_append]
    rfl
theorem actsTo_at{g:GD}{st:List ASt}{TT n t:Nat}(ht:t<TT):actsTo g st TT (n*TT+t)=rowsTo g st TT n++(if t=0 then [] else [rowTo g st n t]):=by
  cases t with
  | zero=>rw [Nat.add_zero,actsTo_rows (by omega),if_pos rfl,List.append_nil]
  | succ t=>rw [actsTo_part (actsTo_rows (by omega) n) t (by omega),if_neg (by omega)]
theorem actsTo_lens{g:GD}{st:List ASt}{TT n t:Nat}(ht:t<TT):n≤(actsTo g st TT (n*TT+t)).length∧(actsTo g st TT (n*TT+t)).length≤n+1∧∀x∈actsTo g st TT (n*TT+t),x.length≤TT:=by
  rw [actsTo_at ht];refine ⟨by rw [List.length_append,rowsTo_len];omega,?_,fun x hx=>?_⟩;rw [List.length_append,rowsTo_len];split<;>simp;rcases List.mem_append.1 hx with h|h;obtain ⟨m,_,rfl⟩:=List.mem_map.1 h;rw [rowTo_len];exact Nat.le_refl _
  split at h
  cases h;rw [List.mem_singleton.1 h,rowTo_len];omega
def MkX(tb be:Nat)(aA:Option Addr)(ac:Nat)(L:List AR)(b:Nat):Prop:=b=tb∨b=be∨(Value.slice aA L.length ac).ownBlock=some b∨∃x∈L,x.sl.ownBlock=some b
def MkInv(s:SP)(ba mo bt tb be:Nat)(g:GD)(st:List ASt)(TT:Nat)(w0:World)(i:Nat)(X:Nat→Prop)(W:World):Prop:=Ext w0 W∧∃(L:List AR) (aA:Option Addr) (ac:Nat),(∀b,X b↔MkX tb be aA ac L b)∧MkM s ba mo bt tb be w0.heap.size X W L aA ac (errTo g st TT i) W∧L.map AR.l=actsTo g st TT i
theorem MkM.start{s:SP}{ba mo bt tb be B:Nat}{KX:Nat→Prop}{w0 w:World}{L:List AR}{aA:Option Addr}{ac:Nat}{e:Int}(h:MkM s ba mo bt tb be B KX w0 L aA ac e w){X:Nat→Prop}(hX:∀b,X b↔MkX tb be aA ac L b):MkM s ba mo bt tb be B X w L aA ac e w :=
  ⟨h.bt,h.tb,h.be,h.a,h.lowA,h.fam,fun k hk=>.inl ((hX k).2 (.inr (.inr (.inl hk)))),fun x hx k hk=>.inl ((hX k).2 (.inr (.inr (.inr ⟨x,hx,hk⟩)))),Chg.refl _ _⟩
theorem MkM.ext{s:SP}{ba mo bt tb be B:Nat}{KX:Nat→Prop}{w w':World}{L:List AR}{aA:Option Addr}{ac:Nat}{e:Int}(h:MkM s ba mo bt tb be B KX w L aA ac e w)(c:Ext w w'){X:Nat→Prop}(hX:∀b,X b↔MkX tb be aA ac L b):MkM s ba mo bt tb be B X w' L aA ac e w' :=
  MkM.start (KX:=KX) (w0:=w) ⟨h.bt.ext c,h.tb.ext c,h.be.ext c,h.a.ext c,h.lowA,h.fam.ext c,h.xa,h.xr,h.ch.ext c⟩ hX
theorem MkInv.ext{s:SP}{ba mo bt tb be:Nat}{g:GD}{st:List ASt}{TT:Nat}{w0 W W':World}{i:Nat}{X:Nat→Prop}(h:MkInv s ba mo bt tb be g st TT w0 i X W)(c:Ext W W'):MkInv s ba mo bt tb be g st TT w0 i X W':=by
  obtain ⟨h1,L,aA,ac,h2,h3,h4⟩:=h;exact ⟨h1.trans c,L,aA,ac,h2,h3.ext c h2,h4⟩
theorem mkX_ne{s:SP}{ba mo bt tb be B:Nat}{KX:Nat→Prop}{w0 w:World}{L:List AR}{aA:Option Addr}{ac:Nat}{e:Int}(h:MkM s ba mo bt tb be B KX w0 L aA ac e w){v:Value}{n:Nat}{xs:List Value}(ho:Vx.Own w 3 1 v n xs)(k:Nat)(hk:v.ownBlock=some k):¬MkX tb be aA ac L k:=by
  rintro (rfl|rfl|h1|⟨x,hx,h1⟩);exact ho.ne_blk h.tb (by decide) _ hk rfl;exact ho.ne_blk h.be (by decide) _ hk rfl;exact ho.ne_own h.a (by decide) _ hk h1;exact ho.ne_own (h.fam.all x hx).1 (by decide) _ hk h1
theorem make1_hv(s:SP)(ba mo bt tb be:Nat)(g:GD)(st:List ASt)(TT:Nat)(w0:World)(hT:TT≤128)(hf:st.length≤2000)(hP:g.prods.length≤512)(h1:w0.heap.size≤tb)(h2:w0.heap.size≤be)(n t:Nat)(X:Nat→Prop)(W:World)(A:Option Addr)(c:Nat)(hn:n<st.length)(ht:t<TT)(hI:MkInv s ba mo bt tb be g st TT w0 (n*TT+t) X W)
    (hA:Vx.Own W 3 1 (.slice A (redG g st (n:Nat) (t:Nat)).length c) (redG g st (n:Nat) (t:Nat)).length ((redG g st (n:Nat) (t:Nat)).flatMap ints)) :
    Calls Tryz.prog 63 ([Value.int .i64 (n:Nat),.int .i64 (t:Nat),.int .i64 (shG g st (n:Nat) (t:Nat)),.slice A (redG g st (n:Nat) (t:Nat)).length c]++[Value.pointer (some ⟨bt,0,none⟩),Value.pointer (some ⟨be,0,none⟩)]).toArray W (Ret fun v W'=>v = .tuple #[]∧∃X',(∀b,X' b→X b∨W.heap.size≤b)∧Chg X W W'∧MkInv s ba mo bt tb be g st TT w0 (n*TT+t+1) X' W'):=by
  obtain ⟨h0,L,aA,ac,hX,hM,hL⟩:=hI;obtain ⟨l1,l2,l3⟩:=actsTo_lens (g:=g) (st:=st) (n:=n) ht;have hLl:L.length=(actsTo g st TT (n*TT+t)).length:=by rw [←hL,List.length_map]
  have hrl:(redG g st (n:Nat) (t:Nat)).length≤600:=by
    have h9:=redTo_len (g:=g) (st:=st) (n:=(n:Nat)) (t:=(t:Nat)) (p:=(g.prods.length:Int));unfold redG;omega
  have hlen:∀(L1:List AR) (x:AR),L1.map AR.l=addR1 (L.map AR.l) n→L1[n]?=some x→x.l.length≤1000:=by
    intro L1 x he hx;have hx1:x.l∈L1.map AR.l:=List.mem_map_of_mem (List.mem_of_getElem? hx);rw [he,hL] at hx1;unfold addR1 at hx1
    split at hx1
    rcases List.mem_append.1 hx1 with h|h;have:=l3 _ h;omega;rw [List.mem_singleton.1 h];simp;have:=l3 _ hx1;omega
  have hM1:=make1_calls s ba mo bt tb be w0.heap.size X L aA ac (errTo g st TT (n*TT+t)) n t (shG g st (n:Nat) (t:Nat)) (redG g st (n:Nat) (t:Nat)) A c W hM ((hX _).2 (.inl rfl)) ((hX _).2 (.inr (.inl rfl))) h0.size (fun W2 c2=>Own.rowO (hA.keep c2 fun k hk hx=>mkX_ne hM hA k hk ((hX k).1 hx))) (by omega) (by omega) (by omega) hlen (by omega);refine ret_mono hM1 ?_;rintro v W' ⟨rfl,L',aA',ac',hl',hM'⟩
  have hX9:∀b,MkX tb be aA' ac' L' b→X b∨W.heap.size≤b:=by
    rintro b (rfl|rfl|h|⟨x,hx,h⟩);exact .inl ((hX _).2 (.inl rfl));exact .inl ((hX _).2 (.inr (.inl rfl)));exact hM'.xa b h;exact hM'.xr x hx b h
  refine ⟨rfl,MkX tb be aA' ac' L',hX9,hM'.ch,?_,L',aA',ac',fun b=>Iff.rfl,?_,?_⟩;refine Chg.trans h0 hM'.ch fun b hb hl=>?_
  rcases (hX b).1 hb with rfl|rfl|h|⟨x,hx,h⟩;omega;omega;have:=hM.lowA b h;omega;have:=(hM.fam.all x hx).2 b h;omega
  have he:errTo g st TT (n*TT+t+1)=(if 1<(redG g st (n:Nat) (t:Nat)).length∨((redG g st (n:Nat) (t:Nat)).length=1∧0≤shG g st (n:Nat) (t:Nat)) then 90 else errTo g st TT (n*TT+t)):=by
    rw [errTo_succ ht];unfold confG;split<;>rename_i h9<;>simp [h9]
  rw [he];exact MkM.start hM' fun b=>Iff.rfl
  rw [hl',hL,actsTo_succ ht,actG_L]
noncomputable def cflTo(g:GD)(st:List ASt)(rows:List (List Int))(T fe:Int)(TT i:Nat):List (Int×Int×Int×Int×Int×List Sym×List Int):=(List.range i).flatMap fun j=>cfl1 st rows T fe ((j / TT:Nat):Int) ((j % TT:Nat):Int) (shG g st ((j / TT:Nat):Int) ((j % TT:Nat):Int)) (redG g st ((j / TT:Nat):Int) ((j % TT:Nat):Int))
theorem cflTo_succ{g:GD}{st:List ASt}{rows:List (List Int)}{T fe:Int}{TT n t:Nat}(ht:t<TT):cflTo g st rows T fe TT (n*TT+t+1)=cflTo g st rows T fe TT (n*TT+t)++cfl1 st rows T fe (n:Nat) (t:Nat) (shG g st (n:Nat) (t:Nat)) (redG g st (n:Nat) (t:Nat)):=by
  unfold cflTo;rw [List.range_succ,List.flatMap_append,List.flatMap_cons,List.flatMap_nil,List.append_nil,(dm_of ht).1,(dm_of ht).2]
theorem cfl1_len{st:List ASt}{rows:List (List Int)}{T fe n t sh:Int}{l:List Int} : (cfl1 st rows T fe n t sh l).length≤1:=by unfold cfl1;split<;>simp
theorem cflTo_len{g:GD}{st:List ASt}{rows:List (List Int)}{T fe:Int}{TT:Nat} : ∀i,(cflTo g st rows T fe TT i).length≤i
  | 0=>by simp [cflTo]
  | i+1=>by
    have h:=cflTo_len (g:=g) (st:=st) (rows:=rows) (T:=T) (fe:=fe) (TT:=TT) i;unfold cflTo at h ⊢;rw [List.range_succ,List.flatMap_append,List.length_append,List.flatMap_cons,List.flatMap_nil,List.append_nil];have:=cfl1_len (st:=st) (rows:=rows) (T:=T) (fe:=fe) (n:=((i / TT:Nat):Int)) (t:=((i % TT:Nat):Int)) (sh:=shG g st ((i / TT:Nat):Int) ((i % TT:Nat):Int)) (l:=redG g st ((i / TT:Nat):Int) ((i % TT:Nat):Int));omega
def CInv(g:GD)(st:List ASt)(rows:List (List Int))(T fe:Int)(TT bC:Nat)(w w3:World)(i:Nat)(X:Nat→Prop)(W:World):Prop:=Ext w W∧Chg (fun b=>b=bC) w3 W∧∃(C:List CF) (cA:Option Addr) (cc:Nat),(∀b,X b↔b=bC∨(Value.slice cA C.length cc).ownBlock=some b)∧CnM bC w3.heap.size C cA cc W∧C.map CF.pl=cflTo g st rows T fe TT i
theorem CnM.ext{bC B:Nat}{C:List CF}{cA:Option Addr}{cc:Nat}{w w':World}(h:CnM bC B C cA cc w)(c:Ext w w'):CnM bC B C cA cc w':=⟨h.c.ext c,h.o.ext c,h.low,h.fam.ext c⟩
theorem CInv.ext{g:GD}{st:List ASt}{rows:List (List Int)}{T fe:Int}{TT bC:Nat}{w w3 W W':World}{i:Nat}{X:Nat→Prop}(h:CInv g st rows T fe TT bC w w3 i X W)(c:Ext W W'):CInv g st rows T fe TT bC w w3 i X W':=by
  obtain ⟨h1,h2,C,cA,cc,h3,h4,h5⟩:=h;exact ⟨h1.trans c,h2.ext c,C,cA,cc,h3,h4.ext c,h5⟩
theorem all1_hv(s s0:SP)(B0:Nat)(st:List ASt)(ba bA bX bS bY bC B9:Nat)(Y:List YR)(RA:Option Addr)(yc:Nat)(fe fa:Int)(TT:Nat)(w w3:World)(hX:AutX B0 w s0 ba st)(hTT:TT=s0.g.triv.length+2)(hbA:Blk w3 bA #[.pointer (some ⟨ba,0,none⟩)] 27)(hbX:Blk w3 bX #[.int .i64 fe,.int .i64 fa,.string ⟨#[]⟩] 65)(hbS:Blk w3 bS #[(.slice s.lA s.lex.length s.lc),(.slice s.nA s.names.length s.nc),(.int .i64 s.start),(.slice s.pA s.prods.length s.pc)] 26)(hbY:Blk w3 bY #[.slice RA Y.length yc] 57)(hbC:Blk w3 bC #[.slice none 0 0] 35)(hlC:w.heap.size≤bC)(hE3:Ext w w3)(hS:∀W,Chg (fun b=>b=bC) w3 W→SpR W s)
    (hYo:Vx.Own w3 39 1 (.slice RA Y.length yc) Y.length (Y.flatMap YR.cs)) (hYr:YRs B9 w3 Y) (hYl:∀x∈Y,x.l.length≤4097) (hYn:Y.length≤1000000) (hsy:fe=0→∀n:Nat,n<st.length→∀x∈pathS st (n:Nat),x.kind=3→0≤x.n∧x.n<(Y.length:Int)) (hpl:∀n:Nat,n<st.length→(pathS st (n:Nat)).length≤8796093022208) (hP:s0.g.prods.length≤512)
    (n t:Nat) (X:Nat→Prop) (W:World) (A:Option Addr) (c:Nat) (hn:n<st.length) (ht:t<TT) (hI:CInv s0.g st (Y.map YR.l) (s.lex.length:Int) fe TT bC w w3 (n*TT+t) X W) (hA:Vx.Own W 3 1 (.slice A (redG s0.g st (n:Nat) (t:Nat)).length c) (redG s0.g st (n:Nat) (t:Nat)).length ((redG s0.g st (n:Nat) (t:Nat)).flatMap ints)) :
    Calls Tryz.prog 65 ([Value.int .i64 (n:Nat),.int .i64 (t:Nat),.int .i64 (shG s0.g st (n:Nat) (t:Nat)),.slice A (redG s0.g st (n:Nat) (t:Nat)).length c]++[Value.pointer (some ⟨bA,0,none⟩),Value.pointer (some ⟨bX,0,none⟩),Value.pointer (some ⟨bS,0,none⟩),Value.pointer (some ⟨bY,0,none⟩),Value.pointer (some ⟨bC,0,none⟩)]).toArray W (Ret fun v W'=>v = .tuple #[]∧∃X',(∀b,X' b→X b∨W.heap.size≤b)∧Chg X W W'∧CInv s0.g st (Y.map YR.l) (s.lex.length:Int) fe TT bC w w3 (n*TT+t+1) X' W'):=by
  obtain ⟨hE,hC,C,cA,cc,hX9,hM,hpl9⟩:=hI
  have hl:(redG s0.g st (n:Nat) (t:Nat)).length≤600:=by
    have h9:=redTo_len (g:=s0.g) (st:=st) (n:=(n:Nat)) (t:=(t:Nat)) (p:=(s0.g.prods.length:Int));unfold redG;omega
  have hCl:C.length≤1000000:=by
    have h1:=congrArg List.length hpl9;have h2:=cflTo_len (g:=s0.g) (st:=st) (rows:=Y.map YR.l) (T:=(s.lex.length:Int)) (fe:=fe) (TT:=TT) (n*TT+t);rw [List.length_map] at h1;have h3:=hX.aut.few;have h4:=hX.aut.good.triv;have h5:n*TT≤1025*66:=Nat.mul_le_mul (by omega) (by omega);omega
  have h9:=all1_calls s s0 B0 st ba bA bX bS bY bC w3.heap.size Y RA yc fe fa C cA cc (n:Nat) (t:Nat) (shG s0.g st (n:Nat) (t:Nat)) (redG s0.g st (n:Nat) (t:Nat)) A c W (hX.ext hE) (hbA.keep hC (fun h=>hbA.ne hbC (by decide) h)) (hbX.keep hC (fun h=>hbX.ne hbC (by decide) h)) (hbS.keep hC (fun h=>hbS.ne hbC (by decide) h)) (hbY.keep hC (fun h=>hbY.ne hbC (by decide) h)) (hS W hC)
    (Own.rowO (hYo.keep hC fun k h1 h2=>hYo.ne_blk hbC (by decide) k h1 h2)) (YRs.row (hYr.keep hC fun x hx k hk _ hh=>(hYr x hx).1.ne_blk hbC (by decide) k hk hh)) hYl hYn (fun h=>hsy h n hn) (hpl n hn) hM hC.size hCl (Own.rowO hA) (by omega)
  refine ret_mono h9 ?_;rintro v W' ⟨rfl,C',cA',cc',h1,h2,h3,h4⟩;have hXw:Chg X W W':=h4.mono fun b _ hb=>(hX9 b).2 hb
  refine ⟨rfl,fun b=>b=bC∨(Value.slice cA' C'.length cc').ownBlock=some b,fun b hb=>?_,hXw,Chg.trans hE h4 fun b hb hl=>?_,Chg.trans hC h4 fun b hb hl=>?_,C',cA',cc',fun b=>Iff.rfl,h2,by rw [h1,hpl9,cflTo_succ ht]⟩;rcases hb with rfl|hb;exact .inl ((hX9 _).2 (.inl rfl));exact (h3 b hb).imp_left fun h=>(hX9 b).2 (.inr h)
  rcases hb with rfl|hb;omega;have:=hM.low b hb;have:=hE3.size;omega;rcases hb with rfl|hb
  rfl
  have:=hM.low b hb;omega
theorem yieldsU(s:SP)(w:World)(hS:SpR w s)(hck:(checkE s.g).1=0)(hL:GoodL s.g)(hR:∀x∈s.prods,x.right.length≤1000000):Calls Tryz.prog 29 #[(.agg #[(.slice s.lA s.lex.length s.lc),(.slice s.nA s.names.length s.nc),(.int .i64 s.start),(.slice s.pA s.prods.length s.pc)])] w (Ret fun v w'=>∃(fe fa:Int) (Y:List YR) (RA:Option Addr) (yc:Nat),v = .tuple #[.slice RA Y.length yc,.agg #[.int .i64 fe,.int .i64 fa,.string ⟨#[]⟩]]∧fe=(if idxL (lensG s.g) 0<0 then 0 else 6)∧(fe=0→Y.map YR.l=yieldsG s.g∧Y.length=s.names.length)∧(∀x∈Y,x.l.length≤4097)∧Y.length≤1000000∧YRs w.heap.size w' Y∧Vx.Own w' 39 1 (.slice RA Y.length yc) Y.length (Y.flatMap YR.cs)∧Ext w w'):=by
  have hgn:s.g.names=s.names.length:=rfl;have hN:=hL.names;refine ret_mono (yieldsX_calls s w hS hck hL.triv hL.names hR) ?_;rintro v w' (⟨h1,rfl,h2⟩|⟨h1,A,Y,rfl,h2,h3,h4,h5,h6,h7,h8,h9⟩);exact ⟨6,_,[],none,0,rfl,by rw [if_neg (by omega)],fun h=>(by cases h),fun x hx=>(by cases hx),by simp,fun x hx=>(by cases hx),Vx.Own.nil _ _ _,h2⟩;exact ⟨0,0,Y,A,s.names.length,by rw [h3],by rw [if_pos h1],fun _=>⟨h2,h3⟩,h5,by omega,h6,by rw [h3];exact h7,h9⟩
def feG(g:GD):Int:=if idxL (lensG g) 0<0 then 0 else 6
noncomputable def allG(g:GD)(st:List ASt):List (Int×Int×Int×Int×Int×List Sym×List Int):=cflTo g st (yieldsG g) (g.triv.length:Int) (feG g) (g.triv.length+2) (st.length*(g.triv.length+2))
theorem cfl1_rows{st:List ASt}{r1 r2:List (List Int)}{T fe n t sh:Int}{l:List Int}(h:fe=0→r1=r2):cfl1 st r1 T fe n t sh l=cfl1 st r2 T fe n t sh l:=by
  by_cases hf:fe=0;rw [h hf];unfold cfl1;rw [if_neg hf,if_neg hf]
theorem cflTo_rows{g:GD}{st:List ASt}{r1 r2:List (List Int)}{T fe:Int}{TT i:Nat}(h:fe=0→r1=r2):cflTo g st r1 T fe TT i=cflTo g st r2 T fe TT i:=by
  unfold cflTo;congr 1
  funext j
  exact cfl1_rows h
theorem CFam.mono{B B':Nat}{w:World}{C:List CF}(h:CFam B w C)(hb:B'≤B):CFam B' w C :=
  ⟨fun x hx=>⟨⟨(h.all x hx).1.1,fun k hk=>Nat.le_trans hb ((h.all x hx).1.2 k hk)⟩,⟨(h.all x hx).2.1,fun k hk=>Nat.le_trans hb ((h.all x hx).2.2 k hk)⟩⟩,h.apart⟩
instance pf_29:PlF Tryz.prog 29 where
instance pf_61:PlF Tryz.prog 61 where
instance pf_62:PlF Tryz.prog 62 where
instance tZ_35:ZrT Tryz.prog 35 (.slice none 0 0) where
instance tZ_57:ZrT Tryz.prog 57 (.slice none 0 0) where
theorem tall_calls(s0:SP)(B0:Nat)(st:List ASt)(ba:Nat)(w:World)(hX:AutX B0 w s0 ba st)(hck:(checkE s0.g).1=0)(hpn:∀n:Nat,n<st.length→∀x∈pathS st (n:Nat),x.kind=3→0≤x.n∧x.n<(s0.g.names:Int))(hpl:∀n:Nat,n<st.length→(pathS st (n:Nat)).length≤8796093022208) :
    Calls Tryz.prog 18 #[(.pointer (some ⟨ba,0,none⟩))] w (Ret (fun v w'=>∃(C:List CF) (cA:Option Addr) (cc:Nat),v = .slice cA C.length cc∧Vx.Own w' 41 7 (.slice cA C.length cc) C.length (C.flatMap CF.cs)∧(∀k,(Value.slice cA C.length cc).ownBlock=some k→w.heap.size≤k)∧CFam w.heap.size w' C∧C.map CF.pl=allG s0.g st∧Ext w w')):=by
 refine calls_y (n:=20) Tryz.func18 ?_;refine go ?_;refine y_bx ?_;intro w1 e1 z1 b1;refine go ?_;refine y_al ?_;intro w2 e2 z2 b2;refine go ?_;refine y_ld (b1.ext e2) ?_;have x1:Ext w w2:=(Xt e1 e2);refine yCa (ret_mono (autx_spec2 (hX.ext x1)) ?_);rintro _ w3 ⟨s,rfl,hS,hSk,hg,e3⟩;have he3:=e3.size;have hL1:GoodL s.g:=by rw [hg];exact hX.aut.good
 have hck1:(checkE s.g).1=0:=by rw [hg];exact hck
 have hfew:=hX.aut.few;refine y_al ?_;intro w4 e4 z3 b3;refine y_st b3 ?_;intro w5 e5 z4 b4;replace b4:Blk w5 w3.heap.size #[(.slice s.lA s.lex.length s.lc),(.slice s.nA s.names.length s.nc),(.int .i64 s.start),(.slice s.pA s.prods.length s.pc)] 26:=blk_full b4 rfl;refine go ?_;refine y_lN (vs:=[(.slice s.lA s.lex.length s.lc),(.slice s.nA s.names.length s.nc),(.int .i64 s.start),(.slice s.pA s.prods.length s.pc)]) ⟨b4.cell rfl,b4.cell rfl,b4.cell rfl,b4.cell rfl,trivial⟩ ?_;have x2:Ext w3 w5:=(Xc e4 e5);refine yCa (ret_mono (yieldsU s w5 (hS.ext x2) hck1 hL1 (fun x hx=>by have h9:x.right.length≤16:=hL1.rights x.d (List.mem_map_of_mem hx);omega)) ?_);rintro _ w6 ⟨fe,fa,Y,RA,yc,rfl,hfe,hYm,hYl,hYn,hYr,hYo,e6⟩;have he6:=e6.size;have hYlow:=True.intro;refine go ?_;refine y_al ?_;intro w7 e7 z5 b5;refine y_al ?_;intro w8 e8 z6 b6;refine y_st (b5.ext e8) ?_;intro w9 e9 z7 b7;replace b7:Blk w9 w6.heap.size #[(.slice RA Y.length yc)] 57:=b7;have q1:=(b6.kb e9 (b5.ext e8));refine y_st q1 ?_;intro w10 e10 z8 b8;replace b8:Blk w10 w7.heap.size #[(.int .i64 fe),(.int .i64 fa),(.string (⟨#[]⟩))] 65:=blk_full b8 rfl;refine go ?_;refine xc_regionE [4] (fun W_=>Chg (fun _=>False) w10 W_) hmix ?_;intro w11 e11 z9;have hS1:Chg (fun _=>False) w10 w11:=Ext.to e11;have q2:=((((b1.ext e2).ext e3).ext e4).kb e5 b3);have q3:=((((q2.ext e6).ext e7).ext e8).kb e9 (b5.ext e8));refine xd_takeU 0 (some 14) [4] rfl rfl (by kernel_rfl) (v:=(.pointer (some ⟨ba,0,none⟩))) (.inl ⟨rfl,fun W_ hW_=>ox_load (v:=(.pointer (some ⟨ba,0,none⟩))) tA_27.h rfl (((q3.kb e10 q1).ext hW_).cell rfl) ⟨rfl,rfl⟩⟩) hS1 ?_;have q4:=((((b1.ext e2).ext e3).ext e4).kb e5 b3);have q5:=((((q4.ext e6).ext e7).ext e8).kb e9 (b5.ext e8));refine xd_takeU 1 (some 15) [2,4] rfl rfl (by kernel_rfl) (v:=(.pointer (some ⟨ba,0,none⟩))) (.inl ⟨rfl,fun W_ hW_=>ox_load (v:=(.pointer (some ⟨ba,0,none⟩))) tA_27.h rfl (((q5.kb e10 q1).ext hW_).cell rfl) ⟨rfl,rfl⟩⟩) hS1 ?_;refine yDq (i:=3) rfl (fun W_ hW_=>ox_mkFunc (cs:=[(.pointer (some ⟨w.heap.size,0,none⟩)),(.pointer (some ⟨w7.heap.size,0,none⟩)),(.pointer (some ⟨w3.heap.size,0,none⟩)),(.pointer (some ⟨w6.heap.size,0,none⟩)),(.pointer (some ⟨w1.heap.size,0,none⟩))]) rfl ⟨rfl,rfl⟩) ?_;have x3:Ext w w11:=(Xt (Xc (Xc (Xt (Xt (Xt (Xc (Xt (Xt x1 e3) e4) e5) e6) e7) e8) e9) e10) e11);refine yD1 (i:=2) rfl (yCx (ret_mono (looks_calls s0 B0 st ba w11 (hX.ext x3) hck) ?_));rintro _ w12 ⟨mo,m,rfl,e12,hmo,hMB,hLK⟩;have he12:=e12.size;have hS2:Chg (fun _=>False) w10 w12:=Chg.ext hS1 e12;refine ⟨.inr fun _=>hS2,?_⟩;have x4:Ext w w12:=(Xt x3 e12);have hE3:Ext w w12:=x4;have q6:=(((b2.ext e3).ext e4).kb e5 b3);have q7:=((((q6.ext e6).ext e7).ext e8).kb e9 (b5.ext e8));have q8:=((q7.kb e10 q1).ext e11);have hbC3:=(q8.ext e12);have hlC:w.heap.size≤w1.heap.size:=by omega
 have hmC:¬mo=w1.heap.size:=by omega
 have x5:Ext w3 w12:=(Xt (Xt (Xc (Xc (Xt (Xt (Xt x2 e6) e7) e8) e9) e10) e11) e12);have hSw:∀W,Chg (fun b=>b=w1.heap.size) w12 W→SpR W s:=fun W c=>hSk W (Chg.trans (Ext.to x5) c fun b hb _=>by have hb:b=w1.heap.size:=hb;omega)
 have hC0:(CInv s0.g st (Y.map YR.l) (s.lex.length:Int) fe (s0.g.triv.length+2) w1.heap.size w w12) 0 (fun b=>b=w1.heap.size∨(Value.slice none ([]:List CF).length 0).ownBlock=some b) w12:=⟨hE3,Chg.refl _ _,[],none,0,fun b=>Iff.rfl,⟨hbC3,Vx.Own.nil _ _ _,fun k hk=>by simp [Value.ownBlock] at hk,CFam.nil⟩,rfl⟩;have hsyY:fe=0→∀n:Nat,n<st.length→∀x∈pathS st (n:Nat),x.kind=3→0≤x.n∧x.n<(Y.length:Int):=fun h0 n hn x hx hk=>by have h9:=hpn n hn x hx hk;rw [(hYm h0).2];rw [←hg] at h9;exact h9
 have q9:=((((b1.ext e2).ext e3).ext e4).kb e5 b3);have q10:=((((q9.ext e6).ext e7).ext e8).kb e9 (b5.ext e8));have q11:=((q10.kb e10 q1).ext e11);have q12:=((((b4.ext e6).ext e7).ext e8).kb e9 (b5.ext e8));have q13:=((q12.kb e10 q1).ext e11);have q14:=((b7.kb e10 q1).ext e11);have q15:=(((hYo.ext e7).ext e8).kb e9 (b5.ext e8));have q16:=(q15.kb e10 q1);have q17:=(YRs.blk (YRs.ext (YRs.ext hYr e7) e8) e9 (b5.ext e8) (by decide));have q18:=(YRs.ext (YRs.blk q17 e10 q1 (by decide)) e11);refine yD1 (i:=4) rfl (yCx (ret_mono (each_calls s0 B0 st ba mo m 65 [(.pointer (some ⟨w.heap.size,0,none⟩)),(.pointer (some ⟨w7.heap.size,0,none⟩)),(.pointer (some ⟨w3.heap.size,0,none⟩)),(.pointer (some ⟨w6.heap.size,0,none⟩)),(.pointer (some ⟨w1.heap.size,0,none⟩))] (CInv s0.g st (Y.map YR.l) (s.lex.length:Int) fe (s0.g.triv.length+2) w1.heap.size w w12) (s0.g.triv.length+2) (fun b=>b=w1.heap.size∨(Value.slice none ([]:List CF).length 0).ownBlock=some b) w12 (by kernel_rfl) hLK rfl (fun _ _ _ h=>⟨hX.ext h.1,hMB.keep h.2.1 hmC⟩) (fun _ _ _ _ h c=>h.ext c) (fun b hb=>by rcases hb with rfl | h;exact hbC3.lt;simp [Value.ownBlock] at h) hC0 (fun n t X W A c hn ht hI hA _=>all1_hv s s0 B0 st ba w.heap.size w7.heap.size w3.heap.size w6.heap.size w1.heap.size w5.heap.size Y RA yc fe fa (s0.g.triv.length+2) w w12 hX rfl (q11.ext e12) ((b8.ext e11).ext e12) (q13.ext e12) (q14.ext e12) hbC3 hlC hE3 hSw ((q16.ext e11).ext e12) (YRs.ext q18 e12) hYl hYn hsyY hpl hX.aut.good.prods n t X W A c hn ht hI hA)) ?_));rintro _ w13 ⟨rfl,X9,hEw,hC3,C,cA,cc,hX9,hM9,hC9⟩;have hhEw:=hEw.size;refine ⟨.inl (by decide),?_⟩;refine xd_done (by kernel_rfl) ?_ _;refine go ?_;refine y_ld hM9.c ?_;refine go ?_;refine y_r1 ?_;have hAl:C.map CF.pl=allG s0.g st:=by rw [hC9];unfold allG;rw [cflTo_rows (r2:=yieldsG s0.g) (fun h0=>by rw [(hYm h0).1,hg]),←s.glex,hg,hfe,hg]<;>rfl
 exact ⟨C,cA,cc,rfl,hM9.o,fun k hk=>by have h9:=hM9.low k hk;have h8:=hE3.size;omega,hM9.fam.mono hE3.size,hAl,hEw⟩
theorem wayS_len{st:List ASt} : ∀(f:Nat) (i:Int),(wayS st f i).length≤f
  | 0,i=>by rw [wayS];simp
  | f+1,i=>by
    rw [wayS]
    split
    simp;have:=wayS_len (st:=st) f (st[i.toNat]!).frm;rw [List.length_cons];omega
theorem pathS_len{st:List ASt}{n:Nat} : (pathS st (n:Nat)).length≤n:=by
  unfold pathS
  split
  rw [List.length_reverse];exact wayS_len _ _;simp
theorem path_syms{g:GD}{st:List ASt}(h:Aut g st):∀(k:Nat) (x:ASt),st[k]?=some x→∀z∈pathS st (k:Nat),symE g z=0:=by
  intro k
  induction k using Nat.strongRecOn with
  | ind k ih =>
    intro x hx z hz;by_cases hk:k=0;subst hk;rw [show ((0:Nat):Int)=0 from rfl,path_zero h] at hz;cases hz;obtain ⟨m,y,h1,h2,h3,h4⟩:=h.frm k x hx hk;rw [path_next h hx hk h1 h2 h3] at hz;rcases List.mem_append.1 hz with hz|hz;exact ih m h2 y h3 z hz;rw [List.mem_singleton.1 hz];have h5:x.sym∈symsG g y.items:=by rw [←h.arcs m y h3];exact List.mem_map_of_mem (f:=Arc.sym) h4.1
    obtain ⟨i,hi,hb⟩:=symsG_mem.1 h5;exact behind_symE h.good.good (h.ok.ok y (List.mem_of_getElem? h3) i hi).1 hb
theorem allX_calls{B0:Nat}{w:World}{s0:SP}{ba:Nat}{st:List ASt}(hX:AutX B0 w s0 ba st)(hck:(checkE s0.g).1=0):Calls Tryz.prog 18 #[.pointer (some ⟨ba,0,none⟩)] w (Ret fun v w'=>∃(C:List CF) (cA:Option Addr) (cc:Nat),v = .slice cA C.length cc∧Vx.Own w' 41 7 (.slice cA C.length cc) C.length (C.flatMap CF.cs)∧(∀k,(Value.slice cA C.length cc).ownBlock=some k→w.heap.size≤k)∧CFam w.heap.size w' C∧C.map CF.pl=allG s0.g st∧Ext w w') :=
  tall_calls s0 B0 st ba w hX hck (fun n hn x hx hk=>symE_name (path_syms hX.aut n _ (List.getElem?_eq_getElem hn) x hx) hk) (fun n hn=>by have h1:=pathS_len (st:=st) (n:=n);have h2:=hX.aut.few;omega)
structure IR where
  A:Option Addr
  n:Nat
  c:Nat
  l:List Int
deriving Inhabited
def IR.cs(x:IR):List Value:=[.slice x.A x.n x.c]
theorem IR.len(x:IR):x.cs.length=1:=rfl
theorem IR.one(x:IR):x.cs.all Value.oneCell'=true:=rfl
def IRs(B:Nat)(w:World)(R:List IR):Prop:=∀x∈R,Vx.Own w 3 1 (.slice x.A x.n x.c) x.n (x.l.flatMap ints)∧∀k,(Value.slice x.A x.n x.c).ownBlock=some k→B≤k
theorem IRs.keep{B:Nat}{K:Nat→Prop}{w w':World}{R:List IR}(h:IRs B w R)(c:Chg K w w')(hk:∀x∈R,∀k,(Value.slice x.A x.n x.c).ownBlock=some k→k<w.heap.size→¬K k):IRs B w' R :=
  fun x hx=>⟨(h x hx).1.keep c fun k h1 h2=>hk x hx k h1 ((h x hx).1.lt k h1) h2,(h x hx).2⟩
theorem IRs.ext{B:Nat}{w w':World}{R:List IR}(h:IRs B w R)(c:Ext w w'):IRs B w' R:=h.keep c fun _ _ _ _ _ hk=>hk
theorem IRs.blk{B b t:Nat}{cs:Array Value}{w w':World}{R:List IR}(h:IRs B w R)(c:Chg1 b w w')(hb:Blk w b cs t)(ht:3≠t):IRs B w' R:=h.keep c fun x hx k hk _ hh=>(h x hx).1.ne_blk hb ht k hk hh
theorem IRs.own{B e sz n:Nat}{v:Value}{xs:List Value}{w w':World}{R:List IR}(h:IRs B w R)(c:Chg (fun b=>v.ownBlock=some b) w w')(ho:Vx.Own w e sz v n xs)(ht:3≠e):IRs B w' R:=h.keep c fun x hx k hk _ hh=>(h x hx).1.ne_own ho ht k hk hh
theorem IRs.low{B:Nat}{v:Value}{w0 w w':World}{R:List IR}(h0:IRs B w0 R)(h:IRs B w R)(c:Chg (fun b=>v.ownBlock=some b) w w')(hl:∀k,v.ownBlock=some k→w0.heap.size≤k):IRs B w' R:=h.keep c fun x hx k hk _ hh=>by
  have h1:=(h0 x hx).1.lt k hk;have h2:=hl k hh;omega
theorem IRs.nil{B:Nat}{w:World} : IRs B w []:=fun x hx=>by cases hx
theorem IRs.snoc{B:Nat}{w:World}{R:List IR}(h:IRs B w R){x:IR}(ho:Vx.Own w 3 1 (.slice x.A x.n x.c) x.n (x.l.flatMap ints))(hl:∀k,(Value.slice x.A x.n x.c).ownBlock=some k→B≤k):IRs B w (R++[x]):=fun y hy=>by
  rcases List.mem_append.1 hy with hy|hy;exact h y hy;rw [List.mem_singleton.1 hy];exact ⟨ho,hl⟩
structure TbM(s:SP)(ba mo tb B:Nat)(L:List AR)(aA:Option Addr)(ac:Nat)(G:List IR)(gA:Option Addr)(gc:Nat)(w:World):Prop where
  tb:Blk w tb #[(.pointer (some ⟨ba,0,none⟩)),(.slice s.lA s.lex.length s.lc),(.slice s.nA s.names.length s.nc),(.int .i64 s.start),(.slice s.pA s.prods.length s.pc),(.map (some mo)),(.slice aA L.length ac),(.slice gA G.length gc)] 129
  a:Vx.Own w 131 1 (.slice aA L.length ac) L.length (L.flatMap AR.cs)
  lowA:∀k,(Value.slice aA L.length ac).ownBlock=some k→B≤k
  fam:AFam B w L
  g:Vx.Own w 39 1 (.slice gA G.length gc) G.length (G.flatMap IR.cs)
  lowG:∀k,(Value.slice gA G.length gc).ownBlock=some k→B≤k
  gr:IRs B w G
def goRow(g:GD)(st:List ASt)(n:Nat):List Int:=(List.range g.names).map fun i:Nat=>goS st (n:Nat) ⟨3,(i:Nat)⟩
structure TabX(B:Nat)(w:World)(s0:SP)(ba:Nat)(st:List ASt)(tb:Nat):Prop where
  ex:∃(s1 s:SP) (mo:Nat) (m:List ((Int×Int)×Value)) (L:List AR) (aA:Option Addr) (ac:Nat) (G:List IR) (gA:Option Addr) (gc:Nat),B≤tb∧B≤mo∧OwnS B w s1 s∧s.g=s0.g∧MapB pairE w mo m∧LkR s0.g st m∧TbM s ba mo tb B L aA ac G gA gc w∧L.map AR.l=rowsTo s0.g st (s0.g.triv.length+2) st.length∧G.map IR.l=(List.range st.length).map (goRow s0.g st)
theorem TbM.mono{s:SP}{ba mo tb B B':Nat}{L:List AR}{aA:Option Addr}{ac:Nat}{G:List IR}{gA:Option Addr}{gc:Nat}{w:World}(h:TbM s ba mo tb B L aA ac G gA gc w)(hb:B'≤B):TbM s ba mo tb B' L aA ac G gA gc w :=
  ⟨h.tb,h.a,fun k hk=>Nat.le_trans hb (h.lowA k hk),⟨fun x hx=>⟨(h.fam.all x hx).1,fun k hk=>Nat.le_trans hb ((h.fam.all x hx).2 k hk)⟩,h.fam.apart⟩,h.g,fun k hk=>Nat.le_trans hb (h.lowG k hk),fun x hx=>⟨(h.gr x hx).1,fun k hk=>Nat.le_trans hb ((h.gr x hx).2 k hk)⟩⟩
theorem lay_next{f:Nat→Int}{i N:Nat}(h:i<N):((List.range i).map f++List.replicate (N-i) 0).set i (f i)=(List.range (i+1)).map f++List.replicate (N-(i+1)) 0:=by
  rw [List.set_append_right _ _ (by simp),List.range_succ,List.map_append,List.length_map,List.length_range,Nat.sub_self,show N-i=(N-(i+1))+1 by omega,List.replicate_succ,List.set_cons_zero,List.append_assoc]
  rfl
theorem autx_spec4{B:Nat}{w:World}{s0:SP}{ba:Nat}{st:List ASt}(h:AutX B w s0 ba st):Calls Tryz.prog 60 #[.pointer (some ⟨ba,0,none⟩)] w (Ret fun v w'=>∃s3,v=(.agg #[(.slice s3.lA s3.lex.length s3.lc),(.slice s3.nA s3.names.length s3.nc),(.int .i64 s3.start),(.slice s3.pA s3.prods.length s3.pc)])∧(∃s1,OwnS w.heap.size w' s1 s3)∧s3.g=s0.g∧Ext w w'):=by
  obtain ⟨⟨s,sA,sc,sts,rfl,hO,hA⟩,ha⟩:=h;refine ret_mono (spec_calls s ba sA sc sts.length w hA.ba (OwnS.spr (w0:=w) hO)) ?_;rintro v w' ⟨s3,rfl,h1,h2⟩;exact ⟨s3,rfl,⟨_,h1⟩,(OwnS.g h1).trans (OwnS.g hO),h2⟩
instance tA_125:AggF Tryz.prog 125 where
instance tF_129_1:FdT Tryz.prog 129 1 1 where
instance tF_129_2:FdT Tryz.prog 129 2 5 where
instance tF_129_4:FdT Tryz.prog 129 4 7 where
instance tP_129:PcT Tryz.prog 129 #[(0,1),(1,4),(5,1),(6,1),(7,1)] where
instance tS_31:SzT Tryz.prog 31 1 where
instance tZ_129:ZrT Tryz.prog 129 (.agg #[(.pointer none),(.slice none 0 0),(.slice none 0 0),(.int .i64 0),(.slice none 0 0),(.map none),(.slice none 0 0),(.slice none 0 0)]) where
instance tZ_31:ZrT Tryz.prog 31 (.pointer none) where
instance tZ_32:ZrT Tryz.prog 32 (.int .i64 0) where
theorem make_calls(s0:SP)(B0:Nat)(st:List ASt)(ba:Nat)(w:World)(hX:AutX B0 w s0 ba st)(hck:(checkE s0.g).1=0) :
    Calls Tryz.prog 17 #[(.pointer (some ⟨ba,0,none⟩))] w (Ret (fun v w'=>(¬errTo s0.g st (s0.g.triv.length+2) (st.length*(s0.g.triv.length+2))=0∧v = .tuple #[.pointer none,.int .i64 (errTo s0.g st (s0.g.triv.length+2) (st.length*(s0.g.triv.length+2)))]∧Ext w w')∨(errTo s0.g st (s0.g.triv.length+2) (st.length*(s0.g.triv.length+2))=0∧∃tb,v = .tuple #[.pointer (some ⟨tb,0,none⟩),.int .i64 0]∧Ext w w'∧TabX w.heap.size w' s0 ba st tb))):=by
 refine calls_y (n:=64) Tryz.func17 ?_;refine go ?_;refine yCa (ret_mono (autx_spec4 (hX.ext (Chg.refl _ _))) ?_);rintro _ w1 ⟨s,rfl,⟨sx,hOS⟩,hg,e1⟩;have he1:=e1.size;have hTg:=hX.aut.good.triv;have hPg:=hX.aut.good.prods;have hNg:=hX.aut.good.names;have hfew:=hX.aut.few;have hgn:s.names.length=s0.g.names:=by rw [←hg]<;>rfl
 refine go ?_;refine yCa (ret_mono (looks_calls s0 B0 st ba w1 (hX.ext e1) hck) ?_);rintro _ w2 ⟨mo,m,rfl,e2,hmo,hMB,hLK⟩;have he2:=e2.size;have x1:Ext w w2:=(Xt e1 e2);have hW0:Ext w w2:=x1;have hW0s:=hW0.size;have hOS0:=hOS.ext e2;have hX1:=hX.ext hW0;have hmo9:w.heap.size≤mo:=by omega
 refine yOp (ox_mkStruct (ps:=[(0,(.pointer (some ⟨ba,0,none⟩))),(1,(.agg #[(.slice s.lA s.lex.length s.lc),(.slice s.nA s.names.length s.nc),(.int .i64 s.start),(.slice s.pA s.prods.length s.pc)])),(2,(.map (some mo)))]) (cs:=#[(.pointer (some ⟨ba,0,none⟩)),(.slice s.lA s.lex.length s.lc),(.slice s.nA s.names.length s.nc),(.int .i64 s.start),(.slice s.pA s.prods.length s.pc),(.map (some mo)),(.slice none 0 0),(.slice none 0 0)]) tZ_129.h tP_129.h rfl (by kernel_rfl) ?_);refine y_bx ?_;intro w3 e3 z1 b1;refine y_al ?_;intro w4 e4 z2 b2;refine y_st b2 ?_;intro w5 e5 z3 b3;replace b3:Blk w5 w3.heap.size #[(.pointer (some ⟨w2.heap.size,0,none⟩))] 31:=b3;refine go ?_;refine y_al ?_;intro w6 e6 z4 b4;refine y_st b4 ?_;intro w7 e7 z5 b5;replace b5:Blk w7 w5.heap.size #[(.int .i64 0)] 32:=b5;have q1:=((b3.ext e6).kb e7 b4);refine go ?_;refine y_ld q1 ?_;have q2:=((b1.ext e4).kb e5 b2);have q3:=((q2.ext e6).kb e7 b4);refine go ?_;refine y_ld q3 ?_;refine yOp (ox_mkFunc (cs:=[(.pointer (some ⟨w3.heap.size,0,none⟩)),(.pointer (some ⟨w5.heap.size,0,none⟩))]) rfl ?_);have htb9:w2.heap.size≤w2.heap.size:=by omega
 have hbe9:w2.heap.size≤w5.heap.size:=by omega
 have x2:Ext w2 w7:=(Xc (Xt (Xc (Xt e3 e4) e5) e6) e7);have hEc:Ext w2 w7:=x2;have hMk0:(MkInv s ba mo w3.heap.size w2.heap.size w5.heap.size s0.g st (s0.g.triv.length+2) w2) 0 (MkX w2.heap.size w5.heap.size none 0 []) w7:=⟨hEc,[],none,0,fun b=>Iff.rfl,⟨q1,q3,b5,Vx.Own.nil _ _ _,fun k hk=>by simp [Value.ownBlock] at hk,⟨fun x hx=>(by cases hx),fun i j x y _ h=>(by simp at h)⟩,fun k hk=>by simp [Value.ownBlock] at hk,fun x hx=>(by cases hx),Chg.refl _ _⟩,rfl⟩;refine yCa (ret_mono (each_calls s0 B0 st ba mo m 63 [(.pointer (some ⟨w3.heap.size,0,none⟩)),(.pointer (some ⟨w5.heap.size,0,none⟩))] (MkInv s ba mo w3.heap.size w2.heap.size w5.heap.size s0.g st (s0.g.triv.length+2) w2) (s0.g.triv.length+2) (MkX w2.heap.size w5.heap.size none 0 []) w7 (by kernel_rfl) hLK rfl (fun _ _ _ h=>⟨hX1.ext h.1,hMB.ext h.1⟩) (fun _ _ _ _ h c=>h.ext c) (fun b hb=>by rcases hb with rfl | rfl | h | ⟨x,hx,h⟩<;>first | omega | (simp [Value.ownBlock] at h;done) | cases hx) hMk0 (fun n t X W A c hn ht hI hA _=>make1_hv s ba mo w3.heap.size w2.heap.size w5.heap.size s0.g st (s0.g.triv.length+2) w2 (by omega) (by omega) hPg htb9 hbe9 n t X W A c hn ht hI hA)) ?_);rintro _ w8 ⟨rfl,X9,eM,L,aA,ac,hX9,hM9,hL9⟩;have heM:=eM.size;have:=hM9.bt.lt;have:=hM9.tb.lt;have:=hM9.be.lt;have heMs:=eM.size;refine go ?_;refine y_ld hM9.be ?_;refine go ?_;refine y_if (fun h1=>?_) (fun h1=>?_);refine go ?_;refine xc_regionE [] (fun W_=>Chg (fun _=>False) w8 W_) hmix ?_;intro w9 e8 z6;have hS1:Chg (fun _=>False) w8 w9:=Ext.to e8;refine yDt (i:=0) rfl hS1 (fun W_ hW_=>ox_load tA_32.h rfl ((hM9.be.ext hW_).cell rfl) ⟨rfl,rfl⟩) ?_;refine yDp 1 ?_;refine yDp 2 ?_;refine xd_done (by kernel_rfl) ?_ _;refine go ?_;refine y_r2 ?_;have x3:Ext w2 w9:=(Xt eM e8);exact .inl ⟨h1,rfl,hW0.trans x3⟩;refine go ?_;refine yCa (ret_mono (autx_len (hX1.ext eM)) ?_);rintro _ w10 ⟨rfl,e9⟩;have he9:=e9.size;have x5:Ext w2 w10:=(Xt eM e9);refine go ?_;refine xc_loopN (fun m_ f_ Wx=>∃(n:Nat) (G:List IR) (gA:Option Addr) (gc:Nat),m_=st.length-n∧(n≤st.length)∧(G.map IR.l=(List.range n).map (goRow s0.g st))∧f_ 0=(.pointer (some ⟨ba,0,none⟩))∧f_ 2=(.pointer none)∧f_ 3=(.int .i64 0)∧f_ 4=(.pointer (some ⟨w3.heap.size,0,none⟩))∧f_ 27=(.int .i64 ((st.length:Nat)))∧f_ 28=(.int .i64 ((n:Nat)))∧(TbM s ba mo w2.heap.size w2.heap.size L aA ac G gA gc Wx)∧Blk Wx w3.heap.size #[(.pointer (some ⟨w2.heap.size,0,none⟩))] 31∧Ext w2 Wx) (st.length) ?_ ?_;exact ⟨0,[],none,0,(by omega),(by omega),rfl,rfl,rfl,rfl,rfl,rfl,vW,⟨(hM9.tb.ext e9),(hM9.a.ext e9),hM9.lowA,(AFam.ext hM9.fam e9),(Vx.Own.nil _ _ _),(fun k hk=>by simp [Value.ownBlock] at hk),IRs.nil⟩,(hM9.bt.ext e9),x5⟩;rintro m_ f1 w11 ⟨n,G,gA,gc,hm_f1,hn,hG,g0_f1,g2_f1,g3_f1,g4_f1,g27_f1,g28_f1,t0_f1,c0_f1,x4⟩;have hx4:=x4.size;have:=t0_f1.tb.lt;have hGl:G.length=n:=by have h9:=congrArg List.length hG;rw [List.length_map,List.length_map,List.length_range] at h9;exact h9
 rw [←usf g0_f1,←usf g2_f1,←usf g3_f1,←usf g4_f1,←usf g27_f1,←usf g28_f1];refine go ?_;refine y_if (fun h2=>?_) (fun h2=>?_);refine go ?_;refine y_ld c0_f1 ?_;refine go ?_;refine y_ld t0_f1.tb ?_;refine go ?_;refine yOp (ox_makeD (n:=s.names.length) (l:=((List.replicate s.names.length 0))) (cs:=ints) tE_39.h rfl rfl (by omega) (by omega) (made_ints _) ?_);intro A1 w12 o1 e10 lo1;have he10:=e10.size;refine go ?_;refine xc_loopN (fun m_ f_ Wx=>∃(i:Nat) (h:List Int),m_=s.names.length-i∧(i≤s.names.length)∧(h=(List.range i).map (fun i:Nat=>goS st (n:Nat) ⟨3,(i:Nat)⟩)++List.replicate (s.names.length-i) 0)∧f_ 0=(.pointer (some ⟨ba,0,none⟩))∧f_ 2=(.pointer none)∧f_ 3=(.int .i64 0)∧f_ 4=(.pointer (some ⟨w3.heap.size,0,none⟩))∧f_ 27=(.int .i64 ((st.length:Nat)))∧f_ 28=(.int .i64 ((n:Nat)))∧f_ 29=(.bool (decide (((n:Nat):Int)<((st.length:Nat)))))∧f_ 30=(.int .i64 ((n:Nat)))∧f_ 6=(.int .i64 ((n:Nat)))∧f_ 31=(.pointer (some ⟨w2.heap.size,0,none⟩))∧f_ 32=(.pointer (some ⟨w2.heap.size,0,none⟩))∧f_ 33=(.pointer (some ⟨w2.heap.size,1,none⟩))∧f_ 34=(.pointer (some ⟨w2.heap.size,2,none⟩))∧f_ 35=(.slice s.nA s.names.length s.nc)∧f_ 36=(.int .i64 (((s.names.length:Nat):Int)))∧f_ 37=(.slice A1 s.names.length s.names.length)∧f_ 7=(.slice A1 s.names.length s.names.length)∧f_ 38=(.slice A1 s.names.length s.names.length)∧f_ 39=(.int .i64 (((s.names.length:Nat):Int)))∧f_ 40=(.int .i64 ((i:Nat)))∧Vx.Own Wx 3 1 (.slice A1 s.names.length s.names.length) s.names.length (h.flatMap ints)∧Chg (fun b=>((.slice A1 s.names.length s.names.length):Value).ownBlock=some b) w12 Wx) (s.names.length) ?_ ?_;exact ⟨0,(List.replicate s.names.length 0),(by omega),(by omega),(by simp),rfl,rfl,rfl,rfl,rfl,rfl,rfl,rfl,rfl,rfl,rfl,rfl,rfl,rfl,rfl,rfl,rfl,rfl,rfl,vW,o1,(Chg.refl _ _)⟩;rintro m_ f2 w13 ⟨i,h,hm_f2,hi,hh,g0_f2,g2_f2,g3_f2,g4_f2,g27_f2,g28_f2,g29_f2,g30_f2,g6_f2,g31_f2,g32_f2,g33_f2,g34_f2,g35_f2,g36_f2,g37_f2,g7_f2,g38_f2,g39_f2,g40_f2,o0_f2,x6⟩;have hx6:=x6.size;have hl_h:h.length=s.names.length:=by have _q:=(o0_f2).len;rw [fm_len ints_len] at _q;omega
 rw [←usf g0_f2,←usf g2_f2,←usf g3_f2,←usf g4_f2,←usf g27_f2,←usf g28_f2,←usf g29_f2,←usf g30_f2,←usf g6_f2,←usf g31_f2,←usf g32_f2,←usf g33_f2,←usf g34_f2,←usf g35_f2,←usf g36_f2,←usf g37_f2,←usf g7_f2,←usf g38_f2,←usf g39_f2,←usf g40_f2];refine go ?_;refine y_if (fun h3=>?_) (fun h3=>?_);refine go ?_;refine yCa (ret_mono (tname_calls ((i:Nat)) w13) ?_);rintro _ w14 ⟨rfl,e11⟩;have he11:=e11.size;have x7:Ext w2 w14:=(Xt (Co (Xt x4 e10) x6 lo1) e11);refine yCa (ret_mono (autx_go (hX1.ext x7) ((n:Nat)) (⟨3,(i:Nat)⟩:Sym)) ?_);rintro _ w15 ⟨rfl,e12⟩;have he12:=e12.size;obtain ⟨x_1,g_1,hx_1⟩:=own_may (A:=A1) i ints_len (by decide) ((o0_f2.ext e11).ext e12);obtain ⟨hx_2,hA_1,hc_1⟩:=hx_1 oM;refine y_ix i hA_1 ?_;refine yNp (ox_stE (i:=i) (off:=0) (vs:=[(.int .i64 (goS st ((n:Nat)) (⟨3,(i:Nat)⟩:Sym)))]) (b:=((goS st ((n:Nat)) (⟨3,(i:Nat)⟩:Sym)):Int)) ints_len tS_3.h hA_1 rfl (v:=(.int .i64 (goS st ((n:Nat)) (⟨3,(i:Nat)⟩:Sym)))) rfl rfl rfl rfl ((o0_f2.ext e11).ext e12) hx_2 rfl (by decide) (by omega) ?_);intro w16 e13 z8 o2;refine go ?_;refine y_add ?_;have y1:Chg (fun b=>((.slice A1 s.names.length s.names.length):Value).ownBlock=some b) w12 w16:=(Ct (Chg.ext (Chg.ext (Ct (Chg.refl (fun b=>((.slice A1 s.names.length s.names.length):Value).ownBlock=some b) w12) x6) e11) e12) e13);refine go ?_;exact ⟨rfl,s.names.length-(i+1),by omega,i+1,(h.set i ((goS st ((n:Nat)) (⟨3,(i:Nat)⟩:Sym)))),by omega,(by omega),(by rw [hh];exact lay_next (f:=(fun i:Nat=>goS st (n:Nat) ⟨3,(i:Nat)⟩)) (by omega)),rfl,rfl,rfl,rfl,rfl,rfl,rfl,rfl,rfl,rfl,rfl,rfl,rfl,rfl,rfl,rfl,rfl,rfl,rfl,vW,o2,y1⟩;refine go ?_;refine xc_regionE [10] (fun W_=>Chg (fun x=>((.slice gA G.length gc):Value).ownBlock=some x) w13 W_) hmix ?_;intro w17 e14 z9;have hS2:Chg (fun x=>((.slice gA G.length gc):Value).ownBlock=some x) w13 w17:=Ext.to e14;have q4:=((c0_f1.ext e10).ko x6 o1);have q5:=((t0_f1.g.ext e10).ko x6 o1);refine yDt (i:=0) rfl hS2 (fun W_ hW_=>ox_load tA_31.h rfl ((q4.ko hW_ (q5)).cell rfl) ⟨rfl,rfl⟩) ?_;have q6:=((c0_f1.ext e10).ko x6 o1);have q7:=((t0_f1.g.ext e10).ko x6 o1);refine yDt (i:=1) rfl hS2 (fun W_ hW_=>ox_load tA_31.h rfl ((q6.ko hW_ (q7)).cell rfl) ⟨rfl,rfl⟩) ?_;refine yDp 2 ?_;refine yDp 3 ?_;have q8:=((t0_f1.tb.ext e10).ko x6 o1);have q9:=((t0_f1.g.ext e10).ko x6 o1);refine yDt (i:=4) rfl hS2 (fun W_ hW_=>ox_load tA_57.h rfl ((q8.ko hW_ (q9)).cell rfl) ⟨rfl,rfl⟩) ?_;refine yDp 5 ?_;refine yD1 (i:=6) rfl (ox_mkSlice (ps:=[(0,(.slice A1 s.names.length s.names.length))]) (zs:=#[(.slice none 0 0)]) (cs:=#[(.slice A1 s.names.length s.names.length)]) tE_57.h rfl (by decide) (by kernel_rfl) (by kernel_rfl) ?_);intro w18 e15 z10 b6;replace b6:Blk w18 w17.heap.size #[(.slice A1 s.names.length s.names.length)] 39:=b6;have hS3:Chg (fun x=>((.slice gA G.length gc):Value).ownBlock=some x) w13 w18:=Chg.ext hS2 e15;refine ⟨.inr fun _=>hS3,?_⟩;have q10:=((t0_f1.g.ext e10).ko x6 o1);refine yD1 (i:=7) rfl (ox_appD (l:=G) (r:=[(⟨A1,s.names.length,s.names.length,h⟩:IR)]) (cs:=IR.cs) rfl tE_57.h rfl (by decide) IR.len IR.one (v:=(.slice gA G.length gc)) rfl rfl (m:=1) rfl ((q10.ext e14).ext e15) b6.all aM (by decide) ?_)
 intro A2 c1 w19 o3 e16 at1 hc1;have he16:=e16.size;have low1:=low_at at1 t0_f1.lowG;have hS4:Chg (fun x=>((.slice gA G.length gc):Value).ownBlock=some x) w13 w19:=Chg.trans hS3 e16 (fun x hx hl=>hx);refine ⟨.inr fun _=>hS4,?_⟩;refine yDp 8 ?_;refine yDp 9 ?_;have q11:=((t0_f1.tb.ext e10).ko x6 o1);have q12:=(((q11.ext e14).ext e15).ko e16 ((q10.ext e14).ext e15));refine yD1 (i:=10) rfl (ox_store (n:=1) (vs:=[(.slice A2 ((G++[(⟨A1,s.names.length,s.names.length,h⟩:IR)]).length) c1)]) tS_57.h rfl (v:=(.slice A2 ((G++[(⟨A1,s.names.length,s.names.length,h⟩:IR)]).length) c1)) rfl rfl rfl rfl q12 (Nat.le_of_ble_eq_true rfl) ?_);intro w20 e17 z11 b7;replace b7:Blk w20 w2.heap.size #[(.pointer (some ⟨ba,0,none⟩)),(.slice s.lA s.lex.length s.lc),(.slice s.nA s.names.length s.nc),(.int .i64 s.start),(.slice s.pA s.prods.length s.pc),(.map (some mo)),(.slice aA L.length ac),(.slice A2 ((G++[(⟨A1,s.names.length,s.names.length,h⟩:IR)]).length) c1)] 129:=b7;refine ⟨.inl (by decide),?_⟩;refine xd_done (by kernel_rfl) ?_ _;refine go ?_;refine y_add ?_;have q13:=(o3.kb e17 q12);have q14:=(IRs.low t0_f1.gr (IRs.ext t0_f1.gr e10) x6 lo1);have q15:=(IRs.own (IRs.ext (IRs.ext q14 e14) e15) e16 ((q10.ext e14).ext e15) (by decide));have q16:=(((o0_f2.ext e14).ext e15).ko e16 ((q10.ext e14).ext e15));have q17:=(q16.kb e17 q12);have q18:=((t0_f1.a.ext e10).ko x6 o1);have q19:=(((q18.ext e14).ext e15).ko e16 ((q10.ext e14).ext e15));have q20:=(q19.kb e17 q12);have q21:=(AFam.own (AFam.ext t0_f1.fam e10) x6 o1 (by decide));have q22:=(AFam.own (AFam.ext (AFam.ext q21 e14) e15) e16 ((q10.ext e14).ext e15) (by decide));have q23:=((c0_f1.ext e10).ko x6 o1);have q24:=(((q23.ext e14).ext e15).ko e16 ((q10.ext e14).ext e15));have x8:Ext w2 w20:=(Xc (Co (Xt (Xt (Co (Xt x4 e10) x6 lo1) e14) e15) e16 t0_f1.lowG) e17);refine go ?_;exact ⟨rfl,st.length-(n+1),by omega,n+1,G++[(⟨A1,s.names.length,s.names.length,h⟩:IR)],A2,c1,by omega,(by omega),(by rw [List.map_append,hG,List.range_succ,List.map_append];show _++[h]=_++[goRow s0.g st n];rw [hh,show i=s.names.length from (by omega),Nat.sub_self,List.replicate_zero,List.append_nil,hgn]<;>rfl),rfl,rfl,rfl,rfl,rfl,vW,⟨b7,q20,t0_f1.lowA,(AFam.blk q22 e17 q12 (by decide)),q13,low1,(IRs.snoc (IRs.blk q15 e17 q12 (by decide)) q17 (fun k hk=>by have _h:=lo1 k hk;omega))⟩,(q24.kb e17 q12),x8⟩;refine go ?_;refine y_ld c0_f1 ?_;refine go ?_;refine y_r2 ?_;have hEz:Ext w2 w11:=x4;have hL8:L.map AR.l=rowsTo s0.g st (s0.g.triv.length+2) st.length:=by rw [hL9,actsTo_rows (by omega)]
 exact .inr ⟨by omega,w2.heap.size,rfl,hW0.trans hEz,⟨⟨sx,s,mo,m,L,aA,ac,G,gA,gc,by omega,by omega,hOS0.ext hEz,hg,hMB.ext hEz,hLK,TbM.mono ⟨t0_f1.tb,t0_f1.a,t0_f1.lowA,t0_f1.fam,t0_f1.g,t0_f1.lowG,t0_f1.gr⟩ hW0s,hL8,by rw [hG,show n=st.length from (by omega)]⟩⟩⟩
def actZ(R:List (List (Int×Int)))(n t:Int):Int×Int:=if n<0∨t<0 then (0,0) else (R.getD n.toNat []).getD t.toNat (0,0)
def gotoZ(R:List (List Int))(n i:Int):Int:=if n<0∨i<0 then -1 else (R.getD n.toNat []).getD i.toNat (-1)
theorem actZ_neg{R:List (List (Int×Int))}{n t:Int}(h:n<0∨t<0):actZ R n t=(0,0):=if_pos h
theorem gotoZ_neg{R:List (List Int)}{n t:Int}(h:n<0∨t<0):gotoZ R n t = -1:=if_pos h
theorem actZ_out{R:List (List (Int×Int))}{n t:Int}(h:(R.length:Int)≤n):actZ R n t=(0,0):=by
  unfold actZ;rw [List.getD_eq_getElem?_getD (i:=n.toNat),List.getElem?_eq_none (by omega)]
  split<;>rfl
theorem gotoZ_out{R:List (List Int)}{n t:Int}(h:(R.length:Int)≤n):gotoZ R n t = -1:=by
  unfold gotoZ;rw [List.getD_eq_getElem?_getD (i:=n.toNat),List.getElem?_eq_none (by omega)]
  split<;>rfl
theorem actZ_end{R:List (List (Int×Int))}{n t:Int}{r:List (Int×Int)}(h:R[n.toNat]?=some r)(ht:(r.length:Int)≤t):actZ R n t=(0,0):=by
  unfold actZ;rw [getD_of h,List.getD_eq_getElem?_getD,List.getElem?_eq_none (by omega)]
  split<;>rfl
theorem gotoZ_end{R:List (List Int)}{n t:Int}{r:List Int}(h:R[n.toNat]?=some r)(ht:(r.length:Int)≤t):gotoZ R n t = -1:=by
  unfold gotoZ;rw [getD_of h,List.getD_eq_getElem?_getD,List.getElem?_eq_none (by omega)]
  split<;>rfl
theorem actZ_at{R:List (List (Int×Int))}{n t:Int}{r:List (Int×Int)}{y:Int×Int}(hn:¬(n<0∨t<0))(h:R[n.toNat]?=some r)(hy:r[t.toNat]?=some y):actZ R n t=y:=by
  unfold actZ;rw [if_neg hn,getD_of h,getD_of hy]
theorem gotoZ_at{R:List (List Int)}{n t:Int}{r:List Int}{y:Int}(hn:¬(n<0∨t<0))(h:R[n.toNat]?=some r)(hy:r[t.toNat]?=some y):gotoZ R n t=y:=by
  unfold gotoZ;rw [if_neg hn,getD_of h,getD_of hy]
open Classical in
instance tF_129_0:FdT Tryz.prog 129 0 0 where
instance tU_131:UnS Tryz.prog 131 55 where
theorem action_calls(s:SP)(ba mo tb B:Nat)(L:List AR)(aA:Option Addr)(ac:Nat)(G:List IR)(gA:Option Addr)(gc:Nat)(n t:Int)(w:World)(hT:TbM s ba mo tb B L aA ac G gA gc w) :
    Calls Tryz.prog 23 #[(.pointer (some ⟨tb,0,none⟩)),(.int .i64 n),(.int .i64 t)] w (Ret (fun v w'=>v = .agg #[.int .i64 (actZ (L.map AR.l) n t).1,.int .i64 (actZ (L.map AR.l) n t).2]∧Ext w w')):=by
 refine calls_y (n:=45) Tryz.func23 ?_;refine go ?_;refine y_al ?_;intro w1 e1 z1 b1;refine go ?_;by_cases h1:(n:Int)<0;refine ysL (s:=9) (bT (decide_eq_true h1)) ?_;refine go ?_;refine yOp (ox_mkStruct (ps:=[]) (cs:=#[(.int .i64 0),(.int .i64 0)]) tZ_55.h tP_55.h rfl (by kernel_rfl) ?_);refine y_st b1 ?_;intro w2 e2 z2 b2;replace b2:Blk w2 w.heap.size #[(.int .i64 0),(.int .i64 0)] 55:=blk_full b2 rfl;refine go ?_;change leaves _ _ _ _ _ _ _;refine leaves_nil (n:=45) (rs:=[.cell 6 55]) (vs:=[(.agg #[(.int .i64 0),(.int .i64 0)])]) rfl ⟨⟨by decide,w.heap.size,0,2,[(.int .i64 0),(.int .i64 0)],rfl,tA_55.h,tS_55.h,rfl,⟨b2.cell rfl,b2.cell rfl,trivial⟩,rfl⟩,trivial⟩ ?_;have hZ9:actZ (L.map AR.l) n t=(0,0):=(by first | exact actZ_neg (by omega) | exact actZ_out (by rw [List.length_map];omega));have x1:Ext w w2:=(Xc e1 e2);exact ⟨(by rw [hZ9];try rfl),x1⟩;refine ysL (s:=9) (bF (decide_eq_false h1)) ?_;refine go ?_;refine y_ld (hT.tb.ext e1) ?_;refine go ?_;by_cases h2:(((L.length:Nat):Int):Int)≤n;refine ysL (s:=18) (bT (decide_eq_true h2)) ?_;refine go ?_;refine yOp (ox_mkStruct (ps:=[]) (cs:=#[(.int .i64 0),(.int .i64 0)]) tZ_55.h tP_55.h rfl (by kernel_rfl) ?_);refine y_st b1 ?_;intro w3 e3 z3 b3;replace b3:Blk w3 w.heap.size #[(.int .i64 0),(.int .i64 0)] 55:=blk_full b3 rfl;refine go ?_;change leaves _ _ _ _ _ _ _;refine leaves_nil (n:=45) (rs:=[.cell 6 55]) (vs:=[(.agg #[(.int .i64 0),(.int .i64 0)])]) rfl ⟨⟨by decide,w.heap.size,0,2,[(.int .i64 0),(.int .i64 0)],rfl,tA_55.h,tS_55.h,rfl,⟨b3.cell rfl,b3.cell rfl,trivial⟩,rfl⟩,trivial⟩ ?_;have hZ9:actZ (L.map AR.l) n t=(0,0):=(by first | exact actZ_neg (by omega) | exact actZ_out (by rw [List.length_map];omega));have x2:Ext w w3:=(Xc e1 e3);exact ⟨(by rw [hZ9];try rfl),x2⟩;refine ysL (s:=18) (bF (decide_eq_false h2)) ?_;refine go ?_;by_cases h3:(t:Int)<0;refine ysL (s:=22) (bT (decide_eq_true h3)) ?_;refine go ?_;refine yOp (ox_mkStruct (ps:=[]) (cs:=#[(.int .i64 0),(.int .i64 0)]) tZ_55.h tP_55.h rfl (by kernel_rfl) ?_);refine y_st b1 ?_;intro w4 e4 z4 b4;replace b4:Blk w4 w.heap.size #[(.int .i64 0),(.int .i64 0)] 55:=blk_full b4 rfl;refine go ?_;change leaves _ _ _ _ _ _ _;refine leaves_nil (n:=45) (rs:=[.cell 6 55]) (vs:=[(.agg #[(.int .i64 0),(.int .i64 0)])]) rfl ⟨⟨by decide,w.heap.size,0,2,[(.int .i64 0),(.int .i64 0)],rfl,tA_55.h,tS_55.h,rfl,⟨b4.cell rfl,b4.cell rfl,trivial⟩,rfl⟩,trivial⟩ ?_;have hZ9:actZ (L.map AR.l) n t=(0,0):=(by first | exact actZ_neg (by omega) | exact actZ_out (by rw [List.length_map];omega));have x3:Ext w w4:=(Xc e1 e4);exact ⟨(by rw [hZ9];try rfl),x3⟩;refine ysL (s:=22) (bF (decide_eq_false h3)) ?_;refine go ?_;refine y_ld (hT.tb.ext e1) ?_;obtain ⟨x_1,g_1,hx_1⟩:=own_may (A:=aA) n.toNat AR.len (by decide) (hT.a.ext e1);obtain ⟨hx_2,hA_1,hc_1⟩:=hx_1 oM;refine go ?_;refine y_ix n.toNat hA_1 ?_;refine y_lc (CellsL.at1 hc_1 0 rfl) ?_;refine go ?_;refine y_if (fun h4=>?_) (fun h4=>?_);refine go ?_;refine yOp (ox_mkStruct (ps:=[]) (cs:=#[(.int .i64 0),(.int .i64 0)]) tZ_55.h tP_55.h rfl (by kernel_rfl) ?_)
 refine y_st b1 ?_;intro w5 e5 z5 b5;replace b5:Blk w5 w.heap.size #[(.int .i64 0),(.int .i64 0)] 55:=blk_full b5 rfl;refine go ?_;change leaves _ _ _ _ _ _ _;refine leaves_nil (n:=45) (rs:=[.cell 6 55]) (vs:=[(.agg #[(.int .i64 0),(.int .i64 0)])]) rfl ⟨⟨by decide,w.heap.size,0,2,[(.int .i64 0),(.int .i64 0)],rfl,tA_55.h,tS_55.h,rfl,⟨b5.cell rfl,b5.cell rfl,trivial⟩,rfl⟩,trivial⟩ ?_;have hZ9:actZ (L.map AR.l) n t=(0,0):=actZ_end (map_get (f:=AR.l) hx_2) (by omega);have x4:Ext w w5:=(Xc e1 e5);exact ⟨(by rw [hZ9];try rfl),x4⟩;refine go ?_;refine y_ld (hT.tb.ext e1) ?_;refine go ?_;refine y_ix n.toNat hA_1 ?_;refine y_lc (CellsL.at1 hc_1 0 rfl) ?_;have q1:=((hT.fam.all x_1 (List.mem_of_getElem? hx_2)).1.ext e1);obtain ⟨x_2,g_2,hx_3⟩:=own_may (A:=x_1.A) t.toNat MV.len (by decide) q1;obtain ⟨hx_4,hA_2,hc_2⟩:=hx_3 oM;refine go ?_;refine y_ix t.toNat hA_2 ?_;refine y_lN (vs:=[(.int .i64 x_2.1),(.int .i64 x_2.2)]) hc_2 ?_;refine y_st b1 ?_;intro w6 e6 z6 b6;replace b6:Blk w6 w.heap.size #[(.int .i64 x_2.1),(.int .i64 x_2.2)] 55:=blk_full b6 rfl;refine go ?_;change leaves _ _ _ _ _ _ _;refine leaves_nil (n:=45) (rs:=[.cell 6 55]) (vs:=[(.agg #[(.int .i64 x_2.1),(.int .i64 x_2.2)])]) rfl ⟨⟨by decide,w.heap.size,0,2,[(.int .i64 x_2.1),(.int .i64 x_2.2)],rfl,tA_55.h,tS_55.h,rfl,⟨b6.cell rfl,b6.cell rfl,trivial⟩,rfl⟩,trivial⟩ ?_;have hZ9:actZ (L.map AR.l) n t=x_2:=actZ_at (by omega) (map_get (f:=AR.l) hx_2) hx_4;have x5:Ext w w6:=(Xc e1 e6);exact ⟨(by rw [hZ9];try rfl),x5⟩
theorem goto_calls(s:SP)(ba mo tb B:Nat)(L:List AR)(aA:Option Addr)(ac:Nat)(G:List IR)(gA:Option Addr)(gc:Nat)(n t:Int)(w:World)(hT:TbM s ba mo tb B L aA ac G gA gc w) :
    Calls Tryz.prog 39 #[(.pointer (some ⟨tb,0,none⟩)),(.int .i64 n),(.int .i64 t)] w (Ret (fun v w'=>v = .int .i64 (gotoZ (G.map IR.l) n t)∧Ext w w')):=by
 refine calls_y (n:=44) Tryz.func39 ?_;refine go ?_;by_cases h1:(n:Int)<0;refine ysL (s:=9) (bT (decide_eq_true h1)) ?_;refine go ?_;refine y_r1 ?_;have hZ9:gotoZ (G.map IR.l) n t = -1:=(by first | exact gotoZ_neg (by omega) | exact gotoZ_out (by rw [List.length_map];omega));exact ⟨(by rw [hZ9];try rfl),(Chg.refl _ _)⟩;refine ysL (s:=9) (bF (decide_eq_false h1)) ?_;refine go ?_;refine y_ld hT.tb ?_;refine go ?_;by_cases h2:(((G.length:Nat):Int):Int)≤n;refine ysL (s:=18) (bT (decide_eq_true h2)) ?_;refine go ?_;refine y_r1 ?_;have hZ9:gotoZ (G.map IR.l) n t = -1:=(by first | exact gotoZ_neg (by omega) | exact gotoZ_out (by rw [List.length_map];omega));exact ⟨(by rw [hZ9];try rfl),(Chg.refl _ _)⟩;refine ysL (s:=18) (bF (decide_eq_false h2)) ?_;refine go ?_;by_cases h3:(t:Int)<0;refine ysL (s:=22) (bT (decide_eq_true h3)) ?_;refine go ?_;refine y_r1 ?_;have hZ9:gotoZ (G.map IR.l) n t = -1:=(by first | exact gotoZ_neg (by omega) | exact gotoZ_out (by rw [List.length_map];omega));exact ⟨(by rw [hZ9];try rfl),(Chg.refl _ _)⟩;refine ysL (s:=22) (bF (decide_eq_false h3)) ?_;refine go ?_;refine y_ld hT.tb ?_;obtain ⟨x_1,g_1,hx_1⟩:=own_may (A:=gA) n.toNat IR.len (by decide) hT.g;obtain ⟨hx_2,hA_1,hc_1⟩:=hx_1 oM;have hln9:x_1.l.length=x_1.n:=by have h9:=((hT.gr x_1 (List.mem_of_getElem? hx_2)).1).len;rw [fm_len ints_len] at h9;omega
 refine go ?_;refine y_ix n.toNat hA_1 ?_;refine y_lc (CellsL.at1 hc_1 0 rfl) ?_;refine go ?_;refine y_if (fun h4=>?_) (fun h4=>?_);refine go ?_;refine y_r1 ?_;have hZ9:gotoZ (G.map IR.l) n t = -1:=gotoZ_end (map_get (f:=IR.l) hx_2) (by omega);exact ⟨(by rw [hZ9];try rfl),(Chg.refl _ _)⟩;refine go ?_;refine y_ld hT.tb ?_;refine go ?_;refine y_ix n.toNat hA_1 ?_;refine y_lc (CellsL.at1 hc_1 0 rfl) ?_;obtain ⟨x_2,g_2,hx_3⟩:=own_may (A:=x_1.A) t.toNat ints_len (by decide) (hT.gr x_1 (List.mem_of_getElem? hx_2)).1;obtain ⟨hx_4,hA_2,hc_2⟩:=hx_3 oM;refine go ?_;refine y_ix t.toNat hA_2 ?_;refine y_lc (CellsL.at1 hc_2 0 rfl) ?_;refine go ?_;refine y_r1 ?_;have hZ9:gotoZ (G.map IR.l) n t=x_2:=gotoZ_at (by omega) (map_get (f:=IR.l) hx_2) hx_4;exact ⟨(by rw [hZ9];try rfl),(Chg.refl _ _)⟩
theorem cfl1_nil{st:List ASt}{rows:List (List Int)}{T fe n t sh:Int}{l:List Int} : cfl1 st rows T fe n t sh l = []↔¬(1<l.length∨(l.length=1∧0≤sh)):=by
  unfold cfl1
  split
  exact ⟨fun _=>by omega,fun _=>rfl⟩;exact ⟨fun h=>by simp at h,fun h=>by exfalso;omega⟩
theorem errTo_nil{g:GD}{st:List ASt}{rows:List (List Int)}{T fe:Int}{TT:Nat} : ∀i,errTo g st TT i=0↔cflTo g st rows T fe TT i = []
  | 0=>by simp [errTo,cflTo]
  | i+1=>by
    have h:=errTo_nil (g:=g) (st:=st) (rows:=rows) (T:=T) (fe:=fe) (TT:=TT) i
    have h1:errTo g st TT (i+1) = @ite _ (confG g st ((i / TT:Nat):Int) ((i % TT:Nat):Int)) (Classical.propDecidable _) 90 (errTo g st TT i):=by
      unfold errTo;rw [List.range_succ,List.foldl_append,List.foldl_cons,List.foldl_nil]
    have h2:cflTo g st rows T fe TT (i+1)=cflTo g st rows T fe TT i++cfl1 st rows T fe ((i / TT:Nat):Int) ((i % TT:Nat):Int) (shG g st ((i / TT:Nat):Int) ((i % TT:Nat):Int)) (redG g st ((i / TT:Nat):Int) ((i % TT:Nat):Int)):=by
      unfold cflTo;rw [List.range_succ,List.flatMap_append,List.flatMap_cons,List.flatMap_nil,List.append_nil]
    rw [h1,h2,List.append_eq_nil_iff,cfl1_nil,←h];show _↔_∧¬confG g st _ _;by_cases hc:confG g st ((i / TT:Nat):Int) ((i % TT:Nat):Int);rw [if_pos hc];exact ⟨fun h=>absurd h (by decide),fun h=>absurd hc h.2⟩;rw [if_neg hc];exact ⟨fun h=>⟨h,hc⟩,fun h=>h.1⟩
theorem table_iff{g:GD}{st:List ASt} : errTo g st (g.triv.length+2) (st.length*(g.triv.length+2))=0↔allG g st = []:=errTo_nil _
theorem errTo_two{g:GD}{st:List ASt}{TT:Nat} : ∀i,errTo g st TT i=0∨errTo g st TT i=90
  | 0=>.inl rfl
  | i+1=>by
    have h1:errTo g st TT (i+1) = @ite _ (confG g st ((i / TT:Nat):Int) ((i % TT:Nat):Int)) (Classical.propDecidable _) 90 (errTo g st TT i):=by
      unfold errTo;rw [List.range_succ,List.foldl_append,List.foldl_cons,List.foldl_nil]
    rw [h1]
    split
    exact .inr rfl;exact errTo_two i
theorem makeX_calls{B0:Nat}{w:World}{s0:SP}{ba:Nat}{st:List ASt}(hX:AutX B0 w s0 ba st)(hck:(checkE s0.g).1=0):Calls Tryz.prog 17 #[.pointer (some ⟨ba,0,none⟩)] w (Ret fun v w'=>Ext w w'∧((allG s0.g st≠[]∧v = .tuple #[.pointer none,.int .i64 90])∨(allG s0.g st = []∧∃tb,v = .tuple #[.pointer (some ⟨tb,0,none⟩),.int .i64 0]∧TabX w.heap.size w' s0 ba st tb))):=by
  refine ret_mono (make_calls s0 B0 st ba w hX hck) ?_;rintro v w' (⟨h1,rfl,h2⟩|⟨h1,tb,rfl,h2,h3⟩);refine ⟨h2,.inl ⟨fun h=>h1 (table_iff.2 h),?_⟩⟩;rcases errTo_two (g:=s0.g) (st:=st) (TT:=s0.g.triv.length+2) (st.length*(s0.g.triv.length+2)) with h|h;exact absurd h h1;rw [h];exact ⟨h2,.inr ⟨table_iff.1 h1,tb,rfl,h3⟩⟩
theorem fm_drop{α:Type}{cs:α→List Value}{k:Nat}(hk:∀a,(cs a).length=k):∀(i:Nat) (l:List α),(l.drop i).flatMap cs=(l.flatMap cs).drop (i*k)
  | 0,l=>by simp
  | i+1,[]=>by simp
  | i+1,x::l=>by
    rw [List.drop_succ_cons,fm_drop hk i l,List.flatMap_cons,List.drop_append];have h1:(cs x).drop ((i+1)*k) = []:=List.drop_of_length_le (by rw [hk,Nat.succ_mul];omega);rw [h1,hk,Nat.succ_mul,Nat.add_sub_cancel];rfl
theorem RowA.dropD{α:Type}{w:World}{A:Option Addr}{cs:α→List Value}{k c i0:Nat}{l:List α}(hk:∀a,(cs a).length=k)(h1:i0≤l.length)(hc:l.length≤c)(h:RowA w A (l.flatMap cs)):RowA w (sfA A c i0 k) ((l.drop i0).flatMap cs):=by
  rw [fm_drop hk];exact RowA.from i0 h1 hc h (fm_len hk l)
def chainZ(st:List ASt):List Int→Bool
  | a::b::r=>((symS st b).2 && decide (goS st a (symS st b).1=b)) && chainZ st (b::r)
  | _=>true
def rightZ(st:List ASt):List Int→Bool
  | []=>false
  | a::r=>decide (a=0) && chainZ st (a::r)
section
variable {st:List ASt}{l:List Int}{i:Nat}{a b:Int}
theorem drop_consZ{α:Type}{l:List α}{i:Nat}{x:α}(h:l[i]?=some x):l.drop i=x::l.drop (i+1):=by
  obtain ⟨h1,rfl⟩:=List.getElem?_eq_some_iff.1 h;exact List.drop_eq_getElem_cons h1
theorem chain_at(ha:l[i]?=some a)(hb:(l.drop 1)[i]?=some b):chainZ st (l.drop i)=(((symS st b).2 && decide (goS st a (symS st b).1=b)) && chainZ st (l.drop (i+1))):=by
  rw [List.getElem?_drop,Nat.add_comm] at hb;rw [drop_consZ ha,drop_consZ hb,chainZ]
theorem chain_end(h:l.length≤i+1):chainZ st (l.drop i)=true:=by
  have h1:(l.drop i).length≤1:=by rw [List.length_drop];omega
  match hd:l.drop i with
  | []=>rfl
  | [_]=>rfl
  | _::_::_=>rw [hd] at h1;simp at h1
theorem right_no(h:chainZ st l=false):rightZ st l=false:=by
  cases l with
  | nil=>rfl
  | cons a r=>rw [rightZ,h,Bool.and_false]
theorem right_yes(ha:l[0]?=some a)(h0:a=0)(h:chainZ st l=true):rightZ st l=true:=by
  cases l with
  | nil=>cases ha
  | cons x r=>rw [List.getElem?_cons_zero] at ha;cases ha;rw [rightZ,h,h0];rfl
theorem right_head(ha:l[0]?=some a)(h0:¬a=0):rightZ st l=false:=by
  cases l with
  | nil=>rfl
  | cons x r=>rw [List.getElem?_cons_zero] at ha;cases ha;rw [rightZ,decide_eq_false h0];rfl
theorem right_nil(h:l.length=0):rightZ st l=false:=by
  rw [List.eq_nil_of_length_eq_zero h];rfl
end
instance pf_123:PlF Tryz.prog 123 where
theorem tright_calls(s s0:SP)(B0:Nat)(st:List ASt)(ba mo tb B:Nat)(L:List AR)(aA:Option Addr)(ac:Nat)(G:List IR)(gA:Option Addr)(gc:Nat)(l:List Int)(A:Option Addr)(c:Nat)(w:World)(hT:TbM s ba mo tb B L aA ac G gA gc w)(hX:AutX B0 w s0 ba st)(hA:RowA w A (l.flatMap ints))(hcap:l.length≤c)(hll:l.length≤8796093022208) :
    Calls Tryz.prog 74 #[(.pointer (some ⟨tb,0,none⟩)),(.slice A l.length c)] w (Ret (fun v w'=>v = .bool (rightZ st l)∧Ext w w')):=by
 refine calls_y (n:=52) Tryz.func74 ?_;refine go ?_;by_cases h1:(((l.length:Nat):Int):Int)=0;refine ysL (s:=12) (bT (decide_eq_true h1)) ?_;refine go ?_;refine y_r1 ?_;have hR9:rightZ st l=false:=right_nil (by omega);exact ⟨by rw [hR9],(Chg.refl _ _)⟩;refine ysL (s:=12) (bF (decide_eq_false h1)) ?_;obtain ⟨x_1,g_1,o_1,hx_1⟩:=row_may (A:=A) (cs:=ints) 0 ints_len (by decide) hA;obtain ⟨hx_2,hA_1,hc_1⟩:=hx_1 oM;refine go ?_;refine y_ix 0 hA_1 ?_;refine y_lc (CellsL.at1 hc_1 0 rfl) ?_;refine go ?_;refine y_if (fun h2=>?_) (fun h2=>?_);refine go ?_;refine y_r1 ?_;have hR9:rightZ st l=false:=right_head hx_2 (by omega);exact ⟨by rw [hR9],(Chg.refl _ _)⟩;refine go ?_;refine yOp (ox_sliceFromV (A:=A) (n:=l.length) (cp:=c) (i:=1) 1 tE_39.h rfl rfl (by omega) (by omega) ?_);refine go ?_;refine xc_loopN (fun m_ f_ Wx=>∃(i:Nat),m_=(l.length-1)-i∧(i≤(l.length-1))∧(chainZ st l=chainZ st (l.drop i))∧f_ 0=(.pointer (some ⟨tb,0,none⟩))∧f_ 1=(.slice A l.length c)∧f_ 19=(.slice ((sfA A c 1 1)) ((l.length-1)) ((c-1)))∧f_ 20=(.int .i64 ((((l.length-1):Nat):Int)))∧f_ 21=(.int .i64 ((i:Nat)))∧Ext w Wx) ((l.length-1)) ?_ ?_;exact ⟨0,(by omega),(by omega),rfl,rfl,rfl,rfl,rfl,vW,(Chg.refl _ _)⟩;rintro m_ f1 w1 ⟨i,hm_f1,hi,hq,g0_f1,g1_f1,g19_f1,g20_f1,g21_f1,x1⟩;have hx1:=x1.size;rw [←usf g0_f1,←usf g1_f1,←usf g19_f1,←usf g20_f1,←usf g21_f1];refine go ?_;refine y_if (fun h3=>?_) (fun h3=>?_);obtain ⟨x_2,g_2,o_2,hx_3⟩:=row_may (A:=((sfA A c 1 1))) (cs:=ints) i ints_len (by decide) (RowA.dropD ints_len (by omega) hcap (hA.ext x1));obtain ⟨hx_4,hA_2,hc_2⟩:=hx_3 oM;refine go ?_;refine y_ix i hA_2 ?_;refine y_lc (CellsL.at1 hc_2 0 rfl) ?_;obtain ⟨x_3,g_3,o_3,hx_5⟩:=row_may (A:=A) (cs:=ints) i ints_len (by decide) (RowA.ext hA x1);obtain ⟨hx_6,hA_3,hc_3⟩:=hx_5 oM;refine go ?_;refine y_ld (hT.tb.ext x1) ?_;refine go ?_;refine yCa (ret_mono (autx_sym (hX.ext x1) x_2) ?_);rintro _ w2 ⟨rfl,e1⟩;have he1:=e1.size;refine go ?_;refine y_al ?_;intro w3 e2 z1 b1;refine y_st b1 ?_;intro w4 e3 z2 b2;replace b2:Blk w4 w2.heap.size #[(.int .i64 ((symS st x_2).1.kind)),(.int .i64 ((symS st x_2).1.n))] 75:=blk_full b2 rfl;refine go ?_;by_cases h4:(!((symS st x_2).2))=true;refine xc_regionE [12] (fun W_=>Chg (fun _=>False) w4 W_) hmix ?_;intro w5 e4 z3;have hS1:Chg (fun _=>False) w4 w5:=Ext.to e4;refine yDp 0 ?_;refine yDp 1 ?_;refine yDp 2 ?_;refine ysD (s:=37) (bT h4) ?_;refine yDp 3 ?_;refine yDp 4 ?_;refine yDp 5 ?_;refine xd_take 6 (some 41) rfl rfl (by kernel_rfl) (v:=undef) (.inr ⟨rfl,rfl⟩) hS1 ?_;refine yDp 7 ?_;refine yDp 8 ?_;refine yDp 9 ?_;refine xd_take 10 (some 45) rfl rfl (by kernel_rfl) (v:=undef) (.inr ⟨rfl,rfl⟩) hS1 ?_;refine xd_take 11 (some 46) rfl rfl (by kernel_rfl) (v:=undef) (.inr ⟨rfl,rfl⟩) hS1 ?_;refine yDp 12 ?_;refine yDp 13 ?_;refine yDp 14 ?_;refine yDp 15 ?_;refine xd_done (by kernel_rfl) ?_ _;refine go ?_;refine y_r1 ?_;have hE9:chainZ st l=false:=by rw [hq,chain_at hx_6 hx_4];rw [(show (symS st x_2).2=false by simpa using h4)]<;>rfl
 have hR9:rightZ st l=false:=right_no hE9;have x2:Ext w w5:=(Xt (Xc (Xt (Xt x1 e1) e2) e3) e4);exact ⟨by rw [hR9],x2⟩;refine xc_regionE [12] (fun W_=>Chg (fun _=>False) w4 W_) hmix ?_;intro w6 e5 z4;have hS2:Chg (fun _=>False) w4 w6:=Ext.to e5;refine yDp 0 ?_;refine yDp 1 ?_;refine yDp 2 ?_;refine ysD (s:=37) (bF (Bool.eq_false_iff.2 h4)) ?_;refine yDp 3 ?_;refine yDp 4 ?_;refine yDp 5 ?_;have q1:=((((hT.tb.ext x1).ext e1).ext e2).kb e3 b1);refine yDt (i:=6) rfl hS2 (fun W_ hW_=>ox_load tA_27.h rfl ((q1.ext hW_).cell rfl) ⟨rfl,rfl⟩) ?_;refine yDp 7 ?_;refine yDp 8 ?_;have x3:Ext w1 w6:=(Xt (Xc (Xt e1 e2) e3) e5);refine yDx (i:=9) i hA_3 ?_;refine yDt (i:=10) rfl hS2 (fun W_ hW_=>ox_load tA_3.h rfl (CellsL.at1 (CellsL.keep (Xt (Xc (Xt e1 e2) e3) hW_) not_false hc_3) 0 rfl) ⟨rfl,rfl⟩) ?_;refine yDt (i:=11) rfl hS2 (fun W_ hW_=>ox_loadN (vs:=[(.int .i64 ((symS st x_2).1.kind)),(.int .i64 ((symS st x_2).1.n))]) tA_75.h tS_75.h rfl rfl ⟨(b2.ext hW_).cell rfl,(b2.ext hW_).cell rfl,trivial⟩ ⟨rfl,rfl⟩) ?_;refine yDp 13 ?_;have x4:Ext w w6:=(Xt (Xc (Xt (Xt x1 e1) e2) e3) e5);refine xd_oneW 12 (some 47) rfl rfl (by kernel_rfl) rfl (ox_callE (al:=[(.pointer (some ⟨ba,0,none⟩)),(.int .i64 x_3),(.agg #[(.int .i64 ((symS st x_2).1.kind)),(.int .i64 ((symS st x_2).1.n))])]) pf_36.h rfl (ret_mono (autx_go (hX.ext x4) x_3 ((symS st x_2).1)) ?_));rintro _ w7 ⟨rfl,e6⟩;have he6:=e6.size;refine ⟨.inl (by decide),?_⟩;refine yDp 14 ?_;refine yDp 15 ?_;refine xd_done (by kernel_rfl) ?_ _;refine go ?_;refine y_if (fun h5=>?_) (fun h5=>?_);refine go ?_;refine y_r1 ?_;have hE9:chainZ st l=false:=by rw [hq,chain_at hx_6 hx_4];rw [(show (symS st x_2).2=true by simpa using h4),decide_eq_false (show ¬goS st x_3 (symS st x_2).1=x_2 by omega)]<;>rfl
 have hR9:rightZ st l=false:=right_no hE9;have x5:Ext w w7:=(Xt x4 e6);exact ⟨by rw [hR9],x5⟩;refine go ?_;refine y_add ?_;have x6:Ext w w7:=(Xt x4 e6);refine go ?_;exact ⟨rfl,(l.length-1)-(i+1),by omega,i+1,by omega,(by omega),(by rw [hq,chain_at hx_6 hx_4,(show (symS st x_2).2=true by simpa using h4)];simp only [Bool.true_and,decide_eq_true_eq];rw [show decide (goS st x_3 (symS st x_2).1=x_2)=true from decide_eq_true (by omega)]<;>rfl),rfl,rfl,rfl,rfl,vW,x6⟩;refine go ?_;refine y_r1 ?_;have hE9:chainZ st l=true:=by rw [hq];exact chain_end (by omega)
 have hR9:rightZ st l=true:=right_yes hx_2 (by omega) hE9;exact ⟨by rw [hR9],x1⟩
def runZ(R:List (List (Int×Int)))(Gt:List (List Int))(P:List P2)(l:List Int)(t:Int):Nat→List Int→Nat→List Int→Int→Option (List Int×Bool)
  | 0,_,_,_,_=>none
  | f+1,o,j,ns,top =>
    if (actZ R top t).1=2 then
      if (actZ R top t).2<0 then none else
      match P[(actZ R top t).2.toNat]? with
      | none=>none
      | some p =>
        if j<p.2.length-min p.2.length ns.length then none else
        match (if ns.take (ns.length-min p.2.length ns.length) = [] then (if j-(p.2.length-min p.2.length ns.length)=0 then none else l[j-(p.2.length-min p.2.length ns.length)-1]?) else (ns.take (ns.length-min p.2.length ns.length)).getLast?) with
        | none=>none
        | some q =>
          if q<0∨p.1<0 then none else
          match (Gt.getD q.toNat [])[p.1.toNat]? with
          | none=>none
          | some z=>runZ R Gt P l t f (o++[(actZ R top t).2]) (j-(p.2.length-min p.2.length ns.length)) (ns.take (ns.length-min p.2.length ns.length)++[z]) z
    else some (if (actZ R top t).1=0 then ([],false) else (o,true))
section
variable {R:List (List (Int×Int))}{Gt:List (List Int)}{P:List P2}{l:List Int}{t:Int}{f:Nat}{o:List Int}{j:Nat}{ns:List Int}{top:Int}{res:List Int×Bool}
theorem runZ_pos(h:runZ R Gt P l t f o j ns top=some res):∃f',f=f'+1:=by
  cases f with
  | zero=>rw [runZ] at h;cases h
  | succ f=>exact ⟨f,rfl⟩
theorem runZ_end(h:runZ R Gt P l t f o j ns top=some res)(h2:¬(actZ R top t).1=2):res=if (actZ R top t).1=0 then ([],false) else (o,true):=by
  obtain ⟨f',rfl⟩:=runZ_pos h;rw [runZ,if_neg h2] at h;cases h;rfl
theorem runZ_red(h:runZ R Gt P l t f o j ns top=some res)(h2:(actZ R top t).1=2):∃(f':Nat) (p:P2) (q z:Int),f=f'+1∧0≤(actZ R top t).2∧P[(actZ R top t).2.toNat]?=some p∧p.2.length-min p.2.length ns.length≤j ∧
    (ns.take (ns.length-min p.2.length ns.length) = []→0<j-(p.2.length-min p.2.length ns.length)∧l[j-(p.2.length-min p.2.length ns.length)-1]?=some q)∧(ns.take (ns.length-min p.2.length ns.length)≠[]→(ns.take (ns.length-min p.2.length ns.length)).getLast?=some q)∧0≤q∧0≤p.1∧(Gt.getD q.toNat [])[p.1.toNat]?=some z ∧
    runZ R Gt P l t f' (o++[(actZ R top t).2]) (j-(p.2.length-min p.2.length ns.length)) (ns.take (ns.length-min p.2.length ns.length)++[z]) z=some res:=by
  obtain ⟨f',rfl⟩:=runZ_pos h;rw [runZ,if_pos h2] at h
  split at h
  cases h;rename_i h3
  split at h
  cases h;rename_i p hp
  split at h
  cases h;rename_i h4
  split at h
  cases h;rename_i q hq
  split at h
  cases h;rename_i h5
  split at h
  cases h;rename_i z hz;refine ⟨f',p,q,z,rfl,by omega,hp,by omega,fun hn=>?_,fun hn=>?_,by omega,by omega,hz,h⟩;rw [if_pos hn] at hq
  split at hq
  cases hq;exact ⟨by omega,hq⟩;rw [if_neg hn] at hq;exact hq
end
theorem getD_ltZ{Gt:List (List Int)}{n i:Nat}{z:Int}(h:(Gt.getD n [])[i]?=some z):n<Gt.length:=by
  by_cases hn:n<Gt.length;exact hn;rw [List.getD_eq_getElem?_getD,List.getElem?_eq_none (l:=Gt) (i:=n) (by omega)] at h;simp at h
theorem ob_len{A:Option Addr}{n m c:Nat} : (Value.slice A n c).ownBlock=(Value.slice A m c).ownBlock:=by cases A<;>simp [Value.ownBlock]
theorem right_pos{st:List ASt}{l:List Int}(h:rightZ st l=true):0<l.length:=by
  cases l with
  | nil=>cases h
  | cons a r=>simp
theorem TbM.ext{s:SP}{ba mo tb B:Nat}{L:List AR}{aA:Option Addr}{ac:Nat}{G:List IR}{gA:Option Addr}{gc:Nat}{w w':World}(h:TbM s ba mo tb B L aA ac G gA gc w)(c:Ext w w'):TbM s ba mo tb B L aA ac G gA gc w' :=
  ⟨h.tb.ext c,h.a.ext c,h.lowA,h.fam.ext c,h.g.ext c,h.lowG,h.gr.ext c⟩
instance pf_23:PlF Tryz.prog 23 where
instance pf_74:PlF Tryz.prog 74 where
instance tF_55_0:FdT Tryz.prog 55 0 0 where
instance tF_55_1:FdT Tryz.prog 55 1 1 where
theorem run_callsT(s:SP)(ba mo tb B:Nat)(L:List AR)(aA:Option Addr)(ac:Nat)(G:List IR)(gA:Option Addr)(gc:Nat)(s0:SP)(B0:Nat)(st:List ASt)(l:List Int)(A:Option Addr)(c:Nat)(t:Int)(f:Nat)(res:List Int×Bool)(w:World)(hT:TbM s ba mo tb B L aA ac G gA gc w)(hS:SpR w s)(hX:AutX B0 w s0 ba st)(hA:RowA w A (l.flatMap ints))(hcap:l.length≤c)(hll:l.length≤1000000000)(hf:f≤8000000000000)(hrun:rightZ st l=true→∀top,l.getLast?=some top→runZ (L.map AR.l) (G.map IR.l) s.g.prods l t f ([]) l.length ([]) top=some res) :
    Calls Tryz.prog 26 #[(.pointer (some ⟨tb,0,none⟩)),(.slice A l.length c),(.int .i64 t)] w (Ret (fun v w'=>∃A' c',v = .tuple #[.slice A' (if rightZ st l=true then res.1 else []).length c',.bool (rightZ st l && res.2)]∧NewRow w w' 3 1 ints (if rightZ st l=true then res.1 else []) A' c'∧Ext w w')):=by
 refine calls_y (n:=99) Tryz.func26 ?_;refine go ?_;refine yCa (ret_mono (tright_calls s s0 B0 st ba mo tb B L aA ac G gA gc l A c w (hT.ext (Chg.refl _ _)) (hX.ext (Chg.refl _ _)) (hA.ext (Chg.refl _ _)) hcap (by omega)) ?_);rintro _ w1 ⟨rfl,e1⟩;have he1:=e1.size;refine go ?_;refine xc_cond (b:=(!((rightZ st l)))) rfl (fun h1=>?_) (fun h1=>?_);have h1':=bS h1;have hrt:rightZ st l=false:=by simpa using h1
 refine go ?_;refine y_r2 ?_;exact ⟨none,0,by rw [hrt]<;>rfl,by rw [hrt];exact ⟨Vx.Own.nil _ _ _,fun k hk=>by simp [Value.ownBlock] at hk⟩,e1⟩;have h1':=bS h1;have hrt:rightZ st l=true:=by simpa using h1
 have hl0:0<l.length:=right_pos hrt;refine go ?_;refine y_sub ?_;obtain ⟨x_1,g_1,o_1,hx_1⟩:=row_may (A:=A) (cs:=ints) ((l.length-1)) ints_len (by decide) (RowA.ext hA e1);obtain ⟨hx_2,hA_1,hc_1⟩:=hx_1 oM;refine y_ix ((l.length-1)) hA_1 ?_;refine y_lc (CellsL.at1 hc_1 0 rfl) ?_;have hk0:runZ (L.map AR.l) (G.map IR.l) s.g.prods l t f ([]) l.length ([]) x_1=some res:=hrun hrt _ (by rw [List.getLast?_eq_getElem?];exact hx_2);refine go ?_;refine xc_loopN (fun m_ f_ Wx=>∃(j:Nat) (top:Int) (k:Nat) (o:List Int) (Ao:Option Addr) (co:Nat) (ns:List Int) (Ans:Option Addr) (cns:Nat),m_=k∧(runZ (L.map AR.l) (G.map IR.l) s.g.prods l t k o j ns top=some res)∧(o.length+k≤f)∧(ns.length+k≤f)∧(j≤l.length)∧(∀k,(Value.slice Ao o.length co).ownBlock=some k→¬(Value.slice Ans ns.length cns).ownBlock=some k)∧f_ 0=(.pointer (some ⟨tb,0,none⟩))∧f_ 1=(.slice A l.length c)∧f_ 2=(.int .i64 t)∧f_ 9=(.int .i64 ((j:Nat)))∧f_ 11=(.int .i64 top)∧f_ 8=(.slice Ao o.length co)∧f_ 10=(.slice Ans ns.length cns)∧Vx.Own Wx 3 1 (.slice Ao o.length co) o.length (o.flatMap ints)∧Vx.Own Wx 3 1 (.slice Ans ns.length cns) ns.length (ns.flatMap ints)∧(∀k,((.slice Ao o.length co):Value).ownBlock=some k→w1.heap.size≤k)∧(∀k,((.slice Ans ns.length cns):Value).ownBlock=some k→w1.heap.size≤k)∧Ext w1 Wx) (f) ?_ ?_;exact ⟨l.length,x_1,f,[],none,0,[],none,0,(by omega),hk0,(by simp),(by simp),(by omega),(fun k hk=>by simp [Value.ownBlock] at hk),rfl,rfl,rfl,vW,vW,rfl,rfl,(Vx.Own.nil _ _ _),(Vx.Own.nil _ _ _),(fun _k _h=>by simp [Value.ownBlock] at _h),(fun _k _h=>by simp [Value.ownBlock] at _h),(Chg.refl _ _)⟩;rintro m_ f1 w2 ⟨j,top,k,o,Ao,co,ns,Ans,cns,hm_f1,hk,ho,hn,hj,hap,g0_f1,g1_f1,g2_f1,g9_f1,g11_f1,g8_f1,g10_f1,a0_f1,a1_f1,l0_f1,l1_f1,x1⟩;have hx1:=x1.size;have hcn9:=Own.capn a1_f1;rw [←usf g0_f1,←usf g1_f1,←usf g2_f1,←usf g9_f1,←usf g11_f1,←usf g8_f1,←usf g10_f1];have x2:Ext w w2:=(Xt e1 x1);refine go ?_;refine yCa (ret_mono (action_calls s ba mo tb B L aA ac G gA gc top t w2 (hT.ext x2)) ?_);rintro _ w3 ⟨rfl,e2⟩;have he2:=e2.size;refine y_al ?_;intro w4 e3 z1 b1;refine y_st b1 ?_;intro w5 e4 z2 b2;replace b2:Blk w5 w3.heap.size #[(.int .i64 ((actZ (L.map AR.l) top t).1)),(.int .i64 ((actZ (L.map AR.l) top t).2))] 55:=blk_full b2 rfl;refine go ?_;refine y_ld b2 ?_;refine go ?_;refine y_if (fun h2=>?_) (fun h2=>?_);refine go ?_;refine y_ld b2 ?_;refine go ?_;refine y_if (fun h3=>?_) (fun h3=>?_);refine go ?_;refine y_r2 ?_;have hR9:=runZ_end hk (by omega);rw [if_pos (by omega)] at hR9;subst hR9;have x3:Ext w w5:=(Xc (Xt (Xt x2 e2) e3) e4);exact ⟨none,0,by rw [hrt]<;>rfl,by rw [hrt];exact ⟨Vx.Own.nil _ _ _,fun k hk=>by simp [Value.ownBlock] at hk⟩,x3⟩;refine go ?_;refine y_r2 ?_;have hR9:=runZ_end hk (by omega);rw [if_neg (by omega)] at hR9;subst hR9;have q1:=(((a0_f1.ext e2).ext e3).kb e4 b1);have x4:Ext w w5:=(Xc (Xt (Xt x2 e2) e3) e4);exact ⟨Ao,co,by rw [hrt]<;>rfl,by rw [hrt];exact ⟨q1,fun k hk=>by have _h:=l0_f1 k hk;omega⟩,x4⟩;obtain ⟨k',p,q,z,rfl,ha0,hp,hjd,hq0,hq1,hq2,hp1,hz,hk'⟩:=runZ_red hk (by omega)
 have hpl9:(actZ (L.map AR.l) top t).2.toNat<s.prods.length:=by have h9:=(List.getElem?_eq_some_iff.1 hp).1;rw [s.gprods] at h9;exact h9
 obtain ⟨M9,hM9⟩:∃M9,M9=ns.length-min p.2.length ns.length:=⟨_,rfl⟩;obtain ⟨J9,hJ9⟩:∃J9,J9=j-(p.2.length-min p.2.length ns.length):=⟨_,rfl⟩;rw [←hM9,←hJ9] at hq0 hk';rw [←hM9] at hq1;refine go ?_;refine y_ld b2 ?_;refine yOp (ox_mkSlice (ps:=[(0,(.int .i64 ((actZ (L.map AR.l) top t).2)))]) (zs:=#[(.int .i64 0)]) (cs:=#[(.int .i64 ((actZ (L.map AR.l) top t).2))]) tE_39.h rfl (by decide) (by kernel_rfl) (by kernel_rfl) ?_);intro w6 e5 z3 b3;replace b3:Blk w6 w5.heap.size #[(.int .i64 ((actZ (L.map AR.l) top t).2))] 3:=b3;have q2:=(((a0_f1.ext e2).ext e3).kb e4 b1);refine yOp (ox_appD (l:=o) (r:=[((actZ (L.map AR.l) top t).2)]) (cs:=ints) rfl tE_39.h rfl (by decide) ints_len ints_one (v:=(.slice Ao o.length co)) rfl rfl (m:=1) rfl (q2.ext e5) b3.all aM (by decide) ?_);have q3:=(((a1_f1.ext e2).ext e3).kb e4 b1);intro A1 c1 w7 o1 e6 at1 hc1;have he6:=e6.size;have low1:=low_at at1 l0_f1;have hap1:∀k,((.slice A1 ((o++[((actZ (L.map AR.l) top t).2)]).length) c1):Value).ownBlock=some k→¬((.slice Ans ns.length cns):Value).ownBlock=some k:=fun k hk hd=>by rcases at1 with _e | _e<;>rw [_e] at hk;exact hap k hk hd;(cases hk;have _h:=((q3.ext e5)).lt _ hd;omega)
 refine go ?_;refine xc_regionE [10] (fun W_=>Chg (fun _=>False) w7 W_) hmix ?_;intro w8 e7 z4;have hS1:Chg (fun _=>False) w7 w8:=Ext.to e7;refine yDp 0 ?_;refine yDp 1 ?_;refine yDp 2 ?_;refine yDp 3 ?_;have q4:=((((hT.tb.ext e1).ext x1).ext e2).ext e3);have q5:=((q4.kb e4 b1).ext e5);have q6:=(q5.ko e6 (q2.ext e5));refine yDt (i:=4) rfl hS1 (fun W_ hW_=>ox_load tA_24.h rfl ((q6.ext hW_).cell rfl) ⟨rfl,rfl⟩) ?_;refine yDp 5 ?_;have q7:=((b2.ext e5).ko e6 (q2.ext e5));refine yDt (i:=6) rfl hS1 (fun W_ hW_=>ox_load tA_3.h rfl ((q7.ext hW_).cell rfl) ⟨rfl,rfl⟩) ?_;have x5:Ext w w7:=(Co (Xt (Xc (Xt (Xt x2 e2) e3) e4) e5) e6 l0_f1);obtain ⟨x_2,g_2,o_2,hx_3⟩:=row_may (A:=s.pA) (cs:=PD.cs) ((actZ (L.map AR.l) top t).2.toNat) PD.len (by decide) (RowA.ext hS.prods x5);obtain ⟨hx_4,hA_2,hc_2⟩:=hx_3 oM;have hfr_x_2:=(hS.fr _ (List.mem_of_getElem? hx_4)).le;refine yDx (i:=7) ((actZ (L.map AR.l) top t).2.toNat) hA_2 ?_;refine yDt (i:=8) rfl hS1 (fun W_ hW_=>ox_loadN (vs:=[(.int .i64 x_2.left),(.slice x_2.rA x_2.right.length x_2.rc)]) tA_79.h tS_79.h rfl rfl (CellsL.keep hW_ not_false hc_2) ⟨rfl,rfl⟩) ?_;refine yD1 (i:=9) rfl (ox_alloc tZ_79.h ?_);intro w9 e8 z5 b4;have hS2:Chg (fun _=>False) w7 w9:=Chg.ext hS1 e8;refine ⟨.inr fun _=>hS2,?_⟩;refine yD1 (i:=10) rfl (ox_store (n:=2) (vs:=[(.int .i64 x_2.left),(.slice x_2.rA x_2.right.length x_2.rc)]) tS_79.h rfl (v:=(.agg #[(.int .i64 x_2.left),(.slice x_2.rA x_2.right.length x_2.rc)])) rfl rfl rfl rfl b4 (Nat.le_of_ble_eq_true rfl) ?_);intro w10 e9 z6 b5;replace b5:Blk w10 w8.heap.size #[(.int .i64 x_2.left),(.slice x_2.rA x_2.right.length x_2.rc)] 79:=blk_full b5 rfl;refine ⟨.inl (by decide),?_⟩;refine xd_done (by kernel_rfl) ?_ _;obtain rfl:p=x_2.d:=Option.some.inj (hp.symm.trans (map_get (f:=PD.d) hx_4));have hM8:M9=ns.length-min x_2.right.length ns.length:=hM9;have hJ8:J9=j-(x_2.right.length-min x_2.right.length ns.length):=hJ9;have hM7:M9≤ns.length:=by omega
 refine go ?_;refine y_ld b5 ?_;have hmin9:(if ((ns.length:Nat):Int)<((x_2.right.length:Nat):Int) then ((ns.length:Nat):Int) else ((x_2.right.length:Nat):Int))=((min x_2.right.length ns.length:Nat):Int):=by split<;>omega
 replace hjd:x_2.right.length-min x_2.right.length ns.length≤j:=hjd;refine go ?_;refine yOp (ox_min (k:=.i64) (a:=(((x_2.right.length:Nat):Int))) (b:=(((ns.length:Nat):Int))) rfl rfl rfl ?_);refine go ?_;refine y_sub ?_;have q8:=((q3.ext e5).keep e6 (fun _k _hk hb=>hap _k hb _hk));have q9:=(((q8.ext e7).ext e8).kb e9 b4);have hot9:Vx.Own w10 3 1 (.slice Ans M9 cns) M9 ((ns.take M9).flatMap ints):=Own.takeD ints_len (by decide) q9 hM7;have hlt9:(ns.take M9).length=M9:=by rw [List.length_take];omega
 have hlo8:∀k,(Value.slice Ans M9 cns).ownBlock=some k→w1.heap.size≤k:=fun k hk=>l1_f1 k (by rw [ob_len (m:=M9)];exact hk)
 have hap8:∀k,((.slice A1 ((o++[((actZ (L.map AR.l) top t).2)]).length) c1):Value).ownBlock=some k→¬(Value.slice Ans M9 cns).ownBlock=some k:=fun k hk hd=>hap1 k hk (by rw [ob_len (m:=M9)];exact hd)
 refine yOp (ox_sliceToN (A:=Ans) (cp:=cns) (i:=(((ns.length:Nat):Int)-(if ((ns.length:Nat):Int)<((x_2.right.length:Nat):Int) then ((ns.length:Nat):Int) else ((x_2.right.length:Nat):Int)))) M9 tE_39.h rfl rfl (by omega) (by omega) (by omega) ?_);refine go ?_;refine y_sub ?_;refine y_sub ?_;refine go ?_;refine y_if (fun h4=>?_) (fun h4=>?_);refine go ?_;refine y_sub ?_;obtain ⟨x_3,g_3,hx_5⟩:=own_may (A:=Ans) ((M9-1)) ints_len (by decide) hot9;obtain ⟨hx_6,hA_3,hc_3⟩:=hx_5 oM;refine y_ix ((M9-1)) hA_3 ?_;refine y_lc (CellsL.at1 hc_3 0 rfl) ?_;obtain rfl:x_3=q:=Eq.symm (Option.some.inj ((hq1 (fun h9=>by have h8:=congrArg List.length h9;rw [List.length_take] at h8;simp only [List.length_nil] at h8;omega)).symm.trans (by rw [List.getLast?_eq_getElem?,List.length_take];show (ns.take M9)[min M9 ns.length-1]?=_;rw [show min M9 ns.length-1=M9-1 from (by omega)];exact hx_6)));have hgl9:x_3.toNat<G.length:=by have h9:=getD_ltZ hz;rw [List.length_map] at h9;exact h9
 replace hp1:0≤x_2.left:=hp1;have q10:=(((((hT.g.ext e1).ext x1).ext e2).ext e3).kb e4 b1);have q11:=((q10.ext e5).ko e6 (q2.ext e5));have q12:=(((q11.ext e7).ext e8).kb e9 b4);obtain ⟨x_4,g_4,hx_7⟩:=own_may (A:=gA) x_3.toNat IR.len (by decide) q12;obtain ⟨hx_8,hA_4,hc_4⟩:=hx_7 oM;have x6:Ext w w10:=(Xc (Xt (Xt x5 e7) e8) e9);have hln9:x_4.l.length=x_4.n:=by have h9:=((((IRs.ext hT.gr x6)) x_4 (List.mem_of_getElem? hx_8)).1).len;rw [fm_len ints_len] at h9;omega
 have hz9:x_4.l[x_2.left.toNat]?=some z:=by rw [getD_of (map_get (f:=IR.l) hx_8)] at hz;exact hz
 have hzn9:=(List.getElem?_eq_some_iff.1 hz9).1;obtain ⟨x_5,g_5,hx_9⟩:=own_may (A:=x_4.A) x_2.left.toNat ints_len (by decide) (((IRs.ext hT.gr x6)) x_4 (List.mem_of_getElem? hx_8)).1;obtain ⟨hx_10,hA_5,hc_5⟩:=hx_9 oM;refine go ?_;refine xc_regionE [] (fun W_=>Chg (fun _=>False) w10 W_) hmix ?_;intro w11 e10 z7;have hS3:Chg (fun _=>False) w10 w11:=Ext.to e10;refine yDp 0 ?_;refine yDp 1 ?_;refine yDp 2 ?_;have q13:=((((hT.tb.ext e1).ext x1).ext e2).ext e3);have q14:=((q13.kb e4 b1).ext e5);have q15:=(q14.ko e6 (q2.ext e5));have q16:=(((q15.ext e7).ext e8).kb e9 b4);refine yDt (i:=3) rfl hS3 (fun W_ hW_=>ox_load tA_57.h rfl ((q16.ext hW_).cell rfl) ⟨rfl,rfl⟩) ?_;refine yDp 4 ?_;refine yDx (i:=5) x_3.toNat hA_4 ?_;refine yDt (i:=6) rfl hS3 (fun W_ hW_=>ox_load tA_39.h rfl (CellsL.at1 (CellsL.keep hW_ not_false hc_4) 0 rfl) ⟨rfl,rfl⟩) ?_;refine yDp 7 ?_;refine yDt (i:=8) rfl hS3 (fun W_ hW_=>ox_load tA_3.h rfl ((b5.ext hW_).cell rfl) ⟨rfl,rfl⟩) ?_;refine yDx (i:=9) x_2.left.toNat hA_5 ?_;refine yDt (i:=10) rfl hS3 (fun W_ hW_=>ox_load tA_3.h rfl (CellsL.at1 (CellsL.keep hW_ not_false hc_5) 0 rfl) ⟨rfl,rfl⟩) ?_;refine yDp 11 ?_;refine xd_done (by kernel_rfl) ?_ _;obtain rfl:x_5=z:=Eq.symm (Option.some.inj (hz9.symm.trans hx_10));refine go ?_;refine yOp (ox_mkSlice (ps:=[(0,(.int .i64 x_5))]) (zs:=#[(.int .i64 0)]) (cs:=#[(.int .i64 x_5)]) tE_39.h rfl (by decide) (by kernel_rfl) (by kernel_rfl) ?_);intro w12 e11 z8 b6;replace b6:Blk w12 w11.heap.size #[(.int .i64 x_5)] 3:=b6;refine yOp (ox_appD (l:=((ns.take M9))) (r:=[x_5]) (cs:=ints) rfl tE_39.h rfl (by decide) ints_len ints_one (v:=(.slice Ans M9 cns)) rfl rfl (m:=1) rfl ((hot9.ext e10).ext e11) b6.all aM (by decide) ?_);have q17:=(((o1.ext e7).ext e8).kb e9 b4);intro A2 c2 w13 o2 e12 at2 hc2;have he12:=e12.size;have low2:=low_at at2 hlo8;have hap2:∀k,((.slice A1 ((o++[((actZ (L.map AR.l) top t).2)]).length) c1):Value).ownBlock=some k→¬((.slice A2 ((((ns.take M9))++[x_5]).length) c2):Value).ownBlock=some k:=fun k hd hk=>by rcases at2 with _e | _e<;>rw [_e] at hk;exact hap8 k hd hk;(cases hk;have _h:=(((q17.ext e10).ext e11)).lt _ hd;omega)
 have q18:=(((q17.ext e10).ext e11).keep e12 (fun _k _hk hb=>hap8 _k _hk hb));have x7:Ext w1 w13:=(Co (Xt (Xt (Xc (Xt (Xt (Co (Xt (Xc (Xt (Xt x1 e2) e3) e4) e5) e6 l0_f1) e7) e8) e9) e10) e11) e12 hlo8);refine go ?_;exact ⟨rfl,k',by omega,J9,x_5,k',o++[((actZ (L.map AR.l) top t).2)],A1,c1,((ns.take M9))++[x_5],A2,c2,by rfl,hk',(by rw [List.length_append,List.length_singleton];omega),(by rw [List.length_append,List.length_singleton,List.length_take];omega),(by omega),hap2,rfl,rfl,rfl,vW,vW,rfl,rfl,q18,o2,low1,low2,x7⟩;have hq9:=hq0 (List.eq_nil_of_length_eq_zero (by rw [List.length_take];omega));replace hq9:0<J9∧l[J9-1]?=some q:=hq9;have hq8:=hq9.1;refine go ?_;refine y_sub ?_;have x8:Ext w w10:=(Xc (Xt (Xt x5 e7) e8) e9);obtain ⟨x_6,g_6,o_6,hx_11⟩:=row_may (A:=A) (cs:=ints) ((J9-1)) ints_len (by decide) (RowA.ext hA x8);obtain ⟨hx_12,hA_6,hc_6⟩:=hx_11 oM;refine y_ix ((J9-1)) hA_6 ?_;refine y_lc (CellsL.at1 hc_6 0 rfl) ?_;obtain rfl:x_6=q:=Eq.symm (Option.some.inj (hq9.2.symm.trans hx_12));have hgl9:x_6.toNat<G.length:=by have h9:=getD_ltZ hz;rw [List.length_map] at h9;exact h9
 replace hp1:0≤x_2.left:=hp1;have q19:=(((((hT.g.ext e1).ext x1).ext e2).ext e3).kb e4 b1);have q20:=((q19.ext e5).ko e6 (q2.ext e5));have q21:=(((q20.ext e7).ext e8).kb e9 b4);obtain ⟨x_7,g_7,hx_13⟩:=own_may (A:=gA) x_6.toNat IR.len (by decide) q21;obtain ⟨hx_14,hA_7,hc_7⟩:=hx_13 oM;have hln9:x_7.l.length=x_7.n:=by have h9:=((((IRs.ext hT.gr x8)) x_7 (List.mem_of_getElem? hx_14)).1).len;rw [fm_len ints_len] at h9;omega
 have hz9:x_7.l[x_2.left.toNat]?=some z:=by rw [getD_of (map_get (f:=IR.l) hx_14)] at hz;exact hz
 have hzn9:=(List.getElem?_eq_some_iff.1 hz9).1;obtain ⟨x_8,g_8,hx_15⟩:=own_may (A:=x_7.A) x_2.left.toNat ints_len (by decide) (((IRs.ext hT.gr x8)) x_7 (List.mem_of_getElem? hx_14)).1;obtain ⟨hx_16,hA_8,hc_8⟩:=hx_15 oM;refine go ?_;refine xc_regionE [] (fun W_=>Chg (fun _=>False) w10 W_) hmix ?_;intro w14 e13 z9;have hS4:Chg (fun _=>False) w10 w14:=Ext.to e13;refine yDp 0 ?_;refine yDp 1 ?_;refine yDp 2 ?_;have q22:=((((hT.tb.ext e1).ext x1).ext e2).ext e3);have q23:=((q22.kb e4 b1).ext e5);have q24:=(q23.ko e6 (q2.ext e5));have q25:=(((q24.ext e7).ext e8).kb e9 b4);refine yDt (i:=3) rfl hS4 (fun W_ hW_=>ox_load tA_57.h rfl ((q25.ext hW_).cell rfl) ⟨rfl,rfl⟩) ?_;refine yDp 4 ?_;refine yDx (i:=5) x_6.toNat hA_7 ?_;refine yDt (i:=6) rfl hS4 (fun W_ hW_=>ox_load tA_39.h rfl (CellsL.at1 (CellsL.keep hW_ not_false hc_7) 0 rfl) ⟨rfl,rfl⟩) ?_;refine yDp 7 ?_;refine yDt (i:=8) rfl hS4 (fun W_ hW_=>ox_load tA_3.h rfl ((b5.ext hW_).cell rfl) ⟨rfl,rfl⟩) ?_;refine yDx (i:=9) x_2.left.toNat hA_8 ?_;refine yDt (i:=10) rfl hS4 (fun W_ hW_=>ox_load tA_3.h rfl (CellsL.at1 (CellsL.keep hW_ not_false hc_8) 0 rfl) ⟨rfl,rfl⟩) ?_;refine yDp 11 ?_;refine xd_done (by kernel_rfl) ?_ _;obtain rfl:x_8=z:=Eq.symm (Option.some.inj (hz9.symm.trans hx_16));refine go ?_;refine yOp (ox_mkSlice (ps:=[(0,(.int .i64 x_8))]) (zs:=#[(.int .i64 0)]) (cs:=#[(.int .i64 x_8)]) tE_39.h rfl (by decide) (by kernel_rfl) (by kernel_rfl) ?_);intro w15 e14 z10 b7;replace b7:Blk w15 w14.heap.size #[(.int .i64 x_8)] 3:=b7;refine yOp (ox_appD (l:=((ns.take M9))) (r:=[x_8]) (cs:=ints) rfl tE_39.h rfl (by decide) ints_len ints_one (v:=(.slice Ans M9 cns)) rfl rfl (m:=1) rfl ((hot9.ext e13).ext e14) b7.all aM (by decide) ?_);have q26:=(((o1.ext e7).ext e8).kb e9 b4);intro A3 c3 w16 o3 e15 at3 hc3;have he15:=e15.size;have low3:=low_at at3 hlo8;have hap3:∀k,((.slice A1 ((o++[((actZ (L.map AR.l) top t).2)]).length) c1):Value).ownBlock=some k→¬((.slice A3 ((((ns.take M9))++[x_8]).length) c3):Value).ownBlock=some k:=fun k hd hk=>by rcases at3 with _e | _e<;>rw [_e] at hk;exact hap8 k hd hk;(cases hk;have _h:=(((q26.ext e13).ext e14)).lt _ hd;omega)
 have q27:=(((q26.ext e13).ext e14).keep e15 (fun _k _hk hb=>hap8 _k _hk hb));have x9:Ext w1 w16:=(Co (Xt (Xt (Xc (Xt (Xt (Co (Xt (Xc (Xt (Xt x1 e2) e3) e4) e5) e6 l0_f1) e7) e8) e9) e13) e14) e15 hlo8);refine go ?_;exact ⟨rfl,k',by omega,J9,x_8,k',o++[((actZ (L.map AR.l) top t).2)],A1,c1,((ns.take M9))++[x_8],A3,c3,by rfl,hk',(by rw [List.length_append,List.length_singleton];omega),(by rw [List.length_append,List.length_singleton,List.length_take];omega),(by omega),hap3,rfl,rfl,rfl,vW,vW,rfl,rfl,q27,o3,low1,low3,x9⟩
def gosG(g:GD)(st:List ASt):List (List Int):=(List.range st.length).map (goRow g st)
noncomputable def actsG(g:GD)(st:List ASt):List (List (Int×Int)):=rowsTo g st (g.triv.length+2) st.length
section
variable {B B0:Nat}{w:World}{s0:SP}{ba tb:Nat}{st:List ASt}
theorem tab_action(h:TabX B w s0 ba st tb)(n t:Int):Calls Tryz.prog 23 #[.pointer (some ⟨tb,0,none⟩),.int .i64 n,.int .i64 t] w (Ret fun v w'=>v = .agg #[.int .i64 (actZ (actsG s0.g st) n t).1,.int .i64 (actZ (actsG s0.g st) n t).2]∧Ext w w'):=by
  obtain ⟨⟨s1,s,mo,m,L,aA,ac,G,gA,gc,h1,h2,h3,h4,h5,h6,h7,h8,h9⟩⟩:=h;unfold actsG;rw [←h8];exact action_calls s ba mo tb B L aA ac G gA gc n t w h7
theorem tab_goto(h:TabX B w s0 ba st tb)(n i:Int):Calls Tryz.prog 39 #[.pointer (some ⟨tb,0,none⟩),.int .i64 n,.int .i64 i] w (Ret fun v w'=>v = .int .i64 (gotoZ (gosG s0.g st) n i)∧Ext w w'):=by
  obtain ⟨⟨s1,s,mo,m,L,aA,ac,G,gA,gc,h1,h2,h3,h4,h5,h6,h7,h8,h9⟩⟩:=h;unfold gosG;rw [←h9];exact goto_calls s ba mo tb B L aA ac G gA gc n i w h7
theorem tab_run(h:TabX B w s0 ba st tb)(hX:AutX B0 w s0 ba st)(l:List Int)(A:Option Addr)(c:Nat)(t:Int)(f:Nat)(res:List Int×Bool)(hA:RowA w A (l.flatMap ints))(hcap:l.length≤c)(hll:l.length≤1000000000)(hf:f≤8000000000000)
    (hrun:rightZ st l=true→∀top,l.getLast?=some top→runZ (actsG s0.g st) (gosG s0.g st) s0.g.prods l t f [] l.length [] top=some res):Calls Tryz.prog 26 #[.pointer (some ⟨tb,0,none⟩),.slice A l.length c,.int .i64 t] w (Ret fun v w'=>∃A' c',v = .tuple #[.slice A' (if rightZ st l=true then res.1 else []).length c',.bool (rightZ st l && res.2)]∧NewRow w w' 3 1 ints (if rightZ st l=true then res.1 else []) A' c'∧Ext w w'):=by
  obtain ⟨⟨s1,s,mo,m,L,aA,ac,G,gA,gc,h1,h2,h3,h4,h5,h6,h7,h8,h9⟩⟩:=h;refine run_callsT s ba mo tb B L aA ac G gA gc s0 B0 st l A c t f res w h7 (OwnS.spr (w0:=w) h3) hX hA hcap hll hf fun hr top ht=>?_
  rw [h8,h9,h4];exact hrun hr top ht
theorem TabX.keepC{K:Nat→Prop}{w':World}(h:TabX B w s0 ba st tb)(c:Chg K w w')(hk:∀b,B≤b→b<w.heap.size→¬K b):TabX B w' s0 ba st tb:=by
  obtain ⟨⟨s1,s,mo,m,L,aA,ac,G,gA,gc,h1,h2,h3,h4,h5,h6,h7,h8,h9⟩⟩:=h;exact ⟨⟨s1,s,mo,m,L,aA,ac,G,gA,gc,h1,h2,h3.keepC c hk,h4,h5.keep c (hk mo h2 h5.lt),h6,⟨h7.tb.keep c (hk tb h1 h7.tb.lt),h7.a.keep c fun k q=>hk k (h7.lowA k q) (h7.a.lt k q),h7.lowA,h7.fam.keep c fun x hx k q hl=>hk k ((h7.fam.all x hx).2 k q) hl,h7.g.keep c fun k q=>hk k (h7.lowG k q) (h7.g.lt k q),h7.lowG,h7.gr.keep c fun x hx k q hl=>hk k ((h7.gr x hx).2 k q) hl⟩,h8,h9⟩⟩
theorem TabX.ext{w':World}(h:TabX B w s0 ba st tb)(c:Ext w w'):TabX B w' s0 ba st tb:=h.keepC c fun _ _ _ hk=>hk
end
def movG(g:GD)(st:List ASt):List (Int×Int):=movesG g st st.length
def setsG(g:GD)(st:List ASt):List BS:=spreadS BS.z BS.or (layAll (List.replicate (movG g st).length []) (fEv g st (movG g st) (movG g st).length)) (movG g st).length (spreadS BS.z BS.or ((movG g st).map (readsG g st (movG g st))) (movG g st).length ((movG g st).map (dirG g st)))
def lookC(g:GD)(st:List ASt)(q p:Int)(t:Nat):Bool:=(decide (p = -1) && decide (goS st 0 ⟨3,g.start⟩=q) && decide (((t:Nat):Int)=endT g)) || (bkOf (fBk g st (movG g st) (movG g st).length) (q,p)).any fun y=>((setsG g st).getD y BS.z).has t
theorem lookC_is{g:GD}{st:List ASt}(h:Aut g st){q p:Int}{t:Nat} : lookC g st q p t=true↔LookP g st q p (t:Nat):=by
  have hM:MvL st (movG g st):=movesG_all h;have hl:(movG g st).length≤131200:=moves_small h;have hF:=(follow_is h hM (by omega)).2;unfold lookC;rw [Bool.or_eq_true,Bool.and_eq_true,Bool.and_eq_true,decide_eq_true_eq,decide_eq_true_eq,decide_eq_true_eq,List.any_eq_true];constructor;rintro (⟨⟨h1,h2⟩,h3⟩|⟨y,h1,h2⟩);exact .inl ⟨h1,h2,h3⟩;rw [bkOf_mem,back_ev h hM] at h1;obtain ⟨b,j,pr,h3,h4,h5,h6⟩:=h1;simp only [Prod.mk.injEq] at h6;refine .inr ⟨j,pr,b.1,h6.2,h4,?_,h6.1.symm,?_⟩;have:=(hM.mem b).1 (List.mem_of_getElem? h3);unfold MvP at this;rw [h5];exact this;rw [h5];exact (hF y b h3 t).1 h2;rintro (⟨h1,h2,h3⟩|⟨j,pr,b,h1,h2,h3,h4,h5⟩);exact .inl ⟨⟨h1,h2⟩,h3⟩;have hin:(b,pr.1)∈movG g st:=(hM.mem _).2 h3;obtain ⟨x,hx⟩:=List.mem_iff_getElem?.1 hin;exact .inr ⟨x,by rw [bkOf_mem,back_ev h hM];exact ⟨_,j,pr,hx,h2,rfl,by rw [h1,←h4]⟩,(hF x _ hx t).2 h5⟩
def redC(g:GD)(st:List ASt)(n:Int)(t:Nat):List Int:=((List.range (g.prods.length+1)).map fun i:Nat=>(i:Int)-1).filter fun q=>lookC g st n q t
theorem redC_is{g:GD}{st:List ASt}(h:Aut g st){n:Int}{t:Nat} : redG g st n (t:Nat)=redC g st n t:=by
  unfold redG redTo redC;rw [show ((g.prods.length:Int)+1).toNat=g.prods.length+1 by omega];refine List.filter_congr fun q _=>?_
  rw [Bool.eq_iff_iff,lookC_is h];exact @decide_eq_true_iff _ (Classical.propDecidable _)
def sumsD:GD:=⟨[false,false],1,0,[(0,[⟨3,0⟩,⟨1,0⟩,⟨1,1⟩]),(0,[⟨1,1⟩])]⟩
theorem sums_check:checkE sumsD=(0,0):=by kernel_rfl
def sumsA:List ASt:=(buildC sumsD 1025 0 [⟨closC sumsD [⟨-1,0⟩],1,[],⟨0,0⟩,0⟩]).getD []
theorem sums_some:(buildC sumsD 1025 0 [⟨closC sumsD [⟨-1,0⟩],1,[],⟨0,0⟩,0⟩]).isSome=true:=by kernel_rfl
theorem sums_built:buildG sumsD=some sumsA:=by
  rw [buildG_c (GoodL.of (by rw [sums_check]))];have h:=sums_some;unfold sumsA
  cases h9:buildC sumsD 1025 0 [⟨closC sumsD [⟨-1,0⟩],1,[],⟨0,0⟩,0⟩] with
  | none=>rw [h9] at h;cases h
  | some x=>rfl
theorem sums_aut:Aut sumsD sumsA:=Aut.of (by rw [sums_check]) sums_built
def actC(g:GD)(st:List ASt)(n t:Nat):Int×Int:=actL (redC g st (n:Nat) t) (shG g st (n:Nat) (t:Nat))
def actsC(g:GD)(st:List ASt):List (List (Int×Int)):=(List.range st.length).map fun m=>(List.range (g.triv.length+2)).map fun u=>actC g st m u
theorem actsC_is{g:GD}{st:List ASt}(h:Aut g st):actsG g st=actsC g st:=by
  unfold actsG rowsTo actsC;refine List.map_congr_left fun m _=>?_
  unfold rowTo;refine List.map_congr_left fun u _=>?_
  rw [actG_L,redC_is h];rfl
def noConfC(g:GD)(st:List ASt):Bool:=(List.range (st.length*(g.triv.length+2))).all fun j=>!(decide (1<(redC g st ((j / (g.triv.length+2):Nat):Int) (j % (g.triv.length+2))).length) || (decide ((redC g st ((j / (g.triv.length+2):Nat):Int) (j % (g.triv.length+2))).length=1) && decide (0≤shG g st ((j / (g.triv.length+2):Nat):Int) ((j % (g.triv.length+2):Nat):Int))))
theorem noConf_is{g:GD}{st:List ASt}(h:Aut g st)(hc:noConfC g st=true):allG g st = []:=by
  unfold allG cflTo;rw [List.flatMap_eq_nil_iff];intro j hj;rw [cfl1_nil,redC_is h];have h1:=List.all_eq_true.1 hc j hj;simp only [Bool.not_eq_true',Bool.or_eq_false_iff,Bool.and_eq_false_iff,decide_eq_false_iff_not] at h1;rintro (h2|⟨h2,h3⟩);exact h1.1 h2;exact h1.2.elim (fun h4=>h4 h2) fun h4=>h4 h3
theorem sums_none:allG sumsD sumsA = []:=noConf_is sums_aut (by kernel_rfl)
def sumsN:Int:=(actZ (actsC sumsD sumsA) 0 1).2
theorem sums_act:actZ (actsC sumsD sumsA) 0 1=(1,sumsN):=by kernel_rfl
theorem sums_run:runZ (actsC sumsD sumsA) (gosG sumsD sumsA) sumsD.prods [0,sumsN] 0 100 [] 2 [] sumsN=some ([1],true):=by kernel_rfl
theorem sums_right:rightZ sumsA [0,sumsN]=true:=by kernel_rfl
theorem sums_goto:decide (0<gotoZ (gosG sumsD sumsA) 0 0)=true:=by kernel_rfl
instance tP_84:PcT Tryz.prog 84 #[(0,1),(1,1),(2,6)] where
instance tZ_84:ZrT Tryz.prog 84 (.agg #[(.string (⟨#[]⟩)),(.bool false),(.int .i64 0),(.int .i64 0),(.int .i64 0),(.int .i64 0),(.int .i64 0),(.slice none 0 0)]) where
theorem sums9_calls  (w:World)  :
    Calls Tryz.prog 109 #[] w (Ret (fun v w'=>∃s:SP,v=(.agg #[(.slice s.lA s.lex.length s.lc),(.slice s.nA s.names.length s.nc),(.int .i64 s.start),(.slice s.pA s.prods.length s.pc)])∧SpR w' s∧s.g=sumsD∧Ext w w')):=by
 refine calls_y (n:=21) Tryz.func109 ?_;refine go ?_;refine y_al ?_;intro w1 e1 z1 b1;refine go ?_;refine yOp (ox_mkStruct (ps:=[(0,(.int .i64 1)),(1,(.int .i64 0))]) (cs:=#[(.int .i64 1),(.int .i64 0)]) tZ_75.h tP_75.h rfl (by kernel_rfl) ?_);refine y_al ?_;intro w2 e2 z2 b2;refine y_st b2 ?_;intro w3 e3 z3 b3;replace b3:Blk w3 w1.heap.size #[(.int .i64 1),(.int .i64 0)] 75:=blk_full b3 rfl;refine go ?_;refine yOp (ox_mkStruct (ps:=[(0,(.int .i64 1)),(1,(.int .i64 1))]) (cs:=#[(.int .i64 1),(.int .i64 1)]) tZ_75.h tP_75.h rfl (by kernel_rfl) ?_);refine y_al ?_;intro w4 e4 z4 b4;refine y_st b4 ?_;intro w5 e5 z5 b5;replace b5:Blk w5 w3.heap.size #[(.int .i64 1),(.int .i64 1)] 75:=blk_full b5 rfl;refine go ?_;refine yOp (ox_mkStruct (ps:=[(0,(.int .i64 3))]) (cs:=#[(.int .i64 3),(.int .i64 0)]) tZ_75.h tP_75.h rfl (by kernel_rfl) ?_);refine y_al ?_;intro w6 e6 z6 b6;refine y_st b6 ?_;intro w7 e7 z7 b7;replace b7:Blk w7 w5.heap.size #[(.int .i64 3),(.int .i64 0)] 75:=blk_full b7 rfl;refine go ?_;refine yOp (ox_mkStruct (ps:=[(0,(.string (⟨#[112,108,117,115]⟩)))]) (cs:=#[(.string (⟨#[112,108,117,115]⟩)),(.bool false),(.int .i64 0),(.int .i64 0),(.int .i64 0),(.int .i64 0),(.int .i64 0),(.slice none 0 0)]) tZ_84.h tP_84.h rfl (by kernel_rfl) ?_);refine yOp (ox_mkStruct (ps:=[(0,(.string (⟨#[120]⟩)))]) (cs:=#[(.string (⟨#[120]⟩)),(.bool false),(.int .i64 0),(.int .i64 0),(.int .i64 0),(.int .i64 0),(.int .i64 0),(.slice none 0 0)]) tZ_84.h tP_84.h rfl (by kernel_rfl) ?_);refine yOp (ox_mkSlice (ps:=[(0,(.agg #[(.string (⟨#[112,108,117,115]⟩)),(.bool false),(.int .i64 0),(.int .i64 0),(.int .i64 0),(.int .i64 0),(.int .i64 0),(.slice none 0 0)])),(1,(.agg #[(.string (⟨#[120]⟩)),(.bool false),(.int .i64 0),(.int .i64 0),(.int .i64 0),(.int .i64 0),(.int .i64 0),(.slice none 0 0)]))]) (zs:=#[(.string (⟨#[]⟩)),(.bool false),(.int .i64 0),(.int .i64 0),(.int .i64 0),(.int .i64 0),(.int .i64 0),(.slice none 0 0),(.string (⟨#[]⟩)),(.bool false),(.int .i64 0),(.int .i64 0),(.int .i64 0),(.int .i64 0),(.int .i64 0),(.slice none 0 0)]) (cs:=#[(.string (⟨#[112,108,117,115]⟩)),(.bool false),(.int .i64 0),(.int .i64 0),(.int .i64 0),(.int .i64 0),(.int .i64 0),(.slice none 0 0),(.string (⟨#[120]⟩)),(.bool false),(.int .i64 0),(.int .i64 0),(.int .i64 0),(.int .i64 0),(.int .i64 0),(.slice none 0 0)]) tE_22.h rfl (by decide) (by kernel_rfl) (by kernel_rfl) ?_);intro w8 e8 z8 b8;replace b8:Blk w8 w7.heap.size #[(.string (⟨#[112,108,117,115]⟩)),(.bool false),(.int .i64 0),(.int .i64 0),(.int .i64 0),(.int .i64 0),(.int .i64 0),(.slice none 0 0),(.string (⟨#[120]⟩)),(.bool false),(.int .i64 0),(.int .i64 0),(.int .i64 0),(.int .i64 0),(.int .i64 0),(.slice none 0 0)] 84:=b8;refine yOp (ox_mkSlice (ps:=[(0,(.string (⟨#[83]⟩)))]) (zs:=#[(.string (⟨#[]⟩))]) (cs:=#[(.string (⟨#[83]⟩))]) tE_23.h rfl (by decide) (by kernel_rfl) (by kernel_rfl) ?_);intro w9 e9 z9 b9;replace b9:Blk w9 w8.heap.size #[(.string (⟨#[83]⟩))] 9:=b9;refine y_lN (vs:=[(.int .i64 3),(.int .i64 0)]) ⟨((b7.ext e8).ext e9).cell rfl,((b7.ext e8).ext e9).cell rfl,trivial⟩ ?_
 have q1:=((b3.ext e4).kl e5 b3.lt);have q2:=((q1.ext e6).kl e7 b3.lt);refine y_lN (vs:=[(.int .i64 1),(.int .i64 0)]) ⟨((q2.ext e8).ext e9).cell rfl,((q2.ext e8).ext e9).cell rfl,trivial⟩ ?_;have q3:=((b5.ext e6).kl e7 b5.lt);refine y_lN (vs:=[(.int .i64 1),(.int .i64 1)]) ⟨((q3.ext e8).ext e9).cell rfl,((q3.ext e8).ext e9).cell rfl,trivial⟩ ?_;refine yOp (ox_mkSlice (ps:=[(0,(.agg #[(.int .i64 3),(.int .i64 0)])),(1,(.agg #[(.int .i64 1),(.int .i64 0)])),(2,(.agg #[(.int .i64 1),(.int .i64 1)]))]) (zs:=#[(.int .i64 0),(.int .i64 0),(.int .i64 0),(.int .i64 0),(.int .i64 0),(.int .i64 0)]) (cs:=#[(.int .i64 3),(.int .i64 0),(.int .i64 1),(.int .i64 0),(.int .i64 1),(.int .i64 1)]) tE_38.h rfl (by decide) (by kernel_rfl) (by kernel_rfl) ?_);intro w10 e10 z10 b10;replace b10:Blk w10 w9.heap.size #[(.int .i64 3),(.int .i64 0),(.int .i64 1),(.int .i64 0),(.int .i64 1),(.int .i64 1)] 75:=b10;refine yOp (ox_mkStruct (ps:=[(1,(.slice (some ⟨w9.heap.size,0,none⟩) 3 3))]) (cs:=#[(.int .i64 0),(.slice (some ⟨w9.heap.size,0,none⟩) 3 3)]) tZ_79.h tP_79.h rfl (by kernel_rfl) ?_);refine y_lN (vs:=[(.int .i64 1),(.int .i64 1)]) ⟨(((q3.ext e8).ext e9).ext e10).cell rfl,(((q3.ext e8).ext e9).ext e10).cell rfl,trivial⟩ ?_;refine yOp (ox_mkSlice (ps:=[(0,(.agg #[(.int .i64 1),(.int .i64 1)]))]) (zs:=#[(.int .i64 0),(.int .i64 0)]) (cs:=#[(.int .i64 1),(.int .i64 1)]) tE_38.h rfl (by decide) (by kernel_rfl) (by kernel_rfl) ?_);intro w11 e11 z11 b11;replace b11:Blk w11 w10.heap.size #[(.int .i64 1),(.int .i64 1)] 75:=b11;refine yOp (ox_mkStruct (ps:=[(1,(.slice (some ⟨w10.heap.size,0,none⟩) 1 1))]) (cs:=#[(.int .i64 0),(.slice (some ⟨w10.heap.size,0,none⟩) 1 1)]) tZ_79.h tP_79.h rfl (by kernel_rfl) ?_);refine yOp (ox_mkSlice (ps:=[(0,(.agg #[(.int .i64 0),(.slice (some ⟨w9.heap.size,0,none⟩) 3 3)])),(1,(.agg #[(.int .i64 0),(.slice (some ⟨w10.heap.size,0,none⟩) 1 1)]))]) (zs:=#[(.int .i64 0),(.slice none 0 0),(.int .i64 0),(.slice none 0 0)]) (cs:=#[(.int .i64 0),(.slice (some ⟨w9.heap.size,0,none⟩) 3 3),(.int .i64 0),(.slice (some ⟨w10.heap.size,0,none⟩) 1 1)]) tE_24.h rfl (by decide) (by kernel_rfl) (by kernel_rfl) ?_);intro w12 e12 z12 b12;replace b12:Blk w12 w11.heap.size #[(.int .i64 0),(.slice (some ⟨w9.heap.size,0,none⟩) 3 3),(.int .i64 0),(.slice (some ⟨w10.heap.size,0,none⟩) 1 1)] 79:=b12;refine yOp (ox_mkStruct (ps:=[(0,(.slice (some ⟨w7.heap.size,0,none⟩) 2 2)),(1,(.slice (some ⟨w8.heap.size,0,none⟩) 1 1)),(3,(.slice (some ⟨w11.heap.size,0,none⟩) 2 2))]) (cs:=#[(.slice (some ⟨w7.heap.size,0,none⟩) 2 2),(.slice (some ⟨w8.heap.size,0,none⟩) 1 1),(.int .i64 0),(.slice (some ⟨w11.heap.size,0,none⟩) 2 2)]) tZ_26.h tP_26.h rfl (by kernel_rfl) ?_);have q4:=((b1.ext e2).kb e3 b2);have q5:=((q4.ext e4).kb e5 b4);have q6:=((q5.ext e6).kb e7 b6);have q7:=(((((q6.ext e8).ext e9).ext e10).ext e11).ext e12);refine y_st q7 ?_;intro w13 e13 z13 b13;replace b13:Blk w13 w.heap.size #[(.slice (some ⟨w7.heap.size,0,none⟩) 2 2),(.slice (some ⟨w8.heap.size,0,none⟩) 1 1),(.int .i64 0),(.slice (some ⟨w11.heap.size,0,none⟩) 2 2)] 26:=blk_full b13 rfl
 refine go ?_;change leaves _ _ _ _ _ _ _;refine leaves_nil (n:=21) (rs:=[.cell 0 26]) (vs:=[(.agg #[(.slice (some ⟨w7.heap.size,0,none⟩) 2 2),(.slice (some ⟨w8.heap.size,0,none⟩) 1 1),(.int .i64 0),(.slice (some ⟨w11.heap.size,0,none⟩) 2 2)])]) rfl ⟨⟨by decide,w.heap.size,0,4,[(.slice (some ⟨w7.heap.size,0,none⟩) 2 2),(.slice (some ⟨w8.heap.size,0,none⟩) 1 1),(.int .i64 0),(.slice (some ⟨w11.heap.size,0,none⟩) 2 2)],rfl,tA_26.h,tS_26.h,rfl,⟨b13.cell rfl,b13.cell rfl,b13.cell rfl,b13.cell rfl,trivial⟩,rfl⟩,trivial⟩ ?_;have q8:=(((b10.ext e11).ext e12).kb e13 q7);have q9:=((b11.ext e12).kb e13 q7);have q10:=((((b8.ext e9).ext e10).ext e11).ext e12);have q11:=((((b9.ext e10).ext e11).ext e12).kb e13 q7)
 have hrow:∀y∈([⟨0,some ⟨w9.heap.size,0,none⟩,3,[⟨3,0⟩,⟨1,0⟩,⟨1,1⟩]⟩,⟨0,some ⟨w10.heap.size,0,none⟩,1,[⟨1,1⟩]⟩]:List PD),RowA w13 y.rA (y.right.flatMap Sym.cs)∧few 16 y.right.length y.rc:=by
   intro y hy;simp only [List.mem_cons,List.not_mem_nil,or_false] at hy;rcases hy with rfl|rfl;exact ⟨⟨fun _=>rfl,q8.cell rfl,q8.cell rfl,q8.cell rfl,q8.cell rfl,q8.cell rfl,q8.cell rfl,trivial⟩,(by show 3≤3;decide),(by show 3*16≤140737488355328;decide)⟩;exact ⟨⟨fun _=>rfl,q9.cell rfl,q9.cell rfl,trivial⟩,(by show 1≤1;decide),(by show 1*16≤140737488355328;decide)⟩
 have x1:Ext w w13:=(Xc (Xt (Xt (Xt (Xt (Xt (Xc (Xt (Xc (Xt (Xc (Xt e1 e2) e3) e4) e5) e6) e7) e8) e9) e10) e11) e12) e13);refine ⟨⟨some ⟨w7.heap.size,0,none⟩,2,[⟨⟨#[112,108,117,115]⟩,false,exZero⟩,⟨⟨#[120]⟩,false,exZero⟩],some ⟨w8.heap.size,0,none⟩,1,[⟨#[83]⟩],0,some ⟨w11.heap.size,0,none⟩,2,[⟨0,some ⟨w9.heap.size,0,none⟩,3,[⟨3,0⟩,⟨1,0⟩,⟨1,1⟩]⟩,⟨0,some ⟨w10.heap.size,0,none⟩,1,[⟨1,1⟩]⟩]⟩,rfl,⟨⟨fun _=>rfl,(q10.kb e13 q7).cell rfl,(q10.kb e13 q7).cell rfl,(q10.kb e13 q7).cell rfl,(q10.kb e13 q7).cell rfl,(q10.kb e13 q7).cell rfl,(q10.kb e13 q7).cell rfl,(q10.kb e13 q7).cell rfl,(q10.kb e13 q7).cell rfl,(q10.kb e13 q7).cell rfl,(q10.kb e13 q7).cell rfl,(q10.kb e13 q7).cell rfl,(q10.kb e13 q7).cell rfl,(q10.kb e13 q7).cell rfl,(q10.kb e13 q7).cell rfl,(q10.kb e13 q7).cell rfl,(q10.kb e13 q7).cell rfl,trivial⟩,⟨fun _=>rfl,q11.cell rfl,trivial⟩,⟨fun _=>rfl,(b12.kb e13 q7).cell rfl,(b12.kb e13 q7).cell rfl,(b12.kb e13 q7).cell rfl,(b12.kb e13 q7).cell rfl,trivial⟩,fun y hy=>?_,fun y hy=>(hrow y hy).1,⟨by show 2≤2;decide,by show 2*88≤140737488355328;decide⟩,⟨by show 1≤1;decide,by show 1*16≤140737488355328;decide⟩,⟨by show 2≤2;decide,by show 2*32≤140737488355328;decide⟩,fun y hy=>(hrow y hy).2⟩,rfl,x1⟩;simp only [List.mem_cons,List.not_mem_nil,or_false] at hy;rcases hy with rfl|rfl<;>exact ⟨rfl,⟨by decide,by decide⟩,trivial⟩
theorem sums_builtG:builtG sumsD=some sumsA:=by unfold builtG;rw [if_pos (by rw [sums_check]),sums_built]
theorem sb_build(s:SP)(w:World)(hS:SpR w s)(hg:s.g=sumsD)(hT:TabP w):Calls Tryz.prog 57 #[(.agg #[(.slice s.lA s.lex.length s.lc),(.slice s.nA s.names.length s.nc),(.int .i64 s.start),(.slice s.pA s.prods.length s.pc)])] w (Ret fun v w'=>∃ba,v = .tuple #[.pointer (some ⟨ba,0,none⟩),.agg #[.int .i64 0,.int .i64 0,.string ⟨#[]⟩]]∧AutX w.heap.size w' s ba sumsA∧Ext w w'):=by
  refine ret_mono (build_calls2 s w hS hT) ?_;rintro v w' ⟨p,k,a,rfl,h2,⟨_,_,h⟩|⟨rfl,rfl,ba,st,rfl,h7,h8⟩⟩;rw [hg,sums_builtG] at h;cases h;rw [hg,sums_builtG] at h7;cases h7;exact ⟨ba,rfl,h8,h2⟩
section
variable {B B0:Nat}{w:World}{s:SP}{ba tb:Nat}
theorem sb_make(hX:AutX B0 w s ba sumsA)(hg:s.g=sumsD):Calls Tryz.prog 17 #[.pointer (some ⟨ba,0,none⟩)] w (Ret fun v w'=>∃tb,v = .tuple #[.pointer (some ⟨tb,0,none⟩),.int .i64 0]∧TabX w.heap.size w' s ba sumsA tb∧Ext w w'):=by
  refine ret_mono (makeX_calls hX (by rw [hg,sums_check])) ?_;rintro v w' ⟨h1,⟨h2,_⟩|⟨_,tb,rfl,h5⟩⟩;exact absurd (by rw [hg];exact sums_none) h2;exact ⟨tb,rfl,h5,h1⟩
theorem sb_all(hX:AutX B0 w s ba sumsA)(hg:s.g=sumsD):Calls Tryz.prog 18 #[.pointer (some ⟨ba,0,none⟩)] w (Ret fun v w'=>∃cA cc,v = .slice cA 0 cc∧Ext w w'):=by
  refine ret_mono (allX_calls hX (by rw [hg,sums_check])) ?_;rintro v w' ⟨C,cA,cc,rfl,_,_,_,h5,h6⟩;have h9:C = []:=List.map_eq_nil_iff.1 (by rw [h5,hg];exact sums_none);subst h9;exact ⟨cA,cc,rfl,h6⟩
theorem sb_act(h:TabX B w s ba sumsA tb)(hg:s.g=sumsD):Calls Tryz.prog 23 #[.pointer (some ⟨tb,0,none⟩),.int .i64 0,.int .i64 1] w (Ret fun v w'=>v = .agg #[.int .i64 1,.int .i64 sumsN]∧Ext w w'):=by
  refine ret_mono (tab_action h 0 1) ?_;rintro v w' ⟨rfl,h2⟩;rw [hg,actsC_is sums_aut,sums_act];exact ⟨rfl,h2⟩
theorem sb_goto(h:TabX B w s ba sumsA tb)(hg:s.g=sumsD):Calls Tryz.prog 39 #[.pointer (some ⟨tb,0,none⟩),.int .i64 0,.int .i64 0] w (Ret fun v w'=>v = .int .i64 (gotoZ (gosG sumsD sumsA) 0 0)∧Ext w w'):=by
  refine ret_mono (tab_goto h 0 0) ?_;rintro v w' ⟨rfl,h2⟩;rw [hg];exact ⟨rfl,h2⟩
theorem RowA.of_blk9{w:World}{b t:Nat}{x y:Int}(h:Blk w b #[.int .i64 x,.int .i64 y] t):RowA w (some ⟨b,0,none⟩) (([x,y]:List Int).flatMap ints):=⟨fun _=>rfl,h.cell rfl,h.cell rfl,trivial⟩
theorem sb_run{b t:Nat}(h:TabX B w s ba sumsA tb)(hX:AutX B0 w s ba sumsA)(hg:s.g=sumsD)(hb:Blk w b #[.int .i64 0,.int .i64 sumsN] t):Calls Tryz.prog 26 #[.pointer (some ⟨tb,0,none⟩),.slice (some ⟨b,0,none⟩) 2 2,.int .i64 0] w (Ret fun v w'=>∃A' c',v = .tuple #[.slice A' 1 c',.bool true]∧Vx.Own w' 3 1 (.slice A' 1 c') 1 (([1]:List Int).flatMap ints)∧Ext w w'):=by
  refine ret_mono (tab_run h hX [0,sumsN] (some ⟨b,0,none⟩) 2 0 100 ([1],true) (RowA.of_blk9 hb) (by decide) (by decide) (by decide) (fun _ top ht=>by cases ht;rw [hg,actsC_is sums_aut];exact sums_run)) ?_;rintro v w' ⟨A',c',rfl,h2,h3⟩;rw [sums_right] at h2 ⊢;exact ⟨A',c',rfl,h2.1,h3⟩
end
theorem fS_65:flatS Tryz.prog 65 [.int .i64,.int .i64,.str]=true:=by kernel_rfl
instance pf_109:PlF Tryz.prog 109 where
instance pf_17:PlF Tryz.prog 17 where
instance pf_18:PlF Tryz.prog 18 where
instance pf_26:PlF Tryz.prog 26 where
instance pf_39:PlF Tryz.prog 39 where
instance pf_57:PlF Tryz.prog 57 where
instance tU_27:UnP Tryz.prog 27 154 where
instance tU_31:UnP Tryz.prog 31 129 where
instance tU_35:UnS Tryz.prog 35 41 where
theorem head9_calls  (w:World) (hT:TabP w) :
    Calls Tryz.prog 59 #[] w (Ret (fun v w'=>v = .bool true∧Ext w w')):=by
 refine calls_y (n:=69) Tryz.func59 ?_;refine go ?_;refine yCa (ret_mono (sums9_calls w) ?_);rintro _ w1 ⟨s,rfl,hS,hg,e1⟩;have he1:=e1.size;refine yCa (ret_mono (sb_build s w1 hS hg (TabIs.ext hT e1)) ?_);rintro _ w2 ⟨ba,rfl,hX,e2⟩;have he2:=e2.size;have hck:(checkE s.g).1=0:=by rw [hg,sums_check]
 refine go ?_;refine y_al ?_;intro w3 e3 z1 b1;refine go ?_;refine y_st b1 ?_;intro w4 e4 z2 b2;replace b2:Blk w4 w2.heap.size #[(.int .i64 0),(.int .i64 0),(.string (⟨#[]⟩))] 65:=blk_full b2 rfl;refine go ?_;refine yOp (ox_eqlNil (p:=(some ⟨ba,0,none⟩:Option Addr)) (q:=none) tU_27.h rfl rfl (.inr rfl) ?_);refine go ?_;refine ysL (s:=15) (bF (decide_eq_false (by simp))) ?_;refine y_lN (vs:=[(.int .i64 0),(.int .i64 0),(.string (⟨#[]⟩))]) ⟨b2.cell rfl,b2.cell rfl,b2.cell rfl,trivial⟩ ?_;refine yOp (ox_mkStruct (ps:=[]) (cs:=#[(.int .i64 0),(.int .i64 0),(.string (⟨#[]⟩))]) tZ_65.h tP_65.h rfl (by kernel_rfl) ?_);refine yOp (ox_neqF (xs:=[(.int .i64 0),(.int .i64 0),(.string (⟨#[]⟩))]) (ys:=[(.int .i64 0),(.int .i64 0),(.string (⟨#[]⟩))]) (p:=((0:Int)=0∧(0:Int)=0∧(⟨#[]⟩:ByteArray)=(⟨#[]⟩))) fS_65 rfl rfl rfl rfl (by simp) ?_);refine go ?_;refine ysC (s:=19) (bF (by simp:(!decide (((0:Int)=0∧(0:Int)=0∧(⟨#[]⟩:ByteArray)=(⟨#[]⟩))))=false)) ?_;have x1:Ext w2 w4:=(Xc e3 e4);refine go ?_;refine yCa (ret_mono (sb_make (hX.ext x1) hg) ?_);rintro _ w5 ⟨tb,rfl,hTb,e5⟩;have he5:=e5.size;refine go ?_;refine yOp (ox_eqlNil (p:=(some ⟨tb,0,none⟩:Option Addr)) (q:=none) tU_31.h rfl rfl (.inr rfl) ?_);refine go ?_;refine ysL (s:=27) (bF (decide_eq_false (by simp))) ?_;refine go ?_;refine ysL (s:=31) (bF (by decide:decide ((0:Int)≠0)=false)) ?_;have x2:Ext w2 w5:=(Xt x1 e5);refine go ?_;refine yCa (ret_mono (sb_all (hX.ext x2) hg) ?_);rintro _ w6 ⟨cA,cc,rfl,e6⟩;have he6:=e6.size;refine go ?_;refine ysC (s:=36) (bF (by decide:decide ((0:Int)≠0)=false)) ?_;refine go ?_;refine yCa (ret_mono (sb_act (hTb.ext e6) hg) ?_);rintro _ w7 ⟨rfl,e7⟩;have he7:=e7.size;refine y_al ?_;intro w8 e8 z3 b3;refine y_st b3 ?_;intro w9 e9 z4 b4;replace b4:Blk w9 w7.heap.size #[(.int .i64 1),(.int .i64 sumsN)] 55:=blk_full b4 rfl;refine go ?_;refine y_ld b4 ?_;refine yOp (ox_mkSlice (ps:=[(0,(.int .i64 0)),(1,(.int .i64 sumsN))]) (zs:=#[(.int .i64 0),(.int .i64 0)]) (cs:=#[(.int .i64 0),(.int .i64 sumsN)]) tE_39.h rfl (by decide) (by kernel_rfl) (by kernel_rfl) ?_);intro w10 e10 z5 b5;replace b5:Blk w10 w9.heap.size #[(.int .i64 0),(.int .i64 sumsN)] 3:=b5;have x3:Ext w5 w10:=(Xt (Xc (Xt (Xt e6 e7) e8) e9) e10);have x4:Ext w2 w10:=(Xt (Xc (Xt (Xt (Xt x2 e6) e7) e8) e9) e10);refine yCa (ret_mono (sb_run (hTb.ext x3) (hX.ext x4) hg b5) ?_);rintro _ w11 ⟨A9,c9,rfl,hr,e11⟩;have he11:=e11.size;refine go ?_;refine y_ld ((b4.ext e10).ext e11) ?_;refine go ?_;refine ysL (s:=50) (bT (by decide:decide ((1:Int)=1)=true)) ?_;refine go ?_;refine ysL (s:=58) (bT (by decide:decide ((1:Int)=1)=true)) ?_;obtain ⟨x_1,g_1,hx_1⟩:=own_may (A:=A9) 0 ints_len (by decide) hr;obtain ⟨hx_2,hA_1,hc_1⟩:=hx_1 oM;refine go ?_;refine y_ix 0 hA_1 ?_;refine y_lc (CellsL.at1 hc_1 0 rfl) ?_;refine go ?_;by_cases h1:(x_1:Int)=1;refine ysL (s:=64) (bT (decide_eq_true h1)) ?_;have x5:Ext w5 w11:=(Xt x3 e11);refine go ?_;refine yCa (ret_mono (sb_goto (hTb.ext x5) hg) ?_);rintro _ w12 ⟨rfl,e12⟩;have he12:=e12.size;refine go ?_;refine y_r1 ?_
 have x6:Ext w w12:=(Xt (Xt (Xt (Xc (Xt (Xt (Xt (Xt (Xc (Xt (Xt e1 e2) e3) e4) e5) e6) e7) e8) e9) e10) e11) e12);exact ⟨congrArg Value.bool sums_goto,x6⟩;refine ysL (s:=64) (bF (decide_eq_false h1)) ?_;refine go ?_;refine y_r1 ?_;exact absurd (show (x_1:Int)=1 by have h9:=hx_2;cases h9;rfl) h1
theorem make9{B0:Nat}{w:World}{s0:SP}{ba:Nat}{st:List ASt}(hX:AutX B0 w s0 ba st)(hck:(checkE s0.g).1=0):Calls Tryz.prog 17 #[.pointer (some ⟨ba,0,none⟩)] w (Ret fun v w'=>∃(q:Option Addr) (e:Int),v = .tuple #[.pointer q,.int .i64 e]∧Ext w w'∧((allG s0.g st≠[]∧q=none∧e=90)∨(allG s0.g st = []∧e=0∧∃tb,q=some ⟨tb,0,none⟩∧TabX w.heap.size w' s0 ba st tb))):=by
  refine ret_mono (makeX_calls hX hck) ?_;rintro v w' ⟨h1,⟨h2,rfl⟩|⟨h2,tb,rfl,h3⟩⟩;exact ⟨none,90,rfl,h1,.inl ⟨h2,rfl,rfl⟩⟩;exact ⟨_,0,rfl,h1,.inr ⟨h2,rfl,tb,rfl,h3⟩⟩
theorem check_few(s:SP)(h:(checkE s.g).1=0):s.lex.length≤64∧s.names.length≤128∧s.prods.length≤512:=by
  have h1:=GoodL.of h;have h2:=h1.names;have h3:=h1.prods;have h4:=h1.triv;have h5:=s.glex;have h6:=s.gprods;have h7:s.g.names=s.names.length:=rfl;omega
instance pf_30:PlF Tryz.prog 30 where
instance pf_59:PlF Tryz.prog 59 where
theorem build9_calls(s:SP)(w:World)(hS:SpR w s)(hT:TabP w) :
    Calls Tryz.prog 28 #[(.agg #[(.slice s.lA s.lex.length s.lc),(.slice s.nA s.names.length s.nc),(.int .i64 s.start),(.slice s.pA s.prods.length s.pc)])] w (Ret (fun v w'=>∃(p q:Option Addr),v = .tuple #[.pointer p,.pointer q,.bool true]∧Ext w w'∧((p=none∧q=none∧builtG s.g=none)∨∃(s1:SP) (ba:Nat) (st:List ASt) (B9 B8:Nat),p=some ⟨ba,0,none⟩∧w.heap.size≤B9∧w.heap.size≤B8∧s1.g=s.g∧(checkE s1.g).1=0∧builtG s.g=some st∧AutX B9 w' s1 ba st∧((allG s.g st≠[]∧q=none)∨(allG s.g st = []∧∃tb,q=some ⟨tb,0,none⟩∧TabX B8 w' s1 ba st tb))))):=by
 refine calls_y (n:=39) Tryz.func28 ?_;refine go ?_;refine y_bx ?_;intro w1 e1 z1 b1;refine go ?_;refine y_lN (vs:=[(.slice s.lA s.lex.length s.lc),(.slice s.nA s.names.length s.nc),(.int .i64 s.start),(.slice s.pA s.prods.length s.pc)]) ⟨b1.cell rfl,b1.cell rfl,b1.cell rfl,b1.cell rfl,trivial⟩ ?_;refine yCa (ret_mono (twin9_calls s w1 (hS.ext e1)) ?_);rintro _ w2 ⟨s1,rfl,hTw,e2⟩;have he2:=e2.size;have x1:Ext w w2:=(Xt e1 e2);have hS1:=hTw.spr (hS.ext x1);have hg1:=hTw.g;refine yCa (ret_mono (build_calls2 s1 w2 hS1 (TabIs.ext hT x1)) ?_);rintro _ w3 ⟨p1,k1,a1,rfl,e3,hb1⟩;have he3:=e3.size;refine go ?_;refine y_al ?_;intro w4 e4 z2 b2;refine go ?_;refine y_st b2 ?_;intro w5 e5 z3 b3;replace b3:Blk w5 w3.heap.size #[(.int .i64 k1),(.int .i64 a1),(.string (⟨#[]⟩))] 65:=blk_full b3 rfl;refine go ?_;refine yOp (ox_eqlNil (p:=p1) (q:=none) tU_27.h rfl rfl (.inr rfl) ?_);refine go ?_;by_cases h1:p1=none;refine ysL (s:=17) (bT (decide_eq_true h1)) ?_;refine go ?_;refine xc_regionE [] (fun W_=>Chg (fun _=>False) w5 W_) hmix ?_;intro w6 e6 z4;have hS1:Chg (fun _=>False) w5 w6:=Ext.to e6;have x2:Ext w w6:=(Xt (Xc (Xt (Xt x1 e3) e4) e5) e6);refine yD1 (i:=0) rfl (yCx (ret_mono (head9_calls w6 (TabIs.ext hT x2)) ?_));rintro _ w7 ⟨rfl,e7⟩;have he7:=e7.size;have hS2:Chg (fun _=>False) w5 w7:=Chg.ext hS1 e7;refine ⟨.inr fun _=>hS2,?_⟩;refine yDp 1 ?_;refine yDp 2 ?_;refine yDt (i:=3) rfl hS2 (fun W_ hW_=>ox_load tA_32.h rfl ((b3.ext hW_).cell rfl) ⟨rfl,rfl⟩) ?_;refine yDp 4 ?_;refine yDp 5 ?_;refine yDp 6 ?_;refine yDp 7 ?_;refine yDp 8 ?_;refine xd_done (by kernel_rfl) ?_ _;refine go ?_;refine y_r3 ?_;obtain ⟨hk8,hp8,hb8⟩:=hb1.resolve_right (fun ⟨_,_,ba,_,h8,_⟩=>by rw [h8] at h1;cases h1);have x3:Ext w w7:=(Xt x2 e7);exact ⟨none,none,congrArg (fun b:Bool=>Value.tuple #[.pointer none,.pointer none,.bool b]) (decide_eq_true hk8),x3,.inl ⟨rfl,rfl,by rw [←hg1];exact hb8⟩⟩;have hk9:¬(k1≠0∧p1=none∧builtG s1.g=none):=fun h9=>h1 h9.2.1
 obtain ⟨rfl,rfl,ba,st,rfl,hbu,hX⟩:=hb1.resolve_left hk9
 have hck:(checkE s1.g).1=0:=by
   have h9:=hbu;unfold builtG at h9
   split at h9
   assumption
   cases h9
 refine ysL (s:=17) (bF (decide_eq_false h1)) ?_;have x4:Ext w w5:=(Xc (Xt (Xt x1 e3) e4) e5);refine yCa (ret_mono (head9_calls w5 (TabIs.ext hT x4)) ?_);rintro _ w8 ⟨rfl,e8⟩;have he8:=e8.size;have x5:Ext w3 w8:=(Xt (Xc e4 e5) e8);refine go ?_;refine yCa (ret_mono (make9 (AutX.ext hX x5) hck) ?_);rintro _ w9 ⟨q,ee,rfl,e9,hq⟩;have he9:=e9.size;refine go ?_;refine yOp (ox_eqlNil (p:=q) (q:=none) tU_31.h rfl rfl (.inr rfl) ?_);refine go ?_;refine yOp (ox_eqlBool (a:=((decide (q=none)))) (b:=((decide ((ee:Int)≠0)))) tU_4 rfl rfl ?_);refine go ?_;refine y_r3 ?_;have hX9:=(AutX.ext (AutX.ext hX x5) e9);have x6:Ext w w9:=(Xt (Xt x4 e8) e9);rcases hq with ⟨hn,rfl,rfl⟩|⟨hn,rfl,tb,rfl,hTb⟩;exact ⟨_,none,rfl,x6,.inr ⟨s1,ba,st,w2.heap.size,w.heap.size,rfl,by omega,Nat.le_refl _,hg1,hck,by rw [←hg1];exact hbu,hX9,.inl ⟨by rw [←hg1];exact hn,rfl⟩⟩⟩;exact ⟨_,some ⟨tb,0,none⟩,rfl,x6,.inr ⟨s1,ba,st,w2.heap.size,w8.heap.size,rfl,by omega,by omega,hg1,hck,by rw [←hg1];exact hbu,hX9,.inr ⟨by rw [←hg1];exact hn,tb,rfl,hTb⟩⟩⟩
inductive ET(g:GD):List Sym→Nat→Prop
  | nil:ET g [] 0
  | cons {z:Sym} {l:List Sym} {j:Nat} {p:P2} {a b:Nat} : z.kind=3→g.prods[j]?=some p→p.1=z.n→ET g p.2 a→ET g l b→ET g (z::l) (a+1+b)
theorem ET.append{g:GD}{l m:List Sym}{a b:Nat}(h:ET g l a)(h2:ET g m b):ET g (l++m) (a+b):=by
  induction h with
  | nil=>rw [Nat.zero_add];exact h2
  | @cons z l j p a b' hk hj hp h1 h3 _ ih =>
    have:=ET.cons hk hj hp h1 ih;rw [List.cons_append,show a+1+b'+b=a+1+(b'+b) by omega];exact this
theorem ET.nul{g:GD}(hG:GoodG g){l:List Sym}{a:Nat}(h:ET g l a):∀y∈l,nulS g y:=by
  induction h with
  | nil=>intro y hy;cases hy
  | @cons z l j p a b hk hj hp h1 h3 ih1 ih2 =>
    intro y hy;rcases List.mem_cons.1 hy with rfl|hy;have h9:=madeG_closed (fun _=>false) hG p (List.mem_of_getElem? hj) ih1;unfold nulS okS;rw [if_pos hk,←hp];exact h9;exact ih2 y hy
def TreeI(g:GD)(h:List Int):Prop:=h.length=g.names∧∀(i:Nat) (v:Int),h[i]?=some v→v≤256→∃n:Nat,(n:Int)≤v∧ET g [⟨3,(i:Nat)⟩] n
theorem sumR_tree{g:GD}{h:List Int}(hI:TreeI g h):∀(l:List Sym) (n:Int),0≤n→(∀x∈l,symE g x=0)→sumR (fun _=>257) 256 h l n≤256→∃m:Nat,ET g l m∧n+(m:Int)≤sumR (fun _=>257) 256 h l n
  | [],n,_,_,_=>⟨0,.nil,by rw [sumR];omega⟩
  | x::r,n,hn,hs,hle=>by
    rw [sumR] at hle ⊢;have hx:=hs x List.mem_cons_self;by_cases hk:x.kind=3;have hr:=symE_name hx hk
    have hv:h[x.n.toNat]?=some h[x.n.toNat]!:=by
      rw [List.getElem!_eq_getElem?_getD];rw [List.getElem?_eq_getElem (by have:=hI.1;omega)];rfl
    rw [if_pos hk] at hle ⊢
    generalize hc:h[x.n.toNat]! = c at hle hv ⊢
    by_cases hcc:c≤256;obtain ⟨n1,h1,h2⟩:=hI.2 _ _ hv hcc;by_cases ho:256+1<n+c;rw [if_pos ho] at hle;obtain ⟨m,_,h4⟩:=sumR_tree hI r (256+1) (by omega) (fun y hy=>hs y (List.mem_cons_of_mem _ hy)) hle;omega;rw [if_neg ho] at hle ⊢;obtain ⟨m,h3,h4⟩:=sumR_tree hI r (n+c) (by omega) (fun y hy=>hs y (List.mem_cons_of_mem _ hy)) hle;refine ⟨n1+m,?_,by omega⟩;have h5:=ET.append h2 h3;have h6:x=⟨3,((x.n.toNat:Nat):Int)⟩:=by rw [Int.toNat_of_nonneg hr.1];exact Sym.name hk
    rw [h6];exact h5;exfalso
    split at hle
    obtain ⟨m,_,h4⟩:=sumR_tree hI r (256+1) (by omega) (fun y hy=>hs y (List.mem_cons_of_mem _ hy)) hle;omega;obtain ⟨m,_,h4⟩:=sumR_tree hI r (n+c) (by omega) (fun y hy=>hs y (List.mem_cons_of_mem _ hy)) hle;omega;exfalso;rw [if_neg hk] at hle
    split at hle
    obtain ⟨m,_,h4⟩:=sumR_tree hI r (256+1) (by omega) (fun y hy=>hs y (List.mem_cons_of_mem _ hy)) hle;omega;obtain ⟨m,_,h4⟩:=sumR_tree hI r (n+257) (by omega) (fun y hy=>hs y (List.mem_cons_of_mem _ hy)) hle;omega
theorem stepS_tree{g:GD}(hG:GoodG g):∀(l:List P2) (h:List Int) (b:Bool),(∀p∈l,p∈g.prods)→TreeI g h→TreeI g (stepS 1 256 (fun _=>257) l h b).1
  | [],h,b,_,hI=>hI
  | p::r,h,b,hl,hI=>by
    simp only [stepS]
    split
    rename_i hc;refine stepS_tree hG r _ _ (fun q hq=>hl q (List.mem_cons_of_mem _ hq)) ⟨by rw [List.length_set];exact hI.1,fun i v hv hv2=>?_⟩;have hp:=hl p List.mem_cons_self;by_cases hi:i=p.1.toNat;subst hi;have hlt:=(List.getElem?_eq_some_iff.1 hv).1;rw [List.length_set] at hlt;rw [List.getElem?_set_self hlt] at hv;cases hv;obtain ⟨m,h1,h2⟩:=sumR_tree hI p.2 1 (by omega) (hG.2 p hp).2.2 hv2;obtain ⟨j,hj⟩:=List.mem_iff_getElem?.1 hp;refine ⟨m+1,by omega,?_⟩;have:=ET.cons (z:=⟨3,((p.1.toNat:Nat):Int)⟩) rfl hj (by have:=(hG.2 p hp).1;simp only;omega) h1 .nil;exact this;rw [List.getElem?_set_ne (fun h9=>hi h9.symm)] at hv;exact hI.2 i v hv hv2;exact stepS_tree hG r h b (fun q hq=>hl q (List.mem_cons_of_mem _ hq)) hI
theorem sums_tree{g:GD}(hG:GoodG g):TreeI g (sumsG 1 256 (fun _=>257) g):=by
  unfold sumsG;refine fixN_inv (P:=TreeI g) (fun h hh=>stepS_tree hG g.prods h false (fun p hp=>hp) hh) _ _ ⟨List.length_replicate,fun i v hv hv2=>?_⟩;rw [List.getElem?_replicate] at hv
  split at hv
  cases hv;omega;cases hv
theorem fullR_neg:∀(a:List Bool) (b:List Int) (k:Nat),¬0≤fullR a b k→∀(i:Nat) (v:Int),a[i]?=some true→b[i]?=some v→v≤256
  | [],_,_,_,i,v,h1,_=>by simp at h1
  | _::_,[],_,_,i,v,_,h2=>by simp at h2
  | x::a,y::b,k,hn,i,v,h1,h2=>by
    rw [fullR] at hn
    split at hn
    omega;rename_i hc
    cases i with
    | zero =>
      simp only [List.getElem?_cons_zero,Option.some.injEq] at h1 h2;subst h1;subst h2;have:¬256<y:=fun h9=>hc ⟨rfl,h9⟩
      omega
    | succ i=>exact fullR_neg a b (k+1) hn i v (by simpa using h1) (by simpa using h2)
theorem check_full{g:GD}(hc:(checkE g).1=0):¬0≤fullR (madeG (fun _=>false) g) (sumsG 1 256 (fun _=>257) g) 0:=by
  unfold checkE at hc
  split at hc
  exact absurd hc (by decide)
  split at hc
  rename_i h9;exact absurd hc h9
  split at hc
  rename_i h9;exact absurd hc h9
  split at hc
  simp at hc
  split at hc
  simp at hc
  assumption
theorem nul_tree{g:GD}(hc:(checkE g).1=0){C:Int}(hz:nulS g ⟨3,C⟩)(h0:0≤C)(h1:C<(g.names:Int)):∃n,n≤256∧ET g [⟨3,C⟩] n:=by
  have hG:=(GoodL.of hc).good;have hT:=sums_tree hG
  have hv:(sumsG 1 256 (fun _=>257) g)[C.toNat]?=some ((sumsG 1 256 (fun _=>257) g)[C.toNat]!):=by
    rw [List.getElem!_eq_getElem?_getD,List.getElem?_eq_getElem (by have:=hT.1;omega)];rfl
  have ha:(madeG (fun _=>false) g)[C.toNat]?=some true:=by
    unfold nulS okS at hz;rw [if_pos rfl] at hz;have h2:=madeG_len (fun _=>false) g;unfold emG at hz;have h3:C.toNat<(madeG (fun _=>false) g).length:=by omega
    have hz2:(madeG (fun _=>false) g)[C.toNat]! = true:=hz;rw [List.getElem!_eq_getElem?_getD,List.getElem?_eq_getElem h3] at hz2;rw [List.getElem?_eq_getElem h3];exact congrArg some hz2
  have hle:=fullR_neg _ _ 0 (check_full hc) _ _ ha hv;obtain ⟨n,h2,h3⟩:=hT.2 _ _ hv hle;refine ⟨n,by omega,?_⟩;rw [Int.toNat_of_nonneg h0] at h3;exact h3
inductive Red(g:GD)(st:List ASt)(t:Int)(F:Nat):List Int→List Int→List Int→Prop
  | nil {s:List Int} : Red g st t F s [] s
  | cons {top q:Int} {s r os s2:List Int} {j:Nat} {p:P2} : actZ (actsG g st) top t=(2,((j:Nat):Int))→g.prods[j]?=some p→(top::s).drop p.2.length=q::r→F≤r.length+1→Red g st t F (goS st q ⟨3,p.1⟩::q::r) os s2→Red g st t F (top::s) (((j:Nat):Int)::os) s2
def Halt(g:GD)(st:List ASt)(t:Int):List Int→Prop
  | []=>False
  | top::_=>(actZ (actsG g st) top t).1≠2
section
variable {g:GD}{st:List ASt}{t:Int}{F F':Nat}{s s1 s2 os os1 os2:List Int}
theorem Red.trans(h1:Red g st t F s os1 s1)(h2:Red g st t F s1 os2 s2):Red g st t F s (os1++os2) s2:=by
  induction h1 with
  | nil=>exact h2
  | cons a b c d _ ih=>exact .cons a b c d (ih h2)
theorem Red.mono(h1:Red g st t F s os s1)(hF:F'≤F):Red g st t F' s os s1:=by
  induction h1 with
  | nil=>exact .nil
  | cons a b c d _ ih=>exact .cons a b c (Nat.le_trans hF d) ih
theorem Red.floor(h1:Red g st t F s os s1)(hl:F<s.length):F<s1.length:=by
  induction h1 with
  | nil=>exact hl
  | cons a b c d _ ih=>exact ih (by simp only [List.length_cons];omega)
theorem Red.det(h1:Red g st t F s os s2):∀ {os1 s1:List Int},Red g st t F' s os1 s1→(∃os',os=os1++os'∧Red g st t F s os1 s1∧Red g st t F s1 os' s2)∨∃os',os1=os++os'∧Red g st t F' s2 os' s1:=by
  induction h1 with
  | nil=>intro os1 s1 h;exact .inr ⟨os1,rfl,h⟩
  | @cons top q s r os s2 j p a b c d e ih =>
    intro os1 s1 h
    cases h with
    | nil=>exact .inl ⟨_,rfl,.nil,.cons a b c d e⟩
    | @cons _ q' _ r' os1' _ j' p' a' b' c' d' e' =>
      have hj:j'=j:=by rw [a] at a';have:=congrArg Prod.snd a';simp only at this;omega
      subst hj;rw [b] at b';cases b';rw [c] at c';cases c';rcases ih e' with ⟨os',h2,h3,h4⟩|⟨os',h2,h3⟩;exact .inl ⟨os',by rw [h2];rfl,.cons a b c d h3,h4⟩;exact .inr ⟨os',by rw [h2];rfl,h3⟩
theorem Red.go(h1:Red g st t F s os s2)(hne:os≠[]):¬Halt g st t s:=by
  cases h1 with
  | nil=>exact absurd rfl hne
  | cons a b c d e=>intro h;exact h (by rw [a])
theorem Red.cyc(h1:Red g st t F s os s)(hne:os≠[])(hl:F<s.length):∀(n:Nat) (os1 s1:List Int),os1.length≤n→Red g st t 0 s os1 s1→F<s1.length∧¬Halt g st t s1:=by
  intro n
  induction n using Nat.strongRecOn with
  | ind n ih =>
    intro os1 s1 hn h2;rcases h1.det h2 with ⟨os',h3,h4,h5⟩|⟨os',h3,h4⟩;refine ⟨h4.floor hl,?_⟩;by_cases ho:os' = [];subst ho;cases h5;exact h1.go hne;exact h5.go ho
    have hlen:os'.length<os1.length:=by
      rw [h3,List.length_append];have:=List.length_pos_iff.2 hne;omega
    exact ih os'.length (by omega) os' s1 (Nat.le_refl _) h4
theorem Red.halt_det(h1:Red g st t F s os s1)(hh:Halt g st t s1)(h2:Red g st t F' s os2 s2)(hh2:Halt g st t s2):os=os2∧s1=s2:=by
  rcases h1.det h2 with ⟨os',h3,_,h5⟩|⟨os',h3,h5⟩;by_cases ho:os' = [];subst ho;cases h5;exact ⟨by rw [h3,List.append_nil],rfl⟩;exact absurd hh2 (h5.go ho);by_cases ho:os' = [];subst ho;cases h5;exact ⟨by rw [h3,List.append_nil],rfl⟩;exact absurd hh (h5.go ho)
end
theorem nodup_len:∀(N:Nat) (l:List Nat),l.Nodup→(∀x∈l,x<N)→l.length≤N
  | 0,l,_,h=>by
    cases l with
    | nil=>exact Nat.le_refl _
    | cons x r=>exact absurd (h x List.mem_cons_self) (by omega)
  | N+1,l,hn,h=>by
    have h1:=nodup_len N (l.erase N) (hn.erase N) (fun x hx=>by
      have h2:=h x (List.mem_of_mem_erase hx);have h3:x≠N:=fun h9=>by subst h9;exact absurd hx (hn.not_mem_erase)
      omega)
    by_cases hm:N∈l;rw [List.length_erase_of_mem hm] at h1;omega;rw [List.erase_of_not_mem hm] at h1;omega
theorem short{P:Nat→Nat→Prop}{N:Nat}(hN:∀k m,P k m→m<N)(hs:∀k m,P (k+1) m→∃m',P k m'∧∀k',P k' m'→P (k'+1) m){k m:Nat}(h:P k m):∃k',k'<N∧P k' m:=by
  have hmin:∀k,P k m→∃k0,P k0 m∧∀k'<k0,¬P k' m:=by
    intro k
    induction k using Nat.strongRecOn with
    | ind k ih =>
      intro hk;by_cases hx:∃k',k'<k∧P k' m;obtain ⟨k',h1,h2⟩:=hx;exact ih k' h1 h2;exact ⟨k,hk,fun k' h1 h2=>hx ⟨k',h1,h2⟩⟩
  have way:∀(k m:Nat),P k m→(∀k'<k,¬P k' m)→∃l:List Nat,l.length=k+1∧l.Nodup∧∀x∈l,x<N∧∃k',k'≤k∧P k' x:=by
    intro k
    induction k with
    | zero=>intro m h _;exact ⟨[m],rfl,by simp,fun x hx=>by rw [List.mem_singleton] at hx;subst hx;exact ⟨hN _ _ h,0,Nat.le_refl _,h⟩⟩
    | succ k ih =>
      intro m h hm;obtain ⟨m',h1,h2⟩:=hs k m h;obtain ⟨l,e1,e2,e3⟩:=ih m' h1 (fun k' hk' h9=>hm (k'+1) (by omega) (h2 k' h9));refine ⟨m::l,by rw [List.length_cons,e1],List.nodup_cons.2 ⟨fun h9=>?_,e2⟩,fun x hx=>?_⟩;obtain ⟨_,k',h3,h4⟩:=e3 m h9;exact hm k' (by omega) h4;rcases List.mem_cons.1 hx with rfl|hx;exact ⟨hN _ _ h,k+1,Nat.le_refl _,h⟩;obtain ⟨h5,k',h3,h4⟩:=e3 x hx;exact ⟨h5,k',by omega,h4⟩
  obtain ⟨k0,h1,h2⟩:=hmin k h;obtain ⟨l,e1,e2,e3⟩:=way k0 m h1 h2;have:=nodup_len N l e2 fun x hx=>(e3 x hx).1
  exact ⟨k0,by omega,h1⟩
theorem no_conf{g:GD}{st:List ASt}(hno:allG g st = []){n:Nat}{t:Int}(hn:n<st.length)(h0:0≤t)(h1:t<(g.triv.length:Int)+2):¬confG g st (n:Nat) t:=by
  obtain ⟨k,rfl⟩:∃k:Nat,t=(k:Nat):=⟨t.toNat,by omega⟩;have hk:k<g.triv.length+2:=by omega
  unfold allG cflTo at hno;rw [List.flatMap_eq_nil_iff] at hno
  have h2:=hno (n*(g.triv.length+2)+k) (List.mem_range.2 (by
    have:=Nat.mul_le_mul_right (g.triv.length+2) (show n+1≤st.length by omega);rw [Nat.add_mul,Nat.one_mul] at this;omega))
  rw [cfl1_nil,(dm_of hk).1,(dm_of hk).2] at h2;exact h2
theorem act_is{g:GD}{st:List ASt}{n:Nat}{t:Int}(hn:n<st.length)(h0:0≤t)(h1:t<(g.triv.length:Int)+2):actZ (actsG g st) (n:Nat) t=actG g st (n:Nat) t:=by
  obtain ⟨k,rfl⟩:∃k:Nat,t=(k:Nat):=⟨t.toNat,by omega⟩;have hk:k<g.triv.length+2:=by omega
  unfold actZ actsG rowsTo;rw [if_neg (by omega),show ((n:Nat):Int).toNat=n by omega,show ((k:Nat):Int).toNat=k by omega,List.getD_eq_getElem?_getD,List.getD_eq_getElem?_getD,List.getElem?_map,List.getElem?_range hn];simp only [Option.map_some,Option.getD_some];unfold rowTo;rw [List.getElem?_map,List.getElem?_range hk];rfl
theorem act_no{g:GD}{st:List ASt}{q t:Int}(h:¬(0≤q∧q<(st.length:Int)∧0≤t∧t<(g.triv.length:Int)+2)):actZ (actsG g st) q t=(0,0):=by
  unfold actZ
  split
  rfl
  rename_i h2;unfold actsG rowsTo;by_cases hq:q<(st.length:Int);rw [List.getD_eq_getElem?_getD,List.getD_eq_getElem?_getD,List.getElem?_map,List.getElem?_range (by omega)];simp only [Option.map_some,Option.getD_some];unfold rowTo;rw [List.getElem?_map,List.getElem?_eq_none (by rw [List.length_range];omega)];rfl;rw [List.getD_eq_getElem?_getD (i:=q.toNat),List.getElem?_eq_none (by rw [List.length_map,List.length_range];omega)];rfl
theorem red_mem{g:GD}{st:List ASt}{n t p:Int} : p∈redG g st n t↔-1≤p∧p<(g.prods.length:Int)∧LookP g st n p t:=by
  unfold redG redTo;rw [List.mem_filter,List.mem_map];simp only [decide_eq_true_eq,List.mem_range];constructor;rintro ⟨⟨i,h1,rfl⟩,h2⟩;exact ⟨by omega,by omega,h2⟩;rintro ⟨h1,h2,h3⟩;exact ⟨⟨(p+1).toNat,by omega,by omega⟩,h3⟩
theorem one_of{l:List Int}{x:Int}(hx:x∈l)(hl:¬1<l.length):l = [x]:=by
  match l,hx with
  | [y],hx=>rw [List.mem_singleton] at hx;rw [hx]
  | a::b::r,_=>simp only [List.length_cons] at hl;omega
section
variable {g:GD}{st:List ASt}(h:Aut g st)(hno:allG g st = []){t:Int}(h0:0≤t)(h1:t<(g.triv.length:Int)+2)
include hno h0 h1
theorem act_red{q j:Nat}{p:P2}(hq:q<st.length)(hj:g.prods[j]?=some p)(hl:LookP g st (q:Nat) (j:Nat) t):actZ (actsG g st) (q:Nat) t=(2,((j:Nat):Int)):=by
  have hc:=no_conf hno hq h0 h1;have hjl:=(List.getElem?_eq_some_iff.1 hj).1;have hm:((j:Nat):Int)∈redG g st (q:Nat) t:=red_mem.2 ⟨by omega,by omega,hl⟩;unfold confG at hc;have he:=one_of hm (fun h9=>hc (.inl h9));rw [act_is hq h0 h1];unfold actG;rw [if_neg hc];rw [he] at hc ⊢;rw [if_neg (fun h9=>hc (.inr ⟨rfl,h9⟩))];rw [if_neg (by simp),if_pos (show [((j:Nat):Int)].length=1 from rfl)];rfl
theorem act_fin{q:Nat}(hq:q<st.length)(hl:LookP g st (q:Nat) (-1) t):actZ (actsG g st) (q:Nat) t=(3,0):=by
  have hc:=no_conf hno hq h0 h1;have hm:(-1:Int)∈redG g st (q:Nat) t:=red_mem.2 ⟨by omega,by omega,hl⟩;unfold confG at hc;have he:=one_of hm (fun h9=>hc (.inl h9));rw [act_is hq h0 h1];unfold actG;rw [if_neg hc];rw [he] at hc ⊢;rw [if_neg (fun h9=>hc (.inr ⟨rfl,h9⟩)),if_pos (by simp)]
theorem act_shift{q:Nat}(hq:q<st.length)(hs:0≤shG g st (q:Nat) t):actZ (actsG g st) (q:Nat) t=(1,shG g st (q:Nat) t):=by
  have hc:=no_conf hno hq h0 h1;unfold confG at hc;rw [act_is hq h0 h1];unfold actG;rw [if_neg hc,if_pos hs]
omit hno h0 h1 in
theorem act_two{q:Int}(ha:(actZ (actsG g st) q t).1=2):∃(n j:Nat) (p:P2),q=(n:Nat)∧n<st.length∧0≤t∧t<(g.triv.length:Int)+2∧actZ (actsG g st) q t=(2,((j:Nat):Int))∧g.prods[j]?=some p∧LookP g st q (j:Nat) t:=by
  by_cases hr:0≤q∧q<(st.length:Int)∧0≤t∧t<(g.triv.length:Int)+2;obtain ⟨n,rfl⟩:∃n:Nat,q=(n:Nat):=⟨q.toNat,by omega⟩;rw [act_is (by omega) hr.2.2.1 hr.2.2.2] at ha ⊢;unfold actG at ha ⊢
  split at ha
  cases ha;rename_i hc
  split at ha
  cases ha;rename_i hs
  split at ha
  cases ha;rename_i hx
  split at ha
  rename_i hy;rw [if_neg hc,if_neg hs,if_neg hx,if_pos hy];obtain ⟨x,hxl⟩:=List.length_eq_one_iff.1 hy;rw [hxl] at hx ⊢;have hm:x∈redG g st (n:Nat) t:=by rw [hxl];exact List.mem_singleton.2 rfl
  obtain ⟨h2,h3,h4⟩:=red_mem.1 hm
  have hx0:0≤x:=by
    have:¬x<0:=fun h9=>hx ⟨rfl,h9⟩
    omega
  refine ⟨n,x.toNat,g.prods[x.toNat]'(by omega),rfl,by omega,hr.2.2.1,hr.2.2.2,?_,List.getElem?_eq_getElem _,?_⟩;show ((2:Int),x)=_;rw [Int.toNat_of_nonneg hx0];rw [Int.toNat_of_nonneg hx0];exact h4;cases ha;rw [act_no hr] at ha;cases ha
omit hno h0 h1 in
theorem symT_tno{z:Sym}(hs:symE g z=0)(hk:z.kind≠3):symT g (tno g z)=(z,true):=by
  unfold symE at hs;by_cases hk1:z.kind=1;rw [if_pos hk1] at hs
  split at hs
  rename_i hr
  split at hs
  omega;rename_i ht;unfold tno symT;rw [if_pos hk1,if_neg (by omega),if_pos ⟨hr.1,hr.2,by simpa using ht⟩];cases z;simp only at hk1;subst hk1;rfl;omega;rw [if_neg hk1] at hs;by_cases hk2:z.kind=2;rw [if_pos hk2] at hs
  split at hs
  rename_i hn;unfold tno symT;rw [if_neg hk1,if_pos rfl];cases z;simp only at hk2 hn;subst hk2;subst hn;rfl;omega;rw [if_neg hk2,if_neg hk] at hs;omega
omit hno h0 h1 in
theorem tno_rng{z:Sym}(hs:symE g z=0)(hk:z.kind≠3):0≤tno g z∧tno g z<(g.triv.length:Int)+2:=by
  unfold tno
  split
  rename_i h1;unfold symE at hs;rw [if_pos h1] at hs
  split at hs
  omega;omega;omega
omit hno h0 h1 in
include h in
theorem behind_symZ9{q:Nat}{u:ASt}(hu:st[q]?=some u){x:Itm}(hx:x∈u.items){z:Sym}(hb:behindG g x=some z):symE g z=0:=by
  have hok:=item_okI h hu hx;have hG:=h.good.good;rcases hok.1 with hp|⟨hp0,hp1⟩;unfold behindG rightG at hb;rw [if_pos hp] at hb;have:=List.mem_of_getElem? hb;rw [List.mem_singleton] at this;subst this;unfold symE;simp only;rw [if_neg (by omega),if_neg (by omega),if_pos trivial,if_pos hG.1];have hj:g.prods[x.p.toNat]?=some (g.prods[x.p.toNat]'(by omega)):=List.getElem?_eq_getElem _;unfold behindG at hb;rw [show x.p=((x.p.toNat:Nat):Int) by omega,rightG_nat hj] at hb;exact (hG.2 _ (List.mem_of_getElem? hj)).2.2 z (List.mem_of_getElem? hb)
include h in
theorem read_halt{q:Nat}{z:Sym}(hz:0≤goS st (q:Nat) z)(hk:z.kind≠3)(ht:t=tno g z):actZ (actsG g st) (q:Nat) t=(1,goS st (q:Nat) z):=by
  obtain ⟨n,u,e,hu⟩:=at_state h hz;have:n=q:=by omega
  subst this;have hq:=(List.getElem?_eq_some_iff.1 hu).1;obtain ⟨x,hx,hb⟩:=(go_stands h hu z).1 hz;have hs:=symT_tno (behind_symZ9 h hu hx hb) hk
  have hsh:shG g st (n:Nat) t=goS st (n:Nat) z:=by
    unfold shG;rw [ht,hs,if_pos rfl]
  rw [act_shift hno h0 h1 hq (by rw [hsh];exact hz),hsh]
end
def stkS(st:List ASt):Int→List Sym→List Int→List Int
  | q,[],r=>q::r
  | q,z::l,r=>stkS st (goS st q z) l (q::r)
theorem run_cons{st:List ASt}{q:Int}{z:Sym}{l:List Sym}(hr:0≤runS st q (z::l)):0≤goS st q z∧runS st q (z::l)=runS st (goS st q z) l:=by
  rw [runS] at hr ⊢
  split at hr
  omega;rename_i hn;rw [if_neg hn];exact ⟨by omega,rfl⟩
theorem stkS_form{st:List ASt} : ∀(l:List Sym) (q:Int) (r:List Int),0≤runS st q l→(∃s,stkS st q l r=runS st q l::s)∧(stkS st q l r).drop l.length=q::r∧(stkS st q l r).length=l.length+r.length+1
  | [],q,r,_=>⟨⟨r,rfl⟩,rfl,by simp [stkS]⟩
  | z::l,q,r,hr=>by
    obtain ⟨h1,h2⟩:=run_cons hr;obtain ⟨⟨s,e1⟩,e2,e3⟩:=stkS_form l (goS st q z) (q::r) (by rw [←h2];exact hr);refine ⟨⟨s,by rw [stkS,e1,h2]⟩,?_,by rw [stkS,e3];simp only [List.length_cons];omega⟩;rw [stkS,List.length_cons];have:=congrArg (List.drop 1) e2;rw [List.drop_drop,List.drop_succ_cons,List.drop_zero] at this;rw [this]
section
variable {g:GD}{st:List ASt}(h:Aut g st)
include h
theorem run_along{q:Nat}{u:ASt}(hu:st[q]?=some u){j:Nat}{p:P2}(hj:g.prods[j]?=some p)(hi:(⟨(j:Nat),0⟩:Itm)∈u.items):∀k:Nat,k≤p.2.length→∃(m:Nat) (v:ASt),runS st (q:Nat) (p.2.take k)=(m:Nat)∧st[m]?=some v∧(⟨(j:Nat),(k:Nat)⟩:Itm)∈v.items
  | 0,_=>⟨q,u,rfl,hu,hi⟩
  | k+1,hk=>by
    obtain ⟨m,v,e1,e2,e3⟩:=run_along hu hj hi k (by omega);have hz:p.2[k]?=some p.2[k]:=List.getElem?_eq_getElem (by omega)
    generalize p.2[k]=z at hz
    have hb:behindG g ⟨(j:Nat),(k:Nat)⟩=some z:=by
      unfold behindG;simp only;rw [rightG_nat hj,show ((k:Nat):Int).toNat=k by omega];exact hz
    obtain ⟨m2,v2,f1,f2,f3⟩:=item_over h e2 e3 hb;refine ⟨m2,v2,?_,f2,f3⟩;rw [List.take_add_one,hz];have h1:=runS_append (st:=st) [z] e1 (by omega);rw [show (some z).toList = [z] from rfl,h1,run_one];exact f1
theorem item_of_go{q:Nat}{u:ASt}(hu:st[q]?=some u){j:Nat}{p:P2}(hj:g.prods[j]?=some p)(hg:0≤goS st (q:Nat) ⟨3,p.1⟩):(⟨(j:Nat),0⟩:Itm)∈u.items:=by
  obtain ⟨x,hx,hb⟩:=(go_stands h hu _).1 hg;exact items_closed h hu hx hb rfl hj rfl
variable (hno:allG g st = []){t:Int}(h0:0≤t)(h1:t<(g.triv.length:Int)+2)
include hno h0 h1
theorem red_null{l:List Sym}{n:Nat}(hE:ET g l n):∀(q:Nat) (r:List Int),0≤runS st (q:Nat) l→(∃u,st[q]?=some u)→(∀(i:Nat) (z:Sym),l[i]?=some z→FolP g st (runS st (q:Nat) (l.take i)) z.n t)→∃os,os.length=n∧Red g st t (r.length+1) ((q:Int)::r) os (stkS st (q:Nat) l r):=by
  induction hE with
  | nil=>intro q r _ _ _;exact ⟨[],rfl,.nil⟩
  | @cons z l j p a b hk hj hp hE1 hE2 ih1 ih2 =>
    intro q r hr hu hf;obtain ⟨u,hu⟩:=hu;obtain ⟨hg,hr2⟩:=run_cons hr;have hgp:0≤goS st (q:Nat) ⟨3,p.1⟩:=by rw [hp,←Sym.name hk];exact hg
    have hi:=item_of_go h hu hj hgp;have hf0:FolP g st (q:Nat) p.1 t:=by rw [hp];exact hf 0 z rfl
    have hpn:=ET.nul h.good.good hE1;have hrun:∀k,k≤p.2.length→0≤runS st (q:Nat) (p.2.take k):=fun k hk=>by obtain ⟨m,_,e,_⟩:=run_along h hu hj hi k hk;omega
    have hrp:0≤runS st (q:Nat) p.2:=by have:=hrun p.2.length (Nat.le_refl _);rw [List.take_length] at this;exact this
    obtain ⟨os1,e1,e2⟩:=ih1 q r hrp ⟨u,hu⟩ (fun i y hy=>FolP.inc hf0 hgp hj hy (nulS_name (hpn y (List.mem_of_getElem? hy))) fun y2 hy2=>hpn y2 (List.mem_of_mem_drop hy2));obtain ⟨m',v',f1,f2,f3⟩:=run_along h hu hj hi p.2.length (Nat.le_refl _);rw [List.take_length] at f1;obtain ⟨⟨s,k1⟩,k2,_⟩:=stkS_form p.2 (q:Nat) r hrp;rw [k1] at e2 k2;have hact:=act_red hno h0 h1 (q:=m') (List.getElem?_eq_some_iff.1 f2).1 hj (.inr ⟨j,p,(q:Nat),rfl,hj,hgp,f1,hf0⟩);rw [←f1] at hact;have hstep:Red g st t (r.length+1) (runS st (q:Nat) p.2::s) [((j:Nat):Int)] (goS st (q:Nat) ⟨3,p.1⟩::(q:Int)::r):=.cons hact hj k2 (Nat.le_refl _) .nil;obtain ⟨m,v,g1,g2,_⟩:=go_to h hu hg;rw [hp,←Sym.name hk,g1] at hstep;rw [g1] at hr2
    obtain ⟨os2,c1,c2⟩:=ih2 m ((q:Int)::r) (by rw [←hr2];exact hr) ⟨v,g2⟩ (fun i y hy=>by
      have h9:=hf (i+1) y hy;rw [List.take_succ_cons] at h9
      have h8:runS st (q:Nat) (z::l.take i)=runS st (m:Nat) (l.take i):=by
        rw [runS,if_neg (by omega),g1]
      rw [h8] at h9;exact h9)
    refine ⟨os1++([((j:Nat):Int)]++os2),by simp only [List.length_append,List.length_singleton];omega,e2.trans (hstep.trans ?_)⟩;rw [stkS,g1];exact c2.mono (by simp only [List.length_cons];omega)
end
inductive RdD(g:GD)(st:List ASt)(t:Int):Nat→Nat→Prop
  | here {m:Nat} {z:Sym} : z.kind≠3→0≤goS st (m:Nat) z→t=tno g z→RdD g st t 0 m
  | next {k m m':Nat} {C:Int} : nulS g ⟨3,C⟩→goS st (m:Nat) ⟨3,C⟩=(m':Nat)→RdD g st t k m'→RdD g st t (k+1) m
inductive VS(st:List ASt):List Int→Prop
  | base:VS st [0]
  | cons {q:Int} {s:List Int} {z:Sym} : VS st (q::s)→0≤goS st q z→VS st (goS st q z::q::s)
inductive FolD(g:GD)(st:List ASt)(t:Int)(n:Nat):Nat→Nat→Prop
  | rd {B:Nat} : 0≤goS st (n:Nat) ⟨3,(B:Nat)⟩→RdP g st (n:Nat) (B:Nat) t→FolD g st t n 0 B
  | low {B j k:Nat} {p:P2} {m:Int} : 0≤goS st (n:Nat) ⟨3,(B:Nat)⟩→FolP g st m p.1 t→0≤goS st m ⟨3,p.1⟩→g.prods[j]?=some p→p.2[k+1]?=some ⟨3,(B:Nat)⟩→(∀y∈p.2.drop (k+2),nulS g y)→runS st m (p.2.take (k+1))=(n:Nat)→FolD g st t n 0 B
  | up {k A B j:Nat} {p:P2} : 0≤goS st (n:Nat) ⟨3,(B:Nat)⟩→FolD g st t n k A→0≤goS st (n:Nat) ⟨3,(A:Nat)⟩→g.prods[j]?=some p→p.1=(A:Nat)→p.2[0]?=some ⟨3,(B:Nat)⟩→(∀y∈p.2.drop 1,nulS g y)→FolD g st t n (k+1) B
def Ev(g:GD)(st:List ASt)(N:Prop)(n:Nat)(r s2:List Int):Prop:=∃(j d:Nat) (p:P2) (q:Nat) (r':List Int),g.prods[j]?=some p∧1≤d∧((n:Int)::r).drop d=((q:Nat):Int)::r'∧runS st (q:Nat) (p.2.take d)=(n:Nat)∧d≤p.2.length∧(N→∀y∈p.2.drop d,nulS g y)∧0≤goS st (q:Nat) ⟨3,p.1⟩∧s2=goS st (q:Nat) ⟨3,p.1⟩::((q:Nat):Int)::r'
section
variable {g:GD}{st:List ASt}(h:Aut g st)
include h
theorem item_go{q:Nat}{u:ASt}(hu:st[q]?=some u){j:Nat}{p:P2}(hj:g.prods[j]?=some p)(hi:(⟨(j:Nat),0⟩:Itm)∈u.items):0≤goS st (q:Nat) ⟨3,p.1⟩:=by
  have hs:=h.shape q u hu;have hkm:∀y∈u.kernel,okI g y:=fun y hy=>item_okI h hu (by rw [hs];exact closG_kmem hy)
  rw [hs] at hi
  rcases closG_ind h.good.good hkm (fun B=>0≤goS st (q:Nat) ⟨3,B⟩) (fun y hy z hz hk=>by
      rw [←Sym.name hk];exact (go_stands h hu z).2 ⟨y,by rw [hs];exact closG_kmem hy,hz⟩)
    (fun p' hp' hq z hz hk=>by
      obtain ⟨j',hj'⟩:=List.mem_iff_getElem?.1 hp';have h2:=item_of_go h hu hj' hq;rw [←Sym.name hk];refine (go_stands h hu z).2 ⟨_,h2,?_⟩;unfold behindG;simp only;rw [rightG_nat hj'];exact hz) hi with h1 | ⟨j',p',e1,e2,e3⟩
  exfalso;by_cases hq:q=0;subst hq;obtain ⟨x0,d1,d2,_⟩:=h.first
  rw [hu] at d1;cases d1;rw [d2,List.mem_singleton] at h1;have:=congrArg Itm.p h1;simp only at this;omega;have:=kern_dots h hu hq h1;simp only at this;omega;have:j'=j:=by have:=congrArg Itm.p e1;simp only at this;omega
  subst this;rw [hj] at e2;cases e2;exact e3
theorem name_rng{q:Int}{B:Int}(hg:0≤goS st q ⟨3,B⟩):0≤B∧B<(g.names:Int):=by
  obtain ⟨n,u,rfl,hu⟩:=at_state h hg;obtain ⟨x,hx,hb⟩:=(go_stands h hu _).1 hg;exact symE_name (behind_symZ9 h hu hx hb) rfl
theorem rd_deep{n B t:Int}(hr:RdP g st n B t):(n=0∧B=g.start∧t=endT g)∨∃m k:Nat,goS st n ⟨3,B⟩=(m:Nat)∧RdD g st t k m:=by
  induction hr with
  | @tm n B m z hg hk hz=>exact .inr ⟨m,0,hg,.here hk hz rfl⟩
  | fin=>exact .inl ⟨rfl,rfl,rfl⟩
  | @rd n B C t m hg hn hc _ ih =>
    rcases ih with ⟨h1,_⟩|⟨m',k,h2,h3⟩;obtain ⟨n',u,rfl,hu⟩:=at_state h (show 0≤goS st n ⟨3,B⟩ by omega);obtain ⟨j,_,e1,_,e3,_⟩:=go_to h hu (show 0≤goS st (n':Nat) ⟨3,B⟩ by omega);omega;exact .inr ⟨m,k+1,hg,.next hn h2 h3⟩
omit h in
theorem RdD.rd{t:Int}{k m:Nat}(hr:RdD g st t k m):∀ {n B:Int},goS st n ⟨3,B⟩=(m:Nat)→RdP g st n B t:=by
  induction hr with
  | here hk hz ht=>intro n B hg;rw [ht];exact .tm hg hk hz
  | next hn hg hr ih=>intro n B hg2;exact .rd hg2 hn (by rw [hg];omega) (ih hg)
theorem rd_short{t:Int}{k m:Nat}(hr:RdD g st t k m):∃k',k'<st.length∧RdD g st t k' m:=by
  refine short (fun k m hr=>?_) (fun k m hr=>?_) hr
  cases hr with
  | here hk hz ht=>obtain ⟨n,u,e,hu⟩:=at_state h hz;have:=(List.getElem?_eq_some_iff.1 hu).1;omega
  | next hn hg hr=>obtain ⟨n,u,e,hu⟩:=at_state h (show 0≤goS st (m:Nat) _ by rw [hg];omega);have:=(List.getElem?_eq_some_iff.1 hu).1;omega
  cases hr with
  | next hn hg hr=>exact ⟨_,hr,fun k' h9=>.next hn hg h9⟩
theorem VS.top{q:Int}{s:List Int}(hv:VS st (q::s)):∃(n:Nat) (u:ASt),q=(n:Nat)∧st[n]?=some u:=by
  cases hv with
  | base=>obtain ⟨x,hx,_⟩:=h.first;exact ⟨0,x,rfl,hx⟩
  | @cons q s z hv hg =>
    obtain ⟨n,u,rfl,hu⟩:=at_state h hg;obtain ⟨m,v,e1,e2,_⟩:=go_to h hu hg;exact ⟨m,v,e1,e2⟩
theorem vs_path:∀(k:Nat) (x:ASt),st[k]?=some x→∃r,VS st ((k:Nat)::r):=by
  intro k
  induction k using Nat.strongRecOn with
  | ind k ih =>
    intro x hx;by_cases hk:k=0;subst hk;exact ⟨[],.base⟩;obtain ⟨m,y,e1,e2,e3,e4,_⟩:=h.frm k x hx hk;obtain ⟨r,hr⟩:=ih m e2 y e3;have hg:=go_from h e3 e4;refine ⟨(m:Nat)::r,?_⟩;rw [←hg];exact .cons hr (by rw [hg];omega)
omit h in
theorem VS.inv{a:Int}{r:List Int}(hv:VS st (a::r)):(a=0∧r = [])∨∃(q:Int) (s:List Int) (z:Sym),r=q::s∧VS st (q::s)∧0≤goS st q z∧a=goS st q z:=by
  cases hv with
  | base=>exact .inl ⟨rfl,rfl⟩
  | @cons q s z hv hg=>exact .inr ⟨q,s,z,rfl,hv,hg,rfl⟩
theorem vs_item:∀(d:Nat) (n:Nat) (u:ASt) (r:List Int) (x:Itm),VS st ((n:Nat)::r)→st[n]?=some u→x∈u.items→x.dot=(d:Nat)→∃(q:Nat) (v:ASt) (r':List Int),((n:Int)::r).drop d=((q:Nat):Int)::r'∧VS st (((q:Nat):Int)::r')∧st[q]?=some v∧(⟨x.p,0⟩:Itm)∈v.items∧runS st (q:Nat) ((rightG g x.p).take d)=(n:Nat)
  | 0,n,u,r,x,hv,hu,hx,hd=>⟨n,u,r,rfl,hv,hu,(show x=⟨x.p,0⟩ by cases x;simp only at hd;rw [hd];rfl) ▸ hx,rfl⟩
  | d+1,n,u,r,x,hv,hu,hx,hd=>by
    rcases hv.inv with ⟨hn0,_⟩|⟨q,s,z,rfl,hv2,hg,hnq⟩;exfalso;obtain ⟨x0,d1,d2,_⟩:=h.first
    have:n=0:=by omega
    subst this;rw [hu] at d1;cases d1;rw [h.shape 0 u hu,d2] at hx;obtain ⟨i,hi⟩:=List.mem_iff_getElem?.1 hx;by_cases hi0 : [(⟨-1,0⟩:Itm)].length≤i;have:=closG_rest hi hi0;omega;have h4:=(kern_len h hu).2.2;have hi1:i=0:=by simp only [List.length_singleton] at hi0;omega
    subst hi1
    have h5:(u.items.take u.kernel.length)[0]?=some x:=by
      rw [h.shape 0 u hu,d2];rw [List.getElem?_take,if_pos (by simp)];exact hi
    rw [h4,d2] at h5;simp only [List.getElem?_cons_zero,Option.some.injEq] at h5;rw [←h5] at hd;simp only at hd;omega;obtain ⟨m,v,rfl,hm⟩:=at_state h hg;obtain ⟨n',u',e1,e2,e3,_,e5,_⟩:=go_to h hm hg;have hnn:n'=n:=by omega
    subst hnn;rw [hu] at e2;cases e2
    have hxk:x∈u.kernel:=by
      obtain ⟨i,hi⟩:=List.mem_iff_getElem?.1 hx;rw [h.shape n' u hu] at hi;by_cases hil:u.kernel.length≤i;have:=closG_rest hi hil;omega;have h4:=(kern_len h hu).2.2;rw [←h4];exact List.mem_of_getElem? (i:=i) (by rw [List.getElem?_take,if_pos (by omega),h.shape n' u hu];exact hi)
    rw [e5] at hxk;obtain ⟨y,hy,hb,hxy⟩:=overG_mem.1 hxk;have hp:x.p=y.p:=by rw [hxy]
    have hyd:y.dot=(d:Nat):=by have:=congrArg Itm.dot hxy;simp only at this;omega
    obtain ⟨q,w,r',f1,f2,f3,f4,f5⟩:=vs_item d m v s y hv2 hm hy hyd;refine ⟨q,w,r',by rw [List.drop_succ_cons];exact f1,f2,f3,by rw [hp];exact f4,?_⟩;unfold behindG at hb;rw [hyd,show ((d:Nat):Int).toNat=d by omega] at hb;rw [hp,List.take_add_one,hb];have h1:=runS_append (st:=st) [z] f5 (by omega);rw [show (some z).toList = [z] from rfl,h1,run_one];exact e1
omit h in
theorem VS.drop{st:List ASt} : ∀ {s:List Int} (d:Nat) {q:Int} {r:List Int},VS st s→s.drop d=q::r→VS st (q::r)
  | s,0,q,r,hv,hd=>by rw [List.drop_zero] at hd;rw [←hd];exact hv
  | _,d+1,q,r,hv,hd=>by
    cases hv with
    | base=>simp at hd
    | cons hv hg=>rw [List.drop_succ_cons] at hd;exact VS.drop d hv hd
theorem fol_go{n B t:Int}(hf:FolP g st n B t):0≤goS st n ⟨3,B⟩:=by
  cases hf with
  | rd hg _=>exact hg
  | @inc m _ j k p z hf hg hj hz hk hn =>
    obtain ⟨m',u,rfl,hu⟩:=at_state h hg;have hi:=item_of_go h hu hj hg;have hkl:=(List.getElem?_eq_some_iff.1 hz).1;obtain ⟨q,v,e1,e2,e3⟩:=run_along h hu hj hi k (by omega);rw [e1];refine (go_stands h e2 _).2 ⟨_,e3,?_⟩;unfold behindG;simp only;rw [rightG_nat hj,show ((k:Nat):Int).toNat=k by omega,hz,←Sym.name hk]
theorem fol_deep{n B t:Int}(hf:FolP g st n B t):∃n' B' k:Nat,n=(n':Nat)∧B=(B':Nat)∧FolD g st t n' k B':=by
  induction hf with
  | @rd n B t hg hr =>
    obtain ⟨n',u,rfl,hu⟩:=at_state h hg;have hB:=name_rng h hg;refine ⟨n',B.toNat,0,rfl,by omega,.rd ?_ ?_⟩;rw [Int.toNat_of_nonneg hB.1];exact hg;rw [Int.toNat_of_nonneg hB.1];exact hr
  | @inc m t j k p z hf hg hj hz hk hn ih =>
    have hg2:=fol_go h (FolP.inc hf hg hj hz hk hn);obtain ⟨q,u,hq,hu⟩:=at_state h hg2;have hB:=name_rng h hg2;have hzz:z=⟨3,((z.n.toNat:Nat):Int)⟩:=by rw [Int.toNat_of_nonneg hB.1];exact Sym.name hk
    cases k with
    | zero =>
      obtain ⟨m',A,k,e1,e2,e3⟩:=ih;refine ⟨m',z.n.toNat,k+1,e1,by omega,?_⟩;refine .up ?_ e3 (by rw [←e1,←e2];exact hg) hj e2 (by rw [hz,←hzz]) hn;rw [←hzz,Sym.name hk,←e1];exact hg2
    | succ k =>
      refine ⟨q,z.n.toNat,0,hq,by omega,.low ?_ hf hg hj (by rw [hz,←hzz]) hn hq⟩;rw [←hzz,Sym.name hk,←hq];exact hg2
omit h in
theorem FolD.go{t:Int}{n k B:Nat}(hf:FolD g st t n k B):0≤goS st (n:Nat) ⟨3,(B:Nat)⟩:=by
  cases hf<;>assumption
omit h in
theorem FolD.fol{t:Int}{n k B:Nat}(hf:FolD g st t n k B):FolP g st (n:Nat) (B:Nat) t:=by
  induction hf with
  | rd hg hr=>exact .rd hg hr
  | @low B j k p m hg hf hm hj hz hn hr =>
    have:=FolP.inc hf hm hj hz rfl hn;rw [hr] at this;exact this
  | @up k A B j p hg _ hA hj hp hz hn ih =>
    have:=FolP.inc (z:=⟨3,(B:Nat)⟩) (k:=0) (by rw [hp];exact ih) (by rw [hp];exact hA) hj hz rfl hn;exact this
theorem fol_short{t:Int}{n k B:Nat}(hf:FolD g st t n k B):∃k',k'<g.names∧FolD g st t n k' B:=by
  refine short (P:=FolD g st t n) (fun k B hf=>?_) (fun k B hf=>?_) hf;have:=name_rng h hf.go;omega
  cases hf with
  | up hg hf hA hj hp hz hn=>exact ⟨_,hf,fun k' h9=>.up hg h9 hA hj hp hz hn⟩
theorem nul_trees(hc:(checkE g).1=0):∀ {l:List Sym},(∀y∈l,nulS g y)→(∀y∈l,symE g y=0)→∃n,n≤256*l.length∧ET g l n
  | [],_,_=>⟨0,by simp,.nil⟩
  | z::l,hn,hs=>by
    have hz:=hn z List.mem_cons_self;have hk:=nulS_name hz;have hr:=symE_name (hs z List.mem_cons_self) hk;rw [Sym.name hk] at hz;obtain ⟨a,h1,h2⟩:=nul_tree hc hz hr.1 hr.2;obtain ⟨b,h3,h4⟩:=nul_trees hc (fun y hy=>hn y (List.mem_cons_of_mem _ hy)) (fun y hy=>hs y (List.mem_cons_of_mem _ hy));refine ⟨a+b,by rw [List.length_cons];omega,?_⟩;have:=ET.append h2 h4;rw [Sym.name hk];exact this
variable (hc:(checkE g).1=0)(hno:allG g st = []){t:Int}(h0:0≤t)(h1:t<(g.triv.length:Int)+2)
include hno h0 h1 hc
theorem red_rd{k m:Nat}(hr:RdD g st t k m):∀r:List Int,∃os s2,os.length≤k*256∧Red g st t (r.length+1) ((m:Nat)::r) os s2∧Halt g st t s2:=by
  induction hr with
  | here hk hz ht=>intro r;exact ⟨[],_,by simp,.nil,by show (actZ (actsG g st) _ t).1≠2;rw [read_halt h hno h0 h1 hz hk ht];show (1:Int)≠2;decide⟩
  | @next k m m' C hn hg hr ih =>
    intro r;have hgo:0≤goS st (m:Nat) ⟨3,C⟩:=by rw [hg];omega
    have hrg:=name_rng h hgo;obtain ⟨a,h2,h3⟩:=nul_tree hc hn hrg.1 hrg.2;obtain ⟨n',u,e,hu⟩:=at_state h hgo;have:n'=m:=by omega
    subst this
    obtain ⟨os1,e1,e2⟩:=red_null h hno h0 h1 h3 n' r (by rw [run_one];exact hgo) ⟨u,hu⟩ (fun i z hz=>by
      cases i with
      | zero=>rw [List.getElem?_cons_zero] at hz;cases hz;exact .rd hgo (hr.rd hg)
      | succ i=>simp at hz)
    rw [stkS,stkS,hg] at e2;obtain ⟨os2,s2,f1,f2,f3⟩:=ih ((n':Nat)::r);exact ⟨os1++os2,s2,by rw [List.length_append,Nat.add_mul];omega,e2.trans (f2.mono (by simp)),f3⟩
omit h hc hno h0 h1 in
theorem few_c{a b:List Int}{k:Nat}(h1:a.length≤3841)(h2:b.length≤k*3841+262400):(a++b).length≤(k+1)*3841+262400:=by
  rw [List.length_append,Nat.add_mul];omega
omit h hc hno h0 h1 in
theorem few_b{a k L:Nat}(h1:a≤k*256)(h2:k<L)(h3:L≤1025):a≤0*3841+262400:=by
  have h4:k≤1024:=Nat.le_of_lt_succ (Nat.lt_of_lt_of_le h2 h3);have h5:k*256≤262144:=Nat.mul_le_mul_right 256 h4;rw [Nat.zero_mul,Nat.zero_add];exact Nat.le_trans (Nat.le_trans h1 h5) (by decide)
theorem red_tail{n:Nat}{B:Int}{r:List Int}{j d:Nat}{p:P2}{q:Nat}{r':List Int}(hj:g.prods[j]?=some p)(hz:p.2[d]?=some ⟨3,B⟩)(hdr:((n:Int)::r).drop d=((q:Nat):Int)::r')(hrun:runS st (q:Nat) (p.2.take d)=(n:Nat))(hgq:0≤goS st (q:Nat) ⟨3,p.1⟩)(hnul:∀y∈p.2.drop (d+1),nulS g y){m0:Int}(hm0:0≤goS st m0 ⟨3,p.1⟩)(hrun0:runS st m0 (p.2.take d)=(n:Nat))(hf:FolP g st m0 p.1 t) :
    ∃os,os≠[]∧os.length≤3841∧Red g st t (r'.length+1) (goS st (n:Nat) ⟨3,B⟩::(n:Nat)::r) os (goS st (q:Nat) ⟨3,p.1⟩::((q:Nat):Int)::r'):=by
  have hG:=h.good.good;have hpm:=List.mem_of_getElem? hj;have hsy:∀y∈p.2.drop (d+1),symE g y=0:=fun y hy=>(hG.2 p hpm).2.2 y (List.mem_of_mem_drop hy)
  obtain ⟨a,ha,hE⟩:=nul_trees h hc hnul hsy;have hlen:(p.2.drop (d+1)).length≤15:=by rw [List.length_drop];have:=h.good.rights p hpm;omega
  have hdl:=(List.getElem?_eq_some_iff.1 hz).1;obtain ⟨u0,v0,rfl,hv0⟩:=at_state h hm0;have hi0:=item_of_go h hv0 hj hm0;have hat:∀k,k≤p.2.length→∃(m:Nat) (v:ASt),runS st (u0:Nat) (p.2.take k)=(m:Nat)∧st[m]?=some v∧(⟨(j:Nat),(k:Nat)⟩:Itm)∈v.items:=run_along h hv0 hj hi0
  have hgo:runS st (u0:Nat) (p.2.take (d+1))=goS st (n:Nat) ⟨3,B⟩:=by
    rw [List.take_add_one,hz];have h2:=runS_append (st:=st) [⟨3,B⟩] hrun0 (by omega);rw [show (some (⟨3,B⟩:Sym)).toList = [⟨3,B⟩] from rfl,h2,run_one]
  obtain ⟨m1,v1,f1,f2,f3⟩:=hat (d+1) (by omega);rw [hgo] at f1;obtain ⟨m2,v2,k1,k2,k3⟩:=hat p.2.length (Nat.le_refl _);rw [List.take_length] at k1
  have hsplit:∀i,runS st (m1:Nat) ((p.2.drop (d+1)).take i)=runS st (u0:Nat) (p.2.take (d+1+i)):=fun i=>by
    rw [List.take_add];exact (runS_append _ (by rw [hgo,f1]) (by omega)).symm
  have hrest:runS st (m1:Nat) (p.2.drop (d+1))=(m2:Nat):=by
    have h2:=hsplit (p.2.drop (d+1)).length;rw [List.take_length] at h2;rw [h2,List.length_drop,show d+1+(p.2.length-(d+1))=p.2.length by omega,List.take_length,k1]
  obtain ⟨os1,e1,e2⟩:=red_null h hno h0 h1 hE m1 ((n:Nat)::r) (by rw [hrest];omega) ⟨v1,f2⟩ (fun i z hz2=>by
    rw [hsplit];rw [List.getElem?_drop] at hz2;refine FolP.inc hf hm0 hj hz2 ?_ fun y hy=>hnul y ?_
    exact nulS_name (hnul z (List.mem_of_getElem? (i:=i) (by rw [List.getElem?_drop];exact hz2)));rw [show d+1+i+1=(d+1)+(i+1) by omega,←List.drop_drop] at hy;exact List.mem_of_mem_drop hy)
  obtain ⟨⟨s,c1⟩,c2,_⟩:=stkS_form (st:=st) (p.2.drop (d+1)) (m1:Nat) ((n:Nat)::r) (by rw [hrest];omega);rw [hrest] at c1;rw [c1] at e2 c2;have hact:=act_red hno h0 h1 (q:=m2) (List.getElem?_eq_some_iff.1 k2).1 hj (.inr ⟨j,p,(u0:Nat),rfl,hj,hm0,k1,hf⟩)
  have hdrop:(((m2:Nat):Int)::s).drop p.2.length=((q:Nat):Int)::r':=by
    have h2:=congrArg (List.drop (d+1)) c2;rw [List.drop_drop,List.length_drop,show p.2.length-(d+1)+(d+1)=p.2.length by omega,List.drop_succ_cons,hdr] at h2;exact h2
  have hrl:r'.length≤r.length:=by
    have:=congrArg List.length hdr;simp only [List.length_drop,List.length_cons] at this;omega
  refine ⟨os1++[((j:Nat):Int)],by simp,by rw [List.length_append,List.length_singleton];omega,?_⟩;rw [f1];exact (e2.mono (by simp only [List.length_cons];omega)).trans (.cons hact hj hdrop (Nat.le_refl _) .nil)
theorem red_fol{n k B:Nat}(hf:FolD g st t n k B):∀r:List Int,VS st ((n:Nat)::r)→∃os s2,os.length≤k*3841+262400∧Red g st t 0 (goS st (n:Nat) ⟨3,(B:Nat)⟩::(n:Nat)::r) os s2∧(Halt g st t s2∨Ev g st (nulS g ⟨3,(B:Nat)⟩) n r s2):=by
  induction hf with
  | @rd B hg hr =>
    intro r hv;rcases rd_deep h hr with ⟨e1,e2,e3⟩|⟨m,k,e1,e2⟩;refine ⟨[],_,by simp,.nil,.inl ?_⟩;obtain ⟨n',u,e,hu⟩:=at_state h hg;obtain ⟨j,y,f1,f2,_⟩:=go_to h hu (show 0≤goS st (n':Nat) ⟨3,(B:Nat)⟩ by rw [←e];exact hg);show (actZ (actsG g st) _ t).1≠2;rw [e,f1,act_fin hno h0 h1 (List.getElem?_eq_some_iff.1 f2).1 (.inl ⟨rfl,by rw [←f1,←e,e1,e2],e3⟩)];show (3:Int)≠2;decide;obtain ⟨k',h2,h3⟩:=rd_short h e2;obtain ⟨os,s2,f1,f2,f3⟩:=red_rd h hc hno h0 h1 h3 ((n:Nat)::r);rw [e1];exact ⟨os,s2,few_b f1 h2 h.few,f2.mono (Nat.zero_le _),.inl f3⟩
  | @low B j k p m hg hf hm hj hz hn hr =>
    intro r hv;obtain ⟨m',v,rfl,hmv⟩:=at_state h hm;have hi:=item_of_go h hmv hj hm;have hkl:=(List.getElem?_eq_some_iff.1 hz).1;obtain ⟨n',u,e1,e2,e3⟩:=run_along h hmv hj hi (k+1) (by omega);have:n'=n:=by omega
    subst this;obtain ⟨q,w,r',f1,f2,f3,f4,f5⟩:=vs_item h (k+1) n' u r _ hv e2 e3 rfl;simp only at f4 f5;rw [rightG_nat hj] at f5
    have hgq:0≤goS st (q:Nat) ⟨3,p.1⟩:=by
      exact item_go h f3 hj f4
    obtain ⟨os,g1,g2,g3⟩:=red_tail h hc hno h0 h1 (r:=r) hj hz f1 f5 hgq hn hm hr hf;refine ⟨os,_,Nat.le_trans g2 (by omega),g3.mono (Nat.zero_le _),.inr ⟨j,k+1,p,q,r',hj,by omega,f1,f5,by omega,fun hB y hy=>?_,hgq,rfl⟩⟩;rw [drop_get hz] at hy;rcases List.mem_cons.1 hy with rfl|hy;exact hB;exact hn y hy
  | @up k A B j p hg hfA hA hj hp hz hn ih =>
    intro r hv;have hgp:0≤goS st (n:Nat) ⟨3,p.1⟩:=by rw [hp];exact hA
    obtain ⟨os,g0,g1,g2⟩:=red_tail h hc hno h0 h1 (n:=n) (B:=(B:Nat)) (r:=r) (d:=0) (q:=n) (r':=r) hj hz rfl rfl hgp hn hgp rfl (by rw [hp];exact hfA.fol);obtain ⟨os2,s2,f1,f2,f3⟩:=ih r hv;rw [hp] at g2;refine ⟨os++os2,s2,few_c g1 f1,(g2.mono (Nat.zero_le _)).trans f2,f3.imp id ?_⟩;rintro ⟨j2,d,p2,q,r',a1,a2,a3,a4,a5,a6,a7,a8⟩;refine ⟨j2,d,p2,q,r',a1,a2,a3,a4,a5,fun hB=>a6 ?_,a7,a8⟩
    have h9:=madeG_closed (fun _=>false) h.good.good p (List.mem_of_getElem? hj) (fun y hy=>by
      obtain ⟨i,hi⟩:=List.mem_iff_getElem?.1 hy
      cases i with
      | zero=>rw [hz] at hi;cases hi;exact hB
      | succ i=>exact hn y (List.mem_of_getElem? (i:=i) (by rw [List.getElem?_drop,Nat.add_comm];exact hi)))
    unfold nulS okS;rw [if_pos rfl,←hp];exact h9
end
theorem made_all{g:GD}(hc:(checkE g).1=0){n:Nat}(hn:n<g.names):(madeG (fun _=>true) g)[n]! = true:=by
  have hm:¬0≤idxO false (madeG (fun _=>true) g) 0:=by
    unfold checkE at hc
    split at hc
    exact absurd hc (by decide)
    split at hc
    rename_i h9;exact absurd hc h9
    split at hc
    rename_i h9;exact absurd hc h9
    split at hc
    simp at hc
    assumption
  have hf:=idxO_neg hm;have hlen:=madeG_len (fun _=>true) g;have hi:n<(madeG (fun _=>true) g).length:=by omega
  rw [List.getElem!_eq_getElem?_getD,List.getElem?_eq_getElem hi]
  cases hb:(madeG (fun _=>true) g)[n] with
  | true=>rfl
  | false=>exact absurd (hb ▸ List.getElem_mem hi) hf
theorem head_of{g:GD} : ∀ {l:List Sym},(∀x∈l,x.kind=3→nulS g x∨∃t,FirstP g x.n t)→(∀y∈l,nulS g y)∨∃t,HeadF g l t
  | [],_=>.inl fun y hy=>by cases hy
  | z::l,hh=>by
    by_cases hk:z.kind=3;rcases hh z List.mem_cons_self hk with hz|⟨t,ht⟩;rcases head_of (fun x hx=>hh x (List.mem_cons_of_mem _ hx)) with h1|⟨t,h1⟩;refine .inl fun y hy=>?_
    rcases List.mem_cons.1 hy with rfl|hy;exact hz;exact h1 y hy;exact .inr ⟨t,HeadF.cons hz h1⟩;exact .inr ⟨t,0,z,by simp,rfl,.inr ⟨hk,ht⟩⟩;exact .inr ⟨tno g z,0,z,by simp,rfl,.inl ⟨hk,rfl⟩⟩
theorem first_some{g:GD}(hc:(checkE g).1=0){B:Int}(h0:0≤B)(h1:B<(g.names:Int)):nulS g ⟨3,B⟩∨∃t,FirstP g B t:=by
  classical
  have hG:=(GoodL.of hc).good
  let Q:Nat→Prop:=fun n=>nulS g ⟨3,(n:Nat)⟩∨∃t,FirstP g (n:Nat) t
  let T:List Bool:=(List.range g.names).map fun n=>decide (Q n)
  have hTn:∀n:Nat,T[n]! = true↔n<g.names∧Q n:=fun n=>by
    show ((List.range g.names).map fun n=>decide (Q n))[n]! = true↔_;rw [List.getElem!_eq_getElem?_getD,List.getElem?_map];by_cases hn:n<g.names;rw [List.getElem?_range hn];simp [hn];rw [List.getElem?_eq_none (by simp;omega)];simp [hn]
  have hcl:closB (fun _=>true) g T:=fun p hp hx=>by
    have hl:=hG.2 p hp;refine (hTn _).2 ⟨by omega,?_⟩;show nulS g ⟨3,((p.1.toNat:Nat):Int)⟩∨∃t,FirstP g ((p.1.toNat:Nat):Int) t;rw [Int.toNat_of_nonneg hl.1]
    rcases head_of (l:=p.2) (g:=g) (fun x hxm hk=>by
      have h2:=hx x hxm;unfold okS at h2;rw [if_pos hk] at h2;have h3:=((hTn _).1 h2).2;have h4:=symE_name (hl.2.2 x hxm) hk;have h5:nulS g ⟨3,((x.n.toNat:Nat):Int)⟩∨∃t,FirstP g ((x.n.toNat:Nat):Int) t:=h3;rw [Int.toNat_of_nonneg h4.1,←Sym.name hk] at h5;exact h5) with h2 | ⟨t,h2⟩
    left
    have h9:=madeG_closed (fun _=>false) hG p hp h2;unfold nulS okS;rw [if_pos rfl];exact h9;exact .inr ⟨t,HeadF.first hp h2⟩
  have h2:=madeG_least hcl B.toNat (made_all hc (by omega));have h3:=((hTn _).1 h2).2;have h5:nulS g ⟨3,((B.toNat:Nat):Int)⟩∨∃t,FirstP g ((B.toNat:Nat):Int) t:=h3;rw [Int.toNat_of_nonneg h0] at h5;exact h5
section
variable {g:GD}{st:List ASt}(h:Aut g st)
include h
theorem rest_some(hc:(checkE g).1=0){k:Nat}{u:ASt}(hu:st[k]?=some u){x:Itm}(hx:x∈u.items):(∀y∈restG g x,nulS g y)∨∃t,HeadF g (restG g x) t:=by
  refine head_of fun y hy hk=>?_
  have hok:=item_okI h hu hx
  have hs:symE g y=0:=by
    unfold restG at hy;have hy2:=List.mem_of_mem_drop hy;rcases hok.1 with hp|⟨hp0,hp1⟩;unfold rightG at hy2;rw [if_pos hp,List.mem_singleton] at hy2;subst hy2;unfold symE;simp only;rw [if_neg (by omega),if_neg (by omega),if_pos trivial,if_pos h.good.good.1];have hj:g.prods[x.p.toNat]?=some (g.prods[x.p.toNat]'(by omega)):=List.getElem?_eq_getElem _;rw [show x.p=((x.p.toNat:Nat):Int) by omega,rightG_nat hj] at hy2;exact (h.good.good.2 _ (List.mem_of_getElem? hj)).2.2 y hy2
  have hr:=symE_name hs hk;rw [Sym.name hk];exact first_some hc hr.1 hr.2
theorem la_items(hc:(checkE g).1=0){k:Nat}{u:ASt}(hu:st[k]?=some u)(hK:∀x∈u.kernel,∃t,LaP g st (k:Nat) x t){y:Itm}(hy:y∈u.items):∃t,LaP g st (k:Nat) y t:=by
  have hs:=h.shape k u hu;have hkm:∀y∈u.kernel,okI g y:=fun y hy=>item_okI h hu (by rw [hs];exact closG_kmem hy)
  have hstep:∀x∈u.items,(∃t,LaP g st (k:Nat) x t)→∀z,behindG g x=some z→z.kind=3→∃t,∀(j:Nat) (p:P2),g.prods[j]?=some p→p.1=z.n→LaP g st (k:Nat) ⟨(j:Nat),0⟩ t:=fun x hx ⟨t,ht⟩ z hz hk=>by
    rcases rest_some h hc hu hx with h1|⟨t',h1⟩;exact ⟨t,fun j p hj hp=>.null ht hu hx hz hk h1 hj hp⟩;exact ⟨t',fun j p hj hp=>.first hu hx hz hk h1 hj hp⟩
  have hy2:=hy;rw [hs] at hy2;rcases closG_ind h.good.good hkm (fun B=>0≤goS st (k:Nat) ⟨3,B⟩∧∃t,∀(j:Nat) (p:P2),g.prods[j]?=some p→p.1=B→LaP g st (k:Nat) ⟨(j:Nat),0⟩ t)
    (fun x hx z hz hk=>by
      have hxi:x∈u.items:=by rw [hs];exact closG_kmem hx
      refine ⟨?_,hstep x hxi (hK x hx) z hz hk⟩;rw [←Sym.name hk];exact (go_stands h hu z).2 ⟨x,hxi,hz⟩)
    (fun p hp ⟨hq1,t,hq2⟩ z hz hk=>by
      obtain ⟨j,hj⟩:=List.mem_iff_getElem?.1 hp;have hi:=item_of_go h hu hj hq1
      have hb:behindG g ⟨(j:Nat),0⟩=some z:=by
        unfold behindG;simp only;rw [rightG_nat hj];exact hz
      refine ⟨?_,hstep _ hi ⟨t,hq2 j p hj rfl⟩ z hb hk⟩;rw [←Sym.name hk];exact (go_stands h hu z).2 ⟨_,hi,hb⟩) hy2 with h1 | ⟨j,p,rfl,e2,_,t,e3⟩
  exact hK y h1;exact ⟨t,e3 j p e2 rfl⟩
theorem la_some(hc:(checkE g).1=0):∀(k:Nat) (u:ASt),st[k]?=some u→∀y∈u.items,∃t,LaP g st (k:Nat) y t:=by
  intro k
  induction k using Nat.strongRecOn with
  | ind k ih =>
    intro u hu y hy;refine la_items h hc hu (fun x hx=>?_) hy;by_cases hk:k=0;subst hk;obtain ⟨x0,d1,d2,_⟩:=h.first
    rw [hu] at d1;cases d1;rw [d2,List.mem_singleton] at hx;subst hx;exact ⟨_,.start⟩;obtain ⟨m,v,e1,e2,e3,e4,e5⟩:=h.frm k u hu hk;rw [e5] at hx;obtain ⟨e,he,hb,rfl⟩:=overG_mem.1 hx;obtain ⟨t,ht⟩:=ih m e2 v e3 e he;have hg:=go_from h e3 e4;refine ⟨t,?_⟩;rw [←hg];exact .shift ht e3 he hb
theorem fol_some(hc:(checkE g).1=0){q:Nat}{B:Int}(hg:0≤goS st (q:Nat) ⟨3,B⟩):∃t,FolP g st (q:Nat) B t:=by
  have hB:=name_rng h hg;obtain ⟨j,p,hj,rfl⟩:=name_has hc hB.1 hB.2;obtain ⟨n,u,e,hu⟩:=at_state h hg;have:n=q:=by omega
  subst this;obtain ⟨t,ht⟩:=la_some h hc n u hu _ (item_of_go h hu hj hg);obtain ⟨j',p',m,e1,e2,e3,e4,e5,e6,e7⟩:=(la_from h ht).pos (by show (0:Int)≤((j:Nat):Int);omega);have:j'=j:=by simp only at e1;omega
  subst this;rw [hj] at e2;cases e2;have:((n:Nat):Int)=(m:Nat):=e5;rw [this];exact ⟨t,e7⟩
theorem fol_rng{q B t:Int}(hf:FolP g st q B t):0≤t∧t<(g.triv.length:Int)+2:=by
  induction hf with
  | @rd n B t hg hr =>
    clear hg
    induction hr with
    | @tm n B m z hg hk hz =>
      obtain ⟨m',u,e,hu⟩:=at_state h hz;have:m'=m:=by omega
      subst this;obtain ⟨x,hx,hb⟩:=(go_stands h hu z).1 hz;exact tno_rng (behind_symZ9 h hu hx hb) hk
    | fin=>unfold endT;omega
    | rd _ _ _ _ ih=>exact ih
  | inc _ _ _ _ _ _ ih=>exact ih
theorem go_inj{q q':Int}{z z':Sym}(h1:0≤goS st q z)(he:goS st q z=goS st q' z'):z=z':=by
  obtain ⟨n,u,rfl,hu⟩:=at_state h h1;obtain ⟨n',u',rfl,hu'⟩:=at_state h (show 0≤goS st q' z' by omega);obtain ⟨j,y,e1,e2,_,e4,_⟩:=go_to h hu h1;obtain ⟨j',y',f1,f2,_,f4,_⟩:=go_to h hu' (show 0≤goS st (n':Nat) z' by omega);have:j=j':=by omega
  subst this;rw [e2] at f2;cases f2;rw [←e4,←f4]
theorem step_vs{top:Int}{s:List Int}{t:Int}{j:Nat}{p:P2}{q:Int}{r:List Int}(hv:VS st (top::s))(ha:actZ (actsG g st) top t=(2,((j:Nat):Int)))(hj:g.prods[j]?=some p)(hd:(top::s).drop p.2.length=q::r):VS st (goS st q ⟨3,p.1⟩::q::r)∧∃(n:Nat) (m:Int),top=(n:Nat)∧0≤goS st m ⟨3,p.1⟩∧runS st m p.2=(n:Nat)∧FolP g st m p.1 t∧runS st q p.2=(n:Nat):=by
  obtain ⟨n,j',p',rfl,hn,_,_,ha2,hj',hl⟩:=act_two (t:=t) (by rw [ha]:(actZ (actsG g st) top t).1=2);have:j'=j:=by rw [ha] at ha2;have:=congrArg Prod.snd ha2;simp only at this;omega
  subst this;rw [hj] at hj';cases hj';rcases hl with ⟨h2,_⟩|⟨j2,pr,m,e1,e2,e3,e4,e5⟩;omega;have:j2=j':=by omega
  subst this;rw [hj] at e2;cases e2;obtain ⟨m',v,rfl,hm⟩:=at_state h e3;have hi:=item_of_go h hm hj e3;obtain ⟨n',u,f1,f2,f3⟩:=run_along h hm hj hi p.2.length (Nat.le_refl _);rw [List.take_length,e4] at f1;have:n'=n:=by omega
  subst this;obtain ⟨q',w,r',g1,g2,g3,g4,g5⟩:=vs_item h p.2.length n' u s _ hv f2 f3 rfl;rw [hd] at g1;rw [List.cons.injEq] at g1;obtain ⟨rfl,rfl⟩:=g1;simp only at g4 g5;rw [rightG_nat hj,List.take_length] at g5;exact ⟨.cons g2 (item_go h g3 hj g4),n',_,rfl,e3,e4,e5,g5⟩
variable (hc:(checkE g).1=0)(hno:allG g st = [])
include hc hno
theorem event{t:Int}{n:Nat}{r:List Int}(hv:VS st ((n:Nat)::r))(ha:(actZ (actsG g st) (n:Nat) t).1=2):∃os s2,os.length≤754049∧Red g st t 0 ((n:Nat)::r) os s2∧(Halt g st t s2∨Ev g st True n r s2):=by
  obtain ⟨n0,j,p,e0,hn,h0,h1,ha2,hj,_⟩:=act_two ha
  obtain ⟨⟨q,r',hd⟩,hlen⟩:(∃q r',((n:Int)::r).drop p.2.length=q::r')∧True:=by
    refine ⟨?_,trivial⟩;obtain ⟨n1,j',p',e1,_,_,_,ha3,hj',hl⟩:=act_two ha;have:j'=j:=by rw [ha2] at ha3;have:=congrArg Prod.snd ha3;simp only at this;omega
    subst this;rw [hj] at hj';cases hj';rcases hl with ⟨h2,_⟩|⟨j2,pr,m,e1,e2,e3,e4,e5⟩;omega;have:j2=j':=by omega
    subst this;rw [hj] at e2;cases e2;obtain ⟨m',v,rfl,hm⟩:=at_state h e3;have hi:=item_of_go h hm hj e3;obtain ⟨n',u,f1,f2,f3⟩:=run_along h hm hj hi p.2.length (Nat.le_refl _);rw [List.take_length,e4] at f1;have:n'=n:=by omega
    subst this;obtain ⟨q',w,r',g1,_⟩:=vs_item h p.2.length n' u r _ hv f2 f3 rfl;exact ⟨_,_,g1⟩
  obtain ⟨hv2,n',m,e1,e2,e3,e4,e5⟩:=step_vs h hv ha2 hj hd;have:n'=n:=by omega
  subst this;have hstep:Red g st t 0 ((n':Int)::r) [((j:Nat):Int)] (goS st q ⟨3,p.1⟩::q::r'):=.cons ha2 hj hd (Nat.zero_le _) .nil;by_cases hp:p.2 = [];rw [hp,runS] at e3;rw [hp] at hd;simp only [List.length_nil,List.drop_zero,List.cons.injEq] at hd;obtain ⟨rfl,rfl⟩:=hd;subst e3;obtain ⟨n2,B,k,f1,f2,f3⟩:=fol_deep h e4;have:n2=n':=by omega
  subst this;obtain ⟨k',f4,f5⟩:=fol_short h f3;obtain ⟨os,s2,c1,c2,c3⟩:=red_fol h hc hno h0 h1 f5 r hv;rw [f2] at hstep;refine ⟨[((j:Nat):Int)]++os,s2,?_,hstep.trans c2,c3.imp id ?_⟩;have:=h.good.names;have:k'*3841≤127*3841:=Nat.mul_le_mul_right _ (by omega);simp only [List.length_append,List.length_singleton];omega;rintro ⟨j2,d,p2,q,r',a1,a2,a3,a4,a5,a6,a7,a8⟩;refine ⟨j2,d,p2,q,r',a1,a2,a3,a4,a5,fun _=>a6 ?_,a7,a8⟩;have h9:=madeG_closed (fun _=>false) h.good.good p (List.mem_of_getElem? hj) (fun y hy=>by rw [hp] at hy;cases hy);unfold nulS okS;rw [if_pos rfl,←f2];exact h9;obtain ⟨w,x,rfl,_⟩:=VS.top h (hv2.drop 1 rfl);have hl1:1≤p.2.length:=List.length_pos_iff.2 hp
  have hg2:0≤goS st (w:Nat) ⟨3,p.1⟩:=by
    obtain ⟨a,_,e,_⟩:=VS.top h hv2;omega
  exact ⟨_,_,by simp,hstep,.inr ⟨j,p.2.length,p,w,r',hj,hl1,hd,by rw [List.take_length];exact e5,Nat.le_refl _,(fun _ y hy=>by rw [List.drop_length] at hy;cases hy),hg2,rfl⟩⟩
omit h hc hno in
theorem Ev.low{N:Prop}{n:Nat}{r s2:List Int}(he:Ev g st N n r s2):s2.length≤r.length+1:=by
  obtain ⟨j,d,p,q,r',a1,a2,a3,a4,a5,a6,a7,rfl⟩:=he;have:=congrArg List.length a3;simp only [List.length_drop,List.length_cons] at this ⊢;omega
omit h hc hno in
theorem Ev.vs{N:Prop}{n:Nat}{r s2:List Int}(he:Ev g st N n r s2)(hv:VS st ((n:Nat)::r)):VS st s2:=by
  obtain ⟨j,d,p,q,r',a1,a2,a3,a4,a5,a6,a7,rfl⟩:=he;exact .cons (hv.drop d a3) a7
def UnitP(g:GD)(st:List ASt)(q B A:Nat):Prop:=∃(j:Nat) (p:P2),g.prods[j]?=some p∧p.1=(A:Nat)∧p.2[0]?=some ⟨3,(B:Nat)⟩∧(∀y∈p.2.drop 1,nulS g y)∧0≤goS st (q:Nat) ⟨3,(A:Nat)⟩∧0≤goS st (q:Nat) ⟨3,(B:Nat)⟩
inductive UnitT(g:GD)(st:List ASt)(q:Nat):Nat→Nat→Prop
  | one {B A:Nat} : UnitP g st q B A→UnitT g st q B A
  | cons {B A C:Nat} : UnitT g st q B A→UnitP g st q A C→UnitT g st q B C
theorem unit_red{t:Int}(h0:0≤t)(h1:t<(g.triv.length:Int)+2){q B A:Nat}(hu:UnitT g st q B A):FolP g st (q:Nat) (A:Nat) t→FolP g st (q:Nat) (B:Nat) t∧∀r:List Int,∃os,os≠[]∧Red g st t (r.length+1) (goS st (q:Nat) ⟨3,(B:Nat)⟩::(q:Nat)::r) os (goS st (q:Nat) ⟨3,(A:Nat)⟩::(q:Nat)::r):=by
  have one:∀ {B A:Nat},UnitP g st q B A→FolP g st (q:Nat) (A:Nat) t→FolP g st (q:Nat) (B:Nat) t∧∀r:List Int,∃os,os≠[]∧Red g st t (r.length+1) (goS st (q:Nat) ⟨3,(B:Nat)⟩::(q:Nat)::r) os (goS st (q:Nat) ⟨3,(A:Nat)⟩::(q:Nat)::r):=by
    rintro B A ⟨j,p,hj,hp,hz,hn,hA,hB⟩ hf;have hgp:0≤goS st (q:Nat) ⟨3,p.1⟩:=by rw [hp];exact hA
    rw [←hp] at hf;refine ⟨FolP.inc (k:=0) hf hgp hj hz rfl hn,fun r=>?_⟩;obtain ⟨os,g0,g1,g2⟩:=red_tail h hc hno h0 h1 (n:=q) (B:=(B:Nat)) (r:=r) (d:=0) (q:=q) (r':=r) hj hz rfl rfl hgp hn hgp rfl hf;rw [hp] at g2;exact ⟨os,g0,g2⟩
  induction hu with
  | one h2=>exact one h2
  | cons h2 h3 ih =>
    intro hf;obtain ⟨f1,f2⟩:=one h3 hf;obtain ⟨f3,f4⟩:=ih f1;refine ⟨f3,fun r=>?_⟩;obtain ⟨os1,a1,a2⟩:=f4 r;obtain ⟨os2,_,a4⟩:=f2 r;exact ⟨os1++os2,by simp [a1],a2.trans a4⟩
theorem no_cycle{q A:Nat}(hu:UnitT g st q A A):False:=by
  have hg:0≤goS st (q:Nat) ⟨3,(A:Nat)⟩:=by
    cases hu with
    | one h2=>obtain ⟨j,p,_,_,_,_,h3,_⟩:=h2;exact h3
    | cons _ h2=>obtain ⟨j,p,_,_,_,_,h3,_⟩:=h2;exact h3
  obtain ⟨t,hf⟩:=fol_some h hc hg;obtain ⟨h0,h1⟩:=fol_rng h hf;obtain ⟨n,u,e,hq⟩:=at_state h hg;have:n=q:=by omega
  subst this;obtain ⟨r,hr⟩:=vs_path h n u hq;obtain ⟨os,hne,hR⟩:=(unit_red h hc hno h0 h1 hu hf).2 r;obtain ⟨n2,B,k,f1,f2,f3⟩:=fol_deep h hf;have:n2=n:=by omega
  subst this;have:B=A:=by omega
  subst this;obtain ⟨os1,s1,_,c2,c3⟩:=red_fol h hc hno h0 h1 f3 r hr;obtain ⟨d1,d2⟩:=hR.cyc hne (by simp) os1.length os1 s1 (Nat.le_refl _) c2;rcases c3 with c3|c3;exact d2 c3;have:=c3.low;omega
theorem chain{t:Int}{q:Nat}{r:List Int}(hv:VS st ((q:Nat)::r)):∀(k A:Nat) (prev:List Nat),prev.Nodup→(∀x∈prev,x<g.names∧UnitT g st q x A)→prev.length+k=g.names→0≤goS st (q:Nat) ⟨3,(A:Nat)⟩→∃os s2,os.length≤k*754049∧Red g st t 0 (goS st (q:Nat) ⟨3,(A:Nat)⟩::(q:Nat)::r) os s2∧(Halt g st t s2∨(VS st s2∧s2.length≤r.length+1)):=by
  intro k
  induction k with
  | zero =>
    intro A prev hn hp hl hg;exfalso;have hA:=name_rng h hg
    have:=nodup_len g.names (A::prev) (List.nodup_cons.2 ⟨fun h9=>no_cycle h hc hno (hp A h9).2,hn⟩) (fun x hx=>by
      rcases List.mem_cons.1 hx with rfl|hx;omega;exact (hp x hx).1)
    simp only [List.length_cons] at this;omega
  | succ k ih =>
    intro A prev hn hp hl hg;by_cases ha:(actZ (actsG g st) (goS st (q:Nat) ⟨3,(A:Nat)⟩) t).1=2;have hv2:VS st (goS st (q:Nat) ⟨3,(A:Nat)⟩::(q:Nat)::r):=.cons hv hg;obtain ⟨n,_,hn2,_⟩:=VS.top h hv2;rw [hn2] at ha hv2;obtain ⟨os,s2,c1,c2,c3⟩:=event h hc hno hv2 ha;rcases c3 with c3|c3;exact ⟨os,s2,by rw [Nat.add_mul];omega,by rw [hn2];exact c2,.inl c3⟩;have hvs:=c3.vs hv2;obtain ⟨j,d,p,q',r',a1,a2,a3,a4,a5,a6,a7,rfl⟩:=c3;by_cases hd:d=1;subst hd;simp only [List.drop_succ_cons,List.drop_zero,List.cons.injEq] at a3;obtain ⟨e1,rfl⟩:=a3;have:q'=q:=by omega
    subst this;have hx:p.2[0]?=some p.2[0]:=List.getElem?_eq_getElem (by omega)
    have hxx:p.2[0]=⟨3,(A:Nat)⟩:=by
      have h9:runS st (q':Nat) (p.2.take 1)=goS st (q':Nat) p.2[0]:=by
        rw [show p.2.take 1 = [p.2[0]] by rw [List.take_add_one,hx];rfl,run_one]
      rw [h9] at a4;exact go_inj h (by rw [a4];omega) (by rw [a4,hn2])
    rw [hxx] at hx;have hp1:=name_rng h a7;have hpA:p.1=((p.1.toNat:Nat):Int):=by omega
    have hU:UnitP g st q' A p.1.toNat:=⟨j,p,a1,hpA,hx,a6 trivial,by rw [←hpA];exact a7,hg⟩
    obtain ⟨os2,s2,f1,f2,f3⟩:=ih p.1.toNat (A::prev) (List.nodup_cons.2 ⟨fun h9=>no_cycle h hc hno (hp A h9).2,hn⟩) (fun x hx=>by
      rcases List.mem_cons.1 hx with rfl|hx;exact ⟨by have:=name_rng h hg;omega,.one hU⟩;exact ⟨(hp x hx).1,.cons (hp x hx).2 hU⟩) (by simp only [List.length_cons];omega) (by rw [←hpA];exact a7)
    rw [←hpA] at f2;refine ⟨os++os2,s2,by rw [List.length_append,Nat.add_mul];omega,?_,f3⟩;rw [hn2];exact c2.trans f2;refine ⟨os,_,by rw [Nat.add_mul];omega,by rw [hn2];exact c2,.inr ⟨hvs,?_⟩⟩;have:=congrArg List.length a3;simp only [List.length_drop,List.length_cons] at this ⊢;omega;exact ⟨[],_,by simp,.nil,.inl ha⟩
theorem ends{t:Int} : ∀(N:Nat) (s:List Int),s.length≤N→VS st s→∃os s2,os.length≤N*97272321∧Red g st t 0 s os s2∧Halt g st t s2
  | _,[],_,hv=>by cases hv
  | 0,_::_,hl,_=>by simp at hl
  | N+1,top::r,hl,hv=>by
    simp only [List.length_cons] at hl;by_cases ha:(actZ (actsG g st) top t).1=2;obtain ⟨n,_,rfl,_⟩:=VS.top h hv;obtain ⟨os,s2,c1,c2,c3⟩:=event h hc hno hv ha;rcases c3 with c3|c3;exact ⟨os,s2,by rw [Nat.add_mul];omega,c2,c3⟩;have hvs:=c3.vs hv;obtain ⟨j,d,p,q,r',a1,a2,a3,a4,a5,a6,a7,rfl⟩:=c3;have hp1:=name_rng h a7;have hpA:p.1=((p.1.toNat:Nat):Int):=by omega
    obtain ⟨os2,s2,f1,f2,f3⟩:=chain h hc hno (t:=t) (hv.drop d a3) g.names p.1.toNat [] (by simp) (fun x hx=>by cases hx) (by simp) (by rw [←hpA];exact a7);rw [←hpA] at f2;have hnm:g.names*754049≤128*754049:=Nat.mul_le_mul_right _ h.good.names
    have hrl:r'.length+1≤N:=by
      have:=congrArg List.length a3;simp only [List.length_drop,List.length_cons] at this;omega
    rcases f3 with f3|⟨f3,f4⟩;exact ⟨os++os2,s2,by rw [List.length_append,Nat.add_mul];omega,c2.trans f2,f3⟩;obtain ⟨os3,s3,k1,k2,k3⟩:=ends N s2 (by omega) f3;exact ⟨os++(os2++os3),s3,by rw [List.length_append,List.length_append,Nat.add_mul];omega,c2.trans (f2.trans k2),k3⟩;exact ⟨[],_,by simp,.nil,ha⟩
end
theorem drop_rev{α:Type}{l:List α}{k:Nat}{s:List α}(h:l.reverse.drop k=s):l.take (l.length-k)=s.reverse:=by
  rw [←h,List.drop_reverse,List.reverse_reverse]
theorem gos_at{g:GD}{st:List ASt}{q:Nat}{i:Int}(hq:q<st.length)(h0:0≤i)(h1:i<(g.names:Int)):((gosG g st).getD ((q:Nat):Int).toNat [])[i.toNat]?=some (goS st (q:Nat) ⟨3,i⟩):=by
  unfold gosG;rw [show ((q:Nat):Int).toNat=q by omega,List.getD_eq_getElem?_getD,List.getElem?_map,List.getElem?_range hq];simp only [Option.map_some,Option.getD_some];unfold goRow;rw [List.getElem?_map,List.getElem?_range (by omega)];simp only [Option.map_some];rw [Int.toNat_of_nonneg h0]
noncomputable def resZ(g:GD)(st:List ASt)(t:Int)(os:List Int):List Int→List Int×Bool
  | []=>([],false)
  | top::_=>if (actZ (actsG g st) top t).1=0 then ([],false) else (os,true)
theorem red_runZ{g:GD}{st:List ASt}(h:Aut g st){t:Int}{F:Nat}{s os s2:List Int}(hR:Red g st t F s os s2):Halt g st t s2→VS st s→∀(l:List Int) (j:Nat) (ns o:List Int) (top:Int) (s':List Int),s=(l.take j++ns).reverse→j≤l.length→s=top::s'→runZ (actsG g st) (gosG g st) g.prods l t (os.length+1) o j ns top=some (resZ g st t (o++os) s2):=by
  induction hR with
  | @nil s =>
    intro hh hv l j ns o top s' hs hj ht;subst ht;have ha:(actZ (actsG g st) top t).1≠2:=hh;rw [runZ,if_neg ha,List.append_nil];rfl
  | @cons top0 q s r os s2 j0 p ha hp hd hF hR ih =>
    intro hh hv l j ns o top s' hs hj ht;rw [List.cons.injEq] at ht;obtain ⟨rfl,rfl⟩:=ht;obtain ⟨hv2,_⟩:=step_vs h hv ha hp hd;obtain ⟨qn,u,hq,hu⟩:=VS.top h (hv2.drop 1 rfl);have hg:0≤goS st q ⟨3,p.1⟩:=by obtain ⟨m,_,e,_⟩:=VS.top h hv2;omega
    have hn:=name_rng h hg;rw [hs] at hd;have hd2:=drop_rev hd;rw [List.length_append,List.length_take,Nat.min_eq_left hj,List.reverse_cons] at hd2
    have hpl:p.2.length<j+ns.length:=by
      have:=congrArg List.length hd2;simp only [List.length_take,List.length_append,Nat.min_eq_left hj,List.length_reverse,List.length_singleton] at this;omega
    obtain ⟨k,hk⟩:∃k,k=min p.2.length ns.length:=⟨_,rfl⟩
    have hsplit:l.take (j-(p.2.length-k))++ns.take (ns.length-k)=r.reverse++[q]:=by
      rw [←hd2,List.take_append,List.length_take,Nat.min_eq_left hj,List.take_take];congr 1;congr 1;omega;by_cases hc:p.2.length≤ns.length;congr 1;omega;rw [show ns.length-k=0 by omega,show j+ns.length-p.2.length-j=0 by omega]
    rw [List.length_cons,runZ,ha];simp only [];rw [if_pos trivial,if_neg (by omega),show ((j0:Nat):Int).toNat=j0 by omega,hp];simp only [];rw [←hk,if_neg (by omega)]
    have hm:(if ns.take (ns.length-k) = [] then (if j-(p.2.length-k)=0 then none else l[j-(p.2.length-k)-1]?) else (ns.take (ns.length-k)).getLast?)=some q:=by
      split
      rename_i h0;rw [h0,List.append_nil] at hsplit;have hlen:=congrArg List.length hsplit;rw [List.length_take,List.length_append,List.length_singleton,List.length_reverse] at hlen;rw [if_neg (by omega)];have h9:=congrArg List.getLast? hsplit;rw [List.getLast?_concat,List.getLast?_eq_getElem?,List.length_take,Nat.min_eq_left (by omega),List.getElem?_take,if_pos (by omega)] at h9;exact h9;rename_i h0;have h9:=congrArg List.getLast? hsplit;rw [List.getLast?_concat,List.getLast?_append] at h9
      cases hc:(ns.take (ns.length-k)).getLast? with
      | none=>rw [List.getLast?_eq_none_iff] at hc;exact absurd hc h0
      | some y=>rw [hc] at h9;exact h9
    rw [hm];simp only [];rw [if_neg (by omega),hq,gos_at (List.getElem?_eq_some_iff.1 hu).1 hn.1 hn.2];simp only [];rw [hq] at hv2 hsplit hm ih
    have:=ih hh hv2 l (j-(p.2.length-k)) (ns.take (ns.length-k)++[goS st (qn:Nat) ⟨3,p.1⟩]) (o++[((j0:Nat):Int)]) (goS st (qn:Nat) ⟨3,p.1⟩) ((qn:Nat)::r) (by
      rw [←List.append_assoc,hsplit];simp) (by omega) rfl
    rw [List.append_assoc] at this;exact this
theorem chain_vs{st:List ASt} : ∀(l:List Int) (a:Int) (s:List Int),VS st (a::s)→chainZ st (a::l)=true→VS st ((a::l).reverse++s)
  | [],a,s,hv,_=>hv
  | b::l,a,s,hv,hc=>by
    rw [chainZ,Bool.and_eq_true,Bool.and_eq_true,decide_eq_true_eq] at hc;obtain ⟨⟨h1,h2⟩,h3⟩:=hc
    have hb:0≤goS st a (symS st b).1:=by
      rw [h2];unfold symS at h1
      split at h1
      cases h1;rename_i hn
      have h4:isS st b=true:=by
        cases hc:isS st b with
        | true=>rfl
        | false=>exact absurd (Or.inr hc) hn
      exact (isS_rng h4).1
    have hv2:=VS.cons hv hb;rw [h2] at hv2;have:=chain_vs l b (a::s) hv2 h3;rw [List.reverse_cons,List.append_assoc];exact this
theorem right_vs{st:List ASt}{l:List Int}(hr:rightZ st l=true):VS st l.reverse:=by
  cases l with
  | nil=>cases hr
  | cons a r =>
    rw [rightZ,Bool.and_eq_true,decide_eq_true_eq] at hr;obtain ⟨rfl,h2⟩:=hr;have:=chain_vs r 0 [] .base h2;rw [List.append_nil] at this;exact this
structure RunR(g:GD)(st:List ASt)(t:Int)(l os s2:List Int):Prop where
  red:Red g st t 0 l.reverse os s2
  halt:Halt g st t s2
theorem run_some{g:GD}{st:List ASt}(h:Aut g st)(hc:(checkE g).1=0)(hno:allG g st = []){l:List Int}(hr:rightZ st l=true)(t:Int):∃os s2,os.length≤l.length*97272321∧RunR g st t l os s2:=by
  obtain ⟨os,s2,h1,h2,h3⟩:=ends h hc hno (t:=t) l.reverse.length l.reverse (Nat.le_refl _) (right_vs hr);rw [List.length_reverse] at h1;exact ⟨os,s2,h1,h2,h3⟩
theorem run_isZ{g:GD}{st:List ASt}(h:Aut g st){l os s2:List Int}{t:Int}(hr:rightZ st l=true)(hR:RunR g st t l os s2){top:Int}(ht:l.getLast?=some top):runZ (actsG g st) (gosG g st) g.prods l t (os.length+1) [] l.length [] top=some (resZ g st t os s2):=by
  obtain ⟨s',hs'⟩:∃s',l.reverse=top::s':=by
    rw [List.getLast?_eq_head?_reverse] at ht
    cases hl:l.reverse with
    | nil=>rw [hl] at ht;cases ht
    | cons a b=>rw [hl] at ht;cases ht;exact ⟨b,rfl⟩
  have:=red_runZ h hR.red hR.halt (right_vs hr) l l.length [] [] top s' (by rw [List.take_length,List.append_nil]) (Nat.le_refl _) hs';exact this
def RunT(g:GD)(st:List ASt)(t:Int)(l:List Int)(res:List Int×Bool):Prop:=(rightZ st l=false∧res=([],false))∨(rightZ st l=true∧∃os s2,RunR g st t l os s2∧res=resZ g st t os s2)
theorem tab_runT{B B0:Nat}{w:World}{s0:SP}{ba tb:Nat}{st:List ASt}(h:TabX B w s0 ba st tb)(hX:AutX B0 w s0 ba st)(hck:(checkE s0.g).1=0)(hno:allG s0.g st = [])(l:List Int)(A:Option Addr)(c:Nat)(t:Int)(hA:RowA w A (l.flatMap ints))(hcap:l.length≤c)(hll:l.length≤80000) :
    Calls Tryz.prog 26 #[.pointer (some ⟨tb,0,none⟩),.slice A l.length c,.int .i64 t] w (Ret fun v w'=>∃res A' c',RunT s0.g st t l res∧v = .tuple #[.slice A' res.1.length c',.bool res.2]∧NewRow w w' 3 1 ints res.1 A' c'∧Ext w w'):=by
  cases hr:rightZ st l with
  | false =>
    refine ret_mono (tab_run h hX l A c t 0 ([],false) hA hcap (by omega) (by omega) (fun h9=>by rw [hr] at h9;cases h9)) ?_;rintro v w' ⟨A',c',rfl,h2,h3⟩;rw [hr] at h2 ⊢;exact ⟨([],false),A',c',.inl ⟨hr,rfl⟩,rfl,h2,h3⟩
  | true =>
    obtain ⟨os,s2,h1,h2⟩:=run_some hX.aut hck hno hr t
    have hb:os.length+1≤8000000000000:=by
      have:=Nat.mul_le_mul_right 97272321 hll;have h9:(80000*97272321:Nat)=7781785680000:=by decide
      rw [h9] at this;omega
    refine ret_mono (tab_run h hX l A c t (os.length+1) (resZ s0.g st t os s2) hA hcap (by omega) hb (fun _ top ht=>run_isZ hX.aut hr h2 ht)) ?_;rintro v w' ⟨A',c',rfl,h3,h4⟩;rw [hr] at h3 ⊢;exact ⟨_,A',c',.inr ⟨hr,os,s2,h2,rfl⟩,rfl,h3,h4⟩
theorem run_unique{g:GD}{st:List ASt}{t:Int}{l os os' s s':List Int}(h1:RunR g st t l os s)(h2:RunR g st t l os' s'):os=os'∧s=s':=h1.red.halt_det h1.halt h2.red h2.halt
theorem runT_unique{g:GD}{st:List ASt}{t:Int}{l:List Int}{a b:List Int×Bool}(h1:RunT g st t l a)(h2:RunT g st t l b):a=b:=by
  rcases h1 with ⟨e1,rfl⟩|⟨e1,os,s,f1,rfl⟩<;>rcases h2 with ⟨e2,rfl⟩|⟨e2,os',s',f2,rfl⟩
  rfl
  rw [e1] at e2;cases e2;rw [e1] at e2;cases e2;obtain ⟨rfl,rfl⟩:=run_unique f1 f2;rfl
theorem tab_action9{B:Nat}{w:World}{s0:SP}{ba tb:Nat}{st:List ASt}{g:GD}(h:TabX B w s0 ba st tb)(hg:s0.g=g)(n t:Int):Calls Tryz.prog 23 #[.pointer (some ⟨tb,0,none⟩),.int .i64 n,.int .i64 t] w (Ret fun v w'=>v = .agg #[.int .i64 (actZ (actsG g st) n t).1,.int .i64 (actZ (actsG g st) n t).2]∧Ext w w'):=hg ▸ tab_action h n t
theorem tab_goto9{B:Nat}{w:World}{s0:SP}{ba tb:Nat}{st:List ASt}{g:GD}(h:TabX B w s0 ba st tb)(hg:s0.g=g)(n i:Int):Calls Tryz.prog 39 #[.pointer (some ⟨tb,0,none⟩),.int .i64 n,.int .i64 i] w (Ret fun v w'=>v = .int .i64 (gotoZ (gosG g st) n i)∧Ext w w'):=hg ▸ tab_goto h n i
theorem gotoZ_is{g:GD}{st:List ASt}{q i:Int}(hq:0≤q∧q<(st.length:Int))(h0:0≤i)(h1:i<(g.names:Int)):gotoZ (gosG g st) q i=goS st q ⟨3,i⟩:=by
  obtain ⟨n,rfl⟩:∃n:Nat,q=(n:Nat):=⟨q.toNat,by omega⟩;have:=gos_at (g:=g) (st:=st) (q:=n) (by omega) h0 h1;unfold gotoZ;rw [if_neg (by omega),List.getD_eq_getElem?_getD,this];rfl
theorem steps_at{g:GD}{st:List ASt}(h:Aut g st){L:List Int}(hv:VS st L.reverse)(_:VS st L.reverse){t top:Int}(ht:L.getLast?=some top)(ha:(actZ (actsG g st) top t).1=2):∃(j:Nat) (p:P2) (q:Int) (r:List Int),actZ (actsG g st) top t=(2,((j:Nat):Int))∧g.prods[j]?=some p∧p.2.length<L.length∧L.reverse.drop p.2.length=q::r∧VS st (goS st q ⟨3,p.1⟩::q::r)∧L[L.length-p.2.length-1]?=some q∧0≤p.1∧(0≤q∧q<(st.length:Int))∧p.1<(g.names:Int):=by
  obtain ⟨s',hs'⟩:∃s',L.reverse=top::s':=by
    rw [List.getLast?_eq_head?_reverse] at ht
    cases hl:L.reverse with
    | nil=>rw [hl] at ht;cases ht
    | cons a b=>rw [hl] at ht;cases ht;exact ⟨b,rfl⟩
  rw [hs'] at hv;obtain ⟨n,u,rfl,hu⟩:=VS.top h hv;obtain ⟨n',j,p,e1,hn,h0,h1,ha2,hj,hl⟩:=act_two ha
  obtain ⟨q,r,hd⟩:∃q r,L.reverse.drop p.2.length=q::r:=by
    rw [hs'];rcases hl with ⟨h2,_⟩|⟨j2,pr,m,e2,e3,e4,e5,e6⟩;omega;have:j2=j:=by omega
    subst this;rw [hj] at e3;cases e3;obtain ⟨m',v,rfl,hm⟩:=at_state h e4;have hi:=item_of_go h hm hj e4;obtain ⟨n2,u2,f1,f2,f3⟩:=run_along h hm hj hi p.2.length (Nat.le_refl _);rw [List.take_length,e5] at f1;have:n2=n:=by omega
    subst this;obtain ⟨q',w,r',g1,_⟩:=vs_item h p.2.length n2 u2 s' _ hv f2 f3 rfl;exact ⟨_,_,g1⟩
  have hd2:=hd;rw [hs'] at hd2;obtain ⟨hv2,_⟩:=step_vs h hv ha2 hj hd2;have hlen:=congrArg List.length hd;rw [List.length_drop,List.length_reverse,List.length_cons] at hlen;obtain ⟨qn,v,hq,hqv⟩:=VS.top h (hv2.drop 1 rfl);have hg:0≤goS st q ⟨3,p.1⟩:=by obtain ⟨m,_,e,_⟩:=VS.top h hv2;omega
  have hn2:=name_rng h hg;have hql:=(List.getElem?_eq_some_iff.1 hqv).1;refine ⟨j,p,q,r,ha2,hj,by omega,hd,hv2,?_,hn2.1,⟨by omega,by omega⟩,hn2.2⟩;have h9:=congrArg (fun l:List Int=>l[0]?) hd;simp only [List.getElem?_drop,List.getElem?_cons_zero,Nat.add_zero] at h9;rw [List.getElem?_reverse (by omega)] at h9;rw [show L.length-p.2.length-1=L.length-1-p.2.length by omega];exact h9
theorem steps_red{g:GD}{st:List ASt}{t:Int}{S o L L':List Int}{top q:Int}{r:List Int}{j:Nat}{p:P2}(hR:Red g st t 0 S.reverse o L.reverse)(_:VS st L.reverse)(ha:actZ (actsG g st) top t=(2,((j:Nat):Int)))(hp:g.prods[j]?=some p)(ht:L.getLast?=some top)(hd:L.reverse.drop p.2.length=q::r)(hv:VS st (goS st q ⟨3,p.1⟩::q::r))(hL:L'=L.take (L.length-p.2.length)++[goS st q ⟨3,p.1⟩]):Red g st t 0 S.reverse (o++[((j:Nat):Int)]) L'.reverse∧VS st L'.reverse:=by
  obtain ⟨s',hs'⟩:∃s',L.reverse=top::s':=by
    rw [List.getLast?_eq_head?_reverse] at ht
    cases hl:L.reverse with
    | nil=>rw [hl] at ht;cases ht
    | cons a b=>rw [hl] at ht;cases ht;exact ⟨b,rfl⟩
  have h1:=drop_rev hd;have h2:L'.reverse=goS st q ⟨3,p.1⟩::q::r:=by rw [hL,h1];simp
  rw [h2];rw [hs'] at hR hd;exact ⟨hR.trans (.cons ha hp hd (Nat.zero_le _) .nil),hv⟩
theorem steps_halt{g:GD}{st:List ASt}{t:Int}{L:List Int}{top:Int}(ht:L.getLast?=some top):∃s',L.reverse=top::s':=by
  rw [List.getLast?_eq_head?_reverse] at ht
  cases hl:L.reverse with
  | nil=>rw [hl] at ht;cases ht
  | cons a b=>rw [hl] at ht;cases ht;exact ⟨b,rfl⟩
theorem steps_end0{g:GD}{st:List ASt}{t:Int}{S o L:List Int}{top:Int}(hR:Red g st t 0 S.reverse o L.reverse)(ht:L.getLast?=some top)(h2:(actZ (actsG g st) top t).1≠2)(h0:(actZ (actsG g st) top t).1=0):∃os s2,Red g st t 0 S.reverse os s2∧Halt g st t s2∧(([]:List Int),false)=resZ g st t os s2:=by
  obtain ⟨s',hs'⟩:=steps_halt (g:=g) (st:=st) (t:=t) ht;refine ⟨o,L.reverse,hR,?_,?_⟩;rw [hs'];exact h2;rw [hs'];unfold resZ;simp only [];rw [if_pos h0]
theorem steps_end1{g:GD}{st:List ASt}{t:Int}{S o L:List Int}{top:Int}(hR:Red g st t 0 S.reverse o L.reverse)(ht:L.getLast?=some top)(h2:(actZ (actsG g st) top t).1≠2)(h0:¬(actZ (actsG g st) top t).1=0):∃os s2,Red g st t 0 S.reverse os s2∧Halt g st t s2∧(o,true)=resZ g st t os s2:=by
  obtain ⟨s',hs'⟩:=steps_halt (g:=g) (st:=st) (t:=t) ht;refine ⟨o,L.reverse,hR,?_,?_⟩;rw [hs'];exact h2;rw [hs'];unfold resZ;simp only [];rw [if_neg h0]
theorem steps9_calls(s s1:SP)(B:Nat)(st:List ASt)(ba tb:Nat)(S:List Int)(A:Option Addr)(c:Nat)(t:Int)(w:World)(hS:SpR w s)(hTb:TabX B w s1 ba st tb)(hg:s1.g=s.g)(haut:Aut s.g st)(hA:RowA w A (S.flatMap ints))(hv0:VS st S.reverse)(hSl:S.length≤80000)(hS0:0<S.length) :
    Calls Tryz.prog 35 #[(.agg #[(.slice s.lA s.lex.length s.lc),(.slice s.nA s.names.length s.nc),(.int .i64 s.start),(.slice s.pA s.prods.length s.pc)]),(.pointer (some ⟨tb,0,none⟩)),(.slice A S.length c),(.int .i64 t)] w (Ret (fun v w'=>∃(m:List Int) (is en:Bool) (A':Option Addr) (c':Nat),v = .tuple #[.slice A' m.length c',.bool is,.bool en]∧NewRow w w' 3 1 ints m A' c'∧Ext w w'∧(en=true→∃os s2,Red s.g st t 0 S.reverse os s2∧Halt s.g st t s2∧(m,is)=resZ s.g st t os s2))):=by
 have hnp:=hS.fp.le;refine calls_y (n:=94) Tryz.func35 ?_;refine go ?_;refine y_bx ?_;intro w1 e1 z1 b1;refine go ?_;refine yOp (ox_mkSlice (ps:=[]) (zs:=#[]) (cs:=#[]) tE_39.h rfl (by decide) (by kernel_rfl) (by kernel_rfl) ?_);intro w2 e2 z2 b2;replace b2:Blk w2 w1.heap.size #[] 3:=b2;have x1:Ext w w2:=(Xt e1 e2);refine go ?_;refine yOp (ox_appR (l:=([])) (r:=S) (cs:=ints) rfl tE_39.h rfl (by decide) ints_len ints_one (v:=(.slice (some ⟨w1.heap.size,0,none⟩) 0 0)) rfl rfl (Vx.Own.lit (n:=0) (sz:=1) b2 rfl (by decide)) (RowA.ext hA x1) aM (by decide) ?_);intro A1 c1 w3 o1 e3 at1 hc1;have he3:=e3.size;replace at1:(Value.slice A1 (S).length c1).ownBlock=((.slice (some ⟨w1.heap.size,0,none⟩) 0 0):Value).ownBlock∨(Value.slice A1 (S).length c1).ownBlock=some w2.heap.size:=at1;replace o1:Vx.Own w3 3 1 (.slice A1 (S).length c1) (S).length ((S).flatMap ints):=o1;have low1:∀_k,(Value.slice A1 (S).length c1).ownBlock=some _k→w1.heap.size≤_k:=fun _k _h=>by rcases at1 with _e | _e<;>rw [_e] at _h;exact (fun _k _h=>by simp [Value.ownBlock] at _h;omega) _k _h;exact (by cases _h;omega)
 refine go ?_;refine xc_loopN (fun m_ f_ Wx=>∃(n:Nat) (o:List Int) (Ao:Option Addr) (co:Nat) (L:List Int) (AL:Option Addr) (cL:Nat),m_=4000000-n∧(n≤4000000)∧(Red s.g st t 0 S.reverse o L.reverse∧VS st L.reverse)∧(o.length≤n)∧(L.length≤S.length+n)∧(∀k,(Value.slice Ao o.length co).ownBlock=some k→¬(Value.slice AL L.length cL).ownBlock=some k)∧(0<L.length)∧f_ 1=(.pointer (some ⟨tb,0,none⟩))∧f_ 3=(.int .i64 t)∧f_ 4=(.pointer (some ⟨w.heap.size,0,none⟩))∧f_ 12=(.int .i64 ((n:Nat)))∧f_ 8=(.slice Ao o.length co)∧f_ 11=(.slice AL L.length cL)∧Vx.Own Wx 3 1 (.slice Ao o.length co) o.length (o.flatMap ints)∧Vx.Own Wx 3 1 (.slice AL L.length cL) L.length (L.flatMap ints)∧(∀k,((.slice Ao o.length co):Value).ownBlock=some k→w3.heap.size≤k)∧(∀k,((.slice AL L.length cL):Value).ownBlock=some k→w1.heap.size≤k)∧(∀k,((.slice AL L.length cL):Value).ownBlock=some k→((.slice A1 ((S).length) c1):Value).ownBlock=some k∨w3.heap.size≤k)∧Chg (fun b=>((.slice A1 ((S).length) c1):Value).ownBlock=some b) w3 Wx) (4000000) ?_ ?_;exact ⟨0,[],none,0,S,A1,c1,(by omega),(by omega),⟨.nil,hv0⟩,(by simp),(by omega),(fun k hk=>by simp [Value.ownBlock] at hk),(by omega),rfl,rfl,rfl,vW,rfl,rfl,(Vx.Own.nil _ _ _),o1,(fun _k _h=>by simp [Value.ownBlock] at _h),low1,(fun k hk=>.inl hk),(Chg.refl _ _)⟩;rintro m_ f1 w4 ⟨n,o,Ao,co,L,AL,cL,hm_f1,hn,hR,ho,hL,hap,hLp,g1_f1,g3_f1,g4_f1,g12_f1,g8_f1,g11_f1,a0_f1,a1_f1,l0_f1,l1_f1,r0_f1,x2⟩;have hx2:=x2.size;have hv:=hR.2;have hcn9:=Own.capn a1_f1;rw [←usf g1_f1,←usf g3_f1,←usf g4_f1,←usf g12_f1,←usf g8_f1,←usf g11_f1];refine go ?_;refine y_if (fun h1=>?_) (fun h1=>?_);refine go ?_;refine y_sub ?_;obtain ⟨x_1,g_1,hx_1⟩:=own_may (A:=AL) ((L.length-1)) ints_len (by decide) a1_f1;obtain ⟨hx_2,hA_1,hc_1⟩:=hx_1 oM;refine y_ix ((L.length-1)) hA_1 ?_;refine y_lc (CellsL.at1 hc_1 0 rfl) ?_;have x3:Ext w w4:=(Co (Chg.trans x1 e3 (fun b hb hl=>(absurd hl (by have _h:=(fun _k _h=>by simp [Value.ownBlock] at _h;omega) b hb;omega)))) x2 low1);refine go ?_;refine yCa (ret_mono (tab_action9 (hTb.ext x3) hg x_1 t) ?_);rintro _ w5 ⟨rfl,e4⟩;have he4:=e4.size;refine y_al ?_;intro w6 e5 z3 b3;refine y_st b3 ?_;intro w7 e6 z4 b4;replace b4:Blk w7 w5.heap.size #[(.int .i64 ((actZ (actsG s.g st) x_1 t).1)),(.int .i64 ((actZ (actsG s.g st) x_1 t).2))] 55:=blk_full b4 rfl;refine go ?_;refine y_ld b4 ?_;refine go ?_;refine y_if (fun h2=>?_) (fun h2=>?_);have htp9:L.getLast?=some x_1:=by rw [List.getLast?_eq_getElem?];exact hx_2
 refine go ?_;refine y_ld b4 ?_;refine go ?_;refine y_if (fun h3=>?_) (fun h3=>?_);refine go ?_;refine y_r3 ?_;have x4:Ext w w7:=(Xc (Xt (Xt x3 e4) e5) e6);exact ⟨[],false,true,none,0,rfl,⟨Vx.Own.nil _ _ _,fun k hk=>by simp [Value.ownBlock] at hk⟩,x4,fun _=>steps_end0 hR.1 htp9 h2 h3⟩;refine go ?_;refine y_r3 ?_;have q1:=(((a0_f1.ext e4).ext e5).kb e6 b3);have x5:Ext w w7:=(Xc (Xt (Xt x3 e4) e5) e6);exact ⟨o,true,true,Ao,co,rfl,⟨q1,fun k hk=>by have _h:=l0_f1 k hk;omega⟩,x5,fun _=>steps_end1 hR.1 htp9 h2 h3⟩;have htp9:L.getLast?=some x_1:=by rw [List.getLast?_eq_getElem?];exact hx_2
 obtain ⟨j9,p,qq,rq,ha9,hp,hpl9,hd9,hv9,hq9,hqg,hq1,hp1⟩:=steps_at (t:=t) haut hv hR.2 htp9 (by omega);have haj:(actZ (actsG s.g st) x_1 t).2=((j9:Nat):Int):=by rw [ha9]
 have hjl:j9<s.prods.length:=by have h9:=(List.getElem?_eq_some_iff.1 hp).1;rw [s.gprods] at h9;exact h9
 obtain ⟨M9,hM9⟩:∃M9,M9=L.length-p.2.length:=⟨_,rfl⟩;have x6:Ext w w7:=(Xc (Xt (Xt x3 e4) e5) e6);obtain ⟨x_2,g_2,o_2,hx_3⟩:=row_may (A:=s.pA) (cs:=PD.cs) ((actZ (actsG s.g st) x_1 t).2.toNat) PD.len (by decide) (RowA.ext hS.prods x6);obtain ⟨hx_4,hA_2,hc_2⟩:=hx_3 oM;have hfr_x_2:=(hS.fr _ (List.mem_of_getElem? hx_4)).le;obtain rfl:p=x_2.d:=Option.some.inj (hp.symm.trans (by show (s.prods.map PD.d)[j9]?=_;rw [show j9=(actZ (actsG s.g st) x_1 t).2.toNat by omega];exact map_get (f:=PD.d) hx_4));have hpl8:x_2.right.length<L.length:=hpl9;have hM8:M9=L.length-x_2.right.length:=hM9;have hM7:M9≤L.length:=by omega
 have hM6:0<M9:=by omega
 refine go ?_;refine y_ld b4 ?_;refine go ?_;refine ysL (s:=41) (bF (decide_eq_false (by omega))) ?_;refine go ?_;refine y_ld b4 ?_;have q2:=((b1.ext e2).ko e3 (Vx.Own.lit (n:=0) (sz:=1) b2 rfl (by decide)));have q3:=(q2.ko x2 o1);have q4:=(((q3.ext e4).ext e5).kb e6 b3);refine go ?_;refine y_ld q4 ?_;refine go ?_;refine ysL (s:=49) (bF (decide_eq_false (by omega))) ?_;refine go ?_;refine y_ld q4 ?_;refine go ?_;refine y_ld b4 ?_;refine y_ix ((actZ (actsG s.g st) x_1 t).2.toNat) hA_2 ?_;refine go ?_;refine y_lc (CellsL.at1 hc_2 1 rfl) ?_;refine go ?_;refine ysC (s:=61) (bF (decide_eq_false (by omega))) ?_;refine go ?_;refine y_ld q4 ?_;refine go ?_;refine y_ld b4 ?_;refine y_ix ((actZ (actsG s.g st) x_1 t).2.toNat) hA_2 ?_;refine y_lN (vs:=[(.int .i64 x_2.left),(.slice x_2.rA x_2.right.length x_2.rc)]) hc_2 ?_;refine y_al ?_;intro w8 e7 z5 b5;refine y_st b5 ?_;intro w9 e8 z6 b6;replace b6:Blk w9 w7.heap.size #[(.int .i64 x_2.left),(.slice x_2.rA x_2.right.length x_2.rc)] 79:=blk_full b6 rfl;have q5:=((b4.ext e7).kb e8 b5);refine go ?_;refine y_ld q5 ?_;refine yOp (ox_mkSlice (ps:=[(0,(.int .i64 ((actZ (actsG s.g st) x_1 t).2)))]) (zs:=#[(.int .i64 0)]) (cs:=#[(.int .i64 ((actZ (actsG s.g st) x_1 t).2))]) tE_39.h rfl (by decide) (by kernel_rfl) (by kernel_rfl) ?_);intro w10 e9 z7 b7;replace b7:Blk w10 w9.heap.size #[(.int .i64 ((actZ (actsG s.g st) x_1 t).2))] 3:=b7;have q6:=(((a0_f1.ext e4).ext e5).kb e6 b3);have q7:=((q6.ext e7).kb e8 b5);refine yOp (ox_appD (l:=o) (r:=[((actZ (actsG s.g st) x_1 t).2)]) (cs:=ints) rfl tE_39.h rfl (by decide) ints_len ints_one (v:=(.slice Ao o.length co)) rfl rfl (m:=1) rfl (q7.ext e9) b7.all aM (by decide) ?_);have q8:=(((a1_f1.ext e4).ext e5).kb e6 b3);have q9:=((q8.ext e7).kb e8 b5);intro A2 c2 w11 o2 e10 at2 hc2;have he10:=e10.size;have low2:=low_at at2 l0_f1;have hap1:∀k,((.slice A2 ((o++[((actZ (actsG s.g st) x_1 t).2)]).length) c2):Value).ownBlock=some k→¬((.slice AL L.length cL):Value).ownBlock=some k:=fun k hk hd=>by rcases at2 with _e | _e<;>rw [_e] at hk;exact hap k hk hd;(cases hk;have _h:=((q9.ext e9)).lt _ hd;omega)
 have q10:=((b6.ext e9).ko e10 (q7.ext e9));refine go ?_;refine y_ld q10 ?_;refine go ?_;refine y_sub ?_;have q11:=((q9.ext e9).keep e10 (fun _k _hk hb=>hap _k hb _hk));have ho1:Vx.Own w11 3 1 (.slice AL M9 cL) M9 ((L.take M9).flatMap ints):=Own.takeD ints_len (by decide) q11 hM7;have ho1l:(L.take M9).length=M9:=by rw [List.length_take];omega
 have ho1w:∀k,(Value.slice AL M9 cL).ownBlock=some k→w1.heap.size≤k:=fun k hk=>l1_f1 k (by rw [ob_len (m:=M9)];exact hk)
 have hap2:∀k,((.slice A2 ((o++[((actZ (actsG s.g st) x_1 t).2)]).length) c2):Value).ownBlock=some k→¬(Value.slice AL M9 cL).ownBlock=some k:=fun k hk hd=>hap1 k hk (by rw [ob_len (m:=M9)];exact hd)
 have rel1:∀_k,(Value.slice AL M9 cL).ownBlock=some _k→((.slice A1 ((S).length) c1):Value).ownBlock=some _k∨w3.heap.size≤_k:=fun k hk=>r0_f1 k (by rw [ob_len (m:=M9)];exact hk)
 refine yOp (ox_sliceToN (A:=AL) (cp:=cL) (i:=(((L.length:Nat):Int)-(((x_2.right.length:Nat):Int)))) M9 tE_39.h rfl rfl (by omega) (by omega) (by omega) ?_);refine go ?_;refine xc_regionE [10,11,12] (fun W_=>Chg (fun _=>False) w11 W_) hmix ?_;intro w12 e11 z8;have hS1:Chg (fun _=>False) w11 w12:=Ext.to e11;refine yDp 0 ?_;refine yDp 1 ?_;refine yDp 2 ?_;refine yDp 3 ?_;refine yDp 4 ?_;refine yDq (i:=5) rfl (fun W_ hW_=>ox_sub64 (a:=(((M9:Nat):Int))) (b:=1) rfl rfl (by omega) ⟨rfl,rfl⟩) ?_;obtain ⟨x_3,g_3,hx_5⟩:=own_may (A:=AL) ((M9-1)) ints_len (by decide) ho1;obtain ⟨hx_6,hA_3,hc_3⟩:=hx_5 oM;refine yDx (i:=6) ((M9-1)) hA_3 ?_;refine xd_takeU 7 (some 88) [10,13,11,12] rfl rfl (by kernel_rfl) (v:=(.int .i64 x_3)) (.inl ⟨rfl,fun W_ hW_=>ox_load (v:=(.int .i64 x_3)) tA_3.h rfl (CellsL.at1 (CellsL.keep hW_ not_false hc_3) 0 rfl) ⟨rfl,rfl⟩⟩) hS1 ?_;refine yDp 8 ?_;refine xd_takeU 9 (some 90) [10,13,11,12] rfl rfl (by kernel_rfl) (v:=(.int .i64 x_2.left)) (.inl ⟨rfl,fun W_ hW_=>ox_load (v:=(.int .i64 x_2.left)) tA_3.h rfl ((q10.ext hW_).cell rfl) ⟨rfl,rfl⟩⟩) hS1 ?_;have x7:Ext w w12:=(Xt (Co (Xt (Xc (Xt x6 e7) e8) e9) e10 l0_f1) e11);refine yD1 (i:=10) rfl (yCx (ret_mono (tab_goto9 (hTb.ext x7) hg x_3 x_2.left) ?_));rintro _ w13 ⟨rfl,e12⟩;have he12:=e12.size;refine ⟨.inl (by decide),?_⟩;refine yD1 (i:=11) rfl (ox_mkSlice (ps:=[(0,(.int .i64 (gotoZ (gosG s.g st) x_3 x_2.left)))]) (zs:=#[(.int .i64 0)]) (cs:=#[(.int .i64 (gotoZ (gosG s.g st) x_3 x_2.left))]) tE_39.h rfl (by decide) (by kernel_rfl) (by kernel_rfl) ?_);intro w14 e13 z9 b8;replace b8:Blk w14 w13.heap.size #[(.int .i64 (gotoZ (gosG s.g st) x_3 x_2.left))] 3:=b8;refine ⟨.inl (by decide),?_⟩;refine yD1 (i:=12) rfl (ox_appD (l:=((L.take M9))) (r:=[(gotoZ (gosG s.g st) x_3 x_2.left)]) (cs:=ints) rfl tE_39.h rfl (by decide) ints_len ints_one (v:=(.slice AL M9 cL)) rfl rfl (m:=1) rfl (((ho1.ext e11).ext e12).ext e13) b8.all aM (by decide) ?_);intro A3 c3 w15 o3 e14 at3 hc3;have he14:=e14.size;have low3:=low_at at3 ho1w;have rel2:∀_k,(Value.slice A3 (((L.take M9))++[(gotoZ (gosG s.g st) x_3 x_2.left)]).length c3).ownBlock=some _k→((.slice A1 ((S).length) c1):Value).ownBlock=some _k∨w3.heap.size≤_k:=fun _k _h=>by rcases at3 with _e | _e<;>rw [_e] at _h;exact rel1 _k _h;exact .inr (by cases _h;omega)
 have hap3:∀k,((.slice A2 ((o++[((actZ (actsG s.g st) x_1 t).2)]).length) c2):Value).ownBlock=some k→¬((.slice A3 ((((L.take M9))++[(gotoZ (gosG s.g st) x_3 x_2.left)]).length) c3):Value).ownBlock=some k:=fun k hd hk=>by rcases at3 with _e | _e<;>rw [_e] at hk;exact hap2 k hd hk;(cases hk;have _h:=((((o2.ext e11).ext e12).ext e13)).lt _ hd;omega)
 refine ⟨.inl (by decide),?_⟩;refine yDp 13 ?_;refine xd_done (by kernel_rfl) ?_ _;refine go ?_;refine y_add ?_;have hqe9:gotoZ (gosG s.g st) x_3 x_2.left=goS st qq ⟨3,x_2.left⟩:=by rw [show x_3=qq from (by have h9:=hx_6;rw [List.getElem?_take,if_pos (by omega),show M9-1=L.length-x_2.right.length-1 by omega] at h9;exact Option.some.inj (h9.symm.trans hq9))];exact gotoZ_is hq1 hqg hp1
 have q12:=((((o2.ext e11).ext e12).ext e13).keep e14 (fun _k _hk hb=>hap2 _k _hk hb));have y1:Chg (fun b=>((.slice A1 ((S).length) c1):Value).ownBlock=some b) w3 w15:=(Chg.trans (Chg.ext (Chg.ext (Chg.ext (Co (Chg.ext (Chg.chg1 (Chg.ext (Chg.chg1 (Chg.ext (Chg.ext (Ct (Chg.refl (fun b=>((.slice A1 ((S).length) c1):Value).ownBlock=some b) w3) x2) e4) e5) e6 (.inr (by omega))) e7) e8 (.inr (by omega))) e9) e10 l0_f1) e11) e12) e13) e14 (fun b hb hl=>(rel1 b hb).elim (fun hb=>hb) (fun _h=>absurd hl (by omega))));refine go ?_;exact ⟨rfl,4000000-(n+1),by omega,n+1,o++[((actZ (actsG s.g st) x_1 t).2)],A2,c2,((L.take M9))++[(gotoZ (gosG s.g st) x_3 x_2.left)],A3,c3,by omega,(by omega),(by rw [haj,hqe9,hM8];exact steps_red hR.1 hR.2 ha9 hp htp9 hd9 hv9 rfl),(by rw [List.length_append,List.length_singleton];omega),(by rw [List.length_append,List.length_singleton,List.length_take];omega),hap3,(by rw [List.length_append];simp),rfl,rfl,rfl,vW,rfl,rfl,q12,o3,low2,low3,rel2,y1⟩;refine go ?_;refine y_r3 ?_;have x8:Ext w w4:=(Co (Chg.trans x1 e3 (fun b hb hl=>(absurd hl (by have _h:=(fun _k _h=>by simp [Value.ownBlock] at _h;omega) b hb;omega)))) x2 low1);exact ⟨[],false,false,none,0,rfl,⟨Vx.Own.nil _ _ _,fun k hk=>by simp [Value.ownBlock] at hk⟩,x8,fun h9=>by cases h9⟩
theorem same9_calls(l:List Int)(A A2:Option Addr)(c c2:Nat)(w:World)(hA:RowA w A (l.flatMap ints))(hA2:RowA w A2 (l.flatMap ints))(hll:l.length≤8796093022208) :
    Calls Tryz.prog 21 #[(.slice A l.length c),(.slice A2 l.length c2)] w (Ret (fun v w'=>v = .bool true∧Ext w w')):=by
 refine calls_y (n:=26) Tryz.func21 ?_;refine go ?_;refine ysC (s:=10) (bF (by simp:decide ((((l.length:Nat):Int):Int)≠(((l.length:Nat):Int)))=false)) ?_;refine go ?_;refine xc_loopN (fun m_ f_ Wx=>∃(i:Nat),m_=l.length-i∧(i≤l.length)∧f_ 0=(.slice A l.length c)∧f_ 1=(.slice A2 l.length c2)∧f_ 5=(.int .i64 ((i:Nat)))∧Ext w Wx) (l.length) ?_ ?_;exact ⟨0,(by omega),(by omega),rfl,rfl,vW,(Chg.refl _ _)⟩;rintro m_ f1 w1 ⟨i,hm_f1,hi,g0_f1,g1_f1,g5_f1,x1⟩;have hx1:=x1.size;rw [←usf g0_f1,←usf g1_f1,←usf g5_f1];refine go ?_;refine y_if (fun h1=>?_) (fun h1=>?_);obtain ⟨x_1,g_1,o_1,hx_1⟩:=row_may (A:=A) (cs:=ints) i ints_len (by decide) (RowA.ext hA x1);obtain ⟨hx_2,hA_1,hc_1⟩:=hx_1 oM;obtain ⟨x_2,g_2,o_2,hx_3⟩:=row_may (A:=A2) (cs:=ints) i ints_len (by decide) (RowA.ext hA2 x1);obtain ⟨hx_4,hA_2,hc_2⟩:=hx_3 oM;refine go ?_;refine xc_regionE [] (fun W_=>Chg (fun _=>False) w1 W_) hmix ?_;intro w2 e1 z1;have hS1:Chg (fun _=>False) w1 w2:=Ext.to e1;refine yDp 0 ?_;refine yDp 1 ?_;refine yDx (i:=2) i hA_1 ?_;refine yDt (i:=3) rfl hS1 (fun W_ hW_=>ox_load tA_3.h rfl (CellsL.at1 (CellsL.keep hW_ not_false hc_1) 0 rfl) ⟨rfl,rfl⟩) ?_;refine yDp 4 ?_;refine yDp 5 ?_;refine yDx (i:=6) i hA_2 ?_;refine yDt (i:=7) rfl hS1 (fun W_ hW_=>ox_load tA_3.h rfl (CellsL.at1 (CellsL.keep hW_ not_false hc_2) 0 rfl) ⟨rfl,rfl⟩) ?_;refine yDp 8 ?_;refine xd_done (by kernel_rfl) ?_ _;refine go ?_;refine y_if (fun h2=>?_) (fun h2=>?_);have hxy9:x_1=x_2:=Option.some.inj (hx_2.symm.trans hx_4);exact absurd h2 (by rw [hxy9];simp);refine go ?_;refine y_add ?_;have x2:Ext w w2:=(Xt x1 e1);refine go ?_;exact ⟨rfl,l.length-(i+1),by omega,i+1,by omega,(by omega),rfl,rfl,vW,x2⟩;refine go ?_;refine y_r1 ?_;exact ⟨rfl,x1⟩
def withinZ(x n:Int):Int:=if x.tmod n<0 then x.tmod n+n else x.tmod n
theorem tmod_lt9{x n:Int}(h:0<n) : -n<x.tmod n∧x.tmod n<n:=by
  have h1:=Int.tmod_lt_of_pos x h;have h2:=Int.tmod_lt_of_pos (-x) h;rw [Int.neg_tmod] at h2;exact ⟨by omega,h1⟩
theorem within_rng{x n:Int}(h:0<n):0≤withinZ x n∧withinZ x n<n:=by
  have h1:=tmod_lt9 (x:=x) h;unfold withinZ
  split<;>omega
section
variable {g:GD}{st:List ASt}(h:Aut g st)
theorem chain_snoc{st:List ASt}{q y:Int}(hy:(symS st y).2=true∧goS st q (symS st y).1=y):∀(l:List Int),l.getLast?=some q→chainZ st l=true→chainZ st (l++[y])=true
  | [],hl,_=>by cases hl
  | [a],hl,_=>by
    rw [List.getLast?_singleton,Option.some.injEq] at hl;subst hl;show chainZ st [a,y]=true;rw [chainZ,hy.1,hy.2];simp [chainZ]
  | a::b::r,hl,hc=>by
    rw [chainZ,Bool.and_eq_true] at hc;have:=chain_snoc hy (b::r) (by rw [List.getLast?_cons_cons] at hl;exact hl) hc.2;show chainZ st (a::b::(r++[y]))=true;rw [chainZ,hc.1];exact this
include h
theorem sym_of_go{q:Int}{z:Sym}(hg:0≤goS st q z):symS st (goS st q z)=(z,true):=by
  obtain ⟨n,u,rfl,hu⟩:=at_state h hg;obtain ⟨j,y,e1,e2,e3,e4,_⟩:=go_to h hu hg;rw [e1,symS_at e2 e3,e4]
theorem vs_right{s:List Int}(hv:VS st s):rightZ st s.reverse=true:=by
  induction hv with
  | base=>rfl
  | @cons q s z hv hg ih =>
    rw [List.reverse_cons]
    cases hc:(q::s).reverse with
    | nil=>simp at hc
    | cons a r =>
      rw [hc] at ih;have hl:(a::r).getLast?=some q:=by rw [←hc,List.getLast?_reverse];rfl
      rw [rightZ,Bool.and_eq_true] at ih;have hs:=sym_of_go h hg;have:=chain_snoc (y:=goS st q z) ⟨by rw [hs],by rw [hs]⟩ (a::r) hl ih.2;show rightZ st (a::(r++[goS st q z]))=true;rw [rightZ,ih.1];exact this
theorem vs_snoc{S:List Int}{top y:Int}(hv:VS st S.reverse)(ht:S.getLast?=some top)(hy:0≤y∧∃z,y=goS st top z):VS st (S++[y]).reverse:=by
  obtain ⟨s',hs'⟩:=steps_halt (g:=g) (st:=st) (t:=0) ht;obtain ⟨h0,z,rfl⟩:=hy;rw [hs'] at hv;rw [List.reverse_append,hs'];exact .cons hv h0
end
theorem runT_len{g:GD}{st:List ASt}(h:Aut g st)(hc:(checkE g).1=0)(hno:allG g st = []){t:Int}{l:List Int}{res:List Int×Bool}(hR:RunT g st t l res)(hl:l.length≤80000):res.1.length≤8000000000000:=by
  rcases hR with ⟨_,rfl⟩|⟨hr,os,s2,h1,rfl⟩;simp;obtain ⟨os',s',h2,h3⟩:=run_some h hc hno hr t;obtain ⟨rfl,rfl⟩:=run_unique h1 h3;have h4:=Nat.mul_le_mul_right 97272321 hl;have h9:(80000*97272321:Nat)=7781785680000:=by decide
  rw [h9] at h4
  have h5:(resZ g st t os s2).1.length≤os.length:=by
    unfold resZ
    split
    simp
    split<;>simp
  omega
theorem within9_calls(x n:Int)(w:World)(hn:0<n∧n<4611686018427387904) :
    Calls Tryz.prog 34 #[(.int .i64 x),(.int .i64 n)] w (Ret (fun v w'=>v = .int .i64 (withinZ x n)∧Ext w w')):=by
 have hr1:=tmod_lt9 (x:=x) hn.1;refine calls_y (n:=14) Tryz.func34 ?_;refine go ?_;refine yOp (ox_rem (k:=.i64) (a:=x) (b:=n) rfl rfl (by omega) ?_);refine go ?_;refine y_if (fun h1=>?_) (fun h1=>?_);refine go ?_;refine y_add ?_;refine go ?_;refine y_r1 ?_;exact ⟨by unfold withinZ;rw [if_pos (by omega)],(Chg.refl _ _)⟩;refine go ?_;refine y_r1 ?_;exact ⟨by unfold withinZ;rw [if_neg (by omega)],(Chg.refl _ _)⟩
end Go.Proofs.YtabfopjkgeoiiaaGreatDoor
