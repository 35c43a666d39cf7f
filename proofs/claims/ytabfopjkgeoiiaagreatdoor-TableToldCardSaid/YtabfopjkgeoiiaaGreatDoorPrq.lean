/-
  Part 17 of the proof: texts Tb Tc Td Ts Tt Tu Te Tq Tv Tg Th Tp Tw Ua Ub Tf Ty Uc Uf Wb Ye Wi Xa Xh Xl Xm Xn Xo. No conditions.
-/
import Derived.Test.YtabfopjkgeoiiaaGreatDoorRows
import Derived.Test.YtabfopjkgeoiiaaGreatDoorPrc
import Derived.Test.YtabfopjkgeoiiaaGreatDoorPrg
import Derived.Test.YtabfopjkgeoiiaaGreatDoorPrh
import Derived.Test.YtabfopjkgeoiiaaGreatDoorPri
import Derived.Test.YtabfopjkgeoiiaaGreatDoorPrj
import Derived.Test.YtabfopjkgeoiiaaGreatDoorPro
import Derived.Test.YtabfopjkgeoiiaaGreatDoorPrp
set_option linter.unusedVariables false
set_option linter.unusedSimpArgs false
set_option linter.unusedSectionVars false
set_option maxRecDepth 100000
set_option maxHeartbeats 4000000
namespace Go.Proofs.YtabfopjkgeoiiaaGreatDoor
open Go Go.RowKit Go.Vx
structure Arc where
  sym:Sym
  to:Int
deriving Inhabited
def Arc.cs(x:Arc):List Value:=[.int .i64 x.sym.kind,.int .i64 x.sym.n,.int .i64 x.to]
theorem Arc.len(x:Arc):x.cs.length=3:=rfl
theorem Arc.one(x:Arc):x.cs.all Value.oneCell'=true:=rfl
structure StD where
  iA:Option Addr
  ic:Nat
  items:List Itm
  kern:Int
  aA:Option Addr
  ac:Nat
  arcs:List Arc
  sym:Sym
  frm:Int
deriving Inhabited
def StD.cs(x:StD):List Value:=[.slice x.iA x.items.length x.ic,.int .i64 x.kern,.slice x.aA x.arcs.length x.ac,.int .i64 x.sym.kind,.int .i64 x.sym.n,.int .i64 x.frm]
theorem StD.len(x:StD):x.cs.length=6:=rfl
theorem StD.one(x:StD):x.cs.all Value.oneCell'=true:=rfl
structure StR(B:Nat)(w:World)(x:StD):Prop where
  items:Vx.Own w 113 2 (.slice x.iA x.items.length x.ic) x.items.length (x.items.flatMap Itm.cs)
  lowI:∀k,(Value.slice x.iA x.items.length x.ic).ownBlock=some k→B≤k
  arcs:Vx.Own w 156 3 (.slice x.aA x.arcs.length x.ac) x.arcs.length (x.arcs.flatMap Arc.cs)
  lowA:∀k,(Value.slice x.aA x.arcs.length x.ac).ownBlock=some k→B≤k
structure StF(B:Nat)(w:World)(l:List StD):Prop where
  all:∀x∈l,StR B w x
  apart:∀(i j:Nat) (x y:StD),i<j→l[i]?=some x→l[j]?=some y→∀k,(Value.slice x.aA x.arcs.length x.ac).ownBlock=some k→(Value.slice y.aA y.arcs.length y.ac).ownBlock=some k→False
section
variable {B:Nat}{K:Nat→Prop}{w w':World}{l:List StD}
theorem own_type{e sz n k:Nat}{v:Value}{xs:List Value}(h:Vx.Own w e sz v n xs)(hk:v.ownBlock=some k):∃cs,w.heap[k]?=some (.cells cs e (0,0)):=by
  rcases h.form with ⟨rfl,_⟩|⟨g,cap,cur,rfl,hb,_⟩;simp [Value.ownBlock] at hk;cases hk;exact ⟨cur,hb⟩
theorem StF.keepT(h:StF B w l)(c:Chg K w w')(hk:∀k,K k→∀cs,w.heap[k]?≠some (.cells cs 113 (0,0))∧w.heap[k]?≠some (.cells cs 156 (0,0))):StF B w' l:=by
  refine ⟨fun x hx=>?_,h.apart⟩;have hr:=h.all x hx;refine ⟨hr.items.keep c fun k h1 h2=>?_,hr.lowI,hr.arcs.keep c fun k h1 h2=>?_,hr.lowA⟩;obtain ⟨cs,h3⟩:=own_type hr.items h1;exact (hk k h2 cs).1 h3;obtain ⟨cs,h3⟩:=own_type hr.arcs h1;exact (hk k h2 cs).2 h3
theorem StF.ext(h:StF B w l)(c:Ext w w'):StF B w' l:=h.keepT c fun _ hk=>hk.elim
theorem StF.keepB{b t:Nat}{cs:Array Value}(h:StF B w l)(c:Chg1 b w w')(hb:Blk w b cs t)(h1:t≠113)(h2:t≠156):StF B w' l:=h.keepT c fun k hk cs'=>by
  have hk:k=b:=hk;subst hk;unfold Blk at hb;rw [hb];exact ⟨fun hh=>by cases hh;exact h1 rfl,fun hh=>by cases hh;exact h2 rfl⟩
theorem StF.keepM{κ:Type}{enc:κ→Value}{b:Nat}{m:List (κ×Value)}(h:StF B w l)(c:Chg1 b w w')(hb:MapB enc w b m):StF B w' l:=h.keepT c fun k hk cs'=>by
  have hk:k=b:=hk;subst hk;obtain ⟨es,cl,hb,_⟩:=hb;rw [hb];exact ⟨by simp,by simp⟩
theorem StF.keepO{e sz n:Nat}{v:Value}{xs:List Value}(h:StF B w l)(c:Chg (fun b=>v.ownBlock=some b) w w')(ho:Vx.Own w e sz v n xs)(h1:e≠113)(h2:e≠156):StF B w' l:=h.keepT c fun k hk cs'=>by
  obtain ⟨cs,h3⟩:=own_type ho hk;rw [h3];exact ⟨fun hh=>by cases hh;exact h1 rfl,fun hh=>by cases hh;exact h2 rfl⟩
theorem StF.snoc{x:StD}(h:StF B w l)(hx:StR B w x)(hn:(Value.slice x.aA x.arcs.length x.ac).ownBlock=none):StF B w (l++[x]):=by
  refine ⟨fun y hy=>?_,fun i j a b hij ha hb k h1 h2=>?_⟩;rcases List.mem_append.1 hy with hy|hy;exact h.all y hy;rw [List.mem_singleton.1 hy];exact hx;have hj:=(List.getElem?_eq_some_iff.1 hb).1;rw [List.length_append,List.length_singleton] at hj;by_cases hjl:j<l.length;rw [List.getElem?_append_left hjl] at hb;rw [List.getElem?_append_left (by omega)] at ha;exact h.apart i j a b hij ha hb k h1 h2;have:j=l.length:=by omega
  subst this;rw [List.getElem?_append_right (Nat.le_refl _),Nat.sub_self] at hb;cases hb;rw [hn] at h2;cases h2
end
def stKey(x:StD):ByteArray:=⟨(wkey (x.items.take x.kern.toNat)).toArray⟩
def keysM:List StD→Nat→List (ByteArray×Value)
  | [],_=>[]
  | x::l,i=>(stKey x,.int .i64 (i:Nat))::keysM l (i+1)
theorem keysM_snoc{l:List StD}{x:StD} : ∀ {i:Nat},lookM (keysM l i) (stKey x)=none→setM (keysM l i) (stKey x) (.int .i64 ((i+l.length:Nat):Int))=keysM (l++[x]) i:=by
  induction l with
  | nil=>intro i _;rfl
  | cons y l ih =>
    intro i h;simp only [keysM,lookM,List.find?_cons] at h;by_cases hy:stKey y=stKey x;simp [hy] at h;simp only [hy,decide_false] at h;have:=ih (i:=i+1) (by simpa [lookM] using h);simp only [keysM,setM,hy,if_false,List.cons_append];rw [←this];congr 2;rw [List.length_cons];congr 1;omega
theorem keysM_val:∀(l:List StD) (i:Nat) (k:ByteArray),∀v∈lookM (keysM l i) k,∃j:Nat,v = .int .i64 (j:Nat)
  | [],i,k,v,h=>by simp [keysM,lookM] at h
  | x::l,i,k,v,h=>by
    simp only [keysM,lookM,List.find?_cons] at h;by_cases hx:stKey x=k;simp [hx] at h;exact ⟨i,h.symm⟩;simp only [hx,decide_false] at h;exact keysM_val l (i+1) k v (by simpa [lookM] using h)
def keyAt(l:List StD)(k:ByteArray):Int:=match lookM (keysM l 0) k with
  | some (.int _ i)=>i
  | _=>0
theorem lookM_keys(l:List StD)(k:ByteArray):(lookM (keysM l 0) k).getD (.int .i64 0) = .int .i64 (keyAt l k):=by
  unfold keyAt
  cases h:lookM (keysM l 0) k with
  | none=>rfl
  | some v =>
    obtain ⟨j,rfl⟩:=keysM_val l 0 k v (by rw [h];rfl)
    rfl
def AddR(g:GD)(sts:List StD)(l:List Itm)(z:Sym)(fr:Int)(sts':List StD)(v:Value):Prop :=
  ((lookM (keysM sts 0) ⟨(wkey l).toArray⟩).isSome=true∧sts'=sts∧v = .int .i64 (keyAt sts ⟨(wkey l).toArray⟩)) ∨
  ((lookM (keysM sts 0) ⟨(wkey l).toArray⟩).isSome=false∧∃A c,sts'=sts++[⟨A,c,closG g l,(l.length:Int),none,0,[],z,fr⟩]∧v = .int .i64 (sts.length:Nat))
theorem closG_pre{g:GD}{l:List Itm}(h:((closF g l).1).take l.length=l):(closG g l).take l.length=l:=by
  unfold closG
  have hl:l.length≤(closF g l).1.length:=by
    have:=congrArg List.length h;rw [List.length_take] at this;omega
  rw [List.take_append_of_le_length (by rw [List.length_take];omega),List.take_take,Nat.min_self,h]
theorem closF_pre(g:GD)(K:List Itm):((closF g K).1).take K.length=K:=by
  refine fixN_inv (P:=fun h:CS=>h.1.take K.length=K) (fun h hp=>?_) _ _ List.take_length
  have hl:K.length≤h.1.length:=by
    have:=congrArg List.length hp;rw [List.length_take] at this;omega
  unfold stepC
  split
  split
  show (h.1++_).take K.length=K;rw [List.take_append_of_le_length hl];exact hp;exact hp;exact hp
theorem stKey_new{g:GD}{l:List Itm}{A:Option Addr}{c:Nat}{z:Sym}{fr:Int} : stKey ⟨A,c,closG g l,(l.length:Int),none,0,[],z,fr⟩=⟨(wkey l).toArray⟩:=by
  unfold stKey;simp only [Int.toNat_natCast];rw [closG_pre (closF_pre g l)]
instance pf_100:PlF Tryz.prog 100 where
instance pf_99:PlF Tryz.prog 99 where
instance tA_152:AggF Tryz.prog 152 where
instance tA_186:AggF Tryz.prog 186 where
instance tA_27:AggF Tryz.prog 27 where
instance tE_152:SlT Tryz.prog 152 (151,6,80,(.agg #[(.slice none 0 0),(.int .i64 0),(.slice none 0 0),(.int .i64 0),(.int .i64 0),(.int .i64 0)])) where
instance tF_154_1:FdT Tryz.prog 154 1 4 where
instance tP_151:PcT Tryz.prog 151 #[(0,1),(1,1),(2,1),(3,2),(5,1)] where
instance tS_152:SzT Tryz.prog 152 1 where
instance tU_152:UnS Tryz.prog 152 151 where
theorem tU_186:Tryz.prog.underlying 186=some (.map 9 3):=by kernel_rfl
instance tZ_151:ZrT Tryz.prog 151 (.agg #[(.slice none 0 0),(.int .i64 0),(.slice none 0 0),(.int .i64 0),(.int .i64 0),(.int .i64 0)]) where
theorem add_calls(s:SP)(ba bm bp mb:Nat)(sA:Option Addr)(sc:Nat)(sts:List StD)(l:List Itm)(A:Option Addr)(c:Nat)(z:Sym)(fr:Int)(w0:World)(w:World)(hE0:Ext w0 w)(hS:SpR w0 s)(hG:GoodG s.g)(hT:TabP w0)(hbm:Blk w bm #[.map (some mb)] 186)(hbp:Blk w bp #[.pointer (some ⟨ba,0,none⟩)] 27)(hba:Blk w ba #[(.slice s.lA s.lex.length s.lc),(.slice s.nA s.names.length s.nc),(.int .i64 s.start),(.slice s.pA s.prods.length s.pc),(.slice sA sts.length sc)] 154)(hm:MapB (fun s:ByteArray=>.string s) w mb (keysM sts 0))(ho:Vx.Own w 151 6 (.slice sA sts.length sc) sts.length (sts.flatMap StD.cs))(hlo:∀k,(Value.slice sA sts.length sc).ownBlock=some k→w0.heap.size≤k)(hF:StF w0.heap.size w sts)(hA:Vx.Own w 113 2 (.slice A l.length c) l.length (l.flatMap Itm.cs))(hn:l.length≤100000000)(hst:sts.length≤100000000000)(hI:∀x∈l,smallI x)(hO:∀x∈l,okI s.g x)(hN:s.names.length≤128)(hP:s.prods.length≤512)(hb0:w0.heap.size≤ba∧w0.heap.size≤mb) :
    Calls Tryz.prog 98 #[(.slice A l.length c),(.agg #[(.int .i64 z.kind),(.int .i64 z.n)]),(.int .i64 fr),(.pointer (some ⟨bm,0,none⟩)),(.pointer (some ⟨bp,0,none⟩))] w (Ret (fun v w'=>∃sts' sA' sc',AddR s.g sts l z fr sts' v∧Blk w' bm #[.map (some mb)] 186∧Blk w' bp #[.pointer (some ⟨ba,0,none⟩)] 27∧Blk w' ba #[(.slice s.lA s.lex.length s.lc),(.slice s.nA s.names.length s.nc),(.int .i64 s.start),(.slice s.pA s.prods.length s.pc),(.slice sA' sts'.length sc')] 154∧MapB (fun s:ByteArray=>.string s) w' mb (keysM sts' 0)∧Vx.Own w' 151 6 (.slice sA' sts'.length sc') sts'.length (sts'.flatMap StD.cs)∧(∀k,(Value.slice sA' sts'.length sc').ownBlock=some k→w0.heap.size≤k)∧StF w0.heap.size w' sts'∧Chg (fun k=>k=ba∨k=mb∨(Value.slice sA sts.length sc).ownBlock=some k) w w')):=by
 have hsz0_:=hE0.size;refine calls_y (n:=49) Tryz.func98 ?_;refine go ?_;refine y_bx ?_;intro w1 e1 z1 b1;have x1:Ext w0 w1:=(Xt hE0 e1);refine go ?_;refine yCa (ret_mono (write_calls l A c w1 (Own.rowO (hA.ext e1)) (by omega) hI (TabIs.ext hT x1)) ?_);rintro _ w2 ⟨rfl,e2⟩;have he2:=e2.size;refine go ?_;refine y_ld ((hbm.ext e1).ext e2) ?_;refine go ?_;refine yOp (ox_lookup2V (enc:=(fun s:ByteArray=>.string s)) (.int .i64 ((keyAt sts (⟨(wkey l).toArray⟩:ByteArray)))) ((lookM (keysM sts 0) (⟨(wkey l).toArray⟩:ByteArray)).isSome) (keyT_string tU_9) tU_186 tZ_3.h ((hm.ext e1).ext e2) rfl rfl (lookM_keys _ _) rfl ?_);refine go ?_;refine xc_cond (b:=((lookM (keysM sts 0) (⟨(wkey l).toArray⟩:ByteArray)).isSome)) rfl (fun h1=>?_) (fun h1=>?_);have h1':=bS h1;refine go ?_;refine y_r1 ?_;have x2:Ext w w2:=(Xt e1 e2);exact ⟨sts,sA,sc,(show AddR s.g sts l z fr sts _ from .inl ⟨h1,rfl,rfl⟩),((hbm.ext e1).ext e2),((hbp.ext e1).ext e2),((hba.ext e1).ext e2),((hm.ext e1).ext e2),((ho.ext e1).ext e2),hlo,(StF.ext hF x2),(Chg.ext (Chg.ext (Chg.refl (fun k=>k=ba∨k=mb∨(Value.slice sA sts.length sc).ownBlock=some k) w) e1) e2)⟩;have h1':=bS h1;refine go ?_;refine y_ld ((hbp.ext e1).ext e2) ?_;refine go ?_;refine y_ld ((hba.ext e1).ext e2) ?_;refine go ?_;refine y_ld ((hbm.ext e1).ext e2) ?_;refine go ?_;refine yNp (ox_mapUpdate (enc:=(fun s:ByteArray=>.string s)) (k:=(⟨(wkey l).toArray⟩)) (v:=(.int .i64 (((sts.length:Nat):Int)))) (keyT_string tU_9) tU_186 ((hm.ext e1).ext e2) rfl rfl rfl ?_);intro w3 e3 z2 m1;refine go ?_;refine xc_regionE [17] (fun W_=>Chg (fun x=>((.slice sA sts.length sc):Value).ownBlock=some x) w3 W_) hmix ?_;intro w4 e4 z3;have hS1:Chg (fun x=>((.slice sA sts.length sc):Value).ownBlock=some x) w3 w4:=Ext.to e4;have q1:=(((hbp.ext e1).ext e2).keep1 e3 (fun _h=>((hm.ext e1).ext e2).ne_blk ((hbp.ext e1).ext e2) _h.symm));have q2:=(((ho.ext e1).ext e2).keep1 e3 (fun k hk=>((ho.ext e1).ext e2).ne_map ((hm.ext e1).ext e2) k hk));refine yDt (i:=0) rfl hS1 (fun W_ hW_=>ox_load tA_27.h rfl ((q1.ko hW_ (q2)).cell rfl) ⟨rfl,rfl⟩) ?_;have q3:=(((hbp.ext e1).ext e2).keep1 e3 (fun _h=>((hm.ext e1).ext e2).ne_blk ((hbp.ext e1).ext e2) _h.symm));have q4:=(((ho.ext e1).ext e2).keep1 e3 (fun k hk=>((ho.ext e1).ext e2).ne_map ((hm.ext e1).ext e2) k hk));refine yDt (i:=1) rfl hS1 (fun W_ hW_=>ox_load tA_27.h rfl ((q3.ko hW_ (q4)).cell rfl) ⟨rfl,rfl⟩) ?_;refine yDp 2 ?_;refine yDp 3 ?_;have q5:=(((hba.ext e1).ext e2).keep1 e3 (fun _h=>((hm.ext e1).ext e2).ne_blk ((hba.ext e1).ext e2) _h.symm));have q6:=(((ho.ext e1).ext e2).keep1 e3 (fun k hk=>((ho.ext e1).ext e2).ne_map ((hm.ext e1).ext e2) k hk));refine yDt (i:=4) rfl hS1 (fun W_ hW_=>ox_load tA_152.h rfl ((q5.ko hW_ (q6)).cell rfl) ⟨rfl,rfl⟩) ?_;have q7:=(((hbp.ext e1).ext e2).keep1 e3 (fun _h=>((hm.ext e1).ext e2).ne_blk ((hbp.ext e1).ext e2) _h.symm));have q8:=(((ho.ext e1).ext e2).keep1 e3 (fun k hk=>((ho.ext e1).ext e2).ne_map ((hm.ext e1).ext e2) k hk));refine yDt (i:=5) rfl hS1 (fun W_ hW_=>ox_load tA_27.h rfl ((q7.ko hW_ (q8)).cell rfl) ⟨rfl,rfl⟩) ?_
 refine yDp 6 ?_;refine yDp 8 ?_;refine yDp 9 ?_;have q9:=((b1.ext e2).keep1 e3 (fun _h=>((hm.ext e1).ext e2).ne_blk (b1.ext e2) _h.symm));have q10:=(((ho.ext e1).ext e2).keep1 e3 (fun k hk=>((ho.ext e1).ext e2).ne_map ((hm.ext e1).ext e2) k hk));refine yDt (i:=10) rfl hS1 (fun W_ hW_=>ox_loadN (vs:=[(.int .i64 z.kind),(.int .i64 z.n)]) tA_75.h tS_75.h rfl rfl ⟨(q9.ko hW_ (q10)).cell rfl,(q9.ko hW_ (q10)).cell rfl,trivial⟩ ⟨rfl,rfl⟩) ?_;refine yDp 11 ?_;have q11:=(((hba.ext e1).ext e2).keep1 e3 (fun _h=>((hm.ext e1).ext e2).ne_blk ((hba.ext e1).ext e2) _h.symm));have x3:Ext w0 w4:=(Xt (Xc (Xt x1 e2) e3) e4);have q12:=(((hA.ext e1).ext e2).keep1 e3 (fun k hk=>((hA.ext e1).ext e2).ne_map ((hm.ext e1).ext e2) k hk));refine yD1 (i:=7) rfl (yCx (ret_mono (closure_calls s ba sA sts.length sc l A c w4 (q11.ext e4) (hS.ext x3) hG (Own.rowO (q12.ext e4)) (by omega) hN hP hO) ?_));rintro _ w5 ⟨A1,c1,rfl,hn1,e5⟩;have he5:=e5.size;have hS2:Chg (fun x=>((.slice sA sts.length sc):Value).ownBlock=some x) w3 w5:=Chg.ext hS1 e5;refine ⟨.inr fun _=>hS2,?_⟩;refine yDq (i:=12) rfl (fun W_ hW_=>ox_mkStruct (ps:=[(0,(.slice A1 ((closG s.g l).length) c1)),(1,(.int .i64 (((l.length:Nat):Int)))),(3,(.agg #[(.int .i64 z.kind),(.int .i64 z.n)])),(4,(.int .i64 fr))]) (cs:=#[(.slice A1 ((closG s.g l).length) c1),(.int .i64 (((l.length:Nat):Int))),(.slice none 0 0),(.int .i64 z.kind),(.int .i64 z.n),(.int .i64 fr)]) tZ_151.h tP_151.h rfl (by kernel_rfl) ⟨rfl,rfl⟩) ?_;refine yD1 (i:=13) rfl (ox_mkSlice (ps:=[(0,(.agg #[(.slice A1 ((closG s.g l).length) c1),(.int .i64 (((l.length:Nat):Int))),(.slice none 0 0),(.int .i64 z.kind),(.int .i64 z.n),(.int .i64 fr)]))]) (zs:=#[(.slice none 0 0),(.int .i64 0),(.slice none 0 0),(.int .i64 0),(.int .i64 0),(.int .i64 0)]) (cs:=#[(.slice A1 ((closG s.g l).length) c1),(.int .i64 (((l.length:Nat):Int))),(.slice none 0 0),(.int .i64 z.kind),(.int .i64 z.n),(.int .i64 fr)]) tE_152.h rfl (by decide) (by kernel_rfl) (by kernel_rfl) ?_);intro w6 e6 z4 b2;replace b2:Blk w6 w5.heap.size #[(.slice A1 ((closG s.g l).length) c1),(.int .i64 (((l.length:Nat):Int))),(.slice none 0 0),(.int .i64 z.kind),(.int .i64 z.n),(.int .i64 fr)] 151:=b2;have hS3:Chg (fun x=>((.slice sA sts.length sc):Value).ownBlock=some x) w3 w6:=Chg.ext hS2 e6;refine ⟨.inr fun _=>hS3,?_⟩;have q13:=(((ho.ext e1).ext e2).keep1 e3 (fun k hk=>((ho.ext e1).ext e2).ne_map ((hm.ext e1).ext e2) k hk));refine yD1 (i:=14) rfl (ox_appD (l:=sts) (r:=[(StD.mk A1 c1 ((closG s.g l)) (((l.length:Nat):Int)) none 0 [] (⟨z.kind,z.n⟩:Sym) fr)]) (cs:=StD.cs) rfl tE_152.h rfl (by decide) StD.len StD.one (v:=(.slice sA sts.length sc)) rfl rfl (m:=1) rfl (((q13.ext e4).ext e5).ext e6) b2.all aM (by decide) ?_);intro A2 c2 w7 o1 e7 at1 hc1;have he7:=e7.size;have low1:=low_at at1 hlo;have hS4:Chg (fun x=>((.slice sA sts.length sc):Value).ownBlock=some x) w3 w7:=Chg.trans hS3 e7 (fun x hx hl=>hx);refine ⟨.inr fun _=>hS4,?_⟩;refine yDp 15 ?_;refine yDp 16 ?_;have q14:=((((q11.ext e4).ext e5).ext e6).ko e7 (((q13.ext e4).ext e5).ext e6))
 refine yD1 (i:=17) rfl (ox_store (n:=1) (vs:=[(.slice A2 ((sts++[(StD.mk A1 c1 ((closG s.g l)) (((l.length:Nat):Int)) none 0 [] (⟨z.kind,z.n⟩:Sym) fr)]).length) c2)]) tS_152.h rfl (v:=(.slice A2 ((sts++[(StD.mk A1 c1 ((closG s.g l)) (((l.length:Nat):Int)) none 0 [] (⟨z.kind,z.n⟩:Sym) fr)]).length) c2)) rfl rfl rfl rfl q14 (Nat.le_of_ble_eq_true rfl) ?_);intro w8 e8 z5 b3;replace b3:Blk w8 ba #[(.slice s.lA s.lex.length s.lc),(.slice s.nA s.names.length s.nc),(.int .i64 s.start),(.slice s.pA s.prods.length s.pc),(.slice A2 ((sts++[(StD.mk A1 c1 ((closG s.g l)) (((l.length:Nat):Int)) none 0 [] (⟨z.kind,z.n⟩:Sym) fr)]).length) c2)] 154:=b3;refine ⟨.inl (by decide),?_⟩;refine xd_done (by kernel_rfl) ?_ _;refine go ?_;refine y_r1 ?_;have q15:=(((hbm.ext e1).ext e2).keep1 e3 (fun _h=>((hm.ext e1).ext e2).ne_blk ((hbm.ext e1).ext e2) _h.symm));have q16:=((((q15.ext e4).ext e5).ext e6).ko e7 (((q13.ext e4).ext e5).ext e6));have q17:=(((hbp.ext e1).ext e2).keep1 e3 (fun _h=>((hm.ext e1).ext e2).ne_blk ((hbp.ext e1).ext e2) _h.symm));have q18:=((((q17.ext e4).ext e5).ext e6).ko e7 (((q13.ext e4).ext e5).ext e6));have q19:=((((m1.ext e4).ext e5).ext e6).ko e7 (((q13.ext e4).ext e5).ext e6));have q20:=(q19.kb e8 q14);have hk9:stKey (⟨A1,c1,closG s.g l,(l.length:Int),none,0,[],⟨z.kind,z.n⟩,fr⟩:StD)=(⟨(wkey l).toArray⟩:ByteArray):=stKey_new;have hm9:=q20;rw [←hk9] at hm9;have hnn:lookM (keysM sts 0) (stKey (⟨A1,c1,closG s.g l,(l.length:Int),none,0,[],⟨z.kind,z.n⟩,fr⟩:StD))=none:=by rw [hk9];simpa using h1
 have hks:=keysM_snoc hnn;rw [Nat.zero_add] at hks;rw [hks] at hm9;have q21:=(o1.kb e8 q14);have x4:Ext w w2:=(Xt e1 e2);have x5:Ext w3 w6:=(Xt (Xt e4 e5) e6);have q22:=(StF.ext (StF.keepM (StF.ext hF x4) e3 ((hm.ext e1).ext e2)) x5);have q23:=(StF.keepO q22 e7 (((q13.ext e4).ext e5).ext e6) (by decide) (by decide));have q24:=((hn1.1.ext e6).ko e7 (((q13.ext e4).ext e5).ext e6));have q25:=(q24.kb e8 q14);exact ⟨sts++[(⟨A1,c1,closG s.g l,(l.length:Int),none,0,[],⟨z.kind,z.n⟩,fr⟩:StD)],A2,c2,(show AddR s.g sts l z fr _ _ from .inr ⟨by simpa using h1,_,_,rfl,rfl⟩),(q16.kb e8 q14),(q18.kb e8 q14),b3,hm9,q21,(fun k hk=>by have _h:=low1 k hk;omega),StF.snoc (StF.keepB q23 e8 q14 (by decide) (by decide)) ⟨q25,(fun k hk=>by have _h:=hn1.2 k hk;omega),Vx.Own.nil _ _ _,(fun k hk=>by simp [Value.ownBlock] at hk)⟩ rfl,(Chg.trans (Chg.trans (Chg.ext (Chg.ext (Chg.ext (Chg.trans (Chg.ext (Chg.ext (Chg.refl (fun k=>k=ba∨k=mb∨(Value.slice sA sts.length sc).ownBlock=some k) w) e1) e2) e3 (fun k hk hl=>.inr (.inl hk))) e4) e5) e6) e7 (fun k hk hl=>.inr (.inr hk))) e8 (fun k hk hl=>.inl hk))⟩
structure ASt where
  items:List Itm
  kern:Int
  arcs:List Arc
  sym:Sym
  frm:Int
deriving Inhabited
def StD.d(x:StD):ASt:=⟨x.items,x.kern,x.arcs,x.sym,x.frm⟩
def ASt.key(x:ASt):ByteArray:=⟨(wkey (x.items.take x.kern.toNat)).toArray⟩
def keysA:List ASt→Nat→List (ByteArray×Value)
  | [],_=>[]
  | x::l,i=>(x.key,.int .i64 (i:Nat))::keysA l (i+1)
theorem keysM_d:∀(l:List StD) (i:Nat),keysM l i=keysA (l.map StD.d) i
  | [],_=>rfl
  | x::l,i=>by rw [keysM,List.map_cons,keysA,keysM_d l (i+1)];rfl
def keyA(l:List ASt)(k:ByteArray):Int:=match lookM (keysA l 0) k with
  | some (.int _ i)=>i
  | _=>0
theorem keyAt_d(l:List StD)(k:ByteArray):keyAt l k=keyA (l.map StD.d) k:=by
  unfold keyAt keyA;rw [keysM_d]
  try (rcases lookM (keysA (l.map StD.d) 0) k with _ | v;rfl;cases v<;>rfl)
def addA(g:GD)(st:List ASt)(l:List Itm)(z:Sym)(fr:Int):List ASt×Int :=
  if (lookM (keysA st 0) ⟨(wkey l).toArray⟩).isSome=true then (st,keyA st ⟨(wkey l).toArray⟩)
  else (st++[⟨closG g l,(l.length:Int),[],z,fr⟩],(st.length:Nat))
theorem addR_d{g:GD}{sts sts':List StD}{l:List Itm}{z:Sym}{fr:Int}{v:Value}(h:AddR g sts l z fr sts' v):∃i,v = .int .i64 i∧addA g (sts.map StD.d) l z fr=(sts'.map StD.d,i):=by
  unfold addA;rcases h with ⟨h1,rfl,rfl⟩|⟨h1,A,c,rfl,rfl⟩;rw [keysM_d] at h1;exact ⟨_,rfl,by rw [if_pos h1,←keyAt_d]⟩;rw [keysM_d] at h1;exact ⟨_,rfl,by rw [if_neg (by rw [h1];decide),List.map_append,List.length_map];rfl⟩
def arcS(g:GD)(at_:Nat)(st:List ASt)(z:Sym):List ASt :=
  let r:=addA g st (overG g z (st[at_]!).items) z (at_:Nat)
  r.1.set at_ { (r.1[at_]!) with arcs:=(r.1[at_]!).arcs++[⟨z,r.2⟩] }
def rowS(g:GD)(at_:Nat)(st:List ASt):List ASt:=(symsG g (st[at_]!).items).foldl (arcS g at_) st
def buildF(g:GD):Nat→Nat→List ASt→Option (List ASt)
  | 0,_,_=>none
  | f+1,at_,st=>if at_<st.length then (if 1024≤at_ then none else buildF g f (at_+1) (rowS g at_ st)) else some st
def buildG(g:GD):Option (List ASt):=buildF g 1025 0 (addA g [] [⟨-1,0⟩] ⟨0,0⟩ 0).1
def okJ(g:GD)(x:Itm):Prop:=okI g x∧x.dot≤((rightG g x.p).length:Int)
theorem closF_okJ{g:GD}{K:List Itm}(hK:∀x∈K,okJ g x):∀x∈(closF g K).1,okJ g x:=by
  refine fixN_inv (P:=fun h:CS=>∀x∈h.1,okJ g x) (fun h hp=>?_) _ _ hK;unfold stepC
  split
  split
  intro x hx;rcases List.mem_append.1 hx with hx|hx;exact hp x hx;obtain ⟨i,p,h2,_,h3,_⟩:=(newP_mem K _).1 hx;have h4:=(List.getElem?_eq_some_iff.1 h2).1;rw [h3];exact ⟨⟨.inr ⟨by simp only;omega,by simp only;omega⟩,Int.le_refl _⟩,by simp only;omega⟩;exact hp;exact hp
theorem srtItm_mem{l:List Itm}{x:Itm} : x∈srtItm l↔x∈l:=List.mem_mergeSort
theorem closG_mem{g:GD}{K:List Itm}{x:Itm} : x∈closG g K↔x∈(closF g K).1:=by
  unfold closG;rw [List.mem_append,srtItm_mem,←List.mem_append,List.take_append_drop]
theorem closF_inv{g:GD}(hG:GoodG g){K:List Itm}(hK:∀x∈K,okI g x):InvC g K (closF g K):=by
  have key:∀(n:Nat) (h:CS),InvC g K h→InvC g K (fixN (stepC g K) n h):=by
    intro n
    induction n with
    | zero=>intro h hi;exact hi
    | succ n ih =>
      intro h hi;rw [fixN]
      split
      rename_i hs;exact ih _ (stepC_ok hG hi hs).1;rename_i hs;unfold stepC at hs ⊢
      split at hs
      split at hs<;>exact absurd rfl hs
      rename_i hlt;rw [if_neg hlt];exact hi
  exact key _ _ (InvC.start hK)
theorem closG_len{g:GD}(hG:GoodG g){K:List Itm}(hK:∀x∈K,okI g x)(hN:g.names≤128)(hP:g.prods.length≤512):(closG g K).length≤K.length+65536:=by
  have h1:=(closF_inv hG hK).most;have h2:g.names*g.prods.length≤128*512:=Nat.mul_le_mul hN hP
  have h3:(closG g K).length=(closF g K).1.length:=by
    unfold closG;rw [List.length_append,srtItm_len,←List.length_append,List.take_append_drop]
  omega
theorem overG_mem{g:GD}{z:Sym}{l:List Itm}{x:Itm} : x∈overG g z l↔∃y∈l,behindG g y=some z∧x=⟨y.p,y.dot+1⟩:=by
  unfold overG overM;rw [srtItm_mem,List.mem_filterMap];constructor;rintro ⟨y,hy,h⟩
  split at h
  rename_i hb;exact ⟨y,hy,hb,(Option.some.inj h).symm⟩;cases h;rintro ⟨y,hy,hb,rfl⟩;exact ⟨y,hy,by rw [if_pos hb]⟩
theorem overG_len{g:GD}{z:Sym}{l:List Itm} : (overG g z l).length≤l.length:=by
  unfold overG overM;rw [srtItm_len];exact List.length_filterMap_le _ _
theorem overG_okJ{g:GD}{z:Sym}{l:List Itm}(h:∀x∈l,okJ g x):∀x∈overG g z l,okJ g x:=by
  intro x hx;obtain ⟨y,hy,hb,rfl⟩:=overG_mem.1 hx;have h1:=h y hy;have h2:=(List.getElem?_eq_some_iff.1 hb).1;have h3:=h1.1.2;exact ⟨⟨h1.1.1,by simp only;omega⟩,by simp only;omega⟩
structure OkS(g:GD)(st:List ASt):Prop where
  ok:∀x∈st,∀y∈x.items,okJ g y
  len:∀(i:Nat) (x:ASt),st[i]?=some x→x.items.length≤65537*(i+1)∧x.items.length≤67240962
theorem OkS.start{g:GD}(hG:GoodG g)(hN:g.names≤128)(hP:g.prods.length≤512):OkS g (addA g [] [⟨-1,0⟩] ⟨0,0⟩ 0).1:=by
  have hK:∀x∈[(⟨-1,0⟩:Itm)],okJ g x:=fun x hx=>by
    rw [List.mem_singleton.1 hx];exact ⟨⟨.inl rfl,Int.le_refl _⟩,by simp only;omega⟩
  have hl:=closG_len hG (K:=[⟨-1,0⟩]) (fun x hx=>(hK x hx).1) hN hP;simp only [List.length_singleton] at hl;have he:(addA g [] [⟨-1,0⟩] ⟨0,0⟩ 0).1 = [⟨closG g [⟨-1,0⟩],1,[],⟨0,0⟩,0⟩]:=rfl;rw [he];refine ⟨fun x hx y hy=>?_,fun i x hx=>?_⟩;rw [List.mem_singleton.1 hx] at hy;exact closF_okJ hK y (closG_mem.1 hy);have hi:=(List.getElem?_eq_some_iff.1 hx).1;simp only [List.length_singleton] at hi;have:i=0:=by omega
  subst this;simp only [List.getElem?_cons_zero,Option.some.injEq] at hx;subst hx;simp only;omega
theorem OkS.add{g:GD}(hG:GoodG g)(hN:g.names≤128)(hP:g.prods.length≤512){st:List ASt}(h:OkS g st){l:List Itm}{z:Sym}{fr:Int}{a:Nat}(hl:∀x∈l,okJ g x)(hle:l.length≤65537*(a+1))(ha:a<st.length)(ha2:a<1024):OkS g (addA g st l z fr).1∧st.length≤(addA g st l z fr).1.length∧(addA g st l z fr).1.length≤st.length+1:=by
  unfold addA
  split
  exact ⟨h,Nat.le_refl _,Nat.le_succ _⟩;have hc:=closG_len hG (K:=l) (fun x hx=>(hl x hx).1) hN hP;refine ⟨⟨fun x hx y hy=>?_,fun i x hx=>?_⟩,by simp,by simp⟩;rcases List.mem_append.1 hx with hx|hx;exact h.ok x hx y hy;rw [List.mem_singleton.1 hx] at hy;exact closF_okJ hl y (closG_mem.1 hy);by_cases hi:i<st.length;rw [List.getElem?_append_left hi] at hx;exact h.len i x hx;have hi2:=(List.getElem?_eq_some_iff.1 hx).1;simp only [List.length_append,List.length_singleton] at hi2;have:i=st.length:=by omega
  subst this;rw [List.getElem?_append_right (Nat.le_refl _),Nat.sub_self] at hx;simp only [List.getElem?_cons_zero,Option.some.injEq] at hx;subst hx;simp only;omega
theorem addA_get{g:GD}{st:List ASt}{l:List Itm}{z:Sym}{fr:Int}{k:Nat}(hk:k<st.length):(addA g st l z fr).1[k]?=st[k]?:=by
  unfold addA
  split
  rfl
  exact List.getElem?_append_left hk
theorem bangA{st:List ASt}{i:Nat}{x:ASt}(h:st[i]?=some x):st[i]! = x:=by rw [List.getElem!_eq_getElem?_getD,h];rfl
theorem OkS.set{g:GD}{st:List ASt}(h:OkS g st){i:Nat}{x y:ASt}(hx:st[i]?=some x)(hi:y.items=x.items):OkS g (st.set i y):=by
  have hil:=(List.getElem?_eq_some_iff.1 hx).1;refine ⟨fun u hu=>?_,fun k u hu=>?_⟩;rcases List.mem_or_eq_of_mem_set hu with hu|rfl;exact h.ok u hu;rw [hi];exact h.ok x (List.mem_of_getElem? hx);by_cases hk:k=i;subst hk;rw [List.getElem?_set_self hil] at hu;cases hu;rw [hi];exact h.len k x hx;rw [List.getElem?_set_ne (fun hh=>hk hh.symm)] at hu;exact h.len k u hu
theorem arcS_ok{g:GD}(hG:GoodG g)(hN:g.names≤128)(hP:g.prods.length≤512){st:List ASt}(h:OkS g st){a:Nat}{z:Sym}{x:ASt}(hx:st[a]?=some x)(ha:a<1024) :
    OkS g (arcS g a st z)∧st.length≤(arcS g a st z).length∧(arcS g a st z).length≤st.length+1∧∃y,(arcS g a st z)[a]?=some y∧y.items=x.items:=by
  have hal:=(List.getElem?_eq_some_iff.1 hx).1;have hxl:=h.len a x hx;have hok:∀y∈overG g z x.items,okJ g y:=overG_okJ (h.ok x (List.mem_of_getElem? hx));have hol:(overG g z x.items).length≤x.items.length:=overG_len;have hadd:=OkS.add hG hN hP h (z:=z) (fr:=(a:Nat)) hok (a:=a) (by omega) hal ha;have hg:(addA g st (overG g z x.items) z (a:Nat)).1[a]?=some x:=(addA_get hal).trans hx
  have he:arcS g a st z=(addA g st (overG g z x.items) z (a:Nat)).1.set a { x with arcs:=x.arcs++[⟨z,(addA g st (overG g z x.items) z (a:Nat)).2⟩] }:=by
    unfold arcS;simp only [bangA hx,bangA hg]
  rw [he];refine ⟨hadd.1.set hg rfl,by rw [List.length_set];exact hadd.2.1,by rw [List.length_set];exact hadd.2.2,⟨_,List.getElem?_set_self (by omega),rfl⟩⟩
theorem arcS_eq{g:GD}{st:List ASt}{a:Nat}{z:Sym}{x:ASt}(hx:st[a]?=some x):arcS g a st z=(addA g st (overG g z x.items) z (a:Nat)).1.set a { x with arcs:=x.arcs++[⟨z,(addA g st (overG g z x.items) z (a:Nat)).2⟩] }:=by
  have hal:=(List.getElem?_eq_some_iff.1 hx).1;have hg:(addA g st (overG g z x.items) z (a:Nat)).1[a]?=some x:=(addA_get hal).trans hx;unfold arcS;simp only [bangA hx,bangA hg]
theorem fold_ok{g:GD}(hG:GoodG g)(hN:g.names≤128)(hP:g.prods.length≤512){a:Nat}(ha:a<1024):∀(zs:List Sym) {st:List ASt} {x:ASt},OkS g st→st[a]?=some x→OkS g (zs.foldl (arcS g a) st)∧st.length≤(zs.foldl (arcS g a) st).length∧(zs.foldl (arcS g a) st).length≤st.length+zs.length
  | [],st,x,h,hx=>⟨h,Nat.le_refl _,Nat.le_refl _⟩
  | z::zs,st,x,h,hx=>by
    obtain ⟨h1,h2,h3,y,hy,_⟩:=arcS_ok hG hN hP h (z:=z) hx ha;obtain ⟨k1,k2,k3⟩:=fold_ok hG hN hP ha zs h1 hy;rw [List.foldl_cons,List.length_cons];exact ⟨k1,by omega,by omega⟩
theorem cmpP_len:∀(l:List Sym) (p:Sym),(cmpP p l).length≤l.length
  | [],_=>Nat.le_refl _
  | x::l,p=>by
    rw [cmpP]
    split
    have:=cmpP_len l p;rw [List.length_cons];omega;have:=cmpP_len l x;rw [List.length_cons,List.length_cons];omega
theorem symsG_len{g:GD}{l:List Itm} : (symsG g l).length≤l.length:=by
  have h1:∀m:List Sym,(compL m).length≤m.length:=fun m=>by
    cases m with
    | nil=>exact Nat.le_refl _
    | cons x m=>rw [compL,List.length_cons,List.length_cons];have:=cmpP_len m x;omega
  unfold symsG;have h2:=h1 (srtSym (l.filterMap (behindG g)));have h3:=List.length_filterMap_le (behindG g) l;rw [srtSym_len] at h2;omega
structure OkP(st:List ASt):Prop where
  frm:∀(k:Nat) (x:ASt),st[k]?=some x→k≠0→0≤x.frm∧x.frm<(k:Int)
  kern:∀x∈st,0≤x.kern∧x.kern≤(x.items.length:Int)
theorem closG_le{g:GD}{l:List Itm} : l.length≤(closG g l).length:=by
  have:=congrArg List.length (closG_pre (closF_pre g l));rw [List.length_take] at this;omega
theorem OkP.add{g:GD}{st:List ASt}(h:OkP st){l:List Itm}{z:Sym}{a:Nat}(ha:a<st.length):OkP (addA g st l z (a:Nat)).1:=by
  unfold addA
  split
  exact h;refine ⟨fun k x hx hk=>?_,fun x hx=>?_⟩;by_cases hl:k<st.length;rw [List.getElem?_append_left hl] at hx;exact h.frm k x hx hk;have hi:=(List.getElem?_eq_some_iff.1 hx).1;simp only [List.length_append,List.length_singleton] at hi;have:k=st.length:=by omega
  subst this;rw [List.getElem?_append_right (Nat.le_refl _),Nat.sub_self] at hx;simp only [List.getElem?_cons_zero,Option.some.injEq] at hx;subst hx;simp only;omega;rcases List.mem_append.1 hx with hx|hx;exact h.kern x hx;rw [List.mem_singleton.1 hx];have:=closG_le (g:=g) (l:=l);simp only;omega
theorem OkP.set{st:List ASt}(h:OkP st){i:Nat}{x y:ASt}(hx:st[i]?=some x)(hi:y.items=x.items)(hk:y.kern=x.kern)(hf:y.frm=x.frm):OkP (st.set i y):=by
  have hil:=(List.getElem?_eq_some_iff.1 hx).1;refine ⟨fun k u hu hk0=>?_,fun u hu=>?_⟩;by_cases hki:k=i;subst hki;rw [List.getElem?_set_self hil] at hu;cases hu;rw [hf];exact h.frm k x hx hk0;rw [List.getElem?_set_ne (fun hh=>hki hh.symm)] at hu;exact h.frm k u hu hk0;rcases List.mem_or_eq_of_mem_set hu with hu|rfl;exact h.kern u hu;rw [hi,hk];exact h.kern x (List.mem_of_getElem? hx)
theorem OkP.arc{g:GD}{st:List ASt}(h:OkP st){a:Nat}{z:Sym}{x:ASt}(hx:st[a]?=some x):OkP (arcS g a st z):=by
  have hal:=(List.getElem?_eq_some_iff.1 hx).1;rw [arcS_eq hx];exact (h.add hal).set ((addA_get hal).trans hx) rfl rfl rfl
theorem OkP.start{g:GD} : OkP (addA g [] [⟨-1,0⟩] ⟨0,0⟩ 0).1:=by
  have he:(addA g [] [⟨-1,0⟩] ⟨0,0⟩ 0).1 = [⟨closG g [⟨-1,0⟩],1,[],⟨0,0⟩,0⟩]:=rfl;rw [he];refine ⟨fun k x hx hk=>?_,fun x hx=>?_⟩;have hi:=(List.getElem?_eq_some_iff.1 hx).1;simp only [List.length_singleton] at hi;omega;rw [List.mem_singleton.1 hx];have:=closG_le (g:=g) (l:=[⟨-1,0⟩]);simp only [List.length_singleton] at this;simp only;omega
structure OkW(g:GD)(q k:Nat)(st:List ASt):Prop where
  ok:OkS g st
  lt:q<st.length
  rest:∀(j:Nat) (x:ASt),q<j→st[j]?=some x→x.arcs = []
  now:∀x:ASt,st[q]?=some x→x.arcs.length=k
structure OkV(g:GD)(q:Nat)(st:List ASt):Prop where
  ok:OkS g st
  rest:∀(j:Nat) (x:ASt),q≤j→st[j]?=some x→x.arcs = []
theorem OkV.start{g:GD}(hG:GoodG g)(hN:g.names≤128)(hP:g.prods.length≤512):OkV g 0 (addA g [] [⟨-1,0⟩] ⟨0,0⟩ 0).1:=by
  refine ⟨OkS.start hG hN hP,fun j x _ hx=>?_⟩;have he:(addA g [] [⟨-1,0⟩] ⟨0,0⟩ 0).1 = [⟨closG g [⟨-1,0⟩],1,[],⟨0,0⟩,0⟩]:=rfl;rw [he] at hx;have:=List.mem_of_getElem? hx;rw [List.mem_singleton.1 this]
theorem OkV.enter{g:GD}{q:Nat}{st:List ASt}(h:OkV g q st)(hq:q<st.length):OkW g q 0 st :=
  ⟨h.ok,hq,fun j x hj hx=>h.rest j x (Nat.le_of_lt hj) hx,fun x hx=>by rw [h.rest q x (Nat.le_refl _) hx];rfl⟩
theorem OkW.leave{g:GD}{q k:Nat}{st:List ASt}(h:OkW g q k st):OkV g (q+1) st:=⟨h.ok,fun j x hj hx=>h.rest j x hj hx⟩
theorem addA_new{g:GD}{st:List ASt}{l:List Itm}{z:Sym}{fr:Int}{j:Nat}{x:ASt}(hj:st.length≤j)(hx:(addA g st l z fr).1[j]?=some x):x.arcs = []:=by
  unfold addA at hx
  split at hx
  have:=(List.getElem?_eq_some_iff.1 hx).1;simp only at this;omega;rw [List.getElem?_append_right hj] at hx;have:=List.mem_of_getElem? hx;rw [List.mem_singleton.1 this]
theorem OkW.arc{g:GD}(hG:GoodG g)(hN:g.names≤128)(hP:g.prods.length≤512){q k:Nat}{st:List ASt}{z:Sym}(h:OkW g q k st)(hq:q<1024):OkW g q (k+1) (arcS g q st z)∧(arcS g q st z).length≤st.length+1:=by
  have hlt0:=h.lt;have hx:st[q]?=some st[q]:=List.getElem?_eq_getElem h.lt;obtain ⟨h1,h2,h3,y,hy,_⟩:=arcS_ok hG hN hP h.ok (z:=z) hx hq;have hlt:=h.lt;refine ⟨⟨h1,by omega,fun j x hj hxj=>?_,fun x hxq=>?_⟩,h3⟩;rw [arcS_eq hx,List.getElem?_set_ne (by omega)] at hxj;by_cases hjl:j<st.length;rw [addA_get hjl] at hxj;exact h.rest j x hj hxj;exact addA_new (by omega) hxj;rw [arcS_eq hx,List.getElem?_set_self (by rw [arcS_eq hx,List.length_set] at h2;omega)] at hxq;cases hxq;have:=h.now _ hx;simp only [List.length_append,List.length_singleton];omega
theorem addA_at{g:GD}{sts sts2:List StD}{q:Nat}{l:List Itm}{z:Sym}{fr:Int}{x y:StD}{i:Int}(hx:sts[q]?=some x)(ha:addA g (sts.map StD.d) l z fr=(sts2.map StD.d,i))(hy:sts2[q]?=some y):y.d=x.d:=by
  have hql:=(List.getElem?_eq_some_iff.1 hx).1;have h1:(sts2.map StD.d)[q]?=some y.d:=map_get hy;have h2:=addA_get (g:=g) (l:=l) (z:=z) (fr:=fr) (st:=sts.map StD.d) (k:=q) (by rw [List.length_map];exact hql);rw [ha] at h2;rw [h1,map_get hx] at h2;exact Option.some.inj h2
theorem arcS_walk{g:GD}{sts sts2:List StD}{q:Nat}{z:Sym}{x y:StD}{i:Int}{A:Option Addr}{c:Nat}(hx:sts[q]?=some x)(ha:addA g (sts.map StD.d) (overG g z x.items) z (q:Nat)=(sts2.map StD.d,i))(hy:sts2[q]?=some y) :
    (sts2.set q ⟨y.iA,y.ic,y.items,y.kern,A,c,y.arcs++[⟨z,i⟩],y.sym,y.frm⟩).map StD.d=arcS g q (sts.map StD.d) z∧y.d=x.d:=by
  have hx':(sts.map StD.d)[q]?=some x.d:=map_get hx;have hql:=(List.getElem?_eq_some_iff.1 hx).1
  have hyd:y.d=x.d:=by
    have h1:(sts2.map StD.d)[q]?=some y.d:=map_get hy;have h2:=addA_get (g:=g) (l:=overG g z x.items) (z:=z) (fr:=(q:Nat)) (st:=sts.map StD.d) (k:=q) (by rw [List.length_map];exact hql);rw [ha] at h2;rw [h1,hx'] at h2;exact Option.some.inj h2
  refine ⟨?_,hyd⟩;rw [arcS_eq hx',List.map_set];have e1:x.d.items=x.items:=rfl
  have e2:({ x.d with arcs:=x.d.arcs++[(⟨z,i⟩:Arc)] } : ASt)=StD.d ⟨y.iA,y.ic,y.items,y.kern,A,c,y.arcs++[⟨z,i⟩],y.sym,y.frm⟩:=by
    rw [←hyd];rfl
  rw [e1,ha,←e2];rfl
theorem add_lens{g:GD}{sts sts':List StD}{l:List Itm}{z:Sym}{fr i:Int}(h:addA g (sts.map StD.d) l z fr=(sts'.map StD.d,i)):sts.length≤sts'.length∧sts'.length≤sts.length+1:=by
  have h1:=congrArg (fun p:List ASt×Int=>p.1.length) h;unfold addA at h1
  split at h1<;>simp at h1<;>omega
theorem okJ_small{g:GD}{x:Itm}(h:okJ g x)(hP:g.prods.length≤512)(hR:∀p∈g.prods,p.2.length≤16):smallI x:=by
  have h1:=h.1.1;have h2:=h.1.2;have h3:=h.2
  have h4:(rightG g x.p).length≤16:=by
    rcases h1 with h1|⟨h1,h5⟩;rw [rightG,if_pos h1];simp;have hx:g.prods[x.p.toNat]?=some g.prods[x.p.toNat]:=List.getElem?_eq_getElem (by omega);have h6:=hR _ (List.mem_of_getElem? hx);unfold rightG;rw [if_neg (by omega)];rw [List.getElem!_eq_getElem?_getD,hx];exact h6
  unfold smallI;omega
theorem keysM_set{sts:List StD}{q:Nat}{x y:StD} : ∀ {i:Nat},sts[q]?=some x→y.items=x.items→y.kern=x.kern→keysM (sts.set q y) i=keysM sts i:=by
  induction sts generalizing q with
  | nil=>intro i h;simp at h
  | cons a l ih =>
    intro i h hi hk
    cases q with
    | zero =>
      simp only [List.getElem?_cons_zero,Option.some.injEq] at h;subst h;rw [List.set_cons_zero,keysM,keysM,stKey,stKey,hi,hk]
    | succ q =>
      rw [List.set_cons_succ,keysM,keysM,ih (by simpa using h) hi hk]
theorem buildF_end{g:GD}{q:Nat}{st:List ASt}(hq:¬q<st.length)(hq2:q≤1024):buildF g (1025-q) q st=some st:=by
  obtain ⟨f,hf⟩:∃f,1025-q=f+1:=⟨1024-q,by omega⟩;rw [hf,buildF,if_neg hq]
theorem buildF_full{g:GD}{q:Nat}{st:List ASt}(hq:q<st.length)(hq2:q≤1024)(h:1024≤q):buildF g (1025-q) q st=none:=by
  obtain ⟨f,hf⟩:∃f,1025-q=f+1:=⟨1024-q,by omega⟩;rw [hf,buildF,if_pos hq,if_pos h]
theorem buildF_row{g:GD}{q:Nat}{st:List ASt}(hq:q<st.length)(h:q<1024):buildF g (1025-q) q st=buildF g (1025-(q+1)) (q+1) (rowS g q st):=by
  have hf:1025-q=(1025-(q+1))+1:=by omega
  rw [hf,buildF,if_pos hq,if_neg (by omega)]
theorem fold_take{α β:Type}{f:β→α→β}{l:List α}{k:Nat}{x:α}{b:β}(hx:l[k]?=some x):(l.take (k+1)).foldl f b=f ((l.take k).foldl f b) x:=by
  rw [List.take_add_one,hx,List.foldl_append];rfl
section
variable {B i:Nat}{w w':World}{l:List StD}{x:StD}
theorem StF.at(h:StF B w l)(hx:l[i]?=some x):StR B w x:=h.all x (List.mem_of_getElem? hx)
theorem StF.arcs{A':Option Addr}{c':Nat}{as':List Arc}(h:StF B w l)(hx:l[i]?=some x)(c:Chg (fun b=>(Value.slice x.aA x.arcs.length x.ac).ownBlock=some b) w w')(ho:Vx.Own w' 156 3 (.slice A' as'.length c') as'.length (as'.flatMap Arc.cs))
    (hlo:∀k,(Value.slice A' as'.length c').ownBlock=some k→B≤k) (hat:(Value.slice A' as'.length c').ownBlock=(Value.slice x.aA x.arcs.length x.ac).ownBlock∨(Value.slice A' as'.length c').ownBlock=some w.heap.size):StF B w' (l.set i { x with aA:=A',ac:=c',arcs:=as' }):=by
  have hxr:=h.at hx;have hil:=(List.getElem?_eq_some_iff.1 hx).1
  have items:∀y∈l,Vx.Own w' 113 2 (.slice y.iA y.items.length y.ic) y.items.length (y.items.flatMap Itm.cs):=fun y hy=>(h.all y hy).items.keep c fun k h1 h2=>by
    obtain ⟨c1,h3⟩:=own_type (h.all y hy).items h1;obtain ⟨c2,h4⟩:=own_type hxr.arcs h2;rw [h3] at h4;cases h4
  have get:∀(j:Nat) (y:StD),(l.set i { x with aA:=A',ac:=c',arcs:=as' })[j]?=some y→(j=i∧y = { x with aA:=A',ac:=c',arcs:=as' })∨(j≠i∧l[j]?=some y):=fun j y hy=>by
    by_cases hj:j=i;subst hj;rw [List.getElem?_set_self hil] at hy;exact .inl ⟨rfl,(Option.some.inj hy).symm⟩;rw [List.getElem?_set_ne (fun hh=>hj hh.symm)] at hy;exact .inr ⟨hj,hy⟩
  have other:∀(j:Nat) (y:StD),j≠i→l[j]?=some y→∀k,(Value.slice y.aA y.arcs.length y.ac).ownBlock=some k→(Value.slice x.aA x.arcs.length x.ac).ownBlock=some k→False:=fun j y hj hy k h1 h2=>by
    rcases Nat.lt_or_ge j i with h3|h3;exact h.apart j i y x h3 hy hx k h1 h2;exact h.apart i j x y (by omega) hx hy k h2 h1
  refine ⟨fun y hy=>?_,fun a b y z hab hy hz k h1 h2=>?_⟩;obtain ⟨j,hj⟩:=List.mem_iff_getElem?.1 hy;rcases get j y hj with ⟨rfl,rfl⟩|⟨hji,hy⟩;exact ⟨items x (List.mem_of_getElem? hx),hxr.lowI,ho,hlo⟩;have hr:=h.at hy;exact ⟨items y (List.mem_of_getElem? hy),hr.lowI,hr.arcs.keep c fun k h1 h2=>other j y hji hy k h1 h2,hr.lowA⟩
  have new:∀(j:Nat) (u:StD),j≠i→l[j]?=some u→∀k,(Value.slice u.aA u.arcs.length u.ac).ownBlock=some k→(Value.slice A' as'.length c').ownBlock=some k→False:=fun j u hj hu k h1 h2=>by
    rcases hat with e|e;rw [e] at h2;exact other j u hj hu k h1 h2;rw [e] at h2;have:=(h.at hu).arcs.lt k h1;cases h2;omega
  rcases get a y hy with ⟨ha,hya⟩|⟨ha,hy2⟩;rcases get b z hz with ⟨hb,_⟩|⟨hb,hz2⟩;omega;subst hya;exact new b z hb hz2 k h2 h1;rcases get b z hz with ⟨hb,hzb⟩|⟨hb,hz2⟩;subst hzb;exact new a y ha hy2 k h1 h2;exact h.apart a b y z hab hy2 hz2 k h1 h2
end
theorem check_good{g:GD}(h:(checkE g).1=0):GoodG g∧g.names≤128∧g.prods.length≤512∧∀p∈g.prods,p.2.length≤16:=by
  unfold checkE at h
  split at h
  exact absurd h (by decide);rename_i hl
  split at h
  rename_i h1;exact absurd h h1;rename_i h1;have h2:(indG g).1=0:=Classical.byContradiction h1;have h3:longG g=false:=by simpa using hl
  unfold longG at h3;simp only [Bool.or_eq_false_iff,decide_eq_false_iff_not,List.any_eq_false,decide_eq_true_eq] at h3;exact ⟨good_of h2,by omega,by omega,fun p hp=>by have:=h3.2 p hp;omega⟩
def ASt.kernel(x:ASt):List Itm:=x.items.take x.kern.toNat
theorem key_eq{x:ASt}{l:List Itm}(hx:∀y∈x.items,smallI y)(hl:∀y∈l,smallI y):x.key=⟨(wkey l).toArray⟩↔x.kernel=l:=by
  unfold ASt.key ASt.kernel;constructor;intro h;have h1:(wkey (x.items.take x.kern.toNat)).toArray=(wkey l).toArray:=congrArg ByteArray.data h;exact wkey_inj (fun y hy=>hx y (List.mem_of_mem_take hy)) hl (by simpa using congrArg Array.toList h1);intro h;rw [h]
theorem look_key:∀ {st:List ASt} {l:List Itm} (i:Nat),(∀x∈st,∀y∈x.items,smallI y)→(∀y∈l,smallI y) →
    (∃j x,st[j]?=some x∧x.kernel=l∧(∀k y,k<j→st[k]?=some y→y.kernel≠l)∧lookM (keysA st i) ⟨(wkey l).toArray⟩=some (.int .i64 ((i+j:Nat):Int)))∨((∀x∈st,x.kernel≠l)∧lookM (keysA st i) ⟨(wkey l).toArray⟩=none)
  | [],l,i,_,_=>.inr ⟨(fun x hx=>by cases hx),rfl⟩
  | x::st,l,i,hs,hl=>by
    by_cases hk:x.kernel=l;refine .inl ⟨0,x,rfl,hk,fun k y hk0=>by omega,?_⟩;have:=(key_eq (hs x (by simp)) hl).2 hk;simp [keysA,lookM,List.find?_cons,this];have hn:¬x.key=⟨(wkey l).toArray⟩:=fun hh=>hk ((key_eq (hs x (by simp)) hl).1 hh)
    have he:lookM (keysA (x::st) i) ⟨(wkey l).toArray⟩=lookM (keysA st (i+1)) ⟨(wkey l).toArray⟩:=by
      simp [keysA,lookM,List.find?_cons,hn]
    rcases look_key (st:=st) (l:=l) (i+1) (fun z hz=>hs z (by simp [hz])) hl with ⟨j,y,h1,h2,h3,h4⟩|⟨h1,h2⟩;refine .inl ⟨j+1,y,by simpa using h1,h2,fun k z hkj hz=>?_,?_⟩
    cases k with
    | zero=>simp at hz;subst hz;exact hk
    | succ k=>exact h3 k z (by omega) (by simpa using hz)
    rw [he,h4,show i+1+j=i+(j+1) by omega];refine .inr ⟨fun z hz=>?_,by rw [he,h2]⟩;rcases List.mem_cons.1 hz with rfl|hz;exact hk;exact h1 z hz
theorem addA_cases{g:GD}{st:List ASt}{l:List Itm}{z:Sym}{fr:Int}(hs:∀x∈st,∀y∈x.items,smallI y)(hl:∀y∈l,smallI y) :
    (∃j x,st[j]?=some x∧x.kernel=l∧(∀k y,k<j→st[k]?=some y→y.kernel≠l)∧addA g st l z fr=(st,((j:Nat):Int)))∨((∀x∈st,x.kernel≠l)∧addA g st l z fr=(st++[⟨closG g l,(l.length:Int),[],z,fr⟩],((st.length:Nat):Int))):=by
  rcases look_key 0 hs hl with ⟨j,x,h1,h2,h3,h4⟩|⟨h1,h2⟩;refine .inl ⟨j,x,h1,h2,h3,?_⟩;unfold addA keyA;rw [h4];simp;refine .inr ⟨h1,?_⟩;unfold addA;rw [h2,if_neg (by decide)]
def insX{α:Type}(le:α→α→Bool)(x:α):List α→List α
  | []=>[x]
  | y::l=>if le x y then x::y::l else y::insX le x l
def srtX{α:Type}(le:α→α→Bool):List α→List α
  | []=>[]
  | x::l=>insX le x (srtX le l)
theorem insX_perm{α:Type}(le:α→α→Bool)(x:α):∀l:List α,(insX le x l).Perm (x::l)
  | []=>.refl _
  | y::l=>by
    unfold insX
    split
    exact .refl _;exact ((insX_perm le x l).cons y).trans (.swap _ _ _)
theorem srtX_perm{α:Type}(le:α→α→Bool):∀l:List α,(srtX le l).Perm l
  | []=>.refl _
  | x::l=>(insX_perm le x _).trans ((srtX_perm le l).cons x)
section
variable {α:Type}{le:α→α→Bool}(ht:∀a b c,le a b=true→le b c=true→le a c=true)(htot:∀a b,(le a b || le b a)=true)
include ht htot
theorem insX_sorted{x:α} : ∀ {l:List α},l.Pairwise (le · · = true)→(insX le x l).Pairwise (le · · = true)
  | [],_=>by simp [insX]
  | y::l,h=>by
    have h1:=List.pairwise_cons.1 h;unfold insX
    split
    rename_i hxy;refine List.pairwise_cons.2 ⟨fun z hz=>?_,h⟩;rcases List.mem_cons.1 hz with rfl|hz;exact hxy;exact ht _ _ _ hxy (h1.1 z hz);rename_i hxy;refine List.pairwise_cons.2 ⟨fun z hz=>?_,insX_sorted h1.2⟩;rcases List.mem_cons.1 ((insX_perm le x l).mem_iff.1 hz) with rfl|hz;have:=htot z y;simp only [Bool.or_eq_true] at this;exact this.resolve_left hxy;exact h1.1 z hz
theorem srtX_sorted:∀l:List α,(srtX le l).Pairwise (le · · = true)
  | []=>List.Pairwise.nil
  | x::l=>insX_sorted ht htot (srtX_sorted l)
theorem srtX_eq(hanti:∀a b,le a b=true→le b a=true→a=b)(l:List α):l.mergeSort le=srtX le l :=
  ((List.mergeSort_perm l le).trans (srtX_perm le l).symm).eq_of_pairwise (fun a b _ _=>hanti a b) (List.pairwise_mergeSort ht htot l) (srtX_sorted ht htot l)
end
theorem leItm_spec{x y:Itm} : leItm x y=true↔(x.p<y.p∨(x.p=y.p∧x.dot≤y.dot)):=by unfold leItm;simp
theorem leSym_spec{x y:Sym} : leSym x y=true↔(x.kind<y.kind∨(x.kind=y.kind∧x.n≤y.n)):=by unfold leSym;simp
theorem srtItm_x(l:List Itm):srtItm l=srtX leItm l:=by
  refine srtX_eq (fun a b c h1 h2=>?_) (fun a b=>?_) (fun a b h1 h2=>?_) l;rw [leItm_spec] at *;omega;rw [Bool.or_eq_true,leItm_spec,leItm_spec];omega;rw [leItm_spec] at *;cases a;cases b;simp only at h1 h2;congr 1<;>omega
theorem srtSym_x(l:List Sym):srtSym l=srtX leSym l:=by
  refine srtX_eq (fun a b c h1 h2=>?_) (fun a b=>?_) (fun a b h1 h2=>?_) l;rw [leSym_spec] at *;omega;rw [Bool.or_eq_true,leSym_spec,leSym_spec];omega;rw [leSym_spec] at *;cases a;cases b;simp only at h1 h2;congr 1<;>omega
def closC(g:GD)(K:List Itm):List Itm:=(closF g K).1.take K.length++srtX leItm ((closF g K).1.drop K.length)
def overC(g:GD)(z:Sym)(l:List Itm):List Itm:=srtX leItm (overM g z l)
def symsC(g:GD)(l:List Itm):List Sym:=compL (srtX leSym (l.filterMap (behindG g)))
theorem closC_eq(g:GD)(K:List Itm):closG g K=closC g K:=by unfold closG closC;rw [srtItm_x]
theorem overC_eq(g:GD)(z:Sym)(l:List Itm):overG g z l=overC g z l:=by unfold overG overC;rw [srtItm_x]
theorem symsC_eq(g:GD)(l:List Itm):symsG g l=symsC g l:=by unfold symsG symsC;rw [srtSym_x]
def findK(l:List Itm):List ASt→Nat→Option Nat
  | [],_=>none
  | x::r,i=>if x.kernel=l then some i else findK l r (i+1)
def addC(g:GD)(st:List ASt)(l:List Itm)(z:Sym)(fr:Int):List ASt×Int:=match findK l st 0 with
  | some j=>(st,(j:Nat))
  | none=>(st++[⟨closC g l,(l.length:Int),[],z,fr⟩],(st.length:Nat))
theorem findK_some{l:List Itm} : ∀ {st:List ASt} {j:Nat} {x:ASt} (i:Nat),st[j]?=some x→x.kernel=l→(∀k y,k<j→st[k]?=some y→y.kernel≠l)→findK l st i=some (i+j)
  | [],j,x,i,h,_,_=>by simp at h
  | a::st,j,x,i,h,hk,hn=>by
    cases j with
    | zero =>
      simp only [List.getElem?_cons_zero,Option.some.injEq] at h;subst h;rw [findK,if_pos hk];rfl
    | succ j =>
      rw [findK,if_neg (hn 0 a (by omega) rfl),findK_some (i+1) (by simpa using h) hk fun k y hkj hy=>hn (k+1) y (by omega) (by simpa using hy)];congr 1;omega
theorem findK_none{l:List Itm} : ∀ {st:List ASt} (i:Nat),(∀x∈st,x.kernel≠l)→findK l st i=none
  | [],_,_=>rfl
  | a::st,i,h=>by rw [findK,if_neg (h a (by simp)),findK_none (i+1) fun x hx=>h x (by simp [hx])]
theorem addC_eq{g:GD}{st:List ASt}{l:List Itm}{z:Sym}{fr:Int}(hs:∀x∈st,∀y∈x.items,smallI y)(hl:∀y∈l,smallI y):addA g st l z fr=addC g st l z fr:=by
  unfold addC;rcases addA_cases (g:=g) (z:=z) (fr:=fr) hs hl with ⟨j,x,h1,h2,h3,h4⟩|⟨h1,h2⟩;rw [h4,findK_some 0 h1 h2 h3,Nat.zero_add];rw [h2,findK_none 0 h1,closC_eq]
def arcC(g:GD)(at_:Nat)(st:List ASt)(z:Sym):List ASt :=
  let r:=addC g st (overC g z (st[at_]!).items) z (at_:Nat)
  r.1.set at_ { (r.1[at_]!) with arcs:=(r.1[at_]!).arcs++[⟨z,r.2⟩] }
def rowC(g:GD)(at_:Nat)(st:List ASt):List ASt:=(symsC g (st[at_]!).items).foldl (arcC g at_) st
def buildC(g:GD):Nat→Nat→List ASt→Option (List ASt)
  | 0,_,_=>none
  | f+1,at_,st=>if at_<st.length then (if 1024≤at_ then none else buildC g f (at_+1) (rowC g at_ st)) else some st
structure GoodL(g:GD):Prop where
  good:GoodG g
  names:g.names≤128
  prods:g.prods.length≤512
  rights:∀p∈g.prods,p.2.length≤16
  triv:g.triv.length≤64
theorem check_triv{g:GD}(h:(checkE g).1=0):g.triv.length≤64:=by
  unfold checkE at h
  split at h
  simp at h;rename_i hl;have h3:longG g=false:=by simpa using hl
  unfold longG at h3;simp only [Bool.or_eq_false_iff,decide_eq_false_iff_not] at h3;omega
theorem GoodL.of{g:GD}(h:(checkE g).1=0):GoodL g:=by
  obtain ⟨h1,h2,h3,h4⟩:=check_good h;exact ⟨h1,h2,h3,h4,check_triv h⟩
theorem arcC_eq{g:GD}(hg:GoodL g){a:Nat}{st:List ASt}{z:Sym}(h:OkS g st)(ha:a<st.length):arcS g a st z=arcC g a st z:=by
  have hx:st[a]?=some st[a]:=List.getElem?_eq_getElem ha;have hok:∀y∈overG g z st[a].items,okJ g y:=overG_okJ (h.ok _ (List.mem_of_getElem? hx));have e:=addC_eq (g:=g) (st:=st) (l:=overG g z st[a].items) (z:=z) (fr:=(a:Nat)) (fun x hx y hy=>okJ_small (h.ok x hx y hy) hg.prods hg.rights) (fun y hy=>okJ_small (hok y hy) hg.prods hg.rights);unfold arcS arcC;simp only [bangA hx];rw [e,overC_eq]
theorem foldC_eq{g:GD}(hg:GoodL g){a:Nat}(ha:a<1024):∀(zs:List Sym) {st:List ASt},OkS g st→a<st.length→zs.foldl (arcS g a) st=zs.foldl (arcC g a) st
  | [],_,_,_=>rfl
  | z::zs,st,h,hl=>by
    have hx:st[a]?=some st[a]:=List.getElem?_eq_getElem hl;obtain ⟨h1,h2,_,_⟩:=arcS_ok hg.good hg.names hg.prods h (z:=z) hx ha;rw [List.foldl_cons,List.foldl_cons,foldC_eq hg ha zs h1 (by omega),arcC_eq hg h hl]
theorem buildC_eq{g:GD}(hg:GoodL g):∀(f a:Nat) {st:List ASt},OkS g st→buildF g f a st=buildC g f a st
  | 0,_,_,_=>rfl
  | f+1,a,st,h=>by
    rw [buildF,buildC]
    split
    rename_i hl
    split
    rfl
    rename_i ha;have hx:st[a]?=some st[a]:=List.getElem?_eq_getElem hl;have h1:=fold_ok hg.good hg.names hg.prods (a:=a) (by omega) (symsG g st[a].items) h hx
    have e:rowS g a st=rowC g a st:=by
      unfold rowS rowC;rw [bangA hx,←symsC_eq];exact foldC_eq hg (by omega) _ h hl
    rw [←e];refine buildC_eq hg f (a+1) ?_;unfold rowS;rw [bangA hx];exact h1.1
    rfl
theorem buildG_c{g:GD}(hg:GoodL g):buildG g=buildC g 1025 0 [⟨closC g [⟨-1,0⟩],1,[],⟨0,0⟩,0⟩]:=by
  unfold buildG;rw [buildC_eq hg _ _ (OkS.start hg.good hg.names hg.prods)];rw [←closC_eq];rfl
def isA(sts:List StD)(i:Int):Bool:=decide (0≤i) && decide (i<(sts.length:Int))
theorem isA_of{sts:List StD}{i:Int}(h:isA sts i=true):0≤i∧i<(sts.length:Int):=by
  unfold isA at h;simpa using h
theorem isA_get{sts:List StD}{i:Int}{x:StD}(h0:0≤i)(hx:sts[i.toNat]?=some x):isA sts i=true:=by
  have:=(List.getElem?_eq_some_iff.1 hx).1;unfold isA;simp;omega
def arcTo(z:Sym):List Arc→Int
  | []=>-1
  | a::l=>if a.sym.kind=z.kind∧a.sym.n=z.n then a.to else arcTo z l
theorem arcTo_hit{z:Sym}{l:List Arc}{k:Nat}{a:Arc}(h:l[k]?=some a)(e:a.sym.kind=z.kind∧a.sym.n=z.n):arcTo z (l.drop k)=a.to:=by rw [drop_get h,arcTo,if_pos e]
theorem arcTo_no{z:Sym}{l:List Arc}{k:Nat}{a:Arc}(h:l[k]?=some a)(e:¬(a.sym.kind=z.kind∧a.sym.n=z.n)):arcTo z (l.drop k)=arcTo z (l.drop (k+1)):=by rw [drop_get h,arcTo,if_neg e]
def goA(sts:List StD)(i:Int)(z:Sym):Int:=if isA sts i=true then arcTo z (sts[i.toNat]!).arcs else -1
theorem goA_no{sts:List StD}{i:Int}{z:Sym}(h:isA sts i=false):goA sts i z = -1:=by unfold goA;rw [if_neg (by rw [h];decide)]
theorem goA_at{sts:List StD}{i:Int}{z:Sym}{x:StD}(h0:0≤i)(hx:sts[i.toNat]?=some x):goA sts i z=arcTo z x.arcs:=by
  unfold goA;rw [if_pos (isA_get h0 hx),List.getElem!_eq_getElem?_getD,hx];rfl
instance pf_80:PlF Tryz.prog 80 where
instance tA_118:AggF Tryz.prog 118 where
instance tA_149:AggF Tryz.prog 149 where
instance tA_156:AggT Tryz.prog 156 where
instance tE_149:SlT Tryz.prog 149 (156,3,24,(.agg #[(.int .i64 0),(.int .i64 0),(.int .i64 0)])) where
instance tF_151_0:FdT Tryz.prog 151 0 0 where
instance tF_151_2:FdT Tryz.prog 151 2 2 where
instance tF_156_0:FdT Tryz.prog 156 0 0 where
instance tF_156_1:FdT Tryz.prog 156 1 2 where
instance tS_156:SzT Tryz.prog 156 3 where
instance tU_149:UnS Tryz.prog 149 156 where
instance tZ_156:ZrT Tryz.prog 156 (.agg #[(.int .i64 0),(.int .i64 0),(.int .i64 0)]) where
theorem len_calls(s:SP)(ba:Nat)(sA:Option Addr)(sc:Nat)(sts:List StD)(B:Nat)(w:World)(hb:Blk w ba #[(.slice s.lA s.lex.length s.lc),(.slice s.nA s.names.length s.nc),(.int .i64 s.start),(.slice s.pA s.prods.length s.pc),(.slice sA sts.length sc)] 154)(ho:Vx.Own w 151 6 (.slice sA sts.length sc) sts.length (sts.flatMap StD.cs))(hF:StF B w sts)(hB:∀x∈sts,x.items.length≤67240962∧x.arcs.length≤67240962)(hst:sts.length≤100000000000) :
    Calls Tryz.prog 37 #[(.pointer (some ⟨ba,0,none⟩))] w (Ret (fun v w'=>v = .int .i64 (sts.length:Nat)∧Ext w w')):=by
 refine calls_y (n:=8) Tryz.func37 ?_;refine go ?_;refine y_ld hb ?_;refine go ?_;refine y_r1 ?_;exact ⟨rfl,(Chg.refl _ _)⟩
theorem is_calls(s:SP)(ba:Nat)(sA:Option Addr)(sc:Nat)(sts:List StD)(B:Nat)(i:Int)(w:World)(hb:Blk w ba #[(.slice s.lA s.lex.length s.lc),(.slice s.nA s.names.length s.nc),(.int .i64 s.start),(.slice s.pA s.prods.length s.pc),(.slice sA sts.length sc)] 154)(ho:Vx.Own w 151 6 (.slice sA sts.length sc) sts.length (sts.flatMap StD.cs))(hF:StF B w sts)(hB:∀x∈sts,x.items.length≤67240962∧x.arcs.length≤67240962)(hst:sts.length≤100000000000) :
    Calls Tryz.prog 80 #[(.pointer (some ⟨ba,0,none⟩)),(.int .i64 i)] w (Ret (fun v w'=>v = .bool (isA sts i)∧Ext w w')):=by
 refine calls_y (n:=16) Tryz.func80 ?_;refine go ?_;by_cases h1:(0:Int)≤i;refine ysL (s:=7) (bT (decide_eq_true h1)) ?_;refine go ?_;refine y_ld hb ?_;refine go ?_;refine y_r1 ?_;exact ⟨congrArg Value.bool (by unfold isA;rw [Bool.eq_iff_iff];simp;omega),(Chg.refl _ _)⟩;refine ysL (s:=7) (bF (decide_eq_false h1)) ?_;refine go ?_;refine y_r1 ?_;exact ⟨congrArg Value.bool (by unfold isA;rw [Bool.eq_iff_iff];simp;omega),(Chg.refl _ _)⟩
theorem go_calls(s:SP)(ba:Nat)(sA:Option Addr)(sc:Nat)(sts:List StD)(B:Nat)(i:Int)(z:Sym)(w:World)(hb:Blk w ba #[(.slice s.lA s.lex.length s.lc),(.slice s.nA s.names.length s.nc),(.int .i64 s.start),(.slice s.pA s.prods.length s.pc),(.slice sA sts.length sc)] 154)(ho:Vx.Own w 151 6 (.slice sA sts.length sc) sts.length (sts.flatMap StD.cs))(hF:StF B w sts)(hB:∀x∈sts,x.items.length≤67240962∧x.arcs.length≤67240962)(hst:sts.length≤100000000000) :
    Calls Tryz.prog 36 #[(.pointer (some ⟨ba,0,none⟩)),(.int .i64 i),(.agg #[(.int .i64 z.kind),(.int .i64 z.n)])] w (Ret (fun v w'=>v = .int .i64 (goA sts i z)∧Ext w w')):=by
 refine calls_y (n:=33) Tryz.func36 ?_;refine go ?_;refine y_bx ?_;intro w1 e1 z1 b1;refine go ?_;refine yCa (ret_mono (is_calls s ba sA sc sts B i w1 (hb.ext e1) (Vx.Own.keep ho e1 (fun _ _=>not_false)) (hF.ext e1) hB hst) ?_);rintro _ w2 ⟨rfl,e2⟩;have he2:=e2.size;refine go ?_;refine xc_cond (b:=(!(isA sts i))) rfl (fun h1=>?_) (fun h1=>?_);have h1':=bS h1;have hia:isA sts i=false:=by revert h1;cases isA sts i<;>simp
 refine go ?_;refine y_r1 ?_;have x1:Ext w w2:=(Xt e1 e2);exact ⟨by rw [goA_no hia]<;>rfl,x1⟩;have h1':=bS h1;have hia:isA sts i=true:=by revert h1;cases isA sts i<;>simp
 have hir:=isA_of hia;refine go ?_;refine y_ld ((hb.ext e1).ext e2) ?_;have x2:Ext w w2:=(Xt e1 e2);obtain ⟨x_1,g_1,o_1,hx_1⟩:=row_may (A:=sA) (cs:=StD.cs) i.toNat StD.len (by decide) (RowA.ext ho.rowO x2);obtain ⟨hx_2,hA_1,hc_1⟩:=hx_1 oM;have hb_x_1:=hB _ (List.mem_of_getElem? hx_2);refine go ?_;refine y_ix i.toNat hA_1 ?_;refine go ?_;refine y_lc (CellsL.at1 hc_1 2 rfl) ?_;refine go ?_;refine xc_loopN (fun m_ f_ Wx=>∃(k:Nat),m_=x_1.arcs.length-k∧(k≤x_1.arcs.length)∧(arcTo z x_1.arcs=arcTo z (x_1.arcs.drop k))∧f_ 5=(.pointer (some ⟨w.heap.size,0,none⟩))∧f_ 20=(.slice x_1.aA x_1.arcs.length x_1.ac)∧f_ 21=(.int .i64 (((x_1.arcs.length:Nat):Int)))∧f_ 22=(.int .i64 ((k:Nat)))∧Ext w2 Wx) (x_1.arcs.length) ?_ ?_;exact ⟨0,(by omega),(by omega),rfl,rfl,rfl,rfl,vW,(Chg.refl _ _)⟩;rintro m_ f1 w3 ⟨k,hm_f1,hk,hq,g5_f1,g20_f1,g21_f1,g22_f1,x3⟩;have hx3:=x3.size;rw [←usf g5_f1,←usf g20_f1,←usf g21_f1,←usf g22_f1];refine go ?_;refine y_if (fun h2=>?_) (fun h2=>?_);have x4:Ext w w3:=(Xt x2 x3);obtain ⟨x_2,g_2,o_2,hx_3⟩:=row_may (A:=x_1.aA) (cs:=Arc.cs) k Arc.len (by decide) (RowA.ext ((StF.at hF hx_2).arcs.rowO) x4);obtain ⟨hx_4,hA_2,hc_2⟩:=hx_3 oM;refine go ?_;refine y_ix k hA_2 ?_;refine y_lN (vs:=[(.int .i64 x_2.sym.kind),(.int .i64 x_2.sym.n),(.int .i64 x_2.to)]) hc_2 ?_;refine y_al ?_;intro w4 e3 z2 b2;refine y_st b2 ?_;intro w5 e4 z3 b3;replace b3:Blk w5 w3.heap.size #[(.int .i64 x_2.sym.kind),(.int .i64 x_2.sym.n),(.int .i64 x_2.to)] 156:=blk_full b3 rfl;refine go ?_;refine y_lN (vs:=[(.int .i64 x_2.sym.kind),(.int .i64 x_2.sym.n)]) ⟨b3.cell rfl,b3.cell rfl,trivial⟩ ?_;have q1:=((((b1.ext e2).ext x3).ext e3).kb e4 b2);refine y_lN (vs:=[(.int .i64 z.kind),(.int .i64 z.n)]) ⟨q1.cell rfl,q1.cell rfl,trivial⟩ ?_;refine yOp (ox_eqlF (xs:=[(.int .i64 x_2.sym.kind),(.int .i64 x_2.sym.n)]) (ys:=[(.int .i64 z.kind),(.int .i64 z.n)]) (p:=((x_2.sym.kind:Int)=z.kind∧(x_2.sym.n:Int)=z.n)) fS_75 rfl rfl rfl rfl (by simp) ?_);refine go ?_;refine y_if (fun h3=>?_) (fun h3=>?_);refine go ?_;refine y_ld b3 ?_;refine go ?_;refine y_r1 ?_;have x5:Ext w w5:=(Xc (Xt x4 e3) e4);exact ⟨by rw [goA_at hir.1 hx_2,hq,arcTo_hit hx_4 h3]<;>rfl,x5⟩;refine go ?_;refine y_add ?_;have x6:Ext w2 w5:=(Xc (Xt x3 e3) e4);refine go ?_;exact ⟨rfl,x_1.arcs.length-(k+1),by omega,k+1,by omega,(by omega),(hq.trans (arcTo_no hx_4 h3)),rfl,rfl,rfl,vW,x6⟩;refine go ?_;refine y_r1 ?_;have x7:Ext w w3:=(Xt x2 x3);exact ⟨by rw [goA_at hir.1 hx_2,hq,List.drop_of_length_le (by omega)]<;>rfl,x7⟩
def runA(sts:List StD):Int→List Sym→Int
  | q,[]=>q
  | q,z::r=>if goA sts q z<0 then goA sts q z else runA sts (goA sts q z) r
theorem runA_next{sts:List StD}{l:List Sym}{q:Int}{k:Nat}{z:Sym}(h:l[k]?=some z)(e:¬goA sts q z<0):runA sts q (l.drop k)=runA sts (goA sts q z) (l.drop (k+1)):=by rw [drop_get h,runA,if_neg e]
theorem runA_stop{sts:List StD}{l:List Sym}{q:Int}{k:Nat}{z:Sym}(h:l[k]?=some z)(e:goA sts q z<0):runA sts q (l.drop k)=goA sts q z:=by rw [drop_get h,runA,if_pos e]
def symA(sts:List StD)(i:Int):Sym×Bool:=if i=0∨isA sts i=false then (⟨0,0⟩,false) else ((sts[i.toNat]!).sym,true)
theorem symA_no{sts:List StD}{i:Int}(h:i=0∨isA sts i=false):symA sts i=(⟨0,0⟩,false):=by unfold symA;rw [if_pos h]
theorem symA_at{sts:List StD}{i:Int}{x:StD}(hz:¬i=0)(h0:0≤i)(hx:sts[i.toNat]?=some x):symA sts i=(x.sym,true):=by
  unfold symA;rw [if_neg (by rintro (h | h);exact hz h;rw [isA_get h0 hx] at h;cases h),List.getElem!_eq_getElem?_getD,hx];rfl
instance pf_36:PlF Tryz.prog 36 where
instance tF_151_3:FdT Tryz.prog 151 3 3 where
theorem run_calls(s:SP)(ba:Nat)(sA:Option Addr)(sc:Nat)(sts:List StD)(B:Nat)(l:List Sym)(A:Option Addr)(c:Nat)(w:World)(hb:Blk w ba #[(.slice s.lA s.lex.length s.lc),(.slice s.nA s.names.length s.nc),(.int .i64 s.start),(.slice s.pA s.prods.length s.pc),(.slice sA sts.length sc)] 154)(ho:Vx.Own w 151 6 (.slice sA sts.length sc) sts.length (sts.flatMap StD.cs))(hF:StF B w sts)(hB:∀x∈sts,x.items.length≤67240962∧x.arcs.length≤67240962)(hst:sts.length≤100000000000)(hA:RowA w A (l.flatMap Sym.cs))(hn:l.length≤8796093022208) :
    Calls Tryz.prog 41 #[(.pointer (some ⟨ba,0,none⟩)),(.slice A l.length c)] w (Ret (fun v w'=>v = .int .i64 (runA sts 0 l)∧Ext w w')):=by
 refine calls_y (n:=22) Tryz.func41 ?_;refine go ?_;refine xc_loopN (fun m_ f_ Wx=>∃(k:Nat) (q:Int),m_=l.length-k∧(k≤l.length)∧(runA sts 0 l=runA sts q (l.drop k))∧f_ 0=(.pointer (some ⟨ba,0,none⟩))∧f_ 4=(.int .i64 0)∧f_ 8=(.slice A l.length c)∧f_ 9=(.int .i64 (((l.length:Nat):Int)))∧f_ 10=(.int .i64 ((k:Nat)))∧f_ 5=(.int .i64 q)∧Ext w Wx) (l.length) ?_ ?_;exact ⟨0,0,(by omega),(by omega),rfl,rfl,rfl,rfl,rfl,vW,vW,(Chg.refl _ _)⟩;rintro m_ f1 w1 ⟨k,q,hm_f1,hk,hq,g0_f1,g4_f1,g8_f1,g9_f1,g10_f1,g5_f1,x1⟩;have hx1:=x1.size;rw [←usf g0_f1,←usf g4_f1,←usf g8_f1,←usf g9_f1,←usf g10_f1,←usf g5_f1];refine go ?_;refine y_if (fun h1=>?_) (fun h1=>?_);obtain ⟨x_1,g_1,o_1,hx_1⟩:=row_may (A:=A) (cs:=Sym.cs) k Sym.len (by decide) (RowA.ext hA x1);obtain ⟨hx_2,hA_1,hc_1⟩:=hx_1 oM;refine go ?_;refine y_ix k hA_1 ?_;refine y_lN (vs:=[(.int .i64 x_1.kind),(.int .i64 x_1.n)]) hc_1 ?_;refine y_al ?_;intro w2 e1 z1 b1;refine y_st b1 ?_;intro w3 e2 z2 b2;replace b2:Blk w3 w1.heap.size #[(.int .i64 x_1.kind),(.int .i64 x_1.n)] 75:=blk_full b2 rfl;refine go ?_;refine y_lN (vs:=[(.int .i64 x_1.kind),(.int .i64 x_1.n)]) ⟨b2.cell rfl,b2.cell rfl,trivial⟩ ?_;have q1:=(((hb.ext x1).ext e1).kb e2 b1);have x2:Ext w w3:=(Xc (Xt x1 e1) e2);refine yCa (ret_mono (go_calls s ba sA sc sts B q (⟨x_1.kind,x_1.n⟩:Sym) w3 q1 (Vx.Own.keep ho x2 (fun _ _=>not_false)) (hF.ext x2) hB hst) ?_);rintro _ w4 ⟨rfl,e3⟩;have he3:=e3.size;refine go ?_;refine y_if (fun h2=>?_) (fun h2=>?_);refine go ?_;refine y_r1 ?_;have x3:Ext w w4:=(Xt x2 e3);exact ⟨by rw [hq,runA_stop hx_2 h2]<;>rfl,x3⟩;refine go ?_;refine y_add ?_;have x4:Ext w w4:=(Xt x2 e3);refine go ?_;exact ⟨rfl,l.length-(k+1),by omega,k+1,((goA sts q x_1)),by omega,(by omega),(hq.trans (runA_next hx_2 h2)),rfl,rfl,rfl,rfl,vW,vW,x4⟩;refine go ?_;refine y_r1 ?_;exact ⟨by rw [hq,List.drop_of_length_le (by omega)]<;>rfl,x1⟩
theorem symbol_calls2(s:SP)(ba:Nat)(sA:Option Addr)(sc:Nat)(sts:List StD)(B:Nat)(i:Int)(w:World)(hb:Blk w ba #[(.slice s.lA s.lex.length s.lc),(.slice s.nA s.names.length s.nc),(.int .i64 s.start),(.slice s.pA s.prods.length s.pc),(.slice sA sts.length sc)] 154)(ho:Vx.Own w 151 6 (.slice sA sts.length sc) sts.length (sts.flatMap StD.cs))(hF:StF B w sts)(hB:∀x∈sts,x.items.length≤67240962∧x.arcs.length≤67240962)(hst:sts.length≤100000000000) :
    Calls Tryz.prog 123 #[(.pointer (some ⟨ba,0,none⟩)),(.int .i64 i)] w (Ret (fun v w'=>v = .tuple #[.agg #[.int .i64 (symA sts i).1.kind,.int .i64 (symA sts i).1.n],.bool (symA sts i).2]∧Ext w w')):=by
 refine calls_y (n:=23) Tryz.func123 ?_;refine go ?_;refine y_al ?_;intro w1 e1 z1 b1;refine go ?_;by_cases h1:(i:Int)=0;refine ysL (s:=8) (bT (decide_eq_true h1)) ?_;refine go ?_;refine yOp (ox_mkStruct (ps:=[]) (cs:=#[(.int .i64 0),(.int .i64 0)]) tZ_75.h tP_75.h rfl (by kernel_rfl) ?_);refine y_st b1 ?_;intro w2 e2 z2 b2;replace b2:Blk w2 w.heap.size #[(.int .i64 0),(.int .i64 0)] 75:=blk_full b2 rfl;refine go ?_;change leaves _ _ _ _ _ _ _;refine leaves_nil (n:=23) (rs:=[.cell 4 75,.tmp 5]) (vs:=[(.agg #[(.int .i64 0),(.int .i64 0)]),(.bool false)]) rfl ⟨⟨by decide,w.heap.size,0,2,[(.int .i64 0),(.int .i64 0)],rfl,tA_75.h,tS_75.h,rfl,⟨b2.cell rfl,b2.cell rfl,trivial⟩,rfl⟩,⟨by decide,rfl⟩,trivial⟩ ?_;have x1:Ext w w2:=(Xc e1 e2);exact ⟨by rw [symA_no (.inl h1)]<;>rfl,x1⟩;refine ysL (s:=8) (bF (decide_eq_false h1)) ?_;refine go ?_;refine yCa (ret_mono (is_calls s ba sA sc sts B i w1 (hb.ext e1) (Vx.Own.keep ho e1 (fun _ _=>not_false)) (hF.ext e1) hB hst) ?_);rintro _ w3 ⟨rfl,e3⟩;have he3:=e3.size;refine go ?_;refine xc_cond (b:=(!(isA sts i))) rfl (fun h2=>?_) (fun h2=>?_);have h2':=bS h2;have hia:isA sts i=false:=by revert h2;cases isA sts i<;>simp
 refine go ?_;refine yOp (ox_mkStruct (ps:=[]) (cs:=#[(.int .i64 0),(.int .i64 0)]) tZ_75.h tP_75.h rfl (by kernel_rfl) ?_);refine y_st (b1.ext e3) ?_;intro w4 e4 z3 b3;replace b3:Blk w4 w.heap.size #[(.int .i64 0),(.int .i64 0)] 75:=blk_full b3 rfl;refine go ?_;change leaves _ _ _ _ _ _ _;refine leaves_nil (n:=23) (rs:=[.cell 4 75,.tmp 5]) (vs:=[(.agg #[(.int .i64 0),(.int .i64 0)]),(.bool false)]) rfl ⟨⟨by decide,w.heap.size,0,2,[(.int .i64 0),(.int .i64 0)],rfl,tA_75.h,tS_75.h,rfl,⟨b3.cell rfl,b3.cell rfl,trivial⟩,rfl⟩,⟨by decide,rfl⟩,trivial⟩ ?_;have x2:Ext w w4:=(Xc (Xt e1 e3) e4);exact ⟨by rw [symA_no (.inr hia)]<;>rfl,x2⟩;have h2':=bS h2;have hia:isA sts i=true:=by revert h2;cases isA sts i<;>simp
 have hir:=isA_of hia;refine go ?_;refine y_ld ((hb.ext e1).ext e3) ?_;have x3:Ext w w3:=(Xt e1 e3);obtain ⟨x_1,g_1,o_1,hx_1⟩:=row_may (A:=sA) (cs:=StD.cs) i.toNat StD.len (by decide) (RowA.ext ho.rowO x3);obtain ⟨hx_2,hA_1,hc_1⟩:=hx_1 oM;have hb_x_1:=hB _ (List.mem_of_getElem? hx_2);refine go ?_;refine y_ix i.toNat hA_1 ?_;refine go ?_;refine y_lN (vs:=[(.int .i64 x_1.sym.kind),(.int .i64 x_1.sym.n)]) (CellsL.sub hc_1 3 2 rfl) ?_;refine y_st (b1.ext e3) ?_;intro w5 e5 z4 b4;replace b4:Blk w5 w.heap.size #[(.int .i64 x_1.sym.kind),(.int .i64 x_1.sym.n)] 75:=blk_full b4 rfl;refine go ?_;change leaves _ _ _ _ _ _ _;refine leaves_nil (n:=23) (rs:=[.cell 4 75,.tmp 5]) (vs:=[(.agg #[(.int .i64 x_1.sym.kind),(.int .i64 x_1.sym.n)]),(.bool true)]) rfl ⟨⟨by decide,w.heap.size,0,2,[(.int .i64 x_1.sym.kind),(.int .i64 x_1.sym.n)],rfl,tA_75.h,tS_75.h,rfl,⟨b4.cell rfl,b4.cell rfl,trivial⟩,rfl⟩,⟨by decide,rfl⟩,trivial⟩ ?_;have x4:Ext w w5:=(Xc x3 e5);exact ⟨by rw [symA_at h1 hir.1 hx_2]<;>rfl,x4⟩
def pathU(sts:List StD):Nat→Int→List Sym
  | 0,_=>[]
  | f+1,i=>if i=0 then [] else (sts[i.toNat]!).sym::pathU sts f (sts[i.toNat]!).frm
def pathA(sts:List StD)(i:Int):List Sym:=if isA sts i=true then (pathU sts i.toNat i).reverse else []
theorem pathA_no{sts:List StD}{i:Int}(h:isA sts i=false):pathA sts i = []:=by unfold pathA;rw [if_neg (by rw [h];decide)]
theorem pathA_yes{sts:List StD}{i:Int}(h:isA sts i=true):pathA sts i=(pathU sts i.toNat i).reverse:=by unfold pathA;rw [if_pos h]
theorem pathU_two{sts:List StD}(hfr:∀(k:Nat) (x:StD),sts[k]?=some x→k≠0→0≤x.frm∧x.frm<(k:Int)):∀(f f':Nat) (i:Int),0≤i→i<(sts.length:Int)→i.toNat≤f→i.toNat≤f'→pathU sts f i=pathU sts f' i:=by
  intro f
  induction f with
  | zero =>
    intro f' i h0 hl hf hf';have:i=0:=by omega
    subst this;cases f'<;>simp [pathU]
  | succ f ih =>
    intro f' i h0 hl hf hf';by_cases hi:i=0;subst hi;cases f'<;>simp [pathU];have hx:sts[i.toNat]?=some sts[i.toNat]:=List.getElem?_eq_getElem (by omega);have hb:sts[i.toNat]! = sts[i.toNat]:=by rw [List.getElem!_eq_getElem?_getD,hx];rfl
    have h1:=hfr _ _ hx (by omega);obtain ⟨m,rfl⟩:∃m,f'=m+1:=⟨f'-1,by omega⟩;rw [pathU,pathU,if_neg hi,if_neg hi,hb,ih m _ h1.1 (by omega) (by omega) (by omega)]
theorem pathU_next{sts:List StD}(hfr:∀(k:Nat) (x:StD),sts[k]?=some x→k≠0→0≤x.frm∧x.frm<(k:Int)){q:Int}{x:StD}(h0:0<q)(hx:sts[q.toNat]?=some x):pathU sts q.toNat q = [(⟨x.sym.kind,x.sym.n⟩:Sym)]++pathU sts x.frm.toNat x.frm:=by
  have hl:=(List.getElem?_eq_some_iff.1 hx).1;have h1:=hfr _ _ hx (by omega);have hb:sts[q.toNat]! = x:=by rw [List.getElem!_eq_getElem?_getD,hx];rfl
  obtain ⟨m,hm⟩:∃m,q.toNat=m+1:=⟨q.toNat-1,by omega⟩;rw [hm,pathU,if_neg (by omega),hb,pathU_two hfr m x.frm.toNat x.frm h1.1 (by omega) (by omega) (by omega)];rfl
instance pf_82:PlF Tryz.prog 82 where
instance tF_151_4:FdT Tryz.prog 151 4 5 where
theorem path_calls(s:SP)(ba:Nat)(sA:Option Addr)(sc:Nat)(sts:List StD)(B:Nat)(i:Int)(w:World)(hb:Blk w ba #[(.slice s.lA s.lex.length s.lc),(.slice s.nA s.names.length s.nc),(.int .i64 s.start),(.slice s.pA s.prods.length s.pc),(.slice sA sts.length sc)] 154)(ho:Vx.Own w 151 6 (.slice sA sts.length sc) sts.length (sts.flatMap StD.cs))(hF:StF B w sts)(hB:∀x∈sts,x.items.length≤67240962∧x.arcs.length≤67240962)(hst:sts.length≤100000000000)(hfr:∀(k:Nat) (x:StD),sts[k]?=some x→k≠0→0≤x.frm∧x.frm<(k:Int)) :
    Calls Tryz.prog 42 #[(.pointer (some ⟨ba,0,none⟩)),(.int .i64 i)] w (Ret (fun v w'=>∃A' c',v = .slice A' (pathA sts i).length c'∧NewRow w w' 75 2 Sym.cs (pathA sts i) A' c'∧Ext w w')):=by
 refine calls_y (n:=34) Tryz.func42 ?_;refine go ?_;refine yCa (ret_mono (is_calls s ba sA sc sts B i w hb (Vx.Own.keep ho (Chg.refl _ _) (fun _ _=>not_false)) (hF.ext (Chg.refl _ _)) hB hst) ?_);rintro _ w1 ⟨rfl,e1⟩;have he1:=e1.size;refine go ?_;refine xc_cond (b:=(!(isA sts i))) rfl (fun h1=>?_) (fun h1=>?_);have h1':=bS h1;have hia:isA sts i=false:=by revert h1;cases isA sts i<;>simp
 refine go ?_;refine y_r1 ?_;exact ⟨none,0,by rw [pathA_no hia]<;>rfl,by rw [pathA_no hia];exact ⟨Vx.Own.nil _ _ _,fun k hk=>by simp [Value.ownBlock] at hk⟩,e1⟩;have h1':=bS h1;have hia:isA sts i=true:=by revert h1;cases isA sts i<;>simp
 have hir:=isA_of hia;refine go ?_;refine xc_loopN (fun m_ f_ Wx=>∃(q:Int) (y:List Sym) (Ay:Option Addr) (cy:Nat),m_=q.toNat∧(0≤q∧q<(sts.length:Int))∧(pathU sts i.toNat i=y++pathU sts q.toNat q)∧((y.length:Int)+q≤i)∧f_ 0=(.pointer (some ⟨ba,0,none⟩))∧f_ 4=(.slice none 0 0)∧f_ 1=(.int .i64 q)∧f_ 5=(.slice Ay y.length cy)∧Vx.Own Wx 75 2 (.slice Ay y.length cy) y.length (y.flatMap Sym.cs)∧(∀k,((.slice Ay y.length cy):Value).ownBlock=some k→w1.heap.size≤k)∧Ext w1 Wx) (i.toNat) ?_ ?_;exact ⟨i,[],none,0,(by omega),(by omega),(by simp),(by simp),rfl,rfl,vW,rfl,(Vx.Own.nil _ _ _),(fun _k _h=>by simp [Value.ownBlock] at _h),(Chg.refl _ _)⟩;rintro m_ f1 w2 ⟨q,y,Ay,cy,hm_f1,hqr,hq,hyl,g0_f1,g4_f1,g1_f1,g5_f1,a0_f1,l0_f1,x1⟩;have hx1:=x1.size;rw [←usf g0_f1,←usf g4_f1,←usf g1_f1,←usf g5_f1];refine go ?_;refine y_if (fun h2=>?_) (fun h2=>?_);refine go ?_;refine y_ld ((hb.ext e1).ext x1) ?_;have x2:Ext w w2:=(Xt e1 x1);obtain ⟨x_1,g_1,o_1,hx_1⟩:=row_may (A:=sA) (cs:=StD.cs) q.toNat StD.len (by decide) (RowA.ext ho.rowO x2);obtain ⟨hx_2,hA_1,hc_1⟩:=hx_1 oM;have hb_x_1:=hB _ (List.mem_of_getElem? hx_2);refine go ?_;refine y_ix q.toNat hA_1 ?_;refine go ?_;refine y_lN (vs:=[(.int .i64 x_1.sym.kind),(.int .i64 x_1.sym.n)]) (CellsL.sub hc_1 3 2 rfl) ?_;refine yOp (ox_mkSlice (ps:=[(0,(.agg #[(.int .i64 x_1.sym.kind),(.int .i64 x_1.sym.n)]))]) (zs:=#[(.int .i64 0),(.int .i64 0)]) (cs:=#[(.int .i64 x_1.sym.kind),(.int .i64 x_1.sym.n)]) tE_38.h rfl (by decide) (by kernel_rfl) (by kernel_rfl) ?_);intro w3 e2 z1 b1;replace b1:Blk w3 w2.heap.size #[(.int .i64 x_1.sym.kind),(.int .i64 x_1.sym.n)] 75:=b1;refine yOp (ox_appD (l:=y) (r:=[(⟨x_1.sym.kind,x_1.sym.n⟩:Sym)]) (cs:=Sym.cs) rfl tE_38.h rfl (by decide) Sym.len Sym.one (v:=(.slice Ay y.length cy)) rfl rfl (m:=1) rfl (a0_f1.ext e2) b1.all aM (by decide) ?_);intro A1 c1 w4 o1 e3 at1 hc1;have he3:=e3.size;have low1:=low_at at1 l0_f1;have q1:=((((hb.ext e1).ext x1).ext e2).ko e3 (a0_f1.ext e2));refine go ?_;refine y_ld q1 ?_;have x3:Ext w w4:=(Co (Xt x2 e2) e3 l0_f1);obtain ⟨x_2,g_2,o_2,hx_3⟩:=row_may (A:=sA) (cs:=StD.cs) q.toNat StD.len (by decide) (RowA.ext ho.rowO x3);obtain ⟨hx_4,hA_2,hc_2⟩:=hx_3 oM;have hb_x_2:=hB _ (List.mem_of_getElem? hx_4);refine go ?_;refine y_ix q.toNat hA_2 ?_;refine go ?_;refine y_lc (CellsL.at1 hc_2 5 rfl) ?_;have hxx9:x_1=x_2:=Option.some.inj (hx_2.symm.trans hx_4)
 skip
 have x4:Ext w1 w4:=(Co (Xt x1 e2) e3 l0_f1);refine go ?_;exact ⟨rfl,x_2.frm.toNat,by (have h9:=hfr _ _ hx_4 (by omega);rw [hm_f1];omega),x_2.frm,y++[(⟨x_1.sym.kind,x_1.sym.n⟩:Sym)],A1,c1,by omega,(by have h9:=hfr _ _ hx_4 (by omega);omega),(hq.trans (by rw [pathU_next hfr (by omega) hx_4,List.append_assoc];rw [hxx9])),(by have h9:=hfr _ _ hx_4 (by omega);simp only [List.length_append,List.length_cons,List.length_nil];omega),rfl,rfl,vW,rfl,o1,low1,x4⟩;refine go ?_;refine yCa (ret_mono (reverse_calls y Ay cy w2 a0_f1 (by omega)) ?_);rintro _ w5 ⟨rfl,o2,y1⟩;have hy1:=y1.size;refine go ?_;refine y_r1 ?_;have hp9:pathA sts i=y.reverse:=by rw [pathA_yes hia,hq,show q=0 by omega];simp [pathU]
 have x5:Ext w w5:=(Co (Xt e1 x1) y1 l0_f1);exact ⟨_,_,by rw [hp9,List.length_reverse]<;>rfl,by rw [hp9];exact ⟨by rw [List.length_reverse];exact o2,fun k hk=>by rw [List.length_reverse] at hk;have _h:=l0_f1 k hk;omega⟩,x5⟩
def isS(st:List ASt)(i:Int):Bool:=decide (0≤i) && decide (i<(st.length:Int))
def goS(st:List ASt)(i:Int)(z:Sym):Int:=if isS st i=true then arcTo z (st[i.toNat]!).arcs else -1
def runS(st:List ASt):Int→List Sym→Int
  | q,[]=>q
  | q,z::r=>if goS st q z<0 then goS st q z else runS st (goS st q z) r
def symS(st:List ASt)(i:Int):Sym×Bool:=if i=0∨isS st i=false then (⟨0,0⟩,false) else ((st[i.toNat]!).sym,true)
def wayS(st:List ASt):Nat→Int→List Sym
  | 0,_=>[]
  | f+1,i=>if i=0 then [] else (st[i.toNat]!).sym::wayS st f (st[i.toNat]!).frm
def pathS(st:List ASt)(i:Int):List Sym:=if isS st i=true then (wayS st i.toNat i).reverse else []
section
variable (sts:List StD)
theorem bang_d{sts:List StD}{i:Int}(h:isA sts i=true):(sts.map StD.d)[i.toNat]! = (sts[i.toNat]!).d:=by
  have hi:=isA_of h;have hx:sts[i.toNat]?=some sts[i.toNat]:=List.getElem?_eq_getElem (by omega);rw [List.getElem!_eq_getElem?_getD,map_get hx,List.getElem!_eq_getElem?_getD,hx];rfl
theorem isA_d(i:Int):isA sts i=isS (sts.map StD.d) i:=by unfold isA isS;rw [List.length_map]
theorem goA_d(i:Int)(z:Sym):goA sts i z=goS (sts.map StD.d) i z:=by
  unfold goA goS;rw [←isA_d]
  split
  rename_i h;rw [bang_d h];rfl
  rfl
theorem runA_d:∀(l:List Sym) (q:Int),runA sts q l=runS (sts.map StD.d) q l
  | [],_=>rfl
  | z::r,q=>by rw [runA,runS,←goA_d,runA_d r]
theorem symA_d(i:Int):symA sts i=symS (sts.map StD.d) i:=by
  unfold symA symS;rw [←isA_d]
  split
  rfl
  rename_i h;rw [bang_d (by cases h9:isA sts i;exact absurd (.inr h9) h;rfl)];rfl
theorem pathU_d{sts:List StD}(hfr:∀(k:Nat) (x:StD),sts[k]?=some x→k≠0→0≤x.frm∧x.frm<(k:Int)):∀(f:Nat) (i:Int),0≤i→i<(sts.length:Int)→pathU sts f i=wayS (sts.map StD.d) f i
  | 0,_,_,_=>rfl
  | f+1,i,h0,hl=>by
    rw [pathU,wayS]
    split
    rfl
    rename_i hi;have hx:sts[i.toNat]?=some sts[i.toNat]:=List.getElem?_eq_getElem (by omega);have hb:sts[i.toNat]! = sts[i.toNat]:=by rw [List.getElem!_eq_getElem?_getD,hx];rfl
    have h1:=hfr _ _ hx (by omega);rw [bang_d (by unfold isA;simp;omega),hb,pathU_d hfr f _ h1.1 (by omega)];rfl
theorem pathA_d{sts:List StD}(hfr:∀(k:Nat) (x:StD),sts[k]?=some x→k≠0→0≤x.frm∧x.frm<(k:Int))(i:Int):pathA sts i=pathS (sts.map StD.d) i:=by
  unfold pathA pathS;rw [←isA_d]
  split
  rename_i h;have:=isA_of h;rw [pathU_d hfr _ _ this.1 this.2]
  rfl
end
def ASt.same(y x:ASt):Prop:=y.items=x.items∧y.kern=x.kern∧y.sym=x.sym∧y.frm=x.frm
theorem ASt.same.kernel{x y:ASt}(h:y.same x):y.kernel=x.kernel:=by unfold ASt.kernel;rw [h.1,h.2.1]
structure StepA(g:GD)(q:Nat)(z:Sym)(l:List Itm)(st st':List ASt)(to:Int):Prop where
  old:∀(k:Nat) (x:ASt),st[k]?=some x→∃y,st'[k]?=some y∧y.same x∧y.arcs=if k=q then x.arcs++[⟨z,to⟩] else x.arcs
  inv:∀(k:Nat) (y:ASt),st'[k]?=some y→(∃x,st[k]?=some x∧y.same x∧y.arcs=if k=q then x.arcs++[⟨z,to⟩] else x.arcs)∨(k=st.length∧y=⟨closG g l,(l.length:Int),[],z,(q:Nat)⟩∧to=((st.length:Nat):Int)∧∀x∈st,x.kernel≠l)
  tgt:∃(j:Nat) (y:ASt),to=(j:Nat)∧st'[j]?=some y∧y.kernel=l∧((∃x,st[j]?=some x∧y.frm=x.frm)∨y.frm=(q:Nat))
theorem same_set{st:List ASt}{q:Nat}{x:ASt}{a:Arc}(hx:st[q]?=some x)(k:Nat)(u:ASt)(hu:st[k]?=some u):∃y,(st.set q { x with arcs:=x.arcs++[a] })[k]?=some y∧y.same u∧y.arcs=if k=q then u.arcs++[a] else u.arcs:=by
  have hl:=(List.getElem?_eq_some_iff.1 hx).1;by_cases hk:k=q;subst hk;rw [hx] at hu;cases hu;exact ⟨_,List.getElem?_set_self hl,⟨rfl,rfl,rfl,rfl⟩,by rw [if_pos rfl]⟩;exact ⟨u,by rw [List.getElem?_set_ne (fun h=>hk h.symm)];exact hu,⟨rfl,rfl,rfl,rfl⟩,by rw [if_neg hk]⟩
theorem set_inv{st:List ASt}{q:Nat}{x y:ASt}{a:Arc}(hx:st[q]?=some x)(k:Nat)(hy:(st.set q { x with arcs:=x.arcs++[a] })[k]?=some y):∃u,st[k]?=some u∧y.same u∧y.arcs=if k=q then u.arcs++[a] else u.arcs:=by
  have hl:=(List.getElem?_eq_some_iff.1 hx).1;have hk:=(List.getElem?_eq_some_iff.1 hy).1;rw [List.length_set] at hk;obtain ⟨y',h1,h2,h3⟩:=same_set (a:=a) hx k st[k] (List.getElem?_eq_getElem hk);rw [hy] at h1;cases h1;exact ⟨_,List.getElem?_eq_getElem hk,h2,h3⟩
theorem closG_kernel{g:GD}{l:List Itm}{z:Sym}{fr:Int} : (⟨closG g l,(l.length:Int),[],z,fr⟩:ASt).kernel=l:=by
  unfold ASt.kernel;simp only [Int.toNat_natCast];exact closG_pre (closF_pre g l)
theorem arcS_step{g:GD}(hg:GoodL g){q:Nat}{z:Sym}{st:List ASt}{x:ASt}(h:OkS g st)(hx:st[q]?=some x):∃to,StepA g q z (overG g z x.items) st (arcS g q st z) to:=by
  have hql:=(List.getElem?_eq_some_iff.1 hx).1;have hok:∀y∈overG g z x.items,okJ g y:=overG_okJ (h.ok _ (List.mem_of_getElem? hx));rw [arcS_eq hx];rcases addA_cases (g:=g) (st:=st) (l:=overG g z x.items) (z:=z) (fr:=(q:Nat)) (fun u hu y hy=>okJ_small (h.ok u hu y hy) hg.prods hg.rights) (fun y hy=>okJ_small (hok y hy) hg.prods hg.rights) with ⟨j,y,h1,h2,_,h4⟩|⟨h1,h2⟩;rw [h4];refine ⟨(j:Nat),fun k u hu=>same_set hx k u hu,fun k y hy=>.inl (set_inv hx k hy),?_⟩;obtain ⟨y',k1,k2,k3⟩:=same_set (a:=⟨z,((j:Nat):Int)⟩) hx j y h1;exact ⟨j,y',rfl,k1,by rw [k2.kernel];exact h2,.inl ⟨y,h1,k2.2.2.2⟩⟩;rw [h2];have hx2:(st++[(⟨closG g (overG g z x.items),((overG g z x.items).length:Int),[],z,((q:Nat):Int)⟩:ASt)])[q]?=some x:=by rw [List.getElem?_append_left hql];exact hx
  refine ⟨((st.length:Nat):Int),fun k u hu=>?_,fun k y hy=>?_,?_⟩;have hkl:=(List.getElem?_eq_some_iff.1 hu).1;exact same_set hx2 k u (by rw [List.getElem?_append_left hkl];exact hu);obtain ⟨u,k1,k2,k3⟩:=set_inv hx2 k hy;have hkl:=(List.getElem?_eq_some_iff.1 k1).1;rw [List.length_append,List.length_singleton] at hkl;by_cases hk:k<st.length;rw [List.getElem?_append_left hk] at k1;exact .inl ⟨u,k1,k2,k3⟩;have:k=st.length:=by omega
  subst this;rw [List.getElem?_append_right (Nat.le_refl _),Nat.sub_self] at k1;simp only [List.getElem?_cons_zero,Option.some.injEq] at k1;subst k1;refine .inr ⟨rfl,?_,rfl,h1⟩;rw [if_neg (by omega)] at k3;obtain ⟨e1,e2,e3,e4⟩:=k2;cases y;simp only at e1 e2 e3 e4 k3;subst e1 e2 e3 e4 k3;rfl;obtain ⟨y',k1,k2,k3⟩:=same_set (a:=⟨z,((st.length:Nat):Int)⟩) hx2 st.length ⟨closG g (overG g z x.items),((overG g z x.items).length:Int),[],z,((q:Nat):Int)⟩ (by rw [List.getElem?_append_right (Nat.le_refl _),Nat.sub_self];rfl);exact ⟨st.length,y',rfl,k1,by rw [k2.kernel];exact closG_kernel,.inr k2.2.2.2⟩
structure AutQ(g:GD)(q:Nat)(zs:List Sym)(st:List ASt):Prop where
  ok:OkS g st
  p:OkP st
  shape:∀(k:Nat) (x:ASt),st[k]?=some x→x.items=closG g x.kernel
  first:∃x,st[0]?=some x∧x.kernel = [⟨-1,0⟩]∧x.frm=0
  done:∀(k:Nat) (x:ASt),k<q→st[k]?=some x→x.arcs.map Arc.sym=symsG g x.items
  now:∀x:ASt,st[q]?=some x→x.arcs.map Arc.sym=zs
  rest:∀(k:Nat) (x:ASt),q<k→st[k]?=some x→x.arcs = []
  to:∀(k:Nat) (x:ASt) (a:Arc),st[k]?=some x→a∈x.arcs→∃(j:Nat) (y:ASt),a.to=(j:Nat)∧st[j]?=some y∧y.kernel=overG g a.sym x.items∧y.frm≤((k:Nat):Int)
  frm:∀(k:Nat) (x:ASt),st[k]?=some x→k≠0→∃(m:Nat) (y:ASt),x.frm=(m:Nat)∧m<k∧st[m]?=some y∧(⟨x.sym,(k:Nat)⟩:Arc)∈y.arcs∧x.kernel=overG g x.sym y.items
  le:∀(k:Nat) (x:ASt),st[k]?=some x→x.frm≤((q:Nat):Int)
  mono:∀(j k:Nat) (x y:ASt),j≤k→st[j]?=some x→st[k]?=some y→x.frm≤y.frm
  apart:∀(j k:Nat) (x y:ASt),j<k→st[j]?=some x→st[k]?=some y→x.kernel≠y.kernel
  big:st.length≤1+q*67240962+zs.length
theorem AutQ.step{g:GD}(hg:GoodL g){q:Nat}{zs:List Sym}{st:List ASt}{z:Sym}(h:AutQ g q zs st)(hq:q<st.length)(hq2:q<1024):AutQ g q (zs++[z]) (arcS g q st z):=by
  have hx:st[q]?=some st[q]:=List.getElem?_eq_getElem hq
  generalize st[q]=x at hx
  obtain ⟨to,hs⟩:=arcS_step hg (z:=z) h.ok hx;have hlen:=(arcS_ok hg.good hg.names hg.prods h.ok (z:=z) hx hq2);refine ⟨hlen.1,h.p.arc hx,fun k y hy=>?_,?_,fun k y hk hy=>?_,fun y hy=>?_,fun k y hk hy=>?_,fun k y a hy ha=>?_,fun k y hy hk=>?_,fun k y hy=>?_,fun j k u y hjk hu hy=>?_,fun j k u y hjk hu hy=>?_,?_⟩;rcases hs.inv k y hy with ⟨u,h1,h2,_⟩|⟨_,rfl,_⟩;rw [h2.1,h2.kernel];exact h.shape k u h1;rw [closG_kernel];obtain ⟨u,h1,h2,h3⟩:=h.first
  obtain ⟨y,k1,k2,_⟩:=hs.old 0 u h1;exact ⟨y,k1,by rw [k2.kernel];exact h2,by rw [k2.2.2.2];exact h3⟩;rcases hs.inv k y hy with ⟨u,h1,h2,h3⟩|⟨h1,_⟩;rw [h3,if_neg (by omega),h2.1];exact h.done k u hk h1;omega;rcases hs.inv q y hy with ⟨u,h1,h2,h3⟩|⟨h1,_⟩;rw [h3,if_pos rfl,List.map_append,h.now u h1];rfl;omega;rcases hs.inv k y hy with ⟨u,h1,h2,h3⟩|⟨_,rfl,_⟩;rw [h3,if_neg (by omega)];exact h.rest k u hk h1
  rfl
  rcases hs.inv k y hy with ⟨u,h1,h2,h3⟩|⟨_,rfl,_⟩
  have old:a∈u.arcs→∃(j:Nat) (y':ASt),a.to=(j:Nat)∧(arcS g q st z)[j]?=some y'∧y'.kernel=overG g a.sym y.items∧y'.frm≤((k:Nat):Int):=fun ha=>by
    obtain ⟨j,v,e1,e2,e3,e4⟩:=h.to k u a h1 ha;obtain ⟨v',k1,k2,_⟩:=hs.old j v e2;exact ⟨j,v',e1,k1,by rw [k2.kernel,h2.1];exact e3,by rw [k2.2.2.2];exact e4⟩
  by_cases hk:k=q;subst hk;rw [h3,if_pos rfl] at ha;rcases List.mem_append.1 ha with ha|ha;exact old ha;rw [List.mem_singleton] at ha;subst ha;rw [hx] at h1;cases h1;obtain ⟨j,v,e1,e2,e3,e4⟩:=hs.tgt;refine ⟨j,v,e1,e2,by rw [h2.1];exact e3,?_⟩;rcases e4 with ⟨v0,e5,e6⟩|e4;rw [e6];exact h.le j v0 e5;omega;rw [h3,if_neg hk] at ha;exact old ha;cases ha;rcases hs.inv k y hy with ⟨u,h1,h2,_⟩|⟨h1,rfl,h3,_⟩;obtain ⟨m,v,e1,e2,e3,e4,e5⟩:=h.frm k u h1 hk;obtain ⟨v',k1,k2,k3⟩:=hs.old m v e3;refine ⟨m,v',by rw [h2.2.2.2];exact e1,e2,k1,?_,by rw [h2.kernel,h2.2.2.1,k2.1];exact e5⟩;rw [h2.2.2.1,k3]
  split
  exact List.mem_append_left _ e4;exact e4;obtain ⟨v',k1,k2,k3⟩:=hs.old q x hx;refine ⟨q,v',rfl,by omega,k1,?_,by rw [closG_kernel,k2.1]⟩;rw [k3,if_pos rfl,h3,h1];exact List.mem_append_right _ (by simp);rcases hs.inv k y hy with ⟨u,h1,h2,_⟩|⟨_,rfl,_⟩;rw [h2.2.2.2];exact h.le k u h1;exact Int.le_refl _;rcases hs.inv k y hy with ⟨y0,h1,h2,_⟩|⟨h1,rfl,_⟩;rcases hs.inv j u hu with ⟨u0,k1,k2,_⟩|⟨k1,_⟩;rw [h2.2.2.2,k2.2.2.2];exact h.mono j k u0 y0 hjk k1 h1;have:=(List.getElem?_eq_some_iff.1 h1).1;omega;rcases hs.inv j u hu with ⟨u0,k1,k2,_⟩|⟨_,rfl,_⟩;rw [k2.2.2.2];exact h.le j u0 k1;exact Int.le_refl _;rcases hs.inv k y hy with ⟨y0,h1,h2,_⟩|⟨h1,rfl,_,h4⟩;rcases hs.inv j u hu with ⟨u0,k1,k2,_⟩|⟨k1,_⟩;rw [h2.kernel,k2.kernel];exact h.apart j k u0 y0 hjk k1 h1;have:=(List.getElem?_eq_some_iff.1 h1).1;omega;rcases hs.inv j u hu with ⟨u0,k1,k2,_⟩|⟨k1,_⟩;rw [closG_kernel,k2.kernel];exact h4 u0 (List.mem_of_getElem? k1);omega;have:=h.big;rw [List.length_append,List.length_singleton];have:=hlen.2.2.1;omega
theorem AutQ.start{g:GD}(hg:GoodL g):AutQ g 0 [] (addA g [] [⟨-1,0⟩] ⟨0,0⟩ 0).1:=by
  have h1:=OkS.start hg.good hg.names hg.prods;have h2:=OkP.start (g:=g);have he:(addA g [] [⟨-1,0⟩] ⟨0,0⟩ 0).1 = [⟨closG g [⟨-1,0⟩],1,[],⟨0,0⟩,0⟩]:=rfl;rw [he] at h1 h2 ⊢
  have one:∀(k:Nat) (x:ASt),[(⟨closG g [⟨-1,0⟩],1,[],⟨0,0⟩,0⟩:ASt)][k]?=some x→k=0∧x=⟨closG g [⟨-1,0⟩],1,[],⟨0,0⟩,0⟩:=fun k x hx=>by
    have hk:=(List.getElem?_eq_some_iff.1 hx).1;rw [List.length_singleton] at hk;have:k=0:=by omega
    subst this;exact ⟨rfl,(Option.some.inj hx).symm⟩
  have hk:(⟨closG g [⟨-1,0⟩],1,[],⟨0,0⟩,0⟩:ASt).kernel = [⟨-1,0⟩]:=closG_kernel (l:=[⟨-1,0⟩]);refine ⟨h1,h2,fun k x hx=>?_,⟨_,rfl,hk,rfl⟩,fun k x h=>by omega,fun x hx=>?_,fun k x hk hx=>?_,fun k x a hx ha=>?_,fun k x hx h0=>?_,fun k x hx=>?_,fun j k x y _ hx hy=>?_,fun j k x y hjk hx hy=>?_,by simp⟩;rw [(one k x hx).2,hk];rw [(one 0 x hx).2];rfl;have:=(one k x hx).1;omega;rw [(one k x hx).2] at ha;cases ha;exact absurd (one k x hx).1 h0;rw [(one k x hx).2];exact Int.le_refl _;rw [(one j x hx).2,(one k y hy).2];exact Int.le_refl _;have:=(one j x hx).1;have:=(one k y hy).1;omega
theorem AutQ.fold{g:GD}(hg:GoodL g){q:Nat}(hq2:q<1024):∀(ws:List Sym) {zs:List Sym} {st:List ASt},AutQ g q zs st→q<st.length→AutQ g q (zs++ws) (ws.foldl (arcS g q) st)∧st.length≤(ws.foldl (arcS g q) st).length
  | [],zs,st,h,_=>⟨by rw [List.append_nil];exact h,Nat.le_refl _⟩
  | w::ws,zs,st,h,hl=>by
    have h1:=h.step hg (z:=w) hl hq2;have h2:=(arcS_ok hg.good hg.names hg.prods h.ok (z:=w) (List.getElem?_eq_getElem hl) hq2).2.1;have h3:=AutQ.fold hg hq2 ws h1 (by omega);rw [List.foldl_cons];exact ⟨by rw [List.append_cons];exact h3.1,by omega⟩
theorem AutQ.next{g:GD}{q:Nat}{x:ASt}{st:List ASt}(h:AutQ g q (symsG g x.items) st)(hq:q<st.length)(hit:∀y,st[q]?=some y→y.items=x.items)(hl:(symsG g x.items).length≤67240962):AutQ g (q+1) [] st:=by
  refine ⟨h.ok,h.p,h.shape,h.first,fun k y hk hy=>?_,fun y hy=>?_,fun k y hk hy=>?_,h.to,h.frm,fun k y hy=>?_,h.mono,h.apart,?_⟩;by_cases hkq:k=q;subst hkq;rw [h.now y hy,hit y hy];exact h.done k y (by omega) hy;rw [h.rest (q+1) y (by omega) hy];rfl;exact h.rest k y (by omega) hy;have:=h.le k y hy;omega;have h9:=h.big;rw [List.length_nil,Nat.succ_mul]
  generalize q*67240962=m at h9 ⊢
  generalize (symsG g x.items).length=n at h9 hl
  omega
theorem AutQ.row{g:GD}(hg:GoodL g){q:Nat}{st:List ASt}(h:AutQ g q [] st)(hq:q<st.length)(hq2:q<1024):AutQ g (q+1) [] (rowS g q st):=by
  have hx:st[q]?=some st[q]:=List.getElem?_eq_getElem hq
  generalize st[q]=x at hx
  unfold rowS;rw [bangA hx];have h1:=AutQ.fold hg hq2 (symsG g x.items) h hq;rw [List.nil_append] at h1;refine h1.1.next (x:=x) (by omega) ?_ (Nat.le_trans symsG_len (h.ok.len q x hx).2)
  have key:∀(ws:List Sym) (st:List ASt) (u:ASt),OkS g st→st[q]?=some u→∀y,(ws.foldl (arcS g q) st)[q]?=some y→y.items=u.items:=by
    intro ws
    induction ws with
    | nil=>intro st u _ hu y hy;rw [List.foldl_nil,hu] at hy;cases hy;rfl
    | cons w ws ih =>
      intro st u hok hu y hy;obtain ⟨k1,_,_,v,k2,k3⟩:=arcS_ok hg.good hg.names hg.prods hok (z:=w) hu hq2;rw [List.foldl_cons] at hy;rw [ih _ v k1 k2 y hy,k3]
  exact key _ st x h.ok hx
theorem build_aut{g:GD}(hg:GoodL g):∀(f q:Nat) {st st':List ASt},AutQ g q [] st→buildF g f q st=some st'→∃q',st'.length≤q'∧q'≤q+f∧AutQ g q' [] st'
  | 0,_,_,_,_,h=>by simp [buildF] at h
  | f+1,q,st,st',h,hb=>by
    rw [buildF] at hb
    split at hb
    rename_i hl
    split at hb
    cases hb;rename_i hq;obtain ⟨q',h1,h2,h3⟩:=build_aut hg f (q+1) (h.row hg hl (by omega)) hb;exact ⟨q',h1,by omega,h3⟩;cases hb;exact ⟨q,by omega,by omega,h⟩
structure Aut(g:GD)(st:List ASt):Prop where
  good:GoodL g
  ok:OkS g st
  p:OkP st
  shape:∀(k:Nat) (x:ASt),st[k]?=some x→x.items=closG g x.kernel
  first:∃x,st[0]?=some x∧x.kernel = [⟨-1,0⟩]∧x.frm=0
  arcs:∀(k:Nat) (x:ASt),st[k]?=some x→x.arcs.map Arc.sym=symsG g x.items
  to:∀(k:Nat) (x:ASt) (a:Arc),st[k]?=some x→a∈x.arcs→∃(j:Nat) (y:ASt),a.to=(j:Nat)∧st[j]?=some y∧y.kernel=overG g a.sym x.items∧y.frm≤((k:Nat):Int)
  frm:∀(k:Nat) (x:ASt),st[k]?=some x→k≠0→∃(m:Nat) (y:ASt),x.frm=(m:Nat)∧m<k∧st[m]?=some y∧(⟨x.sym,(k:Nat)⟩:Arc)∈y.arcs∧x.kernel=overG g x.sym y.items
  mono:∀(j k:Nat) (x y:ASt),j≤k→st[j]?=some x→st[k]?=some y→x.frm≤y.frm
  apart:∀(j k:Nat) (x y:ASt),j<k→st[j]?=some x→st[k]?=some y→x.kernel≠y.kernel
  big:st.length≤100000000000
  few:st.length≤1025
theorem Aut.of{g:GD}{st:List ASt}(hc:(checkE g).1=0)(hb:buildG g=some st):Aut g st:=by
  have hg:=GoodL.of hc;obtain ⟨q,h1,h2,h⟩:=build_aut hg 1025 0 (st':=st) (AutQ.start hg) hb;refine ⟨hg,h.ok,h.p,h.shape,h.first,fun k x hx=>?_,h.to,h.frm,h.mono,h.apart,?_,by omega⟩;have:=(List.getElem?_eq_some_iff.1 hx).1;exact h.done k x (by omega) hx;have:=h.big;simp only [List.length_nil] at this;omega
theorem Aut.lens{g:GD}{st:List ASt}(h:Aut g st)(x:ASt)(hx:x∈st):x.items.length≤67240962∧x.arcs.length≤67240962:=by
  obtain ⟨k,hk⟩:=List.mem_iff_getElem?.1 hx;have h1:=(h.ok.len k x hk).2;have h2:=congrArg List.length (h.arcs k x hk);rw [List.length_map] at h2;have h3:=symsG_len (g:=g) (l:=x.items);omega
theorem cmpP_mem:∀(l:List Sym) (p z:Sym),z∈cmpP p l→z∈l
  | [],_,_,h=>h
  | x::l,p,z,h=>by
    rw [cmpP] at h
    split at h
    exact List.mem_cons_of_mem _ (cmpP_mem l p z h);rcases List.mem_cons.1 h with rfl|h;exact List.mem_cons_self;exact List.mem_cons_of_mem _ (cmpP_mem l x z h)
theorem cmpP_has:∀(l:List Sym) (p z:Sym),z∈l→z=p∨z∈cmpP p l
  | [],_,_,h=>by cases h
  | x::l,p,z,h=>by
    rw [cmpP];rcases List.mem_cons.1 h with rfl|h
    split
    rename_i e;exact .inl e;exact .inr List.mem_cons_self
    split
    exact cmpP_has l p z h;rcases cmpP_has l x z h with rfl|h;exact .inr List.mem_cons_self;exact .inr (List.mem_cons_of_mem _ h)
theorem leSym_anti{a b:Sym}(h1:leSym a b=true)(h2:leSym b a=true):a=b:=by
  rw [leSym_spec] at *;cases a;cases b;simp only at h1 h2;congr 1<;>omega
theorem cmpP_nodup:∀(l:List Sym) (p:Sym),l.Pairwise (leSym · · = true)→(∀x∈l,leSym p x=true)→(cmpP p l).Nodup∧p∉cmpP p l
  | [],_,_,_=>⟨List.nodup_nil,by intro h;cases h⟩
  | x::l,p,hs,hp=>by
    have h1:=List.pairwise_cons.1 hs;rw [cmpP]
    split
    exact cmpP_nodup l p h1.2 fun y hy=>hp y (List.mem_cons_of_mem _ hy)
    rename_i hne;have ih:=cmpP_nodup l x h1.2 h1.1;refine ⟨List.nodup_cons.2 ⟨ih.2,ih.1⟩,fun hh=>?_⟩;rcases List.mem_cons.1 hh with rfl|hh;exact hne rfl;exact hne (leSym_anti (h1.1 p (cmpP_mem l x p hh)) (hp x List.mem_cons_self))
theorem srtSym_sorted(l:List Sym):(srtSym l).Pairwise (leSym · · = true):=by
  rw [srtSym_x];refine srtX_sorted (fun a b c h1 h2=>?_) (fun a b=>?_) l;rw [leSym_spec] at *;omega;rw [Bool.or_eq_true,leSym_spec,leSym_spec];omega
theorem srtSym_mem{l:List Sym}{x:Sym} : x∈srtSym l↔x∈l:=List.mem_mergeSort
theorem compL_nodup{l:List Sym}(h:l.Pairwise (leSym · · = true)):(compL l).Nodup:=by
  cases l with
  | nil=>exact List.nodup_nil
  | cons x l =>
    have h1:=List.pairwise_cons.1 h;have:=cmpP_nodup l x h1.2 h1.1;exact List.nodup_cons.2 ⟨this.2,this.1⟩
theorem compL_mem{l:List Sym}{z:Sym} : z∈compL l↔z∈l:=by
  cases l with
  | nil=>exact Iff.rfl
  | cons x l =>
    rw [compL];constructor;intro h;rcases List.mem_cons.1 h with rfl|h;exact List.mem_cons_self;exact List.mem_cons_of_mem _ (cmpP_mem l x z h);intro h;rcases List.mem_cons.1 h with rfl|h;exact List.mem_cons_self;rcases cmpP_has l x z h with rfl|h;exact List.mem_cons_self;exact List.mem_cons_of_mem _ h
theorem symsG_nodup(g:GD)(l:List Itm):(symsG g l).Nodup:=compL_nodup (srtSym_sorted _)
theorem symsG_mem{g:GD}{l:List Itm}{z:Sym} : z∈symsG g l↔∃x∈l,behindG g x=some z:=by
  unfold symsG;rw [compL_mem,srtSym_mem,List.mem_filterMap]
theorem arcTo_mem:∀ {l:List Arc} {a:Arc},(l.map Arc.sym).Nodup→a∈l→arcTo a.sym l=a.to
  | [],_,_,h=>by cases h
  | b::l,a,hn,h=>by
    rw [List.map_cons] at hn;have h1:=List.nodup_cons.1 hn;rw [arcTo];rcases List.mem_cons.1 h with rfl|h;rw [if_pos ⟨rfl,rfl⟩];rw [if_neg,arcTo_mem h1.2 h];rintro ⟨e1,e2⟩;refine h1.1 ?_
    have:b.sym=a.sym:=by
      cases hb:b.sym;cases ha:a.sym;rw [hb,ha] at e1 e2;simp only at e1 e2;rw [e1,e2]
    rw [this];exact List.mem_map_of_mem h
theorem arcTo_some:∀ {l:List Arc} {z:Sym},0≤arcTo z l→∃a∈l,a.sym=z∧a.to=arcTo z l
  | [],_,h=>by simp [arcTo] at h
  | b::l,z,h=>by
    rw [arcTo] at h ⊢
    split
    rename_i e;refine ⟨b,List.mem_cons_self,?_,rfl⟩;cases hb:b.sym;cases z;rw [hb] at e;simp only at e;rw [e.1,e.2];rename_i e;rw [if_neg e] at h;obtain ⟨a,h1,h2,h3⟩:=arcTo_some h;exact ⟨a,List.mem_cons_of_mem _ h1,h2,h3⟩
section
variable {st:List ASt}{k:Nat}{x:ASt}
theorem isS_of(hx:st[k]?=some x):isS st (k:Nat)=true:=by
  have:=(List.getElem?_eq_some_iff.1 hx).1;unfold isS;simp;omega
theorem goS_at(hx:st[k]?=some x)(z:Sym):goS st (k:Nat) z=arcTo z x.arcs:=by unfold goS;rw [if_pos (isS_of hx)];simp only [Int.toNat_natCast];rw [bangA hx]
theorem pathS_at(hx:st[k]?=some x):pathS st (k:Nat)=(wayS st k (k:Nat)).reverse:=by unfold pathS;rw [if_pos (isS_of hx)];simp only [Int.toNat_natCast]
theorem runS_append:∀ {l:List Sym} {q r:Int} (m:List Sym),runS st q l=r→0≤r→runS st q (l++m)=runS st r m
  | [],q,r,m,h,_=>by rw [runS] at h;rw [h];rfl
  | z::l,q,r,m,h,hr=>by
    rw [runS] at h
    split at h
    omega;rename_i hn;rw [List.cons_append,runS,if_neg hn];exact runS_append m h hr
end
section
variable {g:GD}{st:List ASt}(h:Aut g st)
include h
theorem wayS_two:∀(f f' k:Nat) (x:ASt),st[k]?=some x→k≤f→k≤f'→wayS st f (k:Nat)=wayS st f' (k:Nat):=by
  intro f
  induction f with
  | zero =>
    intro f' k x hx h1 h2;have:k=0:=by omega
    subst this;cases f'<;>simp [wayS]
  | succ f ih =>
    intro f' k x hx h1 h2;by_cases hk:k=0;subst hk;cases f'<;>simp [wayS];obtain ⟨f'',rfl⟩:∃n,f'=n+1:=⟨f'-1,by omega⟩;obtain ⟨m,y,e1,e2,e3,_⟩:=h.frm k x hx hk;rw [wayS,wayS,if_neg (by omega),if_neg (by omega)];simp only [Int.toNat_natCast];rw [bangA hx,e1,ih f'' m y e3 (by omega) (by omega)]
theorem path_zero:pathS st 0 = []:=by
  obtain ⟨x,hx,_⟩:=h.first
  have:=pathS_at hx
  simpa [wayS] using this
theorem path_next{k m:Nat}{x y:ASt}(hx:st[k]?=some x)(hk:k≠0)(e1:x.frm=(m:Nat))(e2:m<k)(e3:st[m]?=some y):pathS st (k:Nat)=pathS st (m:Nat)++[x.sym]:=by
  rw [pathS_at hx,pathS_at e3];obtain ⟨f,hf⟩:∃f,k=f+1:=⟨k-1,by omega⟩
  have:wayS st k (k:Nat)=x.sym::wayS st m (m:Nat):=by
    rw [←wayS_two h f m m y e3 (by omega) (Nat.le_refl _)]
    conv=>lhs;rw [show wayS st k (k:Nat)=wayS st (f+1) (k:Nat) by rw [←hf]]
    rw [wayS,if_neg (by omega)];simp only [Int.toNat_natCast];rw [bangA hx,e1]
  rw [this,List.reverse_cons]
theorem arcs_nodup{k:Nat}{x:ASt}(hx:st[k]?=some x):(x.arcs.map Arc.sym).Nodup:=by rw [h.arcs k x hx];exact symsG_nodup _ _
theorem go_from{k m:Nat}{x y:ASt}(hy:st[m]?=some y)(ha:(⟨x.sym,(k:Nat)⟩:Arc)∈y.arcs):goS st (m:Nat) x.sym=(k:Nat):=by
  rw [goS_at hy];exact arcTo_mem (arcs_nodup h hy) ha
theorem run_path:∀(k:Nat) (x:ASt),st[k]?=some x→runS st 0 (pathS st (k:Nat))=(k:Nat):=by
  intro k
  induction k using Nat.strongRecOn with
  | ind k ih =>
    intro x hx;by_cases hk:k=0;subst hk;have:=path_zero h;rw [show ((0:Nat):Int)=0 from rfl,this];rfl;obtain ⟨m,y,e1,e2,e3,e4,_⟩:=h.frm k x hx hk;rw [path_next h hx hk e1 e2 e3,runS_append _ (ih m e2 y e3) (by omega),runS,go_from h e3 e4,if_neg (by omega)];rfl
theorem path_len{k m:Nat}{x y:ASt}(hx:st[k]?=some x)(hk:k≠0)(e1:x.frm=(m:Nat))(e2:m<k)(e3:st[m]?=some y):(pathS st (k:Nat)).length=(pathS st (m:Nat)).length+1:=by
  rw [path_next h hx hk e1 e2 e3,List.length_append];rfl
theorem path_mono:∀(k j:Nat) (x y:ASt),j≤k→st[j]?=some x→st[k]?=some y→(pathS st (j:Nat)).length≤(pathS st (k:Nat)).length:=by
  intro k
  induction k using Nat.strongRecOn with
  | ind k ih =>
    intro j x y hjk hx hy;by_cases hj:j=0;subst hj;have:=path_zero h;rw [show ((0:Nat):Int)=0 from rfl,this];exact Nat.zero_le _;obtain ⟨m,u,e1,e2,e3,_⟩:=h.frm j x hx hj;obtain ⟨m',u',d1,d2,d3,_⟩:=h.frm k y hy (by omega);rw [path_len h hx hj e1 e2 e3,path_len h hy (by omega) d1 d2 d3];have hm:=h.mono j k x y hjk hx hy;have:=ih m' d2 m u u' (by omega) e3 d3;omega
theorem kern_len{k:Nat}{x:ASt}(hx:st[k]?=some x):x.kernel.length=x.kern.toNat∧x.kernel.length≤x.items.length∧x.items.take x.kernel.length=x.kernel:=by
  have hk:=h.p.kern x (List.mem_of_getElem? hx);have h1:x.kernel.length=x.kern.toNat:=by unfold ASt.kernel;rw [List.length_take];omega
  exact ⟨h1,by omega,by rw [h1];rfl⟩
end
section
variable {g:GD}{st:List ASt}(h:Aut g st)
include h
theorem go_stands{k:Nat}{x:ASt}(hx:st[k]?=some x)(z:Sym):0≤goS st (k:Nat) z↔∃y∈x.items,behindG g y=some z:=by
  rw [goS_at hx,←symsG_mem,←h.arcs k x hx];constructor;intro h9;obtain ⟨a,h1,h2,_⟩:=arcTo_some h9;rw [←h2];exact List.mem_map_of_mem h1;intro h9;obtain ⟨a,h1,rfl⟩:=List.mem_map.1 h9;rw [arcTo_mem (arcs_nodup h hx) h1];obtain ⟨j,_,e,_⟩:=h.to k x a hx h1;omega
theorem go_to{k:Nat}{x:ASt}(hx:st[k]?=some x){z:Sym}(hz:0≤goS st (k:Nat) z):∃(j:Nat) (y:ASt),goS st (k:Nat) z=(j:Nat)∧st[j]?=some y∧j≠0∧y.sym=z∧y.kernel=overG g z x.items∧(pathS st (j:Nat)).length≤(pathS st (k:Nat)).length+1:=by
  obtain ⟨e,he,hb⟩:=(go_stands h hx z).1 hz;rw [goS_at hx] at hz ⊢;obtain ⟨a,h1,h2,h3⟩:=arcTo_some hz;obtain ⟨j,y,e1,e2,e3,e4⟩:=h.to k x a hx h1;rw [h2] at e3;have hm:(⟨e.p,e.dot+1⟩:Itm)∈y.kernel:=by rw [e3];exact overG_mem.2 ⟨e,he,hb,rfl⟩
  have hed:=(h.ok.ok x (List.mem_of_getElem? hx) e he).1.2
  have hj:j≠0:=by
    rintro rfl;obtain ⟨x0,d1,d2,_⟩:=h.first
    rw [e2] at d1;cases d1;rw [d2,List.mem_singleton] at hm;have:e.dot+1=0:=congrArg Itm.dot hm;omega
  obtain ⟨m,u,d1,d2,d3,_,d5⟩:=h.frm j y e2 hj
  have hs:y.sym=z:=by
    rw [d5] at hm;obtain ⟨v,c1,c2,c3⟩:=overG_mem.1 hm;rw [Itm.mk.injEq] at c3;obtain ⟨p1,p2⟩:=c3
    have:e=v:=by
      cases e;cases v;simp only at p1 p2;congr 1;omega
    rw [this,c2] at hb;exact Option.some.inj hb
  refine ⟨j,y,by rw [←h3,e1],e2,hj,hs,e3,?_⟩;rw [path_len h e2 hj d1 d2 d3];have:=path_mono h k m u x (by omega) d3 hx;omega
end
structure AutW(s2:SP)(ba bm bp mb fb B:Nat)(sA:Option Addr)(sc:Nat)(sts:List StD)(w:World):Prop where
  bm:Blk w bm #[.map (some mb)] 186
  bp:Blk w bp #[.pointer (some ⟨ba,0,none⟩)] 27
  ba:Blk w ba #[(.slice s2.lA s2.lex.length s2.lc),(.slice s2.nA s2.names.length s2.nc),(.int .i64 s2.start),(.slice s2.pA s2.prods.length s2.pc),(.slice sA sts.length sc)] 154
  fb:Blk w fb #[.int .i64 0,.int .i64 0,.string ⟨#[]⟩] 65
  mp:MapB (fun s:ByteArray=>.string s) w mb (keysM sts 0)
  st:Vx.Own w 151 6 (.slice sA sts.length sc) sts.length (sts.flatMap StD.cs)
  low:∀k,(Value.slice sA sts.length sc).ownBlock=some k→B≤k
  F:StF B w sts
theorem AutW.set{s2:SP}{ba bm bp mb fb B q:Nat}{sA:Option Addr}{sc:Nat}{sts:List StD}{w:World}{x y:StD}(hx:sts[q]?=some x)(hi:y.items=x.items)(hk:y.kern=x.kern)(h1:Blk w bm #[.map (some mb)] 186)(h2:Blk w bp #[.pointer (some ⟨ba,0,none⟩)] 27)(h3:Blk w ba #[(.slice s2.lA s2.lex.length s2.lc),(.slice s2.nA s2.names.length s2.nc),(.int .i64 s2.start),(.slice s2.pA s2.prods.length s2.pc),(.slice sA sts.length sc)] 154)(h4:Blk w fb #[.int .i64 0,.int .i64 0,.string ⟨#[]⟩] 65)(h5:MapB (fun s:ByteArray=>.string s) w mb (keysM sts 0))
    (h6:Vx.Own w 151 6 (.slice sA sts.length sc) sts.length ((sts.set q y).flatMap StD.cs)) (h7:∀k,(Value.slice sA sts.length sc).ownBlock=some k→B≤k) (h8:StF B w (sts.set q y)):AutW s2 ba bm bp mb fb B sA sc (sts.set q y) w:=by
  refine ⟨h1,h2,?_,h4,?_,?_,?_,h8⟩;rw [List.length_set];exact h3;rw [keysM_set hx hi hk];exact h5;rw [List.length_set];exact h6;rw [List.length_set];exact h7
structure AutR(B:Nat)(w:World)(s:SP)(ba:Nat)(sA:Option Addr)(sc:Nat)(sts:List StD):Prop where
  lowb:B≤ba
  ba:Blk w ba #[(.slice s.lA s.lex.length s.lc),(.slice s.nA s.names.length s.nc),(.int .i64 s.start),(.slice s.pA s.prods.length s.pc),(.slice sA sts.length sc)] 154
  st:Vx.Own w 151 6 (.slice sA sts.length sc) sts.length (sts.flatMap StD.cs)
  low:∀k,(Value.slice sA sts.length sc).ownBlock=some k→B≤k
  F:StF B w sts
theorem StF.mono{B B':Nat}{w:World}{l:List StD}(hB:B'≤B)(h:StF B w l):StF B' w l:=⟨fun x hx=>have q:=h.all x hx;⟨q.items,fun k hk=>Nat.le_trans hB (q.lowI k hk),q.arcs,fun k hk=>Nat.le_trans hB (q.lowA k hk)⟩,h.apart⟩
theorem StF.nil{B:Nat}{w:World} : StF B w []:=⟨fun x hx=>(List.not_mem_nil hx).elim,fun i j x y _ hx=>by simp at hx⟩
theorem OwnS.mono{B B':Nat}{w:World}{s s':SP}(hB:B'≤B)(h:OwnS B w s s'):OwnS B' w s s' :=
  ⟨h.lex.mono hB,h.lexL,fun j x y hx hy=>(h.lexR j x y hx hy).mono hB,h.names.mono hB,h.nameq,h.start,h.prods.mono hB,h.prodsL,fun j x y hx hy=>have q:=h.prodsR j x y hx hy;⟨q.left,q.right,q.row.mono hB,q.nil,q.few⟩,h.nilL,h.nilN,h.nilP,h.fl,h.fn,h.fp⟩
theorem OwnS.ext{B:Nat}{w w':World}{s s':SP}(h:OwnS B w s s')(c:Ext w w'):OwnS B w' s s':=h.keepC c fun _ _ _ hk=>hk
theorem add_calls2(s:SP)(ba bm bp mb:Nat)(sA:Option Addr)(sc:Nat)(sts:List StD)(l:List Itm)(A:Option Addr)(c:Nat)(z:Sym)(fr:Int)(w0:World)(w:World)(hE0:Ext w0 w)(hS:SpR w0 s)(hG:GoodG s.g)(hT:TabP w0)(hbm:Blk w bm #[.map (some mb)] 186)(hbp:Blk w bp #[.pointer (some ⟨ba,0,none⟩)] 27)(hba:Blk w ba #[(.slice s.lA s.lex.length s.lc),(.slice s.nA s.names.length s.nc),(.int .i64 s.start),(.slice s.pA s.prods.length s.pc),(.slice sA sts.length sc)] 154)(hm:MapB (fun s:ByteArray=>.string s) w mb (keysM sts 0))(ho:Vx.Own w 151 6 (.slice sA sts.length sc) sts.length (sts.flatMap StD.cs))(hlo:∀k,(Value.slice sA sts.length sc).ownBlock=some k→w0.heap.size≤k)(hF:StF w0.heap.size w sts)(hA:Vx.Own w 113 2 (.slice A l.length c) l.length (l.flatMap Itm.cs))(hn:l.length≤100000000)(hst:sts.length≤100000000000)(hI:∀x∈l,smallI x)(hO:∀x∈l,okI s.g x)(hN:s.names.length≤128)(hP:s.prods.length≤512)(hb0:w0.heap.size≤ba∧w0.heap.size≤mb) :
    Calls Tryz.prog 98 #[(.slice A l.length c),(.agg #[(.int .i64 z.kind),(.int .i64 z.n)]),(.int .i64 fr),(.pointer (some ⟨bm,0,none⟩)),(.pointer (some ⟨bp,0,none⟩))] w (Ret (fun v w'=>∃i sts' sA' sc',v = .int .i64 i∧addA s.g (sts.map StD.d) l z fr=(sts'.map StD.d,i)∧Blk w' bm #[.map (some mb)] 186∧Blk w' bp #[.pointer (some ⟨ba,0,none⟩)] 27∧Blk w' ba #[(.slice s.lA s.lex.length s.lc),(.slice s.nA s.names.length s.nc),(.int .i64 s.start),(.slice s.pA s.prods.length s.pc),(.slice sA' sts'.length sc')] 154∧MapB (fun s:ByteArray=>.string s) w' mb (keysM sts' 0)∧Vx.Own w' 151 6 (.slice sA' sts'.length sc') sts'.length (sts'.flatMap StD.cs)∧(∀k,(Value.slice sA' sts'.length sc').ownBlock=some k→w0.heap.size≤k)∧StF w0.heap.size w' sts'∧Chg (fun k=>k=ba∨k=mb∨(Value.slice sA sts.length sc).ownBlock=some k) w w')):=by
  refine ret_mono (add_calls s ba bm bp mb sA sc sts l A c z fr w0 w hE0 hS hG hT hbm hbp hba hm ho hlo hF hA hn hst hI hO hN hP hb0) ?_;rintro v w' ⟨sts',sA',sc',hR,h⟩;obtain ⟨i,rfl,hi⟩:=addR_d hR;exact ⟨i,sts',sA',sc',rfl,hi,h⟩
instance pf_101:PlF Tryz.prog 101 where
instance pf_102:PlF Tryz.prog 102 where
instance pf_76:PlF Tryz.prog 76 where
instance pf_97:PlF Tryz.prog 97 where
instance pf_98:PlF Tryz.prog 98 where
instance tP_154:PcT Tryz.prog 154 #[(0,4),(4,1)] where
instance tP_156:PcT Tryz.prog 156 #[(0,2),(2,1)] where
instance tS_149:SzT Tryz.prog 149 1 where
instance tS_186:SzT Tryz.prog 186 1 where
instance tS_27:SzT Tryz.prog 27 1 where
instance tZ_154:ZrT Tryz.prog 154 (.agg #[(.slice none 0 0),(.slice none 0 0),(.int .i64 0),(.slice none 0 0),(.slice none 0 0)]) where
instance tZ_186:ZrT Tryz.prog 186 (.map none) where
instance tZ_27:ZrT Tryz.prog 27 (.pointer none) where
theorem build_calls(s:SP)(w:World)(hS:SpR w s)(hT:TabP w) :
    Calls Tryz.prog 57 #[(.agg #[(.slice s.lA s.lex.length s.lc),(.slice s.nA s.names.length s.nc),(.int .i64 s.start),(.slice s.pA s.prods.length s.pc)])] w (Ret (fun v w'=>Ext w w'∧((¬(checkE s.g).1=0∧v = .tuple #[.pointer none,.agg #[.int .i64 (checkE s.g).1,.int .i64 (checkE s.g).2,.string ⟨#[]⟩]])∨((checkE s.g).1=0∧buildG s.g=none∧v = .tuple #[.pointer none,.agg #[.int .i64 80,.int .i64 0,.string ⟨#[]⟩]])∨((checkE s.g).1=0∧∃s2 ba sA sc sts,buildG s.g=some (sts.map StD.d)∧OwnS w.heap.size w' s s2∧AutR w.heap.size w' s2 ba sA sc sts∧v = .tuple #[.pointer (some ⟨ba,0,none⟩),.agg #[.int .i64 0,.int .i64 0,.string ⟨#[]⟩]])))):=by
 have hfn:=hS.fn.le;have hfl:=hS.fl.le;refine calls_y (n:=94) Tryz.func57 ?_;refine go ?_;refine y_bx ?_;intro w1 e1 z1 b1;refine go ?_;refine y_al ?_;intro w2 e2 z2 b2;refine go ?_;refine y_lN (vs:=[(.slice s.lA s.lex.length s.lc),(.slice s.nA s.names.length s.nc),(.int .i64 s.start),(.slice s.pA s.prods.length s.pc)]) ⟨(b1.ext e2).cell rfl,(b1.ext e2).cell rfl,(b1.ext e2).cell rfl,(b1.ext e2).cell rfl,trivial⟩ ?_;have x1:Ext w w2:=(Xt e1 e2);refine yCa (ret_mono ((by have h9:=check_calls s w2 (hS.ext x1);unfold faultV at h9;exact h9)) ?_);rintro _ w3 ⟨rfl,e3⟩;have he3:=e3.size;refine y_al ?_;intro w4 e4 z3 b3;refine y_st b3 ?_;intro w5 e5 z4 b4;replace b4:Blk w5 w3.heap.size #[(.int .i64 ((checkE s.g).1)),(.int .i64 ((checkE s.g).2)),(.string ((⟨#[]⟩:ByteArray)))] 65:=blk_full b4 rfl;refine go ?_;refine y_ld b4 ?_;refine go ?_;refine y_if (fun h1=>?_) (fun h1=>?_);refine go ?_;refine xc_regionE [2] (fun W_=>Chg (fun _=>False) w5 W_) hmix ?_;intro w6 e6 z5;have hS1:Chg (fun _=>False) w5 w6:=Ext.to e6;refine yDt (i:=0) rfl hS1 (fun W_ hW_=>ox_loadN (vs:=[(.int .i64 ((checkE s.g).1)),(.int .i64 ((checkE s.g).2)),(.string ((⟨#[]⟩:ByteArray)))]) tA_65.h tS_65.h rfl rfl ⟨(b4.ext hW_).cell rfl,(b4.ext hW_).cell rfl,(b4.ext hW_).cell rfl,trivial⟩ ⟨rfl,rfl⟩) ?_;refine yDp 1 ?_;have q1:=(((b2.ext e3).ext e4).kl e5 b2.lt);refine yD1 (i:=2) rfl (ox_store (n:=3) (vs:=[(.int .i64 ((checkE s.g).1)),(.int .i64 ((checkE s.g).2)),(.string ((⟨#[]⟩:ByteArray)))]) tS_65.h rfl (v:=(.agg #[(.int .i64 ((checkE s.g).1)),(.int .i64 ((checkE s.g).2)),(.string ((⟨#[]⟩:ByteArray)))])) rfl rfl rfl rfl (q1.ext e6) (Nat.le_of_ble_eq_true rfl) ?_);intro w7 e7 z6 b5;replace b5:Blk w7 w1.heap.size #[(.int .i64 ((checkE s.g).1)),(.int .i64 ((checkE s.g).2)),(.string ((⟨#[]⟩:ByteArray)))] 65:=blk_full b5 rfl;refine ⟨.inl (by decide),?_⟩;refine xd_done (by kernel_rfl) ?_ _;refine go ?_;change leaves _ _ _ _ _ _ _;refine leaves_nil (n:=94) (rs:=[.tmp 2,.cell 3 65]) (vs:=[(.pointer none),(.agg #[(.int .i64 ((checkE s.g).1)),(.int .i64 ((checkE s.g).2)),(.string ((⟨#[]⟩:ByteArray)))])]) rfl ⟨⟨by decide,rfl⟩,⟨by decide,w1.heap.size,0,3,[(.int .i64 ((checkE s.g).1)),(.int .i64 ((checkE s.g).2)),(.string ((⟨#[]⟩:ByteArray)))],rfl,tA_65.h,tS_65.h,rfl,⟨b5.cell rfl,b5.cell rfl,b5.cell rfl,trivial⟩,rfl⟩,trivial⟩ ?_;have x2:Ext w w7:=(Xc (Xt (Xc (Xt (Xt x1 e3) e4) e5) e6) e7);exact ⟨x2,.inl ⟨by omega,rfl⟩⟩;have hck:(checkE s.g).1=0:=by omega
 have hgd:=check_good hck;have q2:=((((b1.ext e2).ext e3).ext e4).kb e5 b3);refine go ?_;refine y_lN (vs:=[(.slice s.lA s.lex.length s.lc),(.slice s.nA s.names.length s.nc),(.int .i64 s.start),(.slice s.pA s.prods.length s.pc)]) ⟨q2.cell rfl,q2.cell rfl,q2.cell rfl,q2.cell rfl,trivial⟩ ?_;have x3:Ext w w5:=(Xc (Xt (Xt x1 e3) e4) e5);refine yCa (ret_mono (own_calls s w5 (hS.ext x3)) ?_);rintro _ w8 ⟨s2,rfl,hOw,e8⟩;have he8:=e8.size;have x4:Ext w w8:=(Xt x3 e8);have hSpr:SpR w8 s2:=OwnS.spr (w0:=w) hOw;have hg2:=OwnS.g hOw;have hG2:GoodG s2.g:=by rw [hg2];exact hgd.1
 have hNg:s2.g.names≤128:=by rw [hg2];exact hgd.2.1
 have hPg:s2.g.prods.length≤512:=by rw [hg2];exact hgd.2.2.1
 have hRg:∀p∈s2.g.prods,p.2.length≤16:=by rw [hg2];exact hgd.2.2.2
 have hN2:s2.names.length≤128:=hNg;have hP2:s2.prods.length≤512:=by rw [←s2.gprods];exact hPg
 have hT2:TabP w8:=TabIs.ext hT x4;have hB0:w.heap.size≤w8.heap.size:=(x4).size;refine yOp (ox_mkStruct (ps:=[(0,(.agg #[(.slice s2.lA s2.lex.length s2.lc),(.slice s2.nA s2.names.length s2.nc),(.int .i64 s2.start),(.slice s2.pA s2.prods.length s2.pc)]))]) (cs:=#[(.slice s2.lA s2.lex.length s2.lc),(.slice s2.nA s2.names.length s2.nc),(.int .i64 s2.start),(.slice s2.pA s2.prods.length s2.pc),(.slice none 0 0)]) tZ_154.h tP_154.h rfl (by kernel_rfl) ?_);refine y_bx ?_;intro w9 e9 z7 b6;refine y_al ?_;intro w10 e10 z8 b7;refine y_st b7 ?_;intro w11 e11 z9 b8;replace b8:Blk w11 w9.heap.size #[(.pointer (some ⟨w8.heap.size,0,none⟩))] 27:=b8;refine go ?_;refine yOp (ox_makeMap (enc:=(fun s:ByteArray=>.string s)) rfl ?_);intro w12 e12 z10 m1;have he12:=e12.size;refine y_al ?_;intro w13 e13 z11 b9;refine y_st b9 ?_;intro w14 e14 z12 b10;replace b10:Blk w14 w12.heap.size #[(.map (some w11.heap.size))] 186:=b10;refine go ?_;refine yOp (ox_mkFunc (cs:=[(.pointer (some ⟨w12.heap.size,0,none⟩)),(.pointer (some ⟨w9.heap.size,0,none⟩))]) rfl ?_);refine go ?_;refine yOp (ox_mkStruct (ps:=[(0,(.int .i64 (-1)))]) (cs:=#[(.int .i64 (-1)),(.int .i64 0)]) tZ_113.h tP_113.h rfl (by kernel_rfl) ?_);refine yOp (ox_mkSlice (ps:=[(0,(.agg #[(.int .i64 (-1)),(.int .i64 0)]))]) (zs:=#[(.int .i64 0),(.int .i64 0)]) (cs:=#[(.int .i64 (-1)),(.int .i64 0)]) tE_118.h rfl (by decide) (by kernel_rfl) (by kernel_rfl) ?_);intro w15 e15 z13 b11;replace b11:Blk w15 w14.heap.size #[(.int .i64 (-1)),(.int .i64 0)] 113:=b11;refine yOp (ox_mkStruct (ps:=[]) (cs:=#[(.int .i64 0),(.int .i64 0)]) tZ_75.h tP_75.h rfl (by kernel_rfl) ?_);have q3:=((b6.ext e10).kb e11 b7);have q4:=(((q3.ext e12).ext e13).kb e14 b9);have q5:=((m1.ext e13).kb e14 b9);have x5:Ext w8 w15:=(Xt (Xc (Xt (Xt (Xc (Xt e9 e10) e11) e12) e13) e14) e15);have q6:=(((b8.ext e12).ext e13).kb e14 b9);refine yOp (ox_callV (cap:=[(.pointer (some ⟨w12.heap.size,0,none⟩)),(.pointer (some ⟨w9.heap.size,0,none⟩))]) (al:=[(.slice (some ⟨w14.heap.size,0,none⟩) 1 1),(.agg #[(.int .i64 0),(.int .i64 0)]),(.int .i64 0)]) pf_98.h rfl rfl (ret_mono (add_calls2 s2 w8.heap.size w12.heap.size w9.heap.size w11.heap.size none 0 ([]:List StD) [(⟨-1,0⟩:Itm)] ((some ⟨w14.heap.size,0,none⟩)) 1 (⟨0,0⟩:Sym) 0 w8 w15 x5 hSpr hG2 hT2 (b10.ext e15) (q6.ext e15) (q4.ext e15) (q5.ext e15) (Vx.Own.nil _ _ _) (fun k hk=>by simp [Value.ownBlock] at hk) StF.nil (Vx.Own.lit (n:=1) (sz:=2) b11 rfl (by decide)) (by decide) (by decide) (fun x hx=>by rw [List.mem_singleton.1 hx];exact ⟨by decide,by decide⟩) (fun x hx=>by rw [List.mem_singleton.1 hx];exact ⟨.inl rfl,by decide⟩) hN2 hP2 ⟨by omega,by omega⟩) ?_));rintro _ w16 ⟨i1,sts1,sA1,sc1,rfl,hR1,hbm1,hbp1,hba1,hm1,ho1,hlo1,hF1,c1⟩;have hc1:=c1.size;have hs0:(addA s2.g [] [⟨-1,0⟩] ⟨0,0⟩ 0).1=sts1.map StD.d:=congrArg Prod.fst hR1;have hl0:sts1.length=1:=by have:=congrArg List.length hs0;rw [List.length_map] at this;exact this.symm
 have q7:=(((b2.ext e3).ext e4).kl e5 b2.lt);have q8:=((((q7.ext e8).ext e9).ext e10).kb e11 b7);have q9:=(((q8.ext e12).ext e13).kb e14 b9);have q10:=((q9.ext e15).keep c1 (fun hb=>by rcases hb with hb | hb | hb<;>first | omega | simp [Value.ownBlock] at hb));have x7:Ext w8 w16:=(Chg.trans x5 c1 (fun b hb hl=>absurd hl (by have _h:=(show w8.heap.size≤b from by rcases hb with hb | hb | hb<;>first | omega | exact (fun k hk=>by simp [Value.ownBlock] at hk) b hb);omega)));refine go ?_;refine xc_loopN (fun m_ f_ Wx=>∃(q:Nat) (ts:List StD) (tA:Option Addr) (tc:Nat),m_=1024-q∧(q≤1024)∧(OkV s2.g q (ts.map StD.d))∧(buildF s2.g (1025-q) q (ts.map StD.d)=buildG s2.g)∧(ts.length≤1+q*67240962)∧f_ 3=(.pointer (some ⟨w1.heap.size,0,none⟩))∧f_ 5=(.pointer (some ⟨w9.heap.size,0,none⟩))∧f_ 7=(.func (.func 98) #[] #[(.pointer (some ⟨w12.heap.size,0,none⟩)),(.pointer (some ⟨w9.heap.size,0,none⟩))])∧f_ 8=(.int .i64 ((q:Nat)))∧(AutW s2 w8.heap.size w12.heap.size w9.heap.size w11.heap.size w1.heap.size w8.heap.size tA tc ts Wx)∧Ext w8 Wx) (1024) ?_ ?_;exact ⟨0,sts1,sA1,sc1,(by omega),(by omega),(by rw [←hs0];exact OkV.start hG2 hNg hPg),(by rw [←hs0]<;>rfl),(by omega),rfl,rfl,rfl,vW,⟨hbm1,hbp1,hba1,q10,hm1,ho1,hlo1,hF1⟩,x7⟩;rintro m_ f1 w17 ⟨q,ts,tA,tc,hm_f1,hq,hV,hbd,htl,g3_f1,g5_f1,g7_f1,g8_f1,t0_f1,x6⟩;have hx6:=x6.size;have:=t0_f1.bm.lt;have:=t0_f1.bp.lt;have:=t0_f1.ba.lt;have:=t0_f1.fb.lt;have:=t0_f1.mp.lt;rw [←usf g3_f1,←usf g5_f1,←usf g7_f1,←usf g8_f1];refine go ?_;refine y_ld t0_f1.bp ?_;refine go ?_;refine y_ld t0_f1.ba ?_;refine go ?_;refine y_if (fun h2=>?_) (fun h2=>?_);have hql:q<ts.length:=by omega
 refine go ?_;refine y_if (fun h3=>?_) (fun h3=>?_);refine go ?_;refine yOp (ox_mkStruct (ps:=[(0,(.int .i64 80))]) (cs:=#[(.int .i64 80),(.int .i64 0),(.string (⟨#[]⟩))]) tZ_65.h tP_65.h rfl (by kernel_rfl) ?_);refine go ?_;refine y_st t0_f1.fb ?_;intro w18 e16 z14 b12;replace b12:Blk w18 w1.heap.size #[(.int .i64 80),(.int .i64 0),(.string (⟨#[]⟩))] 65:=blk_full b12 rfl;refine go ?_;change leaves _ _ _ _ _ _ _;refine leaves_nil (n:=94) (rs:=[.tmp 2,.cell 3 65]) (vs:=[(.pointer none),(.agg #[(.int .i64 80),(.int .i64 0),(.string (⟨#[]⟩))])]) rfl ⟨⟨by decide,rfl⟩,⟨by decide,w1.heap.size,0,3,[(.int .i64 80),(.int .i64 0),(.string (⟨#[]⟩))],rfl,tA_65.h,tS_65.h,rfl,⟨b12.cell rfl,b12.cell rfl,b12.cell rfl,trivial⟩,rfl⟩,trivial⟩ ?_;have x8:Ext w w18:=(Xc (Xt x4 x6) e16);exact ⟨x8,.inr (.inl ⟨hck,by rw [←hg2,←hbd];exact buildF_full (by rw [List.length_map];exact hql) (by omega) (by omega),rfl⟩)⟩;refine go ?_;refine xc_regionE [] (fun W_=>Chg (fun _=>False) w17 W_) hmix ?_;intro w19 e17 z15;have hS2:Chg (fun _=>False) w17 w19:=Ext.to e17;refine yDt (i:=0) rfl hS2 (fun W_ hW_=>ox_load tA_27.h rfl ((t0_f1.bp.ext hW_).cell rfl) ⟨rfl,rfl⟩) ?_;refine yDt (i:=1) rfl hS2 (fun W_ hW_=>ox_load tA_27.h rfl ((t0_f1.bp.ext hW_).cell rfl) ⟨rfl,rfl⟩) ?_;refine yDp 2 ?_;refine yDp 3 ?_;refine yDt (i:=4) rfl hS2 (fun W_ hW_=>ox_load tA_152.h rfl ((t0_f1.ba.ext hW_).cell rfl) ⟨rfl,rfl⟩) ?_;refine yDp 5 ?_;obtain ⟨x_1,g_1,hx_1⟩:=own_may (A:=tA) q StD.len (by decide) t0_f1.st;obtain ⟨hx_2,hA_1,hc_1⟩:=hx_1 oM;refine yDx (i:=6) q hA_1 ?_;refine yDp 7 ?_;refine yDt (i:=8) rfl hS2 (fun W_ hW_=>ox_load tA_118.h rfl (CellsL.at1 (CellsL.keep hW_ not_false hc_1) 0 rfl) ⟨rfl,rfl⟩) ?_;refine yDp 11 ?_;have hxl:=(hV.ok.len q _ (map_get hx_2)).2;have hxk:∀y∈x_1.items,okI s2.g y:=fun y hy=>(hV.ok.ok x_1.d (List.mem_of_getElem? (map_get hx_2)) y hy).1
 have x9:Ext w8 w19:=(Xt x6 e17);refine yD1 (i:=9) rfl (yCx (ret_mono (symbols_calls s2 w8.heap.size tA ts.length tc x_1.items x_1.iA x_1.ic w19 (t0_f1.ba.ext e17) (hSpr.ext x9) (StF.at (StF.ext t0_f1.F e17) hx_2).items.rowO (Nat.le_trans hxl (by decide)) hxk) ?_));rintro _ w20 ⟨A1,c2,rfl,hn1,e18⟩;have he18:=e18.size;have hzl:(symsG s2.g x_1.items).length≤67240962:=Nat.le_trans symsG_len hxl;have hS3:Chg (fun _=>False) w17 w20:=Chg.ext hS2 e18;refine ⟨.inr fun _=>hS3,?_⟩;refine yDp 10 ?_;refine xd_done (by kernel_rfl) ?_ _;have x11:Ext w8 w20:=(Xt x9 e18);refine go ?_;refine xc_loopN (fun m_ f_ Wx=>∃(k:Nat) (us:List StD) (uA:Option Addr) (uc:Nat),m_=(symsG s2.g x_1.items).length-k∧(k≤(symsG s2.g x_1.items).length)∧(OkW s2.g q k (us.map StD.d))∧(us.map StD.d=((symsG s2.g x_1.items).take k).foldl (arcS s2.g q) (ts.map StD.d))∧(us.length≤ts.length+k)∧f_ 3=(.pointer (some ⟨w1.heap.size,0,none⟩))∧f_ 5=(.pointer (some ⟨w9.heap.size,0,none⟩))∧f_ 7=(.func (.func 98) #[] #[(.pointer (some ⟨w12.heap.size,0,none⟩)),(.pointer (some ⟨w9.heap.size,0,none⟩))])∧f_ 8=(.int .i64 ((q:Nat)))∧f_ 29=(.int .i64 ((q:Nat)))∧f_ 30=(.pointer (some ⟨w8.heap.size,0,none⟩))∧f_ 31=(.pointer (some ⟨w8.heap.size,0,none⟩))∧f_ 32=(.pointer (some ⟨w8.heap.size,4,none⟩))∧f_ 33=(.slice tA ts.length tc)∧f_ 34=(.int .i64 (((ts.length:Nat):Int)))∧f_ 35=(.bool (decide (((q:Nat):Int)<(((ts.length:Nat):Int)))))∧f_ 38=(.int .i64 ((q:Nat)))∧f_ 39=(.bool (decide ((1024:Int)≤((q:Nat)))))∧f_ 41=(.pointer (some ⟨w8.heap.size,0,none⟩))∧f_ 42=(.pointer (some ⟨w8.heap.size,0,none⟩))∧f_ 43=(.pointer (some ⟨w8.heap.size,0,none⟩))∧f_ 44=(.pointer (some ⟨w8.heap.size,4,none⟩))∧f_ 45=(.slice tA ts.length tc)∧f_ 46=(.int .i64 ((q:Nat)))∧f_ 47=(.pointer (some ⟨g_1,0+q*6,none⟩))∧f_ 48=(.pointer (some ⟨g_1,0+q*6,none⟩))∧f_ 49=(.slice x_1.iA x_1.items.length x_1.ic)∧f_ 50=(.slice A1 ((symsG s2.g x_1.items).length) c2)∧f_ 51=(.int .i64 ((((symsG s2.g x_1.items).length:Nat):Int)))∧f_ 52=(.int .i64 ((k:Nat)))∧(AutW s2 w8.heap.size w12.heap.size w9.heap.size w11.heap.size w1.heap.size w8.heap.size uA uc us Wx)∧(Vx.Own Wx 75 2 (.slice A1 ((symsG s2.g x_1.items).length) c2) (symsG s2.g x_1.items).length ((symsG s2.g x_1.items).flatMap Sym.cs))∧Ext w8 Wx) ((symsG s2.g x_1.items).length) ?_ ?_;exact ⟨0,ts,tA,tc,(by omega),(by omega),(hV.enter (by rw [List.length_map];exact hql)),rfl,(by omega),rfl,rfl,rfl,rfl,rfl,rfl,rfl,rfl,rfl,rfl,rfl,rfl,rfl,rfl,rfl,rfl,rfl,rfl,rfl,rfl,rfl,rfl,rfl,rfl,vW,⟨((t0_f1.bm.ext e17).ext e18),((t0_f1.bp.ext e17).ext e18),((t0_f1.ba.ext e17).ext e18),((t0_f1.fb.ext e17).ext e18),((t0_f1.mp.ext e17).ext e18),((t0_f1.st.ext e17).ext e18),t0_f1.low,(StF.ext (StF.ext t0_f1.F e17) e18)⟩,hn1.1,x11⟩;rintro m_ f2 w21 ⟨k,us,uA,uc,hm_f2,hk,hW,hfo,hul,g3_f2,g5_f2,g7_f2,g8_f2,g29_f2,g30_f2,g31_f2,g32_f2,g33_f2,g34_f2,g35_f2,g38_f2,g39_f2,g41_f2,g42_f2,g43_f2,g44_f2,g45_f2,g46_f2,g47_f2,g48_f2,g49_f2,g50_f2,g51_f2,g52_f2,t0_f2,t1_f2,x10⟩;have hx10:=x10.size;have:=t0_f2.bm.lt;have:=t0_f2.bp.lt;have:=t0_f2.ba.lt
 have:=t0_f2.fb.lt;have:=t0_f2.mp.lt;have hWlt:=hW.lt;rw [List.length_map] at hWlt;rw [←usf g3_f2,←usf g5_f2,←usf g7_f2,←usf g8_f2,←usf g29_f2,←usf g30_f2,←usf g31_f2,←usf g32_f2,←usf g33_f2,←usf g34_f2,←usf g35_f2,←usf g38_f2,←usf g39_f2,←usf g41_f2,←usf g42_f2,←usf g43_f2,←usf g44_f2,←usf g45_f2,←usf g46_f2,←usf g47_f2,←usf g48_f2,←usf g49_f2,←usf g50_f2,←usf g51_f2,←usf g52_f2];refine go ?_;refine y_if (fun h4=>?_) (fun h4=>?_);obtain ⟨x_2,g_2,hx_3⟩:=own_may (A:=A1) k Sym.len (by decide) t1_f2;obtain ⟨hx_4,hA_2,hc_2⟩:=hx_3 oM;refine go ?_;refine y_ix k hA_2 ?_;refine y_lN (vs:=[(.int .i64 x_2.kind),(.int .i64 x_2.n)]) hc_2 ?_;refine y_al ?_;intro w22 e19 z16 b13;refine y_st b13 ?_;intro w23 e20 z17 b14;replace b14:Blk w23 w21.heap.size #[(.int .i64 x_2.kind),(.int .i64 x_2.n)] 75:=blk_full b14 rfl;refine go ?_;refine xc_regionE [14] (fun W_=>Chg (fun _=>False) w23 W_) hmix ?_;intro w24 e21 z18;have hS4:Chg (fun _=>False) w23 w24:=Ext.to e21;refine yDp 0 ?_;have q11:=((t0_f2.bp.ext e19).kb e20 b13);refine xd_takeU 1 (some 57) [11,15,14] rfl rfl (by kernel_rfl) (v:=(.pointer (some ⟨w8.heap.size,0,none⟩))) (.inl ⟨rfl,fun W_ hW_=>ox_load (v:=(.pointer (some ⟨w8.heap.size,0,none⟩))) tA_27.h rfl ((q11.ext hW_).cell rfl) ⟨rfl,rfl⟩⟩) hS4 ?_;have q12:=((t0_f2.bp.ext e19).kb e20 b13);refine xd_takeU 2 (some 58) [3,15,4,5,7,8,9,11,14] rfl rfl (by kernel_rfl) (v:=(.pointer (some ⟨w8.heap.size,0,none⟩))) (.inl ⟨rfl,fun W_ hW_=>ox_load (v:=(.pointer (some ⟨w8.heap.size,0,none⟩))) tA_27.h rfl ((q12.ext hW_).cell rfl) ⟨rfl,rfl⟩⟩) hS4 ?_;refine yDp 3 ?_;refine yDp 4 ?_;have q13:=((t0_f2.ba.ext e19).kb e20 b13);refine xd_takeU 5 (some 61) [7,15,8,9,11,14] rfl rfl (by kernel_rfl) (v:=(.slice uA us.length uc)) (.inl ⟨rfl,fun W_ hW_=>ox_load (v:=(.slice uA us.length uc)) tA_152.h rfl ((q13.ext hW_).cell rfl) ⟨rfl,rfl⟩⟩) hS4 ?_;refine yDp 6 ?_;have q14:=((t0_f2.st.ext e19).kb e20 b13);obtain ⟨x_3,g_3,hx_5⟩:=own_may (A:=uA) q StD.len (by decide) q14;obtain ⟨hx_6,hA_3,hc_3⟩:=hx_5 oM;refine yDx (i:=7) q hA_3 ?_;refine yDp 8 ?_;refine xd_takeU 9 (some 65) [11,15,14] rfl rfl (by kernel_rfl) (v:=(.slice x_3.iA x_3.items.length x_3.ic)) (.inl ⟨rfl,fun W_ hW_=>ox_load (v:=(.slice x_3.iA x_3.items.length x_3.ic)) tA_118.h rfl (CellsL.at1 (CellsL.keep hW_ not_false hc_3) 0 rfl) ⟨rfl,rfl⟩⟩) hS4 ?_;refine xd_takeU 10 (some 66) [11,15,14] rfl rfl (by kernel_rfl) (v:=(.agg #[(.int .i64 x_2.kind),(.int .i64 x_2.n)])) (.inl ⟨rfl,fun W_ hW_=>ox_loadN (vs:=[(.int .i64 x_2.kind),(.int .i64 x_2.n)]) tA_75.h tS_75.h rfl rfl ⟨(b14.ext hW_).cell rfl,(b14.ext hW_).cell rfl,trivial⟩ ⟨rfl,rfl⟩⟩) hS4 ?_;refine xd_takeU 12 (some 68) [14,15] rfl rfl (by kernel_rfl) (v:=(.agg #[(.int .i64 x_2.kind),(.int .i64 x_2.n)])) (.inl ⟨rfl,fun W_ hW_=>ox_loadN (vs:=[(.int .i64 x_2.kind),(.int .i64 x_2.n)]) tA_75.h tS_75.h rfl rfl ⟨(b14.ext hW_).cell rfl,(b14.ext hW_).cell rfl,trivial⟩ ⟨rfl,rfl⟩⟩) hS4 ?_;refine yDp 13 ?_;have hxl9:=(hW.ok.len q _ (map_get hx_6)).2;have hxj:∀y∈x_3.items,okJ s2.g y:=fun y hy=>hW.ok.ok x_3.d (List.mem_of_getElem? (map_get hx_6)) y hy
 have q15:=((t0_f2.ba.ext e19).kb e20 b13);have x12:Ext w8 w24:=(Xt (Xc (Xt x10 e19) e20) e21);have x13:Ext w21 w24:=(Xt (Xc e19 e20) e21);refine yD1 (i:=11) rfl (yCx (ret_mono (over_calls s2 w8.heap.size uA us.length uc x_3.items x_3.iA x_3.ic (⟨x_2.kind,x_2.n⟩:Sym) w24 (q15.ext e21) (hSpr.ext x12) (StF.at (StF.ext t0_f2.F x13) hx_6).items.rowO (Nat.le_trans hxl9 (by decide)) (fun y hy=>(hxj y hy).1)) ?_));rintro _ w25 ⟨A2,c3,rfl,hn2,e22⟩;have he22:=e22.size;have hok9:∀y∈(overG s2.g (⟨x_2.kind,x_2.n⟩:Sym) x_3.items),okJ s2.g y:=overG_okJ hxj;have hol9:(overG s2.g (⟨x_2.kind,x_2.n⟩:Sym) x_3.items).length≤x_3.items.length:=overG_len;have hxl8:x_3.items.length≤67240962:=hxl9;have hS5:Chg (fun _=>False) w23 w25:=Chg.ext hS4 e22;refine ⟨.inr fun _=>hS5,?_⟩;have q16:=((t0_f2.mp.ext e19).kb e20 b13);have x14:Ext w8 w25:=(Xt x12 e22);have q17:=((t0_f2.bm.ext e19).kb e20 b13);have q18:=((t0_f2.bp.ext e19).kb e20 b13);refine yD1 (i:=14) rfl (ox_callV (cap:=[(.pointer (some ⟨w12.heap.size,0,none⟩)),(.pointer (some ⟨w9.heap.size,0,none⟩))]) (al:=[(.slice A2 ((overG s2.g (⟨x_2.kind,x_2.n⟩:Sym) x_3.items).length) c3),(.agg #[(.int .i64 x_2.kind),(.int .i64 x_2.n)]),(.int .i64 ((q:Nat)))]) pf_98.h rfl rfl (ret_mono (add_calls2 s2 w8.heap.size w12.heap.size w9.heap.size w11.heap.size uA uc us (overG s2.g (⟨x_2.kind,x_2.n⟩:Sym) x_3.items) A2 c3 (⟨x_2.kind,x_2.n⟩:Sym) ((q:Nat)) w8 w25 x14 hSpr hG2 hT2 ((q17.ext e21).ext e22) ((q18.ext e21).ext e22) ((q15.ext e21).ext e22) ((q16.ext e21).ext e22) ((q14.ext e21).ext e22) t0_f2.low (StF.ext (StF.ext t0_f2.F x13) e22) hn2.1 (by omega) (by omega) (fun x hx=>okJ_small (hok9 x hx) hPg hRg) (fun x hx=>(hok9 x hx).1) hN2 hP2 ⟨by omega,by omega⟩) ?_));rintro _ w26 ⟨i2,sts2,sA2,sc2,rfl,hR2,hbm2,hbp2,hba2,hm2,ho2,hlo2,hF2,c4⟩;have hc4:=c4.size;have hls:=add_lens hR2;obtain ⟨x_4,g_4,hx_7⟩:=own_may (A:=sA2) q StD.len (by decide) ho2;obtain ⟨hx_8,hA_4,hc_4⟩:=hx_7 oM;have hyd:x_4.d=x_3.d:=addA_at hx_6 hR2 hx_8;have hya:x_4.arcs.length=k:=by rw [show x_4.arcs=x_3.arcs from congrArg ASt.arcs hyd];exact hW.now _ (map_get hx_6)
 refine ⟨.inl (by decide),?_⟩;refine yDp 15 ?_;refine xd_done (by kernel_rfl) ?_ _;refine go ?_;refine xc_regionE [20] (fun W_=>Chg (fun x=>((.slice x_4.aA x_4.arcs.length x_4.ac):Value).ownBlock=some x) w26 W_) hmix ?_;intro w27 e23 z19;have hS6:Chg (fun x=>((.slice x_4.aA x_4.arcs.length x_4.ac):Value).ownBlock=some x) w26 w27:=Ext.to e23;refine yDt (i:=0) rfl hS6 (fun W_ hW_=>ox_load tA_27.h rfl ((hbp2.ko hW_ ((StF.at hF2 hx_8).arcs)).cell rfl) ⟨rfl,rfl⟩) ?_;refine yDp 1 ?_;refine yDp 2 ?_;refine yDt (i:=3) rfl hS6 (fun W_ hW_=>ox_load tA_152.h rfl ((hba2.ko hW_ ((StF.at hF2 hx_8).arcs)).cell rfl) ⟨rfl,rfl⟩) ?_;refine yDp 4 ?_;refine yDt (i:=5) rfl hS6 (fun W_ hW_=>ox_load tA_27.h rfl ((hbp2.ko hW_ ((StF.at hF2 hx_8).arcs)).cell rfl) ⟨rfl,rfl⟩) ?_;refine yDp 6 ?_;refine yDp 7 ?_;refine yDt (i:=8) rfl hS6 (fun W_ hW_=>ox_load tA_152.h rfl ((hba2.ko hW_ ((StF.at hF2 hx_8).arcs)).cell rfl) ⟨rfl,rfl⟩) ?_;refine yDp 9 ?_;refine yDx (i:=10) q hA_4 ?_;refine yDp 11 ?_;refine yDt (i:=12) rfl hS6 (fun W_ hW_=>ox_load tA_149.h rfl (CellsL.at1 (CellsL.keep hW_ (fun _h=>(ho2).ne_own (StF.at hF2 hx_8).arcs (by decide) _ (by rw [hA_4]<;>rfl) _h) hc_4) 2 rfl) ⟨rfl,rfl⟩) ?_;have q19:=(((b14.ext e21).ext e22).keep c4 (fun hb=>by rcases hb with hb | hb | hb<;>first | omega | exact ((q14.ext e21).ext e22).ne_blk ((b14.ext e21).ext e22) (by decide) _ hb rfl));refine yDt (i:=13) rfl hS6 (fun W_ hW_=>ox_loadN (vs:=[(.int .i64 x_2.kind),(.int .i64 x_2.n)]) tA_75.h tS_75.h rfl rfl ⟨(q19.ko hW_ ((StF.at hF2 hx_8).arcs)).cell rfl,(q19.ko hW_ ((StF.at hF2 hx_8).arcs)).cell rfl,trivial⟩ ⟨rfl,rfl⟩) ?_;refine yDp 14 ?_;refine yDq (i:=15) rfl (fun W_ hW_=>ox_mkStruct (ps:=[(0,(.agg #[(.int .i64 x_2.kind),(.int .i64 x_2.n)])),(1,(.int .i64 i2))]) (cs:=#[(.int .i64 x_2.kind),(.int .i64 x_2.n),(.int .i64 i2)]) tZ_156.h tP_156.h rfl (by kernel_rfl) ⟨rfl,rfl⟩) ?_;refine yD1 (i:=16) rfl (ox_mkSlice (ps:=[(0,(.agg #[(.int .i64 x_2.kind),(.int .i64 x_2.n),(.int .i64 i2)]))]) (zs:=#[(.int .i64 0),(.int .i64 0),(.int .i64 0)]) (cs:=#[(.int .i64 x_2.kind),(.int .i64 x_2.n),(.int .i64 i2)]) tE_149.h rfl (by decide) (by kernel_rfl) (by kernel_rfl) ?_);intro w28 e24 z20 b15;replace b15:Blk w28 w27.heap.size #[(.int .i64 x_2.kind),(.int .i64 x_2.n),(.int .i64 i2)] 156:=b15;have hS7:Chg (fun x=>((.slice x_4.aA x_4.arcs.length x_4.ac):Value).ownBlock=some x) w26 w28:=Chg.ext hS6 e24;refine ⟨.inr fun _=>hS7,?_⟩;have q20:=(((StF.at hF2 hx_8).arcs.ext e23).ext e24);have x15:Ext w26 w28:=(Xt e23 e24);refine yD1 (i:=17) rfl (ox_appD (l:=x_4.arcs) (r:=[(⟨⟨x_2.kind,x_2.n⟩,i2⟩:Arc)]) (cs:=Arc.cs) rfl tE_149.h rfl (by decide) Arc.len Arc.one (v:=(.slice x_4.aA x_4.arcs.length x_4.ac)) rfl rfl (m:=1) rfl q20 b15.all aM (by decide) ?_);intro A3 c5 w29 o1 e25 at1 hc1;have he25:=e25.size;have low1:∀_k,(Value.slice A3 (x_4.arcs++[(⟨⟨x_2.kind,x_2.n⟩,i2⟩:Arc)]).length c5).ownBlock=some _k→w8.heap.size≤_k:=fun _k _h=>by rcases at1 with _e | _e<;>rw [_e] at _h;exact (StF.at hF2 hx_8).lowA _k _h;exact (by cases _h;omega)
 have hS8:Chg (fun x=>((.slice x_4.aA x_4.arcs.length x_4.ac):Value).ownBlock=some x) w26 w29:=Chg.trans hS7 e25 (fun x hx hl=>hx);refine ⟨.inr fun _=>hS8,?_⟩;refine yDx (i:=18) q hA_4 ?_;refine yDp 19 ?_;have q21:=(((ho2.ext e23).ext e24).ko e25 q20);refine yD1 (i:=20) rfl (ox_stE (i:=q) (off:=2) (vs:=[(.slice A3 ((x_4.arcs++[(⟨⟨x_2.kind,x_2.n⟩,i2⟩:Arc)]).length) c5)]) (b:=((StD.mk x_4.iA x_4.ic x_4.items x_4.kern A3 c5 (x_4.arcs++[(⟨⟨x_2.kind,x_2.n⟩,i2⟩:Arc)]) (⟨x_4.sym.kind,x_4.sym.n⟩:Sym) x_4.frm):StD)) StD.len tS_149.h hA_4 rfl (v:=(.slice A3 ((x_4.arcs++[(⟨⟨x_2.kind,x_2.n⟩,i2⟩:Arc)]).length) c5)) rfl rfl rfl rfl q21 hx_8 rfl (by decide) (by omega) ?_);intro w30 e26 z21 o2;refine ⟨.inl (by decide),?_⟩;refine xd_done (by kernel_rfl) ?_ _;refine go ?_;refine y_add ?_;have haw:=(arcS_walk (A:=A3) (c:=c5) hx_6 hR2 hx_8).1;have hW2:=hW.arc hG2 hNg hPg (z:=(⟨x_2.kind,x_2.n⟩:Sym)) (by omega);have q22:=(((hbm2.ext e23).ext e24).ko e25 q20);have q23:=(q22.ko e26 q21);have q24:=(((hbp2.ext e23).ext e24).ko e25 q20);have q25:=(q24.ko e26 q21);have q26:=(((hba2.ext e23).ext e24).ko e25 q20);have q27:=(q26.ko e26 q21);have q28:=((t0_f2.fb.ext e19).kb e20 b13);have q29:=(((q28.ext e21).ext e22).keep c4 (fun hb=>by rcases hb with hb | hb | hb<;>first | omega | exact ((q14.ext e21).ext e22).ne_blk ((q28.ext e21).ext e22) (by decide) _ hb rfl));have q30:=(((q29.ext e23).ext e24).ko e25 q20);have q31:=(q30.ko e26 q21);have q32:=(((hm2.ext e23).ext e24).ko e25 q20);have q33:=(q32.ko e26 q21);have q34:=(StF.keepO (StF.arcs (StF.ext hF2 x15) hx_8 e25 o1 low1 at1) e26 q21 (by decide) (by decide));have q35:=((t1_f2.ext e19).kl e20 (t1_f2.lt));have q36:=(((q35.ext e21).ext e22).keep c4 (fun k hk hb=>by rcases hb with hb | hb | hb<;>first | exact ((q35.ext e21).ext e22).ne_blk ((q15.ext e21).ext e22) (by decide) k hk hb | exact ((q35.ext e21).ext e22).ne_map ((q16.ext e21).ext e22) k hk hb | exact ((q35.ext e21).ext e22).ne_own ((q14.ext e21).ext e22) (by decide) k hk hb));have q37:=(((q36.ext e23).ext e24).ko e25 q20);have q38:=(q37.ko e26 q21);have x16:Ext w8 w30:=(Co (Chg.trans (Xt (Xt (Chg.trans x14 c4 (fun b hb hl=>absurd hl (by have _h:=(show w8.heap.size≤b from by rcases hb with hb | hb | hb<;>first | omega | exact t0_f2.low b hb);omega))) e23) e24) e25 (fun b hb hl=>(absurd hl (by have _h:=(StF.at hF2 hx_8).lowA b hb;omega)))) e26 hlo2);refine go ?_;exact ⟨rfl,(symsG s2.g x_1.items).length-(k+1),by omega,k+1,(sts2.set q ((StD.mk x_4.iA x_4.ic x_4.items x_4.kern A3 c5 (x_4.arcs++[(⟨⟨x_2.kind,x_2.n⟩,i2⟩:Arc)]) (⟨x_4.sym.kind,x_4.sym.n⟩:Sym) x_4.frm))),sA2,sc2,by omega,(by omega),(by show OkW s2.g q (k+1) ((List.set _ _ _).map StD.d);exact haw ▸ hW2.1),(haw.trans (by rw [hfo];exact (fold_take hx_4).symm)),(by have h9:=hW2.2;rw [List.length_map] at h9;show (List.set _ _ _).length≤_;rw [List.length_set];omega),rfl,rfl,rfl,rfl,rfl,rfl,rfl,rfl,rfl,rfl,rfl,rfl,rfl,rfl,rfl,rfl,rfl,rfl,rfl,rfl,rfl,rfl,rfl,rfl,vW,(AutW.set hx_8 rfl rfl q23 q25 q27 q31 q33 o2 hlo2 q34),q38,x16⟩
 refine go ?_;refine y_add ?_;have hrow:rowS s2.g q (ts.map StD.d)=us.map StD.d:=by unfold rowS;rw [bangA (map_get hx_2),hfo,List.take_of_length_le (by omega)]<;>rfl
 refine go ?_;exact ⟨rfl,1024-(q+1),by omega,q+1,us,uA,uc,by omega,(by omega),hW.leave,(by rw [←hrow,←buildF_row (by rw [List.length_map];exact hql) (by omega)];exact hbd),(by omega),rfl,rfl,rfl,vW,⟨t0_f2.bm,t0_f2.bp,t0_f2.ba,t0_f2.fb,t0_f2.mp,t0_f2.st,t0_f2.low,t0_f2.F⟩,x10⟩;refine go ?_;refine y_ld t0_f1.bp ?_;refine yOp (ox_mkStruct (ps:=[]) (cs:=#[(.int .i64 0),(.int .i64 0),(.string (⟨#[]⟩))]) tZ_65.h tP_65.h rfl (by kernel_rfl) ?_);refine go ?_;refine y_st t0_f1.fb ?_;intro w31 e27 z22 b16;replace b16:Blk w31 w1.heap.size #[(.int .i64 0),(.int .i64 0),(.string (⟨#[]⟩))] 65:=blk_full b16 rfl;refine go ?_;change leaves _ _ _ _ _ _ _;refine leaves_nil (n:=94) (rs:=[.tmp 2,.cell 3 65]) (vs:=[(.pointer (some ⟨w8.heap.size,0,none⟩)),(.agg #[(.int .i64 0),(.int .i64 0),(.string (⟨#[]⟩))])]) rfl ⟨⟨by decide,rfl⟩,⟨by decide,w1.heap.size,0,3,[(.int .i64 0),(.int .i64 0),(.string (⟨#[]⟩))],rfl,tA_65.h,tS_65.h,rfl,⟨b16.cell rfl,b16.cell rfl,b16.cell rfl,trivial⟩,rfl⟩,trivial⟩ ?_;have hOw9:=OwnS.mono (B':=w.heap.size) (by omega) ((hOw.ext x6).keepC e27 (fun b hb _ hk=>by have hk:b=_:=hk;omega));have x17:Ext w w31:=(Xc (Xt x4 x6) e27);have q39:=(t0_f1.ba.kb e27 t0_f1.fb);have q40:=(t0_f1.st.kb e27 t0_f1.fb);exact ⟨x17,.inr (.inr ⟨hck,s2,_,tA,tc,ts,by rw [←hg2,←hbd];exact buildF_end (by rw [List.length_map];omega) (by omega),hOw9,⟨by omega,q39,q40,(fun k hk=>Nat.le_trans hB0 (t0_f1.low k hk)),StF.mono hB0 (StF.keepB t0_f1.F e27 t0_f1.fb (by decide) (by decide))⟩,rfl⟩)⟩
theorem StF.keepC{B:Nat}{K:Nat→Prop}{w w':World}{l:List StD}(h:StF B w l)(c:Chg K w w')(hk:∀b,B≤b→b<w.heap.size→¬K b):StF B w' l :=
  ⟨fun x hx=>have q:=h.all x hx;⟨q.items.keep c fun k h1 h2=>hk k (q.lowI k h1) (q.items.lt k h1) h2,q.lowI,q.arcs.keep c fun k h1 h2=>hk k (q.lowA k h1) (q.arcs.lt k h1) h2,q.lowA⟩,h.apart⟩
theorem AutR.keepC{B:Nat}{K:Nat→Prop}{w w':World}{s:SP}{ba:Nat}{sA:Option Addr}{sc:Nat}{sts:List StD}(h:AutR B w s ba sA sc sts)(c:Chg K w w')(hk:∀b,B≤b→b<w.heap.size→¬K b):AutR B w' s ba sA sc sts :=
  ⟨h.lowb,h.ba.keep c (hk ba h.lowb h.ba.lt),h.st.keep c fun k h1 h2=>hk k (h.low k h1) (h.st.lt k h1) h2,h.low,h.F.keepC c hk⟩
structure AutX(B:Nat)(w:World)(s0:SP)(ba:Nat)(st:List ASt):Prop where
  ex:∃s sA sc sts,sts.map StD.d=st∧OwnS B w s0 s∧AutR B w s ba sA sc sts
  aut:Aut s0.g st
theorem AutX.keepC{B:Nat}{K:Nat→Prop}{w w':World}{s0:SP}{ba:Nat}{st:List ASt}(h:AutX B w s0 ba st)(c:Chg K w w')(hk:∀b,B≤b→b<w.heap.size→¬K b):AutX B w' s0 ba st:=by
  obtain ⟨⟨s,sA,sc,sts,h1,h2,h3⟩,h4⟩:=h;exact ⟨⟨s,sA,sc,sts,h1,h2.keepC c hk,h3.keepC c hk⟩,h4⟩
theorem AutX.ext{B:Nat}{w w':World}{s0:SP}{ba:Nat}{st:List ASt}(h:AutX B w s0 ba st)(c:Ext w w'):AutX B w' s0 ba st:=h.keepC c fun _ _ _ hk=>hk
section
variable {g:GD}{sts:List StD}(ha:Aut g (sts.map StD.d))
include ha
theorem lens_d(x:StD)(hx:x∈sts):x.items.length≤67240962∧x.arcs.length≤67240962:=ha.lens x.d (List.mem_map_of_mem hx)
theorem big_d:sts.length≤100000000000:=by have:=ha.big;rw [List.length_map] at this;exact this
theorem frm_d(k:Nat)(x:StD)(hx:sts[k]?=some x)(hk:k≠0):0≤x.frm∧x.frm<(k:Int):=ha.p.frm k x.d (map_get hx) hk
end
def builtG(g:GD):Option (List ASt):=if (checkE g).1=0 then buildG g else none
theorem autx_len{B:Nat}{w:World}{s0:SP}{ba:Nat}{st:List ASt}(h:AutX B w s0 ba st)   : Calls Tryz.prog 37 #[.pointer (some ⟨ba,0,none⟩)] w (Ret (fun v w'=>v = .int .i64 (st.length:Nat)∧Ext w w')):=by
  obtain ⟨⟨s,sA,sc,sts,rfl,hO,hA⟩,ha⟩:=h;refine ret_mono (len_calls s ba sA sc sts B  w hA.ba hA.st hA.F (lens_d ha) (big_d ha)) ?_;rintro v w' ⟨rfl,h⟩;exact ⟨by rw [List.length_map],h⟩
theorem autx_path{B:Nat}{w:World}{s0:SP}{ba:Nat}{st:List ASt}(h:AutX B w s0 ba st)(i:Int)  : Calls Tryz.prog 42 #[.pointer (some ⟨ba,0,none⟩),.int .i64 i] w (Ret (fun v w'=>∃A' c',v = .slice A' (pathS st i).length c'∧NewRow w w' 75 2 Sym.cs (pathS st i) A' c'∧Ext w w')):=by
  obtain ⟨⟨s,sA,sc,sts,rfl,hO,hA⟩,ha⟩:=h;refine ret_mono (path_calls s ba sA sc sts B i w hA.ba hA.st hA.F (lens_d ha) (big_d ha) (frm_d ha)) ?_;rintro v w' ⟨A',c',rfl,h1,h2⟩;rw [←pathA_d (frm_d ha)];exact ⟨A',c',rfl,h1,h2⟩
theorem autx_go{B:Nat}{w:World}{s0:SP}{ba:Nat}{st:List ASt}(h:AutX B w s0 ba st)(i:Int)(z:Sym)  : Calls Tryz.prog 36 #[.pointer (some ⟨ba,0,none⟩),.int .i64 i,.agg #[.int .i64 z.kind,.int .i64 z.n]] w (Ret (fun v w'=>v = .int .i64 (goS st i z)∧Ext w w')):=by
  obtain ⟨⟨s,sA,sc,sts,rfl,hO,hA⟩,ha⟩:=h;refine ret_mono (go_calls s ba sA sc sts B i z w hA.ba hA.st hA.F (lens_d ha) (big_d ha)) ?_;rintro v w' ⟨rfl,h⟩;rw [←goA_d];exact ⟨rfl,h⟩
theorem autx_run{B:Nat}{w:World}{s0:SP}{ba:Nat}{st:List ASt}(h:AutX B w s0 ba st)(l:List Sym)(A:Option Addr)(c:Nat)(hR:RowA w A (l.flatMap Sym.cs))(hn:l.length≤8796093022208):Calls Tryz.prog 41 #[.pointer (some ⟨ba,0,none⟩),.slice A l.length c] w (Ret (fun v w'=>v = .int .i64 (runS st 0 l)∧Ext w w')):=by
  obtain ⟨⟨s,sA,sc,sts,rfl,hO,hA⟩,ha⟩:=h;refine ret_mono (run_calls s ba sA sc sts B l A c w hA.ba hA.st hA.F (lens_d ha) (big_d ha) hR hn) ?_;rintro v w' ⟨rfl,h⟩;rw [←runA_d];exact ⟨rfl,h⟩
theorem autx_sym{B:Nat}{w:World}{s0:SP}{ba:Nat}{st:List ASt}(h:AutX B w s0 ba st)(i:Int)  : Calls Tryz.prog 123 #[.pointer (some ⟨ba,0,none⟩),.int .i64 i] w (Ret (fun v w'=>v = .tuple #[.agg #[.int .i64 (symS st i).1.kind,.int .i64 (symS st i).1.n],.bool (symS st i).2]∧Ext w w')):=by
  obtain ⟨⟨s,sA,sc,sts,rfl,hO,hA⟩,ha⟩:=h;refine ret_mono (symbol_calls2 s ba sA sc sts B i w hA.ba hA.st hA.F (lens_d ha) (big_d ha)) ?_;rintro v w' ⟨rfl,h⟩;rw [←symA_d];exact ⟨rfl,h⟩
def namesL(k:Nat):List Sym:=(List.range k).map fun (i:Nat)=>⟨3,(i:Nat)⟩
theorem fixN_flag{α:Type}{f:α→α×Bool}{μ:α→Nat}{Inv:α→Prop}(hf:∀h,Inv h→(f h).2=true→Inv (f h).1∧μ (f h).1<μ h)(hs:∀h,(f h).2=false→(f h).1=h):∀(k:Nat) (h:α),Inv h→μ h<k→Inv (fixN f k h)∧(f (fixN f k h)).2=false
  | 0,h,_,hk=>by omega
  | k+1,h,hi,hk=>by
    simp only [fixN]
    split
    rename_i hg;obtain ⟨h1,h2⟩:=hf h hi hg;exact fixN_flag hf hs k _ h1 (by omega);rename_i hg;have hg:(f h).2=false:=by simpa using hg
    rw [hs h hg];exact ⟨hi,hg⟩
structure InvD(g:GD)(K:List Itm)(h:CS):Prop where
  c:InvC g K h
  seen:∀(i:Nat) (x:Itm),i<h.2.2.toNat→h.1[i]?=some x→(behindG g x).isSome=true→(bhS g x).kind=3→0<h.2.1[(bhS g x).n.toNat]!
  all:∀n:Int,0≤n→0<h.2.1[n.toNat]!→∀(j:Nat) (p:P2),g.prods[j]?=some p→p.1=n→(⟨(j:Nat),0⟩:Itm)∈h.1
theorem bangI{l:List Int}{i:Nat}{x:Int}(h:l[i]?=some x):l[i]! = x:=by rw [List.getElem!_eq_getElem?_getD,h];rfl
theorem bangI_none{l:List Int}{i:Nat}(h:l.length≤i):l[i]! = 0:=by rw [List.getElem!_eq_getElem?_getD,List.getElem?_eq_none h];rfl
theorem setI_bang{l:List Int}{m k:Nat}{v:Int}(hm:m<l.length):(l.set m v)[k]! = if k=m then v else l[k]!:=by
  rw [List.getElem!_eq_getElem?_getD,List.getElem!_eq_getElem?_getD];by_cases h:k=m;subst h;rw [if_pos rfl,List.getElem?_set_self hm];rfl;rw [if_neg h,List.getElem?_set_ne (fun e=>h e.symm)]
theorem stepC_stop{g:GD}{K:List Itm}(h:CS)(hs:(stepC g K h).2=false):(stepC g K h).1=h∧h.1.length≤h.2.2.toNat:=by
  unfold stepC at hs ⊢
  split at hs
  split at hs<;>simp at hs
  rename_i hl;rw [if_neg hl];exact ⟨rfl,by omega⟩
theorem InvD.step{g:GD}{K:List Itm}(hG:GoodG g){h:CS}(hi:InvD g K h)(hs:(stepC g K h).2=true):InvD g K (stepC g K h).1:=by
  have hc:=(stepC_ok hG hi.c hs).1;obtain ⟨its,dn,q⟩:=h;have hq:=hi.c.q;have hse:=hi.seen;have hal:=hi.all;have hdl:=hi.c.dl;have hpre:=hi.c.pre;simp only at hq hse hal hdl hpre;rcases Nat.lt_or_ge q.toNat its.length with hlt|hge;have hx:its[q.toNat]?=some its[q.toNat]:=List.getElem?_eq_getElem hlt
  generalize its[q.toNat]=x at hx
  have hq1:(q+1).toNat=q.toNat+1:=by omega
  have hok:=hi.c.ok x (List.mem_of_getElem? hx);by_cases hcd:(behindG g x).isSome=true∧(bhS g x).kind=3∧¬0<dn[(bhS g x).n.toNat]!;have hn:=behind_name hG hok hcd.1 hcd.2.1;have hlt2:(bhS g x).n.toNat<dn.length:=by omega
  have hv:dn[(bhS g x).n.toNat]?=some dn[(bhS g x).n.toNat]:=List.getElem?_eq_getElem hlt2
  have hv0:dn[(bhS g x).n.toNat]=0:=by
    rcases hi.c.dv _ (List.mem_of_getElem? hv) with h1|h1;exact h1;exact absurd (by rw [bang_of hv,h1];decide) hcd.2.2
  rw [stepC_main hx hcd hv] at hc ⊢;rw [hv0] at hc ⊢;refine ⟨hc,fun i y hiq hy hb hk=>?_,fun n h0 hd j p hj hp=>?_⟩;simp only at hiq hy ⊢;rw [hq1] at hiq;rw [setI_bang hlt2]
  split
  decide
  rename_i hne;by_cases hiq2:i=q.toNat;subst hiq2;rw [List.getElem?_append_left hlt,hx] at hy;cases hy;exact absurd rfl hne;rw [List.getElem?_append_left (by omega)] at hy;exact hse i y (by omega) hy hb hk;simp only at hd ⊢;rw [setI_bang hlt2] at hd
  split at hd
  rename_i he;have he:n=(bhS g x).n:=by omega
  by_cases hK:(⟨(j:Nat),0⟩:Itm)∈K;refine List.mem_append_left _ ?_;rw [←hpre] at hK;exact List.mem_of_mem_take hK;exact List.mem_append_right _ ((newP_mem K _).2 ⟨j,p,hj,hp.trans he,by rw [Nat.zero_add],hK⟩);exact List.mem_append_left _ (hal n h0 hd j p hj hp);rw [stepC_skip hx hcd] at hc ⊢;refine ⟨hc,fun i y hiq hy hb hk=>?_,fun n h0 hd j p hj hp=>hal n h0 hd j p hj hp⟩;simp only at hiq hy ⊢;rw [hq1] at hiq;by_cases hiq2:i=q.toNat;subst hiq2;rw [hx] at hy;cases hy;exact Classical.byContradiction fun h9=>hcd ⟨hb,hk,h9⟩
  exact hse i y (by omega) hy hb hk;exact absurd hs (by rw [stepC_end (by omega)];decide)
theorem InvD.start{g:GD}{K:List Itm}(hI:∀x∈K,okI g x):InvD g K (K,List.replicate g.names 0,0):=by
  refine ⟨InvC.start hI,fun i x hi=>by simp at hi,fun n h0 hd=>?_⟩;simp only at hd
  have:(List.replicate g.names (0:Int))[n.toNat]! = 0:=by
    by_cases hl:n.toNat<g.names;exact bangI (by rw [List.getElem?_replicate,if_pos hl]);exact bangI_none (by rw [List.length_replicate];omega)
  rw [this] at hd;exact absurd hd (by decide)
theorem closG_closed{g:GD}(hG:GoodG g){K:List Itm}(hK:∀x∈K,okI g x){y:Itm}(hy:y∈closG g K){z:Sym}(hb:behindG g y=some z)(hk:z.kind=3){j:Nat}{p:P2}(hj:g.prods[j]?=some p)(hp:p.1=z.n):(⟨(j:Nat),0⟩:Itm)∈closG g K:=by
  rw [closG_mem] at hy ⊢;have hf:=fixN_flag (f:=stepC g K) (μ:=muC g) (Inv:=InvD g K) (fun h hi hs=>⟨hi.step hG hs,(stepC_ok hG hi.c hs).2⟩) (fun h hs=>(stepC_stop h hs).1) (muC g (K,List.replicate g.names 0,0)+1) _ (InvD.start hK) (Nat.lt_succ_self _);have hI:InvD g K (closF g K):=hf.1;have hl:=(stepC_stop _ hf.2).2;obtain ⟨i,hi⟩:=List.mem_iff_getElem?.1 hy;have hil:=(List.getElem?_eq_some_iff.1 hi).1;have hs:(behindG g y).isSome=true:=by rw [hb];rfl
  have he:bhS g y=z:=by rw [bhS,hb];rfl
  have hn:=behind_name hG (hI.c.ok y hy) hs (by rw [he];exact hk);have h1:=hI.seen i y (Nat.lt_of_lt_of_le hil hl) hi hs (by rw [he];exact hk);rw [he] at h1 hn;exact hI.all z.n hn.1 h1 j p hj hp
section
variable {g:GD}{st:List ASt}(h:Aut g st)
include h
theorem items_closed{k:Nat}{x:ASt}(hx:st[k]?=some x){y:Itm}(hy:y∈x.items){z:Sym}(hb:behindG g y=some z)(hk:z.kind=3){j:Nat}{p:P2}(hj:g.prods[j]?=some p)(hp:p.1=z.n):(⟨(j:Nat),0⟩:Itm)∈x.items:=by
  have hK:∀u∈x.kernel,okI g u:=fun u hu=>(h.ok.ok x (List.mem_of_getElem? hx) u (by
    have:=(kern_len h hx).2.2;rw [←this] at hu;exact List.mem_of_mem_take hu)).1
  rw [h.shape k x hx] at hy ⊢;exact closG_closed h.good.good hK hy hb hk hj hp
theorem item_over{k:Nat}{x:ASt}(hx:st[k]?=some x){y:Itm}(hy:y∈x.items){z:Sym}(hb:behindG g y=some z):∃(j:Nat) (u:ASt),goS st (k:Nat) z=(j:Nat)∧st[j]?=some u∧(⟨y.p,y.dot+1⟩:Itm)∈u.items:=by
  obtain ⟨j,u,e1,e2,_,_,e5,_⟩:=go_to h hx ((go_stands h hx z).2 ⟨y,hy,hb⟩);refine ⟨j,u,e1,e2,?_⟩;have hm:(⟨y.p,y.dot+1⟩:Itm)∈u.kernel:=by rw [e5];exact overG_mem.2 ⟨y,hy,hb,rfl⟩
  rw [←(kern_len h e2).2.2] at hm;exact List.mem_of_mem_take hm
omit h in
theorem closG_kmem{g:GD}{K:List Itm}{x:Itm}(hx:x∈K):x∈closG g K:=by
  have:=closG_pre (closF_pre g K);rw [←this] at hx;exact List.mem_of_mem_take hx
end
def stabS(add most:Int)(τ:Sym→Int)(g:GD)(h:List Int):Prop:=∀p∈g.prods,h[p.1.toNat]!≤sumR τ most h p.2 add
section
variable {add most:Int}{τ:Sym→Int}
theorem stepS_true:∀(l:List P2) (h:List Int),(stepS add most τ l h true).2=true
  | [],_=>rfl
  | p::r,h=>by
    rw [stepS];split<;>exact stepS_true r _
theorem stepS_stay:∀(l:List P2) (h:List Int),(stepS add most τ l h false).2=false→(stepS add most τ l h false).1=h∧∀p∈l,h[p.1.toNat]!≤sumR τ most h p.2 add
  | [],_,_=>⟨rfl,fun p hp=>by cases hp⟩
  | p::r,h,hf=>by
    rw [stepS] at hf ⊢
    split at hf
    rw [stepS_true] at hf;cases hf;rename_i hn;rw [if_neg hn];obtain ⟨h1,h2⟩:=stepS_stay r h hf;refine ⟨h1,fun q hq=>?_⟩;rcases List.mem_cons.1 hq with rfl|hq;omega;exact h2 q hq
theorem sumsG_stab{g:GD}(hG:GoodG g)(hadd:0≤add∧add≤1073741824)(hmost:0≤most∧most≤1073741824)(hτ:∀x,0≤τ x∧τ x≤1073741824):stabS add most τ g (sumsG add most τ g)∧∀v∈sumsG add most τ g,0≤v∧v≤most+1:=by
  have h:=fixN_flag (f:=fun h=>stepS add most τ g.prods h false) (μ:=sumN) (Inv:=fun h=>h.length=g.names∧∀v∈h,0≤v∧v≤most+1) (fun h hi hf=>stepS_inv hG hadd hmost hτ hi hf) (fun h hf=>(stepS_stay _ _ hf).1) (sumN (List.replicate g.names (most+1))+1) (List.replicate g.names (most+1)) ⟨List.length_replicate,fun v hv=>by rw [List.eq_of_mem_replicate hv];omega⟩ (Nat.lt_succ_self _);exact ⟨(stepS_stay _ _ h.2).2,h.1.2⟩
end
theorem YRs.mono{B B':Nat}{w:World}{Y:List YR}(h:YRs B w Y)(hb:B'≤B):YRs B' w Y:=fun x hx=>⟨(h x hx).1,fun k hk=>Nat.le_trans hb ((h x hx).2 k hk)⟩
theorem idxL_no{l:List Int}{i:Nat}{x:Int}(h:l[i]?=some x)(hx:x≤4096):idxL (l.drop i) i=idxL (l.drop (i+1)) (i+1):=by
  rw [drop_consY h,idxL,if_neg (by omega)]
theorem idxL_at{l:List Int}{i:Nat}{x:Int}(h:l[i]?=some x)(hx:4096<x):idxL (l.drop i) i=(i:Nat):=by
  rw [drop_consY h,idxL,if_pos hx]
instance pf_78:PlF Tryz.prog 78 where
instance pf_79:PlF Tryz.prog 79 where
theorem yields0_calls(x:Sym)(w:World)  :
    Calls Tryz.prog 78 #[(.agg #[(.int .i64 x.kind),(.int .i64 x.n)])] w (Ret (fun v w'=>v = .int .i64 1∧Ext w w')):=by
 refine calls_y (n:=3) Tryz.func78 ?_;refine go ?_;refine y_bx ?_;intro w1 e1 z1 b1;refine go ?_;refine y_r1 ?_;exact ⟨rfl,e1⟩
theorem yieldsX_calls(s:SP)(w:World)(hS:SpR w s)(hck:(checkE s.g).1=0)(hT:s.g.triv.length≤64)(hN:s.g.names≤128)(hR:∀x∈s.prods,x.right.length≤1000000) :
    Calls Tryz.prog 29 #[(.agg #[(.slice s.lA s.lex.length s.lc),(.slice s.nA s.names.length s.nc),(.int .i64 s.start),(.slice s.pA s.prods.length s.pc)])] w (Ret (fun v w'=>(0≤idxL (lensG s.g) 0∧v = .tuple #[.slice none 0 0,.agg #[.int .i64 6,.int .i64 (idxL (lensG s.g) 0),.string ⟨#[]⟩]]∧Ext w w')∨(idxL (lensG s.g) 0<0∧∃A Y,v = .tuple #[.slice A s.names.length s.names.length,.agg #[.int .i64 0,.int .i64 0,.string ⟨#[]⟩]]∧Y.map YR.l=yieldsG s.g∧Y.length=s.names.length∧(∀x∈Y,x.l = []→x.A=none)∧(∀x∈Y,x.l.length≤4097)∧YRs w.heap.size w' Y∧Vx.Own w' 39 1 (.slice A s.names.length s.names.length) s.names.length (Y.flatMap YR.cs)∧(∀k,(Value.slice A s.names.length s.names.length).ownBlock=some k→w.heap.size≤k)∧Ext w w'))):=by
 have hG:=(check_good hck).1;have hgn:s.g.names=s.names.length:=rfl;refine calls_y (n:=32) Tryz.func29 ?_;refine go ?_;refine y_bx ?_;intro w1 e1 z1 b1;refine go ?_;refine y_al ?_;intro w2 e2 z2 b2;refine go ?_;refine y_lN (vs:=[(.slice s.lA s.lex.length s.lc),(.slice s.nA s.names.length s.nc),(.int .i64 s.start),(.slice s.pA s.prods.length s.pc)]) ⟨(b1.ext e2).cell rfl,(b1.ext e2).cell rfl,(b1.ext e2).cell rfl,(b1.ext e2).cell rfl,trivial⟩ ?_;have x1:Ext w w2:=(Xt e1 e2);refine yCa (ret_mono ((by have h9:=check_calls s w2 (hS.ext x1);unfold faultV at h9;exact h9)) ?_);rintro _ w3 ⟨rfl,e3⟩;have he3:=e3.size;refine y_al ?_;intro w4 e4 z3 b3;refine y_st b3 ?_;intro w5 e5 z4 b4;replace b4:Blk w5 w3.heap.size #[(.int .i64 ((checkE s.g).1)),(.int .i64 ((checkE s.g).2)),(.string ((⟨#[]⟩:ByteArray)))] 65:=blk_full b4 rfl;refine go ?_;refine y_ld b4 ?_;refine go ?_;refine y_if (fun h1=>?_) (fun h1=>?_);exact absurd hck h1;have q1:=((((b1.ext e2).ext e3).ext e4).kb e5 b3);refine go ?_;refine y_lN (vs:=[(.slice s.lA s.lex.length s.lc),(.slice s.nA s.names.length s.nc),(.int .i64 s.start),(.slice s.pA s.prods.length s.pc)]) ⟨q1.cell rfl,q1.cell rfl,q1.cell rfl,q1.cell rfl,trivial⟩ ?_;have x2:Ext w w5:=(Xc (Xt (Xt x1 e3) e4) e5);refine yCa (ret_mono (sums_calls s 0 4096 (fun _=>1) 78 [] w5 (hS.ext x2) hG (by omega) (by omega) pf_78.h (fun _=>by omega) (fun x W=>yields0_calls x W)) ?_);rintro _ w6 ⟨lA,rfl,hlo_,hlo,eS⟩;have heS:=eS.size;have hlow9:∀k,(Value.slice lA s.names.length s.names.length).ownBlock=some k→w.heap.size≤k:=fun k hk=>by have _h:=hlo k hk;omega
 replace hlo_:Vx.Own w6 3 1 (.slice lA s.names.length s.names.length) s.names.length ((lensG s.g).flatMap ints):=hlo_;have hlb9:∀v∈lensG s.g,0≤v∧v≤4097:=fun v hv=>(sumsG_stab hG (by omega) (by omega) (fun _=>by omega)).2 v hv
 have hll9:(lensG s.g).length=s.names.length:=sumsG_len hG;refine go ?_;refine xc_loopN (fun m_ f_ Wx=>∃(i:Nat),m_=s.names.length-i∧(i≤s.names.length)∧(idxL (lensG s.g) 0=idxL ((lensG s.g).drop i) i)∧f_ 1=(.pointer (some ⟨w.heap.size,0,none⟩))∧f_ 3=(.pointer (some ⟨w1.heap.size,0,none⟩))∧f_ 5=(.slice lA s.names.length s.names.length)∧f_ 16=(.slice lA s.names.length s.names.length)∧f_ 17=(.int .i64 (((s.names.length:Nat):Int)))∧f_ 18=(.int .i64 ((i:Nat)))∧Ext w6 Wx) (s.names.length) ?_ ?_;exact ⟨0,(by omega),(by omega),rfl,rfl,rfl,rfl,rfl,rfl,vW,(Chg.refl _ _)⟩;rintro m_ f1 w7 ⟨i,hm_f1,hi,hq,g1_f1,g3_f1,g5_f1,g16_f1,g17_f1,g18_f1,x3⟩;have hx3:=x3.size;rw [←usf g1_f1,←usf g3_f1,←usf g5_f1,←usf g16_f1,←usf g17_f1,←usf g18_f1];refine go ?_;refine y_if (fun h2=>?_) (fun h2=>?_);obtain ⟨x_1,g_1,hx_1⟩:=own_may (A:=lA) i ints_len (by decide) (hlo_.ext x3);obtain ⟨hx_2,hA_1,hc_1⟩:=hx_1 oM;refine go ?_;refine y_ix i hA_1 ?_;refine y_lc (CellsL.at1 hc_1 0 rfl) ?_;refine go ?_;refine y_if (fun h3=>?_) (fun h3=>?_);refine go ?_;refine yOp (ox_mkStruct (ps:=[(0,(.int .i64 6)),(1,(.int .i64 ((i:Nat))))]) (cs:=#[(.int .i64 6),(.int .i64 ((i:Nat))),(.string (⟨#[]⟩))]) tZ_65.h tP_65.h rfl (by kernel_rfl) ?_);have q2:=(((b2.ext e3).ext e4).kl e5 b2.lt);refine go ?_;refine y_st ((q2.ext eS).ext x3) ?_;intro w8 e6 z5 b5;replace b5:Blk w8 w1.heap.size #[(.int .i64 6),(.int .i64 ((i:Nat))),(.string (⟨#[]⟩))] 65:=blk_full b5 rfl;refine go ?_;change leaves _ _ _ _ _ _ _;refine leaves_nil (n:=32) (rs:=[.tmp 2,.cell 3 65]) (vs:=[(.slice none 0 0),(.agg #[(.int .i64 6),(.int .i64 ((i:Nat))),(.string (⟨#[]⟩))])]) rfl ⟨⟨by decide,rfl⟩,⟨by decide,w1.heap.size,0,3,[(.int .i64 6),(.int .i64 ((i:Nat))),(.string (⟨#[]⟩))],rfl,tA_65.h,tS_65.h,rfl,⟨b5.cell rfl,b5.cell rfl,b5.cell rfl,trivial⟩,rfl⟩,trivial⟩ ?_;have hid9:idxL (lensG s.g) 0=(i:Nat):=by rw [hq];exact idxL_at hx_2 (by omega)
 have x4:Ext w w8:=(Xc (Xt (Xt x2 eS) x3) e6);exact .inl ⟨by omega,by rw [hid9]<;>rfl,x4⟩;refine go ?_;refine y_add ?_;refine go ?_;exact ⟨rfl,s.names.length-(i+1),by omega,i+1,by omega,(by omega),(by rw [hq,idxL_no hx_2 (by omega)]),rfl,rfl,rfl,rfl,rfl,vW,x3⟩;refine go ?_;refine y_lN (vs:=[(.slice s.lA s.lex.length s.lc),(.slice s.nA s.names.length s.nc),(.int .i64 s.start),(.slice s.pA s.prods.length s.pc)]) ⟨((q1.ext eS).ext x3).cell rfl,((q1.ext eS).ext x3).cell rfl,((q1.ext eS).ext x3).cell rfl,((q1.ext eS).ext x3).cell rfl,trivial⟩ ?_;have x5:Ext w w7:=(Xt (Xt x2 eS) x3);refine go ?_;refine yCa (ret_mono ((by have h9:=yieldsR_calls s (lensG s.g) lA s.names.length w7 (hS.ext x5) hG hT (by omega) (fun x hx=>hR x hx) (fun W hW=>(Own.rowO (hlo_.ext x3)).ext hW) hlb9 hll9;rw [hll9] at h9;exact h9)) ?_);rintro _ w9 ⟨A9,Y,rfl,hYm,hYn,hYi,hYl,hYr,hYo,hYw,eY⟩;have heY:=eY.size;have hlY9:∀k,(Value.slice A9 s.names.length s.names.length).ownBlock=some k→w.heap.size≤k:=fun k hk=>by have _h:=hYw k hk;omega
 refine yOp (ox_mkStruct (ps:=[]) (cs:=#[(.int .i64 0),(.int .i64 0),(.string (⟨#[]⟩))]) tZ_65.h tP_65.h rfl (by kernel_rfl) ?_);have q3:=(((b2.ext e3).ext e4).kl e5 b2.lt);refine go ?_;refine y_st (((q3.ext eS).ext x3).ext eY) ?_;intro w10 e7 z6 b6;replace b6:Blk w10 w1.heap.size #[(.int .i64 0),(.int .i64 0),(.string (⟨#[]⟩))] 65:=blk_full b6 rfl;refine go ?_;change leaves _ _ _ _ _ _ _;refine leaves_nil (n:=32) (rs:=[.tmp 2,.cell 3 65]) (vs:=[(.slice A9 s.names.length s.names.length),(.agg #[(.int .i64 0),(.int .i64 0),(.string (⟨#[]⟩))])]) rfl ⟨⟨by decide,rfl⟩,⟨by decide,w1.heap.size,0,3,[(.int .i64 0),(.int .i64 0),(.string (⟨#[]⟩))],rfl,tA_65.h,tS_65.h,rfl,⟨b6.cell rfl,b6.cell rfl,b6.cell rfl,trivial⟩,rfl⟩,trivial⟩ ?_;have hid9:idxL (lensG s.g) 0<0:=by rw [hq,List.drop_of_length_le (by omega)];show (-1:Int)<0;omega
 have q4:=(YRs.blk (YRs.mono (B':=w.heap.size) hYr (by omega)) e7 (((q3.ext eS).ext x3).ext eY) (by decide));have q5:=(hYo.kb e7 (((q3.ext eS).ext x3).ext eY));have x6:Ext w w10:=(Xc (Xt x5 eY) e7);exact .inr ⟨hid9,A9,Y,rfl,by rw [hYm]<;>rfl,hYn,hYi,hYl,q4,q5,hlY9,x6⟩
theorem isS_rng{st:List ASt}{i:Int}(h:isS st i=true):0≤i∧i<(st.length:Int):=by
  unfold isS at h;simpa using h
def emG(g:GD):List Bool:=madeG (fun _=>false) g
def nulS(g:GD)(x:Sym):Prop:=okS (fun _=>false) (emG g) x=true
def tno(g:GD)(z:Sym):Int:=if z.kind=1 then z.n else (g.triv.length:Int)
def endT(g:GD):Int:=(g.triv.length:Int)+1
inductive RdP(g:GD)(st:List ASt):Int→Int→Int→Prop
  | tm {n B:Int} {m:Nat} {z:Sym} : goS st n ⟨3,B⟩=(m:Nat)→z.kind≠3→0≤goS st (m:Nat) z→RdP g st n B (tno g z)
  | fin:RdP g st 0 g.start (endT g)
  | rd {n B C t:Int} {m:Nat} : goS st n ⟨3,B⟩=(m:Nat)→nulS g ⟨3,C⟩→0≤goS st (m:Nat) ⟨3,C⟩→RdP g st (m:Nat) C t→RdP g st n B t
inductive FolP(g:GD)(st:List ASt):Int→Int→Int→Prop
  | rd {n B t:Int} : 0≤goS st n ⟨3,B⟩→RdP g st n B t→FolP g st n B t
  | inc {m t:Int} {j k:Nat} {p:P2} {z:Sym} : FolP g st m p.1 t→0≤goS st m ⟨3,p.1⟩→g.prods[j]?=some p→p.2[k]?=some z→z.kind=3→(∀y∈p.2.drop (k+1),nulS g y)→FolP g st (runS st m (p.2.take k)) z.n t
def LookP(g:GD)(st:List ASt)(q p t:Int):Prop:=(p = -1∧goS st 0 ⟨3,g.start⟩=q∧t=endT g)∨∃(j:Nat) (pr:P2) (m:Int),p=(j:Nat)∧g.prods[j]?=some pr∧0≤goS st m ⟨3,pr.1⟩∧runS st m pr.2=q∧FolP g st m pr.1 t
theorem Sym.name{z:Sym}(h:z.kind=3):z=⟨3,z.n⟩:=by cases z;simp only at h;subst h;rfl
theorem run_one{st:List ASt}{q:Int}{z:Sym} : runS st q [z]=goS st q z:=by
  rw [runS]
  split
  rfl
  rfl
theorem rightG_nat{g:GD}{j:Nat}{p:P2}(h:g.prods[j]?=some p):rightG g (j:Nat)=p.2:=by
  unfold rightG;rw [if_neg (by omega)];show (g.prods[((j:Nat):Int).toNat]!).2=_;rw [show ((j:Nat):Int).toNat=j by omega,getElem!_def,h]
section
variable {g:GD}{st:List ASt}(h:Aut g st)
include h
theorem item_okI{n:Nat}{u:ASt}(hu:st[n]?=some u){x:Itm}(hx:x∈u.items):okI g x:=(h.ok.ok u (List.mem_of_getElem? hu) x hx).1
theorem at_state{q:Int}{z:Sym}(hg:0≤goS st q z):∃(n:Nat) (u:ASt),q=(n:Nat)∧st[n]?=some u:=by
  have hi:isS st q=true:=by
    cases hc:isS st q with
    | true=>rfl
    | false=>unfold goS at hg;rw [if_neg (by rw [hc];decide)] at hg;omega
  obtain ⟨h1,h2⟩:=isS_rng hi;obtain ⟨u,hu⟩:=get_ex (l:=st) (i:=q.toNat) (by omega);exact ⟨q.toNat,u,by omega,hu⟩
end
theorem behind_symE{g:GD}(hG:GoodG g){x:Itm}(hx:okI g x){z:Sym}(hb:behindG g x=some z):symE g z=0:=by
  unfold behindG at hb;rcases hx.1 with h1|⟨h1,h2⟩;unfold rightG at hb;rw [if_pos h1] at hb;have hlt:=(List.getElem?_eq_some_iff.1 hb).1;simp only [List.length_singleton] at hlt;have h0:x.dot.toNat=0:=by omega
  rw [h0] at hb;simp only [List.getElem?_cons_zero,Option.some.injEq] at hb;subst hb;unfold symE;rw [if_neg (show ¬(3:Int)=1 by decide),if_neg (show ¬(3:Int)=2 by decide),if_pos rfl,if_pos hG.1];obtain ⟨p,hp⟩:=get_ex (l:=g.prods) (i:=x.p.toNat) (by omega);rw [show x.p=((x.p.toNat:Nat):Int) by omega,rightG_nat hp] at hb;exact (hG.2 p (List.mem_of_getElem? hp)).2.2 z (List.mem_of_getElem? hb)
def MvP(st:List ASt)(q:Int×Int):Prop:=0≤goS st q.1 ⟨3,q.2⟩
instance (st:List ASt)(q:Int×Int):Decidable (MvP st q):=by unfold MvP;infer_instance
def DirP(g:GD)(st:List ASt)(q:Int×Int)(t:Int):Prop:=(∃(m:Nat) (z:Sym),goS st q.1 ⟨3,q.2⟩=(m:Nat)∧z.kind≠3∧0≤goS st (m:Nat) z∧t=tno g z)∨(q=(0,g.start)∧t=endT g)
inductive RT{α:Type}(E:α→α→Prop):α→α→Prop
  | refl (a:α):RT E a a
  | step {a b c:α} : E a b→RT E b c→RT E a c
def ReadE(g:GD)(st:List ASt)(q r:Int×Int):Prop:=∃m:Nat,goS st q.1 ⟨3,q.2⟩=(m:Nat)∧r.1=(m:Nat)∧nulS g ⟨3,r.2⟩∧MvP st r
def IncE(g:GD)(st:List ASt)(q r:Int×Int):Prop:=∃(j k:Nat) (p:P2) (z:Sym),g.prods[j]?=some p∧p.2[k]?=some z∧z.kind=3∧(∀y∈p.2.drop (k+1),nulS g y)∧MvP st r∧r.2=p.1∧q=(runS st r.1 (p.2.take k),z.n)
theorem rdP_rt{g:GD}{st:List ASt}{n B t:Int} : RdP g st n B t↔∃r,RT (ReadE g st) (n,B) r∧DirP g st r t:=by
  constructor;intro h
  induction h with
  | @tm n B m z hg hk hz=>exact ⟨(n,B),.refl _,.inl ⟨m,z,hg,hk,hz,rfl⟩⟩
  | fin=>exact ⟨(0,g.start),.refl _,.inr ⟨rfl,rfl⟩⟩
  | @rd n B C t m hg hn hc _ ih =>
    obtain ⟨r,h1,h2⟩:=ih;exact ⟨r,.step ⟨m,hg,rfl,hn,(show MvP st (((m:Nat):Int),C) from hc)⟩ h1,h2⟩
  rintro ⟨r,h1,h2⟩
  have key:∀q r:Int×Int,RT (ReadE g st) q r→DirP g st r t→RdP g st q.1 q.2 t:=by
    intro q r h1
    induction h1 with
    | refl a =>
      rintro (⟨m,z,e1,e2,e3,rfl⟩|⟨e1,e2⟩);exact .tm e1 e2 e3;subst e1;subst e2;exact .fin
    | @step a b c he _ ih =>
      intro hd;obtain ⟨m,e1,e2,e3,e4⟩:=he;have:=ih hd;rw [e2] at this;unfold MvP at e4;rw [e2] at e4;exact .rd e1 e3 e4 this
  exact key _ _ h1 h2
theorem folP_rt{g:GD}{st:List ASt}{n B t:Int} : FolP g st n B t↔∃r,RT (IncE g st) (n,B) r∧MvP st r∧RdP g st r.1 r.2 t:=by
  constructor;intro h
  induction h with
  | @rd n B t hg hr=>exact ⟨(n,B),.refl _,hg,hr⟩
  | @inc m t j k p z hf hg hj hz hk hn ih =>
    obtain ⟨r,h1,h2,h3⟩:=ih;exact ⟨r,.step ⟨j,k,p,z,hj,hz,hk,hn,(show MvP st (m,p.1) from hg),rfl,rfl⟩ h1,h2,h3⟩
  rintro ⟨r,h1,h2,h3⟩
  have key:∀q r:Int×Int,RT (IncE g st) q r→MvP st r→RdP g st r.1 r.2 t→FolP g st q.1 q.2 t:=by
    intro q r h1
    induction h1 with
    | refl a=>exact fun h2 h3=>.rd h2 h3
    | @step a b c he _ ih =>
      intro h2 h3;obtain ⟨j,k,p,z,e1,e2,e3,e4,e5,e6,e7⟩:=he;have:=ih h2 h3;unfold MvP at e5;rw [e6] at this e5;rw [e7];exact .inc this e5 e1 e2 e3 e4
  exact key _ _ h1 h2 h3
theorem rch_rt{α:Type}{E:α→α→Prop}{M:List α}{to:List (List Nat)}(hto:∀x a,M[x]?=some a→∀y,y∈to.getD x []↔∃b,M[y]?=some b∧E a b)(hE:∀a b,E a b→b∈M){x:Nat}{a:α}(hx:M[x]?=some a) :
    (∀y,Rch to x y→∃b,M[y]?=some b∧RT E a b)∧(∀b,RT E a b→∃y,M[y]?=some b∧Rch to x y):=by
  constructor;intro y hy
  induction hy generalizing a with
  | refl x=>exact ⟨a,hx,.refl _⟩
  | @step x y u h1 _ ih =>
    obtain ⟨b,hb,he⟩:=(hto _ _ hx _).1 h1;obtain ⟨c,hc,hr⟩:=ih hb;exact ⟨c,hc,.step he hr⟩
  intro b hb
  induction hb generalizing x with
  | refl a=>exact ⟨x,hx,.refl _⟩
  | @step a b c he _ ih =>
    obtain ⟨y,hy⟩:=List.mem_iff_getElem?.1 (hE _ _ he);obtain ⟨u,h1,h2⟩:=ih hy;exact ⟨u,h1,.step ((hto _ _ hx _).2 ⟨b,hy,he⟩) h2⟩
structure MvL(st:List ASt)(M:List (Int×Int)):Prop where
  nd:M.Nodup
  mem:∀q,q∈M↔MvP st q
theorem getD_out{α:Type}{l:List (List α)}{n x:Nat}(hl:l.length=n){y:α}(h:y∈l.getD x []):x<n:=by
  rcases Nat.lt_or_ge x n with h1|h1;exact h1;rw [List.getD_eq_getElem?_getD,List.getElem?_eq_none (by omega)] at h;cases h
theorem spread2{g:GD}{st:List ASt}{β:Type}{mem:β→Nat→Prop}{z:β}{or_:β→β→β}(hor:∀a b t,mem (or_ a b) t↔mem a t∨mem b t){M:List (Int×Int)}(hM:MvL st M)(hMn:M.length≤1000000000){F0:List β}(hF:F0.length=M.length)
    (h0:∀x a,M[x]?=some a→∀t:Nat,mem (F0.getD x z) t↔DirP g st a (t:Nat)) {rd inc:List (List Nat)} (lr:rd.length=M.length) (li:inc.length=M.length)
    (hrd:∀x a,M[x]?=some a→∀y,y∈rd.getD x []↔∃b,M[y]?=some b∧ReadE g st a b) (hinc:∀x a,M[x]?=some a→∀y,y∈inc.getD x []↔∃b,M[y]?=some b∧IncE g st a b) :
    (spreadS z or_ inc M.length (spreadS z or_ rd M.length F0)).length=M.length∧∀x a,M[x]?=some a→∀t:Nat,mem ((spreadS z or_ inc M.length (spreadS z or_ rd M.length F0)).getD x z) t↔FolP g st a.1 a.2 (t:Nat):=by
  have lt:∀ {x:Nat} {a:Int×Int},M[x]?=some a→x<M.length:=fun h=>(List.getElem?_eq_some_iff.1 h).1
  have to_lt:∀ {to:List (List Nat)} {E:Int×Int→Int×Int→Prop},to.length=M.length→(∀x a,M[x]?=some a→∀y,y∈to.getD x []↔∃b,M[y]?=some b∧E a b)→∀x y,y∈to.getD x []→y<M.length:=fun hl ht x y hy=>by
    have hx:=getD_out hl hy;obtain ⟨b,hb,_⟩:=(ht x M[x] (List.getElem?_eq_getElem hx) y).1 hy;exact lt hb
  obtain ⟨l1,s1⟩:=spread_ok (z:=z) (mem:=mem) hor hMn (to_lt lr hrd) hF;obtain ⟨l2,s2⟩:=spread_ok (z:=z) (mem:=mem) hor hMn (to_lt li hinc) l1
  have f1:∀x a,M[x]?=some a→∀t:Nat,mem ((spreadS z or_ rd M.length F0).getD x z) t↔RdP g st a.1 a.2 (t:Nat):=fun x a hx t=>by
    have hr:=rch_rt hrd (fun a b he=>(hM.mem b).2 (by obtain ⟨m,_,_,_,e⟩:=he;exact e)) hx;rw [s1 x (lt hx) t,rdP_rt];constructor;rintro ⟨y,h1,h2⟩;obtain ⟨b,h3,h4⟩:=hr.1 y h1;exact ⟨b,h4,(h0 _ _ h3 t).1 h2⟩;rintro ⟨b,h1,h2⟩;obtain ⟨y,h3,h4⟩:=hr.2 b h1;exact ⟨y,h4,(h0 _ _ h3 t).2 h2⟩
  refine ⟨l2,fun x a hx t=>?_⟩;have hr:=rch_rt hinc (fun a b he=>(hM.mem b).2 (by obtain ⟨j,k,p,z,_,_,_,_,e,_⟩:=he;exact e)) hx;rw [s2 x (lt hx) t,folP_rt];constructor;rintro ⟨y,h1,h2⟩;obtain ⟨b,h3,h4⟩:=hr.1 y h1;exact ⟨b,h4,(hM.mem b).1 (List.mem_of_getElem? h3),(f1 _ _ h3 t).1 h2⟩;rintro ⟨b,h1,h2,h5⟩;obtain ⟨y,h3,h4⟩:=hr.2 b h1;exact ⟨y,h4,(f1 _ _ h3 t).2 h5⟩
def rowM(st:List ASt)(n k:Nat):List (Int×Int):=(List.range k).filterMap fun i=>if 0≤goS st (n:Nat) ⟨3,(i:Nat)⟩ then some (((n:Nat):Int),((i:Nat):Int)) else none
def movesG(g:GD)(st:List ASt)(n:Nat):List (Int×Int):=(List.range n).flatMap fun a=>rowM st a g.names
theorem rowM_yes{st:List ASt}{n k:Nat}(h:0≤goS st (n:Nat) ⟨3,(k:Nat)⟩):rowM st n (k+1)=rowM st n k++[(((n:Nat):Int),((k:Nat):Int))]:=by
  unfold rowM;rw [List.range_succ,List.filterMap_append];simp [h]
theorem rowM_no{st:List ASt}{n k:Nat}(h:¬0≤goS st (n:Nat) ⟨3,(k:Nat)⟩):rowM st n (k+1)=rowM st n k:=by
  unfold rowM;rw [List.range_succ,List.filterMap_append];simp [h]
theorem movesG_succ{g:GD}{st:List ASt}{n:Nat} : movesG g st (n+1)=movesG g st n++rowM st n g.names:=by
  unfold movesG;rw [List.range_succ,List.flatMap_append];simp
theorem rowM_mem{st:List ASt}{n k:Nat}{q:Int×Int} : q∈rowM st n k↔∃b:Nat,b<k∧q=(((n:Nat):Int),((b:Nat):Int))∧MvP st q:=by
  unfold rowM;rw [List.mem_filterMap];constructor;rintro ⟨b,h1,h2⟩
  split at h2
  rename_i h3;cases h2;exact ⟨b,List.mem_range.1 h1,rfl,h3⟩;cases h2;rintro ⟨b,h1,rfl,h3⟩;exact ⟨b,List.mem_range.2 h1,if_pos h3⟩
theorem movesG_mem{g:GD}{st:List ASt}{n:Nat}{q:Int×Int} : q∈movesG g st n↔∃a b:Nat,a<n∧b<g.names∧q=(((a:Nat):Int),((b:Nat):Int))∧MvP st q:=by
  unfold movesG;rw [List.mem_flatMap];constructor;rintro ⟨a,h1,h2⟩;obtain ⟨b,h3,h4,h5⟩:=rowM_mem.1 h2;exact ⟨a,b,List.mem_range.1 h1,h3,h4,h5⟩;rintro ⟨a,b,h1,h2,h3,h4⟩;exact ⟨a,List.mem_range.2 h1,rowM_mem.2 ⟨b,h2,h3,h4⟩⟩
theorem moves_new{g:GD}{st:List ASt}{n k:Nat} : ((((n:Nat):Int),((k:Nat):Int)):Int×Int)∉movesG g st n++rowM st n k:=by
  intro h;rcases List.mem_append.1 h with h|h;obtain ⟨a,b,h1,h2,h3,_⟩:=movesG_mem.1 h;simp only [Prod.mk.injEq] at h3;omega;obtain ⟨b,h1,h3,_⟩:=rowM_mem.1 h;simp only [Prod.mk.injEq] at h3;omega
theorem nodup_snoc{α:Type}{l:List α}{x:α}(h:l.Nodup)(hx:x∉l):(l++[x]).Nodup:=by
  rw [List.nodup_append];exact ⟨h,by simp,fun a ha b hb=>by rw [List.mem_singleton.1 hb];exact fun e=>hx (e ▸ ha)⟩
theorem rowM_nodup{g:GD}{st:List ASt}{n:Nat}(h:(movesG g st n).Nodup):∀k,(movesG g st n++rowM st n k).Nodup
  | 0=>by simpa [rowM] using h
  | k+1=>by
    by_cases hc:0≤goS st (n:Nat) ⟨3,(k:Nat)⟩;rw [rowM_yes hc,←List.append_assoc];exact nodup_snoc (rowM_nodup h k) moves_new;rw [rowM_no hc];exact rowM_nodup h k
theorem movesG_nodup{g:GD}{st:List ASt} : ∀n,(movesG g st n).Nodup
  | 0=>by simp [movesG]
  | n+1=>by rw [movesG_succ];exact rowM_nodup (movesG_nodup n) _
theorem rowM_len{st:List ASt}{n k:Nat} : (rowM st n k).length≤k:=by
  have:=List.length_filterMap_le (fun i:Nat=>if 0≤goS st (n:Nat) ⟨3,(i:Nat)⟩ then some (((n:Nat):Int),((i:Nat):Int)) else none) (List.range k);rw [List.length_range] at this;exact this
theorem movesG_len{g:GD}{st:List ASt} : ∀n,(movesG g st n).length≤n*g.names
  | 0=>by simp [movesG]
  | n+1=>by
    rw [movesG_succ,List.length_append,Nat.add_mul];have h1:=movesG_len (g:=g) (st:=st) n;have h2:=rowM_len (st:=st) (n:=n) (k:=g.names);omega
section
variable {g:GD}{st:List ASt}(h:Aut g st)
include h
theorem go_symE{q:Int}{z:Sym}(hg:0≤goS st q z):symE g z=0:=by
  obtain ⟨n,u,rfl,hu⟩:=at_state h hg;obtain ⟨y,hy,hb⟩:=(go_stands h hu z).1 hg;exact behind_symE h.good.good (item_okI h hu hy) hb
theorem movesG_all:MvL st (movesG g st st.length):=by
  refine ⟨movesG_nodup _,fun q=>⟨fun hq=>by obtain ⟨_,_,_,_,_,e⟩:=movesG_mem.1 hq;exact e,fun hq=>?_⟩⟩;obtain ⟨n,u,e1,hu⟩:=at_state h hq;have h1:=go_symE h hq;unfold symE at h1;rw [if_neg (show ¬(3:Int)=1 by decide),if_neg (show ¬(3:Int)=2 by decide),if_pos rfl] at h1
  split at h1
  rename_i h2;simp only at h2;refine movesG_mem.2 ⟨n,q.2.toNat,(List.getElem?_eq_some_iff.1 hu).1,by omega,?_,hq⟩
  ext
  exact e1;show q.2=((q.2.toNat:Nat):Int);omega;cases h1
theorem moves_small:(movesG g st st.length).length≤131200:=by
  exact Nat.le_trans (movesG_len _) (Nat.mul_le_mul h.few h.good.names)
end
def idxV(M:List (Int×Int))(q:Int×Int):Option Value:=if q∈M then some (.agg #[.int .i64 ((M.idxOf q:Nat):Int)]) else none
theorem idxV_snoc{M:List (Int×Int)}{q0:Int×Int}(hn:q0∉M)(q:Int×Int):idxV (M++[q0]) q=if q=q0 then some (.agg #[.int .i64 ((M.length:Nat):Int)]) else idxV M q:=by
  unfold idxV;by_cases h:q=q0;subst h;rw [if_pos (by simp),if_pos rfl,List.idxOf_append,if_neg hn];simp;rw [if_neg h];by_cases hm:q∈M;rw [if_pos (by simp [hm]),if_pos hm,List.idxOf_append,if_pos hm];rw [if_neg (by simp [hm,h]),if_neg hm]
theorem idxOf_at{M:List (Int×Int)}{q:Int×Int}(hm:q∈M):M[M.idxOf q]?=some q:=by
  have h1:=List.idxOf_lt_length_of_mem hm;rw [List.getElem?_eq_getElem h1,List.getElem_idxOf h1]
theorem idxOf_of{M:List (Int×Int)}(hn:M.Nodup){q:Int×Int}{y:Nat}(hy:M[y]?=some q):M.idxOf q=y:=by
  have h1:=idxOf_at (List.mem_of_getElem? hy);have hl:=(List.getElem?_eq_some_iff.1 hy).1;have hl2:=(List.getElem?_eq_some_iff.1 h1).1;exact (List.getElem?_inj hl2 hn).1 (h1.trans hy.symm)
structure NR where
  A:Option Addr
  c:Nat
  l:List Nat
deriving Inhabited
def NR.cs(x:NR):List Value:=[.slice x.A x.l.length x.c]
theorem NR.len(x:NR):x.cs.length=1:=rfl
theorem NR.one(x:NR):x.cs.all Value.oneCell'=true:=rfl
def nats(x:Nat):List Value:=[.int .i64 ((x:Nat):Int)]
theorem nats_len(x:Nat):(nats x).length=1:=rfl
theorem nats_one(x:Nat):(nats x).all Value.oneCell'=true:=rfl
def MV.cs(x:Int×Int):List Value:=[.int .i64 x.1,.int .i64 x.2]
theorem MV.len(x:Int×Int):(MV.cs x).length=2:=rfl
theorem MV.one(x:Int×Int):(MV.cs x).all Value.oneCell'=true:=rfl
def nulB(g:GD)(x:Sym):Bool:=okS (fun _=>false) (emG g) x
theorem nulB_iff{g:GD}{l:List Sym} : l.all (nulB g)=true↔∀y∈l,nulS g y:=List.all_eq_true
instance tF_206_2:FdT Tryz.prog 206 2 5 where
theorem nothing_calls(s:SP)(ba bm:Nat)(eA mA rA iA fA:Option Addr)(ec mn mc rn rc in_ ic fn_ fc mp mb:Nat)(l:List Sym)(A:Option Addr)(c:Nat)(w:World)(hb:Blk w bm #[(.pointer (some ⟨ba,0,none⟩)),(.slice s.lA s.lex.length s.lc),(.slice s.nA s.names.length s.nc),(.int .i64 s.start),(.slice s.pA s.prods.length s.pc),(.slice eA s.names.length ec),(.slice mA mn mc),(.map (some mp)),(.slice rA rn rc),(.slice iA in_ ic),(.slice fA fn_ fc),(.map (some mb))] 206)(hE:RowA w eA ((emG s.g).flatMap bools))(hA:RowA w A (l.flatMap Sym.cs))(hn:l.length≤8796093022208)(hR:∀x∈l,symE s.g x=0) :
    Calls Tryz.prog 169 #[(.pointer (some ⟨bm,0,none⟩)),(.slice A l.length c)] w (Ret (fun v w'=>v = .bool (l.all (nulB s.g))∧Ext w w')):=by
 have hel:(emG s.g).length=s.names.length:=madeG_len _ _;refine calls_y (n:=28) Tryz.func169 ?_;refine go ?_;refine xc_loopN (fun m_ f_ Wx=>∃(i:Nat),m_=l.length-i∧(i≤l.length)∧(l.all (nulB s.g)=(l.drop i).all (nulB s.g))∧f_ 0=(.pointer (some ⟨bm,0,none⟩))∧f_ 7=(.slice A l.length c)∧f_ 8=(.int .i64 (((l.length:Nat):Int)))∧f_ 9=(.int .i64 ((i:Nat)))∧Ext w Wx) (l.length) ?_ ?_;exact ⟨0,(by omega),(by omega),rfl,rfl,rfl,rfl,vW,(Chg.refl _ _)⟩;rintro m_ f1 w1 ⟨i,hm_f1,hi,hq,g0_f1,g7_f1,g8_f1,g9_f1,x1⟩;have hx1:=x1.size;rw [←usf g0_f1,←usf g7_f1,←usf g8_f1,←usf g9_f1];refine go ?_;refine y_if (fun h1=>?_) (fun h1=>?_);obtain ⟨x_1,g_1,o_1,hx_1⟩:=row_may (A:=A) (cs:=Sym.cs) i Sym.len (by decide) (RowA.ext hA x1);obtain ⟨hx_2,hA_1,hc_1⟩:=hx_1 oM;refine go ?_;refine y_ix i hA_1 ?_;refine y_lN (vs:=[(.int .i64 x_1.kind),(.int .i64 x_1.n)]) hc_1 ?_;refine y_al ?_;intro w2 e1 z1 b1;refine y_st b1 ?_;intro w3 e2 z2 b2;replace b2:Blk w3 w1.heap.size #[(.int .i64 x_1.kind),(.int .i64 x_1.n)] 75:=blk_full b2 rfl;have x2:Ext w1 w3:=(Xc e1 e2);refine go ?_;by_cases h2:(x_1.kind:Int)≠3;refine xc_regionE [] (fun W_=>Chg (fun _=>False) w3 W_) hmix ?_;intro w4 e3 z3;have hS1:Chg (fun _=>False) w3 w4:=Ext.to e3;refine yDp 0 ?_;refine yDt (i:=1) rfl hS1 (fun W_ hW_=>ox_load tA_3.h rfl ((b2.ext hW_).cell rfl) ⟨rfl,rfl⟩) ?_;refine yDp 2 ?_;refine yDp 3 ?_;refine ysD (s:=16) (bT (decide_eq_true h2)) ?_;refine yDp 4 ?_;refine yDp 5 ?_;refine yDp 6 ?_;refine xd_take 7 (some 20) rfl rfl (by kernel_rfl) (v:=undef) (.inr ⟨rfl,rfl⟩) hS1 ?_;refine yDp 8 ?_;refine xd_take 9 (some 22) rfl rfl (by kernel_rfl) (v:=undef) (.inr ⟨rfl,rfl⟩) hS1 ?_;refine yDp 10 ?_;refine xd_take 11 (some 24) rfl rfl (by kernel_rfl) (v:=undef) (.inr ⟨rfl,rfl⟩) hS1 ?_;refine yDp 12 ?_;refine yDp 13 ?_;refine xd_done (by kernel_rfl) ?_ _;refine go ?_;refine y_r1 ?_;have x3:Ext w w4:=(Xt (Xc (Xt x1 e1) e2) e3);exact ⟨congrArg Value.bool (by rw [hq,drop_get hx_2,List.all_cons,show nulB s.g x_1=false from by unfold nulB okS;rw [if_neg (by omega)]]<;>rfl),x3⟩;have hnr_:=symE_name (hR _ (List.mem_of_getElem? hx_2)) (by omega);have hgn_:s.g.names=s.names.length:=rfl;refine xc_regionE [] (fun W_=>Chg (fun _=>False) w3 W_) hmix ?_;intro w5 e4 z4;have hS2:Chg (fun _=>False) w3 w5:=Ext.to e4;refine yDp 0 ?_;refine yDt (i:=1) rfl hS2 (fun W_ hW_=>ox_load tA_3.h rfl ((b2.ext hW_).cell rfl) ⟨rfl,rfl⟩) ?_;refine yDp 2 ?_;refine yDp 3 ?_;refine ysD (s:=16) (bF (decide_eq_false h2)) ?_;refine yDp 4 ?_;refine yDp 5 ?_;refine yDp 6 ?_;have q1:=(((hb.ext x1).ext e1).kb e2 b1);refine yDt (i:=7) rfl hS2 (fun W_ hW_=>ox_load tA_106.h rfl ((q1.ext hW_).cell rfl) ⟨rfl,rfl⟩) ?_;refine yDp 8 ?_;refine yDt (i:=9) rfl hS2 (fun W_ hW_=>ox_load tA_3.h rfl ((b2.ext hW_).cell rfl) ⟨rfl,rfl⟩) ?_;have x4:Ext w w3:=(Xc (Xt x1 e1) e2);obtain ⟨x_2,g_2,o_2,hx_3⟩:=row_may (A:=eA) (cs:=bools) x_1.n.toNat bools_len (by decide) (RowA.ext hE x4);obtain ⟨hx_4,hA_2,hc_2⟩:=hx_3 oM;refine yDx (i:=10) x_1.n.toNat hA_2 ?_;refine yDt (i:=11) rfl hS2 (fun W_ hW_=>ox_load tA_4.h rfl (CellsL.at1 (CellsL.keep hW_ not_false hc_2) 0 rfl) ⟨rfl,rfl⟩) ?_
 refine yDp 12 ?_;refine yDp 13 ?_;refine xd_done (by kernel_rfl) ?_ _;refine go ?_;refine xc_cond (b:=(!x_2)) rfl (fun h3=>?_) (fun h3=>?_);have h3':=bS h3;refine go ?_;refine y_r1 ?_;have x5:Ext w w5:=(Xt x4 e4);exact ⟨congrArg Value.bool (by rw [hq,drop_get hx_2,List.all_cons,show nulB s.g x_1=false from by unfold nulB okS;rw [if_pos (by omega),bang_of hx_4];simpa using h3]<;>rfl),x5⟩;have h3':=bS h3;refine go ?_;refine y_add ?_;have x6:Ext w w5:=(Xt x4 e4);refine go ?_;exact ⟨rfl,l.length-(i+1),by omega,i+1,by omega,(by omega),(hq.trans (by rw [drop_get hx_2,List.all_cons,show nulB s.g x_1=true from by unfold nulB okS;rw [if_pos (by omega)];rw [bang_of hx_4];simpa using h3]<;>rfl)),rfl,rfl,rfl,vW,x6⟩;refine go ?_;refine y_r1 ?_;exact ⟨congrArg Value.bool (by rw [hq,List.drop_of_length_le (by omega)]<;>rfl),x1⟩
theorem nullableX_calls(s:SP)(w:World)(hS:SpR w s)(hck:(checkE s.g).1=0) :
    Calls Tryz.prog 110 #[(.agg #[(.slice s.lA s.lex.length s.lc),(.slice s.nA s.names.length s.nc),(.int .i64 s.start),(.slice s.pA s.prods.length s.pc)])] w (Ret (fun v w'=>∃A,v = .tuple #[.slice A s.names.length s.names.length,.agg #[.int .i64 0,.int .i64 0,.string ⟨#[]⟩]]∧Vx.Own w' 4 1 (.slice A s.names.length s.names.length) s.names.length ((emG s.g).flatMap bools)∧(∀k,(Value.slice A s.names.length s.names.length).ownBlock=some k→w.heap.size≤k)∧Ext w w')):=by
 have hG:=(check_good hck).1;refine calls_y (n:=14) Tryz.func110 ?_;refine go ?_;refine y_bx ?_;intro w1 e1 z1 b1;refine go ?_;refine y_al ?_;intro w2 e2 z2 b2;refine go ?_;refine y_lN (vs:=[(.slice s.lA s.lex.length s.lc),(.slice s.nA s.names.length s.nc),(.int .i64 s.start),(.slice s.pA s.prods.length s.pc)]) ⟨(b1.ext e2).cell rfl,(b1.ext e2).cell rfl,(b1.ext e2).cell rfl,(b1.ext e2).cell rfl,trivial⟩ ?_;have x1:Ext w w2:=(Xt e1 e2);refine yCa (ret_mono ((by have h9:=check_calls s w2 (hS.ext x1);unfold faultV at h9;exact h9)) ?_);rintro _ w3 ⟨rfl,e3⟩;have he3:=e3.size;refine y_al ?_;intro w4 e4 z3 b3;refine y_st b3 ?_;intro w5 e5 z4 b4;replace b4:Blk w5 w3.heap.size #[(.int .i64 ((checkE s.g).1)),(.int .i64 ((checkE s.g).2)),(.string ((⟨#[]⟩:ByteArray)))] 65:=blk_full b4 rfl;refine go ?_;refine y_ld b4 ?_;refine go ?_;refine y_if (fun h1=>?_) (fun h1=>?_);exact absurd hck h1;have q1:=((((b1.ext e2).ext e3).ext e4).kb e5 b3);refine go ?_;refine y_lN (vs:=[(.slice s.lA s.lex.length s.lc),(.slice s.nA s.names.length s.nc),(.int .i64 s.start),(.slice s.pA s.prods.length s.pc)]) ⟨q1.cell rfl,q1.cell rfl,q1.cell rfl,q1.cell rfl,trivial⟩ ?_;have x2:Ext w w5:=(Xc (Xt (Xt x1 e3) e4) e5);refine yCa (ret_mono (nullable_calls s w5 (hS.ext x2) hG) ?_);rintro _ w6 ⟨A1,rfl,o1,lo1,e6⟩;have he6:=e6.size;refine yOp (ox_mkStruct (ps:=[]) (cs:=#[(.int .i64 0),(.int .i64 0),(.string (⟨#[]⟩))]) tZ_65.h tP_65.h rfl (by kernel_rfl) ?_);have q2:=(((b2.ext e3).ext e4).kl e5 b2.lt);refine go ?_;refine y_st (q2.ext e6) ?_;intro w7 e7 z5 b5;replace b5:Blk w7 w1.heap.size #[(.int .i64 0),(.int .i64 0),(.string (⟨#[]⟩))] 65:=blk_full b5 rfl;refine go ?_;change leaves _ _ _ _ _ _ _;refine leaves_nil (n:=14) (rs:=[.tmp 2,.cell 3 65]) (vs:=[(.slice A1 s.names.length s.names.length),(.agg #[(.int .i64 0),(.int .i64 0),(.string (⟨#[]⟩))])]) rfl ⟨⟨by decide,rfl⟩,⟨by decide,w1.heap.size,0,3,[(.int .i64 0),(.int .i64 0),(.string (⟨#[]⟩))],rfl,tA_65.h,tS_65.h,rfl,⟨b5.cell rfl,b5.cell rfl,b5.cell rfl,trivial⟩,rfl⟩,trivial⟩ ?_;have q3:=(o1.kb e7 (q2.ext e6));have x3:Ext w w7:=(Xc (Xt x2 e6) e7);exact ⟨A1,rfl,by have h9:=q3;exact h9,fun k hk=>by have _h:=lo1 k hk;omega,x3⟩
def NRs(B:Nat)(w:World)(R:List NR):Prop:=∀x∈R,Vx.Own w 3 1 (.slice x.A x.l.length x.c) x.l.length (x.l.flatMap nats)∧∀k,(Value.slice x.A x.l.length x.c).ownBlock=some k→B≤k
theorem NRs.keep{B:Nat}{K:Nat→Prop}{w w':World}{R:List NR}(h:NRs B w R)(c:Chg K w w')(hk:∀x∈R,∀k,(Value.slice x.A x.l.length x.c).ownBlock=some k→k<w.heap.size→¬K k):NRs B w' R :=
  fun x hx=>⟨(h x hx).1.keep c fun k h1 h2=>hk x hx k h1 ((h x hx).1.lt k h1) h2,(h x hx).2⟩
theorem NRs.ext{B:Nat}{w w':World}{R:List NR}(h:NRs B w R)(c:Ext w w'):NRs B w' R:=h.keep c fun _ _ _ _ _ hk=>hk
theorem NRs.blk{B b t:Nat}{cs:Array Value}{w w':World}{R:List NR}(h:NRs B w R)(c:Chg1 b w w')(hb:Blk w b cs t)(ht:3≠t):NRs B w' R:=h.keep c fun x hx k hk _ hh=>(h x hx).1.ne_blk hb ht k hk hh
theorem NRs.map{κ:Type}{enc:κ→Value}{b:Nat}{m:List (κ×Value)}{B:Nat}{w w':World}{R:List NR}(h:NRs B w R)(c:Chg1 b w w')(hb:MapB enc w b m):NRs B w' R:=h.keep c fun x hx k hk _ hh=>(h x hx).1.ne_map hb k hk hh
theorem NRs.own{B e sz n:Nat}{v:Value}{xs:List Value}{w w':World}{R:List NR}(h:NRs B w R)(c:Chg (fun b=>v.ownBlock=some b) w w')(ho:Vx.Own w e sz v n xs)(ht:3≠e):NRs B w' R:=h.keep c fun x hx k hk _ hh=>(h x hx).1.ne_own ho ht k hk hh
theorem NRs.low{B:Nat}{v:Value}{w0 w w':World}{R:List NR}(h0:NRs B w0 R)(h:NRs B w R)(c:Chg (fun b=>v.ownBlock=some b) w w')(hl:∀k,v.ownBlock=some k→w0.heap.size≤k):NRs B w' R:=h.keep c fun x hx k hk _ hh=>by
  have h1:=(h0 x hx).1.lt k hk;have h2:=hl k hh;omega
theorem NRs.nil{B:Nat}{w:World} : NRs B w []:=fun x hx=>by cases hx
theorem NRs.snoc{B:Nat}{w:World}{R:List NR}(h:NRs B w R){x:NR}(ho:Vx.Own w 3 1 (.slice x.A x.l.length x.c) x.l.length (x.l.flatMap nats))(hl:∀k,(Value.slice x.A x.l.length x.c).ownBlock=some k→B≤k):NRs B w (R++[x]):=fun y hy=>by
  rcases List.mem_append.1 hy with hy|hy;exact h y hy;rw [List.mem_singleton.1 hy];exact ⟨ho,hl⟩
structure MkG(s:SP)(ba bm mp mb B:Nat)(eA:Option Addr)(ec:Nat)(M:List (Int×Int))(mA:Option Addr)(mc:Nat)(pl:List ((Int×Int)×Value))(R:List NR)(rA:Option Addr)(rc:Nat)(F:List BS)(fA:Option Addr)(fc:Nat)(I:List NR)(iA:Option Addr)(ic:Nat)(bk:List ((Int×Int)×Value))(w:World):Prop where
  bm:Blk w bm #[(.pointer (some ⟨ba,0,none⟩)),(.slice s.lA s.lex.length s.lc),(.slice s.nA s.names.length s.nc),(.int .i64 s.start),(.slice s.pA s.prods.length s.pc),(.slice eA s.names.length ec),(.slice mA M.length mc),(.map (some mp)),(.slice rA R.length rc),(.slice iA I.length ic),(.slice fA F.length fc),(.map (some mb))] 206
  e:Vx.Own w 4 1 (.slice eA s.names.length ec) s.names.length ((emG s.g).flatMap bools)
  lowE:∀k,(Value.slice eA s.names.length ec).ownBlock=some k→B≤k
  m:Vx.Own w 265 2 (.slice mA M.length mc) M.length (M.flatMap MV.cs)
  lowM:∀k,(Value.slice mA M.length mc).ownBlock=some k→B≤k
  p:MapB pairE w mp pl
  r:Vx.Own w 39 1 (.slice rA R.length rc) R.length (R.flatMap NR.cs)
  lowR:∀k,(Value.slice rA R.length rc).ownBlock=some k→B≤k
  rr:NRs B w R
  f:Vx.Own w 160 2 (.slice fA F.length fc) F.length (F.flatMap BS.cs)
  lowF:∀k,(Value.slice fA F.length fc).ownBlock=some k→B≤k
  i:Vx.Own w 39 1 (.slice iA I.length ic) I.length (I.flatMap NR.cs)
  lowI:∀k,(Value.slice iA I.length ic).ownBlock=some k→B≤k
  b:MapB pairE w mb bk
def dirTo(g:GD)(st:List ASt)(m:Int)(t:Nat):BS:=(List.range t).foldl (fun D u=>if (symT g (u:Nat)).2=true∧0≤goS st m (symT g (u:Nat)).1 then D.and u else D) BS.z
def dirG(g:GD)(st:List ASt)(q:Int×Int):BS:=if q.1=0∧q.2=g.start then (dirTo g st (goS st q.1 ⟨3,q.2⟩) (g.triv.length+1)).and (g.triv.length+1) else dirTo g st (goS st q.1 ⟨3,q.2⟩) (g.triv.length+1)
def rdTo(g:GD)(M:List (Int×Int))(m:Int)(k:Nat):List Nat:=(List.range k).filterMap fun j=>if (m,((j:Nat):Int))∈M∧(emG g)[j]! = true then some (M.idxOf (m,((j:Nat):Int))) else none
def readsG(g:GD)(st:List ASt)(M:List (Int×Int))(q:Int×Int):List Nat:=rdTo g M (goS st q.1 ⟨3,q.2⟩) g.names
def plN(M:List (Int×Int))(q:Int×Int):Nat:=if q∈M then M.idxOf q else 0
theorem plN_val{M:List (Int×Int)}{q:Int×Int} : (idxV M q).getD (.agg #[.int .i64 0]) = .agg #[.int .i64 ((plN M q:Nat):Int)]:=by
  unfold idxV plN
  split<;>rfl
theorem plN_is{M:List (Int×Int)}{q:Int×Int} : (idxV M q).isSome=decide (q∈M):=by
  unfold idxV
  split<;>simp_all
theorem dirTo_yes{g:GD}{st:List ASt}{m:Int}{t:Nat}(h:(symT g (t:Nat)).2=true)(h2:0≤goS st m (symT g (t:Nat)).1):dirTo g st m (t+1)=(dirTo g st m t).and t:=by
  unfold dirTo;rw [List.range_succ,List.foldl_append,List.foldl_cons,List.foldl_nil,if_pos ⟨h,h2⟩]
theorem dirTo_no{g:GD}{st:List ASt}{m:Int}{t:Nat}(h:(symT g (t:Nat)).2=true→¬0≤goS st m (symT g (t:Nat)).1):dirTo g st m (t+1)=dirTo g st m t:=by
  unfold dirTo;rw [List.range_succ,List.foldl_append,List.foldl_cons,List.foldl_nil,if_neg fun hh=>h hh.1 hh.2]
theorem dirTo_ok{g:GD}{st:List ASt}{m:Int} : ∀ {t:Nat},t≤128→(dirTo g st m t).ok
  | 0,_=>BS.z_ok
  | t+1,h=>by
    by_cases hc:(symT g (t:Nat)).2=true∧0≤goS st m (symT g (t:Nat)).1;rw [dirTo_yes hc.1 hc.2];exact BS.and_ok (dirTo_ok (by omega)) (by omega);rw [dirTo_no fun a b=>hc ⟨a,b⟩];exact dirTo_ok (by omega)
theorem dirG_ok{g:GD}{st:List ASt}{q:Int×Int}(h:g.triv.length≤64):(dirG g st q).ok:=by
  unfold dirG
  split
  exact BS.and_ok (dirTo_ok (by omega)) (by omega);exact dirTo_ok (by omega)
theorem fm_one{α β:Type}{f:α→Option β}{a:α}{b:β}(h:f a=some b) : [a].filterMap f = [b]:=by simp [List.filterMap_cons,h]
theorem fm_none{α β:Type}{f:α→Option β}{a:α}(h:f a=none) : [a].filterMap f = []:=by simp [List.filterMap_cons,h]
theorem rdTo_yes{g:GD}{M:List (Int×Int)}{m:Int}{k:Nat}(h:(m,((k:Nat):Int))∈M)(h2:(emG g)[k]! = true):rdTo g M m (k+1)=rdTo g M m k++[M.idxOf (m,((k:Nat):Int))]:=by
  unfold rdTo;rw [List.range_succ,List.filterMap_append];congr 1;exact fm_one (if_pos ⟨h,h2⟩)
theorem rdTo_no{g:GD}{M:List (Int×Int)}{m:Int}{k:Nat}(h:(m,((k:Nat):Int))∈M→¬(emG g)[k]! = true):rdTo g M m (k+1)=rdTo g M m k:=by
  unfold rdTo;rw [List.range_succ,List.filterMap_append,fm_none (a:=k) (if_neg fun hh=>h hh.1 hh.2),List.append_nil]
theorem rdTo_len{g:GD}{M:List (Int×Int)}{m:Int}{k:Nat} : (rdTo g M m k).length≤k:=by
  have:=List.length_filterMap_le (fun j:Nat=>if (m,((j:Nat):Int))∈M∧(emG g)[j]! = true then some (M.idxOf (m,((j:Nat):Int))) else none) (List.range k);rw [List.length_range] at this;exact this
theorem fS_265:flatS Tryz.prog 265 [.int .i64,.int .i64]=true:=by kernel_rfl
instance pf_115:PlF Tryz.prog 115 where
instance pf_168:PlF Tryz.prog 168 where
instance pf_37:PlF Tryz.prog 37 where
instance pf_64:PlF Tryz.prog 64 where
instance tA_201:AggF Tryz.prog 201 where
instance tA_203:AggF Tryz.prog 203 where
instance tA_204:AggF Tryz.prog 204 where
instance tA_265:AggT Tryz.prog 265 where
instance tA_57:AggF Tryz.prog 57 where
instance tE_203:SlT Tryz.prog 203 (265,2,16,(.agg #[(.int .i64 0),(.int .i64 0)])) where
instance tE_204:SlT Tryz.prog 204 (160,2,16,(.agg #[(.int .u64 0),(.int .u64 0)])) where
instance tF_206_0:FdT Tryz.prog 206 0 0 where
instance tF_206_1:FdT Tryz.prog 206 1 1 where
instance tF_206_3:FdT Tryz.prog 206 3 6 where
instance tF_206_4:FdT Tryz.prog 206 4 7 where
instance tF_206_5:FdT Tryz.prog 206 5 8 where
instance tF_206_7:FdT Tryz.prog 206 7 10 where
instance tF_263_0:FdT Tryz.prog 263 0 0 where
instance tF_265_0:FdT Tryz.prog 265 0 0 where
instance tF_265_1:FdT Tryz.prog 265 1 1 where
theorem tK_265:pairB Tryz.prog 265=true:=by kernel_rfl
instance tP_263:PcT Tryz.prog 263 #[(0,1)] where
instance tP_265:PcT Tryz.prog 265 #[(0,1),(1,1)] where
instance tS_203:SzT Tryz.prog 203 1 where
instance tS_204:SzT Tryz.prog 204 1 where
instance tS_263:SzT Tryz.prog 263 1 where
instance tS_265:SzT Tryz.prog 265 2 where
instance tS_57:SzT Tryz.prog 57 1 where
theorem tU_201:Tryz.prog.underlying 201=some (.map 265 263):=by kernel_rfl
instance tU_203:UnS Tryz.prog 203 265 where
instance tZ_263:ZrT Tryz.prog 263 (.agg #[(.int .i64 0)]) where
instance tZ_265:ZrT Tryz.prog 265 (.agg #[(.int .i64 0),(.int .i64 0)]) where
theorem gather_calls(s:SP)(s0:SP)(B0:Nat)(st:List ASt)(ba bm mp mb:Nat)(eA:Option Addr)(ec:Nat)(bk:List ((Int×Int)×Value))(w0:World)(w:World)(hE0:Ext w0 w)(hS:SpR w0 s)(hX:AutX B0 w0 s0 ba st)(hg:s.g=s0.g)(hbm:w0.heap.size≤bm)(hmp:w0.heap.size≤mp)(hmb:w0.heap.size≤mb)(hne:mp≠mb)(hZ:MkG s ba bm mp mb w0.heap.size eA ec ([]) none 0 ([]) ([]) none 0 ([]) none 0 [] none 0 bk w) :
    Calls Tryz.prog 111 #[(.pointer (some ⟨bm,0,none⟩))] w (Ret (fun v w'=>v = .tuple #[]∧∃M mA mc pl R rA rc F fA fc,M=movesG s.g st st.length∧(∀q,lookM pl q=idxV M q)∧R.map NR.l=M.map (readsG s.g st M)∧F=M.map (dirG s.g st)∧Ext w0 w'∧MkG s ba bm mp mb w0.heap.size eA ec M mA mc pl R rA rc F fA fc [] none 0 bk w')):=by
 have hfl:=hS.fl.le;have hfn:=hS.fn.le;have hfew:=hX.aut.few;have hNg:s.g.names≤128:=by rw [hg];exact hX.aut.good.names
 have hTg:s.g.triv.length≤64:=by rw [hg];exact hX.aut.good.triv
 rw [s.glex] at hTg;have hgn:s.g.names=s.names.length:=rfl;have hel:(emG s.g).length=s.names.length:=madeG_len _ _;have hAut:Aut s.g st:=by rw [hg];exact hX.aut
 have hz1:=hZ.bm.lt;have hz2:=hZ.p.lt;have hz3:=hZ.b.lt;have hsz0_:=hE0.size;refine calls_y (n:=196) Tryz.func111 ?_;refine go ?_;refine y_ld hZ.bm ?_;refine yCa (ret_mono (autx_len (hX.ext hE0)) ?_);rintro _ w1 ⟨rfl,e1⟩;have he1:=e1.size;have x2:Ext w0 w1:=(Xt hE0 e1);refine go ?_;refine xc_loopN (fun m_ f_ Wx=>∃(n:Nat) (M1:List (Int×Int)) (mA1:Option Addr) (mc1:Nat) (pl1:List ((Int×Int)×Value)),m_=st.length-n∧(n≤st.length)∧(M1=movesG s.g st n)∧(∀q,lookM pl1 q=idxV M1 q)∧f_ 0=(.pointer (some ⟨bm,0,none⟩))∧f_ 20=(.int .i64 ((st.length:Nat)))∧f_ 21=(.int .i64 ((n:Nat)))∧(MkG s ba bm mp mb w0.heap.size eA ec M1 mA1 mc1 pl1 ([]) none 0 ([]) none 0 [] none 0 bk Wx)∧Ext w0 Wx) (st.length) ?_ ?_;exact ⟨0,[],none,0,[],(by omega),(by omega),rfl,(fun q=>rfl),rfl,rfl,vW,⟨(hZ.bm.ext e1),(hZ.e.ext e1),hZ.lowE,(hZ.m.ext e1),hZ.lowM,(hZ.p.ext e1),(hZ.r.ext e1),hZ.lowR,(NRs.ext hZ.rr e1),(hZ.f.ext e1),hZ.lowF,(Vx.Own.nil _ _ _),(fun k hk=>by simp [Value.ownBlock] at hk),(hZ.b.ext e1)⟩,x2⟩;rintro m_ f1 w2 ⟨n,M1,mA1,mc1,pl1,hm_f1,hn,hM1,hpl1,g0_f1,g20_f1,g21_f1,t0_f1,x1⟩;have hx1:=x1.size;have:=t0_f1.bm.lt;have:=t0_f1.p.lt;have:=t0_f1.b.lt;rw [←usf g0_f1,←usf g20_f1,←usf g21_f1];refine go ?_;refine y_if (fun h1=>?_) (fun h1=>?_);refine go ?_;refine y_ld t0_f1.bm ?_;refine go ?_;refine xc_loopN (fun m_ f_ Wx=>∃(i:Nat) (M2:List (Int×Int)) (mA2:Option Addr) (mc2:Nat) (pl2:List ((Int×Int)×Value)),m_=s.names.length-i∧(i≤s.names.length)∧(M2=movesG s.g st n++rowM st n i)∧(∀q,lookM pl2 q=idxV M2 q)∧f_ 0=(.pointer (some ⟨bm,0,none⟩))∧f_ 20=(.int .i64 ((st.length:Nat)))∧f_ 21=(.int .i64 ((n:Nat)))∧f_ 22=(.bool (decide (((n:Nat):Int)<((st.length:Nat)))))∧f_ 23=(.int .i64 ((n:Nat)))∧f_ 2=(.int .i64 ((n:Nat)))∧f_ 24=(.pointer (some ⟨bm,0,none⟩))∧f_ 25=(.pointer (some ⟨bm,0,none⟩))∧f_ 26=(.pointer (some ⟨bm,1,none⟩))∧f_ 27=(.pointer (some ⟨bm,2,none⟩))∧f_ 28=(.slice s.nA s.names.length s.nc)∧f_ 29=(.int .i64 (((s.names.length:Nat):Int)))∧f_ 30=(.int .i64 ((i:Nat)))∧(MkG s ba bm mp mb w0.heap.size eA ec M2 mA2 mc2 pl2 ([]) none 0 ([]) none 0 [] none 0 bk Wx)∧Ext w0 Wx) (s.names.length) ?_ ?_;exact ⟨0,M1,mA1,mc1,pl1,(by omega),(by omega),(by rw [hM1];simp [rowM]),hpl1,rfl,rfl,rfl,rfl,rfl,rfl,rfl,rfl,rfl,rfl,rfl,rfl,vW,⟨t0_f1.bm,t0_f1.e,t0_f1.lowE,t0_f1.m,t0_f1.lowM,t0_f1.p,t0_f1.r,t0_f1.lowR,t0_f1.rr,t0_f1.f,t0_f1.lowF,(Vx.Own.nil _ _ _),(fun k hk=>by simp [Value.ownBlock] at hk),t0_f1.b⟩,x1⟩;rintro m_ f2 w3 ⟨i,M2,mA2,mc2,pl2,hm_f2,hi,hM2,hpl2,g0_f2,g20_f2,g21_f2,g22_f2,g23_f2,g2_f2,g24_f2,g25_f2,g26_f2,g27_f2,g28_f2,g29_f2,g30_f2,t0_f2,x3⟩;have hx3:=x3.size;have:=t0_f2.bm.lt;have:=t0_f2.p.lt;have:=t0_f2.b.lt;have hM2l:M2.length≤1025*128+128:=by have h1:=movesG_len (g:=s.g) (st:=st) n;have h2:=rowM_len (st:=st) (n:=n) (k:=i);have h3:n*s.g.names≤1025*128:=Nat.mul_le_mul (by omega) hNg;rw [hM2,List.length_append];omega
 rw [←usf g0_f2,←usf g20_f2,←usf g21_f2,←usf g22_f2,←usf g23_f2,←usf g2_f2,←usf g24_f2,←usf g25_f2,←usf g26_f2,←usf g27_f2,←usf g28_f2,←usf g29_f2,←usf g30_f2];refine go ?_;refine y_if (fun h2=>?_) (fun h2=>?_);refine go ?_;refine xc_regionE [7] (fun W_=>Chg (fun _=>False) w3 W_) hmix ?_;intro w4 e2 z1;have hS1:Chg (fun _=>False) w3 w4:=Ext.to e2;refine yDp 0 ?_;refine yDp 1 ?_;refine yDp 2 ?_;refine yDt (i:=3) rfl hS1 (fun W_ hW_=>ox_load tA_27.h rfl ((t0_f2.bm.ext hW_).cell rfl) ⟨rfl,rfl⟩) ?_;refine yDp 4 ?_;refine yDp 5 ?_;refine yD1 (i:=6) rfl (yCx (ret_mono (tname_calls ((i:Nat)) w4) ?_));rintro _ w5 ⟨rfl,e3⟩;have he3:=e3.size;have hS2:Chg (fun _=>False) w3 w5:=Chg.ext hS1 e3;refine ⟨.inr fun _=>hS2,?_⟩;have x4:Ext w0 w5:=(Xt (Xt x3 e2) e3);refine yD1 (i:=7) rfl (yCx (ret_mono (autx_go (hX.ext x4) ((n:Nat)) ((⟨3,(i:Nat)⟩:Sym))) ?_));rintro _ w6 ⟨rfl,e4⟩;have he4:=e4.size;refine ⟨.inl (by decide),?_⟩;refine yDp 8 ?_;refine xd_done (by kernel_rfl) ?_ _;refine go ?_;refine y_if (fun h3=>?_) (fun h3=>?_);refine go ?_;refine xc_regionE [13] (fun W_=>Chg (fun _=>False) w6 W_) hmix ?_;intro w7 e5 z2;have hS3:Chg (fun _=>False) w6 w7:=Ext.to e5;refine yDp 0 ?_;refine yDp 1 ?_;refine yDp 2 ?_;refine yDt (i:=3) rfl hS3 (fun W_ hW_=>ox_load tA_201.h rfl (((((t0_f2.bm.ext e2).ext e3).ext e4).ext hW_).cell rfl) ⟨rfl,rfl⟩) ?_;refine yDp 4 ?_;refine yDp 5 ?_;refine yDq (i:=6) rfl (fun W_ hW_=>ox_mkStruct (ps:=[(0,(.int .i64 ((n:Nat)))),(1,(.int .i64 ((i:Nat))))]) (cs:=#[(.int .i64 ((n:Nat))),(.int .i64 ((i:Nat)))]) tZ_265.h tP_265.h rfl (by kernel_rfl) ⟨rfl,rfl⟩) ?_;refine yDp 7 ?_;refine yDp 8 ?_;refine yDp 9 ?_;refine yDt (i:=10) rfl hS3 (fun W_ hW_=>ox_load tA_203.h rfl (((((t0_f2.bm.ext e2).ext e3).ext e4).ext hW_).cell rfl) ⟨rfl,rfl⟩) ?_;refine yDp 11 ?_;refine yDq (i:=12) rfl (fun W_ hW_=>ox_mkStruct (ps:=[(0,(.int .i64 (((M2.length:Nat):Int))))]) (cs:=#[(.int .i64 (((M2.length:Nat):Int)))]) tZ_263.h tP_263.h rfl (by kernel_rfl) ⟨rfl,rfl⟩) ?_;have q1:=((((t0_f2.p.ext e2).ext e3).ext e4).ext e5);refine yD1 (i:=13) rfl (ox_mapUpdate (enc:=pairE) (k:=((((n:Nat),(i:Nat)):Int×Int))) (v:=(.agg #[(.int .i64 (((M2.length:Nat):Int)))])) (keyT_pair fS_265 tK_265) tU_201 q1 rfl rfl rfl ?_);intro w8 e6 z3 m1;refine ⟨.inl (by decide),?_⟩;refine xd_done (by kernel_rfl) ?_ _;have q2:=((((t0_f2.bm.ext e2).ext e3).ext e4).ext e5);have q3:=(q2.keep1 e6 (fun _h=>q1.ne_blk q2 _h.symm));refine go ?_;refine y_ld q3 ?_;refine go ?_;refine yOp (ox_mkStruct (ps:=[(0,(.int .i64 ((n:Nat)))),(1,(.int .i64 ((i:Nat))))]) (cs:=#[(.int .i64 ((n:Nat))),(.int .i64 ((i:Nat)))]) tZ_265.h tP_265.h rfl (by kernel_rfl) ?_);refine yOp (ox_mkSlice (ps:=[(0,(.agg #[(.int .i64 ((n:Nat))),(.int .i64 ((i:Nat)))]))]) (zs:=#[(.int .i64 0),(.int .i64 0)]) (cs:=#[(.int .i64 ((n:Nat))),(.int .i64 ((i:Nat)))]) tE_203.h rfl (by decide) (by kernel_rfl) (by kernel_rfl) ?_);intro w9 e7 z4 b1;replace b1:Blk w9 w8.heap.size #[(.int .i64 ((n:Nat))),(.int .i64 ((i:Nat)))] 265:=b1;have q4:=((((t0_f2.m.ext e2).ext e3).ext e4).ext e5)
 have q5:=(q4.keep1 e6 (fun k hk=>q4.ne_map q1 k hk));refine yOp (ox_appD (l:=M2) (r:=[(((n:Nat),(i:Nat)):Int×Int)]) (cs:=MV.cs) rfl tE_203.h rfl (by decide) MV.len MV.one (v:=(.slice mA2 M2.length mc2)) rfl rfl (m:=1) rfl (q5.ext e7) b1.all aM (by decide) ?_);intro A1 c1 w10 o1 e8 at1 hc1;have he8:=e8.size;have low1:=low_at at1 t0_f2.lowM;have q6:=((q3.ext e7).ko e8 (q5.ext e7));refine go ?_;refine y_st q6 ?_;intro w11 e9 z5 b2;replace b2:Blk w11 bm #[(.pointer (some ⟨ba,0,none⟩)),(.slice s.lA s.lex.length s.lc),(.slice s.nA s.names.length s.nc),(.int .i64 s.start),(.slice s.pA s.prods.length s.pc),(.slice eA s.names.length ec),(.slice A1 ((M2++[(((n:Nat),(i:Nat)):Int×Int)]).length) c1),(.map (some mp)),(.slice none 0 0),(.slice none 0 0),(.slice none 0 0),(.map (some mb))] 206:=b2;refine go ?_;refine y_add ?_;have q7:=((((t0_f2.e.ext e2).ext e3).ext e4).ext e5);have q8:=(q7.keep1 e6 (fun k hk=>q7.ne_map q1 k hk));have q9:=((q8.ext e7).ko e8 (q5.ext e7));have q10:=(q9.kb e9 q6);have q11:=(o1.kb e9 q6);have q12:=((m1.ext e7).ko e8 (q5.ext e7));have q13:=(q12.kb e9 q6);have q14:=((((t0_f2.r.ext e2).ext e3).ext e4).ext e5);have q15:=(q14.keep1 e6 (fun k hk=>q14.ne_map q1 k hk));have q16:=((q15.ext e7).ko e8 (q5.ext e7));have q17:=(q16.kb e9 q6);have x5:Ext w3 w7:=(Xt (Xt (Xt e2 e3) e4) e5);have q18:=(NRs.own (NRs.ext (NRs.map (NRs.ext t0_f2.rr x5) e6 q1) e7) e8 (q5.ext e7) (by decide));have q19:=((((t0_f2.f.ext e2).ext e3).ext e4).ext e5);have q20:=(q19.keep1 e6 (fun k hk=>q19.ne_map q1 k hk));have q21:=((q20.ext e7).ko e8 (q5.ext e7));have q22:=(q21.kb e9 q6);have q23:=((((t0_f2.b.ext e2).ext e3).ext e4).ext e5);have q24:=(q23.kl e6 t0_f2.b.lt);have q25:=((q24.ext e7).ko e8 (q5.ext e7));have q26:=(q25.kb e9 q6);have x6:Ext w0 w11:=(Xc (Co (Xt (Xc (Xt (Xt x4 e4) e5) e6) e7) e8 t0_f2.lowM) e9);refine go ?_;exact ⟨rfl,s.names.length-(i+1),by omega,i+1,M2++[(((n:Nat),(i:Nat)):Int×Int)],A1,c1,setM pl2 ((((n:Nat),(i:Nat)):Int×Int)) (.agg #[(.int .i64 (((M2.length:Nat):Int)))]),by omega,(by omega),(by rw [hM2,List.append_assoc,←rowM_yes (by omega)]),(fun q=>by rw [lookM_setM,idxV_snoc (by rw [hM2];exact moves_new)];split;rfl;exact hpl2 q),rfl,rfl,rfl,rfl,rfl,rfl,rfl,rfl,rfl,rfl,rfl,rfl,vW,⟨b2,q10,t0_f2.lowE,q11,low1,q13,q17,t0_f2.lowR,(NRs.blk q18 e9 q6 (by decide)),q22,t0_f2.lowF,(Vx.Own.nil _ _ _),(fun k hk=>by simp [Value.ownBlock] at hk),q26⟩,x6⟩;refine go ?_;refine y_add ?_;have x7:Ext w3 w6:=(Xt (Xt e2 e3) e4);have x8:Ext w0 w6:=(Xt x4 e4);refine go ?_;exact ⟨rfl,s.names.length-(i+1),by omega,i+1,M2,mA2,mc2,pl2,by omega,(by omega),(by rw [hM2,rowM_no (by omega)]),hpl2,rfl,rfl,rfl,rfl,rfl,rfl,rfl,rfl,rfl,rfl,rfl,rfl,vW,⟨(((t0_f2.bm.ext e2).ext e3).ext e4),(((t0_f2.e.ext e2).ext e3).ext e4),t0_f2.lowE,(((t0_f2.m.ext e2).ext e3).ext e4),t0_f2.lowM,(((t0_f2.p.ext e2).ext e3).ext e4),(((t0_f2.r.ext e2).ext e3).ext e4),t0_f2.lowR,(NRs.ext t0_f2.rr x7),(((t0_f2.f.ext e2).ext e3).ext e4),t0_f2.lowF,(Vx.Own.nil _ _ _),(fun k hk=>by simp [Value.ownBlock] at hk),(((t0_f2.b.ext e2).ext e3).ext e4)⟩,x8⟩
 refine go ?_;refine y_add ?_;refine go ?_;exact ⟨rfl,st.length-(n+1),by omega,n+1,M2,mA2,mc2,pl2,by omega,(by omega),(by rw [hM2,movesG_succ,show i=s.g.names from (by show i=s.names.length;omega)]),hpl2,rfl,rfl,vW,⟨t0_f2.bm,t0_f2.e,t0_f2.lowE,t0_f2.m,t0_f2.lowM,t0_f2.p,t0_f2.r,t0_f2.lowR,t0_f2.rr,t0_f2.f,t0_f2.lowF,(Vx.Own.nil _ _ _),(fun k hk=>by simp [Value.ownBlock] at hk),t0_f2.b⟩,x3⟩;refine go ?_;refine y_ld t0_f1.bm ?_;have hM:M1=movesG s.g st st.length:=by rw [hM1,show n=st.length by omega]
 have hMl:M1.length≤131200:=by rw [hM];exact moves_small hAut
 have hmv:MvL st M1:=by rw [hM];exact movesG_all hAut
 refine go ?_;refine xc_loopN (fun m_ f_ Wx=>∃(k:Nat) (R:List NR) (rA:Option Addr) (rc:Nat) (F:List BS) (fA:Option Addr) (fc:Nat),m_=M1.length-k∧(k≤M1.length)∧(R.map NR.l=(M1.take k).map (readsG s.g st M1))∧(F=(M1.take k).map (dirG s.g st))∧f_ 0=(.pointer (some ⟨bm,0,none⟩))∧f_ 20=(.int .i64 ((st.length:Nat)))∧f_ 21=(.int .i64 ((n:Nat)))∧f_ 22=(.bool (decide (((n:Nat):Int)<((st.length:Nat)))))∧f_ 69=(.pointer (some ⟨bm,0,none⟩))∧f_ 70=(.pointer (some ⟨bm,0,none⟩))∧f_ 71=(.pointer (some ⟨bm,6,none⟩))∧f_ 72=(.slice mA1 M1.length mc1)∧f_ 73=(.int .i64 (((M1.length:Nat):Int)))∧f_ 74=(.int .i64 ((k:Nat)))∧(MkG s ba bm mp mb w0.heap.size eA ec M1 mA1 mc1 pl1 R rA rc F fA fc [] none 0 bk Wx)∧Ext w0 Wx) (M1.length) ?_ ?_;exact ⟨0,[],none,0,[],none,0,(by omega),(by omega),rfl,rfl,rfl,rfl,rfl,rfl,rfl,rfl,rfl,rfl,rfl,vW,⟨t0_f1.bm,t0_f1.e,t0_f1.lowE,t0_f1.m,t0_f1.lowM,t0_f1.p,t0_f1.r,t0_f1.lowR,t0_f1.rr,t0_f1.f,t0_f1.lowF,(Vx.Own.nil _ _ _),(fun k hk=>by simp [Value.ownBlock] at hk),t0_f1.b⟩,x1⟩;rintro m_ f3 w12 ⟨k,R,rA,rc,F,fA,fc,hm_f3,hk,hR,hF,g0_f3,g20_f3,g21_f3,g22_f3,g69_f3,g70_f3,g71_f3,g72_f3,g73_f3,g74_f3,t0_f3,x9⟩;have hx9:=x9.size;have:=t0_f3.bm.lt;have:=t0_f3.p.lt;have:=t0_f3.b.lt;have hRl:R.length=k:=by have:=congrArg List.length hR;rw [List.length_map,List.length_map,List.length_take] at this;omega
 have hFl:F.length=k:=by have:=congrArg List.length hF;rw [List.length_map,List.length_take] at this;omega
 rw [←usf g0_f3,←usf g20_f3,←usf g21_f3,←usf g22_f3,←usf g69_f3,←usf g70_f3,←usf g71_f3,←usf g72_f3,←usf g73_f3,←usf g74_f3];refine go ?_;refine y_if (fun h4=>?_) (fun h4=>?_);obtain ⟨x_1,g_1,hx_1⟩:=own_may (A:=mA1) k MV.len (by decide) t0_f3.m;obtain ⟨hx_2,hA_1,hc_1⟩:=hx_1 oM;refine go ?_;refine y_ix k hA_1 ?_;refine y_lN (vs:=[(.int .i64 x_1.1),(.int .i64 x_1.2)]) hc_1 ?_;refine y_al ?_;intro w13 e10 z6 b3;refine y_st b3 ?_;intro w14 e11 z7 b4;replace b4:Blk w14 w12.heap.size #[(.int .i64 x_1.1),(.int .i64 x_1.2)] 265:=blk_full b4 rfl;refine go ?_;refine y_al ?_;intro w15 e12 z8 b5;refine go ?_;refine xc_regionE [] (fun W_=>Chg (fun _=>False) w15 W_) hmix ?_;intro w16 e13 z9;have hS4:Chg (fun _=>False) w15 w16:=Ext.to e13;refine yDp 0 ?_;refine yDp 1 ?_;refine yDp 2 ?_;have q27:=((t0_f3.bm.ext e10).kb e11 b3);refine yDt (i:=3) rfl hS4 (fun W_ hW_=>ox_load tA_27.h rfl (((q27.ext e12).ext hW_).cell rfl) ⟨rfl,rfl⟩) ?_;refine yDp 4 ?_;refine yDt (i:=5) rfl hS4 (fun W_ hW_=>ox_load tA_3.h rfl (((b4.ext e12).ext hW_).cell rfl) ⟨rfl,rfl⟩) ?_;refine yDp 6 ?_;refine yDt (i:=7) rfl hS4 (fun W_ hW_=>ox_load tA_3.h rfl (((b4.ext e12).ext hW_).cell rfl) ⟨rfl,rfl⟩) ?_;refine yD1 (i:=8) rfl (yCx (ret_mono (tname_calls x_1.2 w16) ?_));rintro _ w17 ⟨rfl,e14⟩;have he14:=e14.size;have hS5:Chg (fun _=>False) w15 w17:=Chg.ext hS4 e14;refine ⟨.inr fun _=>hS5,?_⟩;have x10:Ext w0 w17:=(Xt (Xt (Xt (Xc (Xt x9 e10) e11) e12) e13) e14);refine yD1 (i:=9) rfl (yCx (ret_mono (autx_go (hX.ext x10) x_1.1 ((⟨3,x_1.2⟩:Sym))) ?_));rintro _ w18 ⟨rfl,e15⟩;have he15:=e15.size;have hS6:Chg (fun _=>False) w15 w18:=Chg.ext hS5 e15;refine ⟨.inr fun _=>hS6,?_⟩;refine yDp 10 ?_;refine xd_done (by kernel_rfl) ?_ _;have q28:=((t0_f3.bm.ext e10).kb e11 b3);have q29:=((((q28.ext e12).ext e13).ext e14).ext e15);refine go ?_;refine y_ld q29 ?_;refine go ?_;refine y_add ?_;have hmvq:0≤goS st x_1.1 ((⟨3,x_1.2⟩:Sym)):=(hmv.mem _).1 (List.mem_of_getElem? hx_2);refine go ?_;refine xc_loopN (fun m_ f_ Wx=>∃(t:Nat) (D:BS),m_=(s.lex.length+1)-t∧(t≤(s.lex.length+1))∧(D=dirTo s.g st (goS st x_1.1 ((⟨3,x_1.2⟩:Sym))) t)∧f_ 0=(.pointer (some ⟨bm,0,none⟩))∧f_ 20=(.int .i64 ((st.length:Nat)))∧f_ 21=(.int .i64 ((n:Nat)))∧f_ 22=(.bool (decide (((n:Nat):Int)<((st.length:Nat)))))∧f_ 69=(.pointer (some ⟨bm,0,none⟩))∧f_ 70=(.pointer (some ⟨bm,0,none⟩))∧f_ 71=(.pointer (some ⟨bm,6,none⟩))∧f_ 72=(.slice mA1 M1.length mc1)∧f_ 73=(.int .i64 (((M1.length:Nat):Int)))∧f_ 74=(.int .i64 ((k:Nat)))∧f_ 75=(.bool (decide (((k:Nat):Int)<(((M1.length:Nat):Int)))))∧f_ 76=(.pointer (some ⟨g_1,0+k*2,none⟩))∧f_ 77=(.agg #[(.int .i64 x_1.1),(.int .i64 x_1.2)])∧f_ 5=(.pointer (some ⟨w12.heap.size,0,none⟩))∧f_ 6=(.pointer (some ⟨w14.heap.size,0,none⟩))∧f_ 7=(.slice none 0 0)∧f_ 78=(.pointer (some ⟨bm,0,none⟩))∧f_ 79=(.pointer (some ⟨bm,0,none⟩))∧f_ 80=(.pointer (some ⟨bm,0,none⟩))∧f_ 81=(.pointer (some ⟨ba,0,none⟩))∧f_ 82=(.pointer (some ⟨w12.heap.size,0,none⟩))∧f_ 83=(.int .i64 x_1.1)∧f_ 84=(.pointer (some ⟨w12.heap.size,1,none⟩))∧f_ 85=(.int .i64 x_1.2)∧f_ 86=(.agg #[(.int .i64 3),(.int .i64 x_1.2)])∧f_ 87=(.int .i64 (goS st x_1.1 ((⟨3,x_1.2⟩:Sym))))∧f_ 8=(.int .i64 (goS st x_1.1 ((⟨3,x_1.2⟩:Sym))))∧f_ 88=(.pointer (some ⟨bm,0,none⟩))∧f_ 89=(.pointer (some ⟨bm,0,none⟩))∧f_ 90=(.pointer (some ⟨bm,1,none⟩))∧f_ 91=(.pointer (some ⟨bm,1,none⟩))∧f_ 92=(.slice s.lA s.lex.length s.lc)∧f_ 93=(.int .i64 (((s.lex.length:Nat):Int)))∧f_ 94=(.int .i64 (((s.lex.length:Nat):Int)+1))∧f_ 95=(.int .i64 ((t:Nat)))∧(Blk Wx w14.heap.size #[.int .u64 (D.a:Nat),.int .u64 (D.b:Nat)] 160)∧Chg1 w14.heap.size w18 Wx) ((s.lex.length+1)) ?_ ?_
 exact ⟨0,BS.z,(by omega),(by omega),rfl,rfl,rfl,rfl,rfl,rfl,rfl,rfl,rfl,rfl,rfl,rfl,rfl,rfl,rfl,rfl,rfl,rfl,rfl,rfl,rfl,rfl,rfl,rfl,rfl,rfl,rfl,rfl,rfl,rfl,rfl,rfl,rfl,rfl,rfl,vW,(((b5.ext e13).ext e14).ext e15),(Chg.refl _ _)⟩;rintro m_ f4 w19 ⟨t,D,hm_f4,ht,hD,g0_f4,g20_f4,g21_f4,g22_f4,g69_f4,g70_f4,g71_f4,g72_f4,g73_f4,g74_f4,g75_f4,g76_f4,g77_f4,g5_f4,g6_f4,g7_f4,g78_f4,g79_f4,g80_f4,g81_f4,g82_f4,g83_f4,g84_f4,g85_f4,g86_f4,g87_f4,g8_f4,g88_f4,g89_f4,g90_f4,g91_f4,g92_f4,g93_f4,g94_f4,g95_f4,t0_f4,x11⟩;have hx11:=x11.size;have hDok:D.ok:=by rw [hD];exact dirTo_ok (by omega)
 rw [←usf g0_f4,←usf g20_f4,←usf g21_f4,←usf g22_f4,←usf g69_f4,←usf g70_f4,←usf g71_f4,←usf g72_f4,←usf g73_f4,←usf g74_f4,←usf g75_f4,←usf g76_f4,←usf g77_f4,←usf g5_f4,←usf g6_f4,←usf g7_f4,←usf g78_f4,←usf g79_f4,←usf g80_f4,←usf g81_f4,←usf g82_f4,←usf g83_f4,←usf g84_f4,←usf g85_f4,←usf g86_f4,←usf g87_f4,←usf g8_f4,←usf g88_f4,←usf g89_f4,←usf g90_f4,←usf g91_f4,←usf g92_f4,←usf g93_f4,←usf g94_f4,←usf g95_f4];refine go ?_;refine y_if (fun h5=>?_) (fun h5=>?_);have q30:=(q29.kb x11 (((b5.ext e13).ext e14).ext e15));refine go ?_;refine y_lN (vs:=[(.slice s.lA s.lex.length s.lc),(.slice s.nA s.names.length s.nc),(.int .i64 s.start),(.slice s.pA s.prods.length s.pc)]) ⟨q30.cell rfl,q30.cell rfl,q30.cell rfl,q30.cell rfl,trivial⟩ ?_;have x12:Ext w0 w19:=(Xc (Xt x10 e15) x11);refine go ?_;refine yCa (ret_mono (tsymbol_calls s (t:Nat) w19 (hS.ext x12)) ?_);rintro _ w20 ⟨rfl,e16⟩;have he16:=e16.size;refine go ?_;refine y_al ?_;intro w21 e17 z10 b6;refine y_st b6 ?_;intro w22 e18 z11 b7;replace b7:Blk w22 w20.heap.size #[(.int .i64 ((symT s.g (t:Nat)).1.kind)),(.int .i64 ((symT s.g (t:Nat)).1.n))] 75:=blk_full b7 rfl;refine go ?_;by_cases h6:((symT s.g (t:Nat)).2)=true;refine xc_regionE [8] (fun W_=>Chg (fun _=>False) w22 W_) hmix ?_;intro w23 e19 z12;have hS7:Chg (fun _=>False) w22 w23:=Ext.to e19;refine yDp 0 ?_;refine yDp 1 ?_;refine ysD (s:=108) (bT h6) ?_;refine yDp 2 ?_;refine yDp 3 ?_;refine yDp 4 ?_;have q31:=(((q30.ext e16).ext e17).kb e18 b6);refine yDt (i:=5) rfl hS7 (fun W_ hW_=>ox_load tA_27.h rfl ((q31.ext hW_).cell rfl) ⟨rfl,rfl⟩) ?_;refine yDp 6 ?_;refine yDt (i:=7) rfl hS7 (fun W_ hW_=>ox_loadN (vs:=[(.int .i64 ((symT s.g (t:Nat)).1.kind)),(.int .i64 ((symT s.g (t:Nat)).1.n))]) tA_75.h tS_75.h rfl rfl ⟨(b7.ext hW_).cell rfl,(b7.ext hW_).cell rfl,trivial⟩ ⟨rfl,rfl⟩) ?_;have x13:Ext w0 w23:=(Xt (Xc (Xt (Xt x12 e16) e17) e18) e19);refine xd_oneW 8 (some 115) rfl rfl (by kernel_rfl) rfl (ox_callE (al:=[(.pointer (some ⟨ba,0,none⟩)),(.int .i64 (goS st x_1.1 ((⟨3,x_1.2⟩:Sym)))),(.agg #[(.int .i64 ((symT s.g (t:Nat)).1.kind)),(.int .i64 ((symT s.g (t:Nat)).1.n))])]) pf_36.h rfl (ret_mono (autx_go (hX.ext x13) (goS st x_1.1 ((⟨3,x_1.2⟩:Sym))) ((symT s.g (t:Nat)).1)) ?_));rintro _ w24 ⟨rfl,e20⟩;have he20:=e20.size;refine ⟨.inl (by decide),?_⟩;refine yDp 9 ?_;refine yDp 10 ?_;refine xd_done (by kernel_rfl) ?_ _;refine go ?_;refine y_if (fun h7=>?_) (fun h7=>?_);have q32:=(((t0_f4.ext e16).ext e17).kb e18 b6);refine go ?_;refine y_lN (vs:=[(.int .u64 ((D.a:Nat))),(.int .u64 ((D.b:Nat)))]) ⟨((q32.ext e19).ext e20).cell rfl,((q32.ext e19).ext e20).cell rfl,trivial⟩ ?_;refine go ?_;refine yCa (ret_mono (setAnd_calls D t w24 hDok (by omega)) ?_);rintro _ w25 ⟨rfl,e21⟩;have he21:=e21.size;refine y_st (((q32.ext e19).ext e20).ext e21) ?_;intro w26 e22 z13 b8;replace b8:Blk w26 w14.heap.size #[(.int .u64 ((((D.and t)).a:Nat))),(.int .u64 ((((D.and t)).b:Nat)))] 160:=blk_full b8 rfl;refine go ?_;refine y_add ?_;have y1:Chg1 w14.heap.size w18 w26:=(Ct (Chg.ext (Chg.ext (Chg.ext (Chg.chg1 (Chg.ext (Chg.ext (Ct (Chg.refl (fun x=>x=w14.heap.size) w18) x11) e16) e17) e18 (.inr (by omega))) e19) e20) e21) e22)
 refine go ?_;exact ⟨rfl,(s.lex.length+1)-(t+1),by omega,t+1,((D.and t)),by omega,(by omega),(by rw [hD,dirTo_yes h6 (by omega)]),rfl,rfl,rfl,rfl,rfl,rfl,rfl,rfl,rfl,rfl,rfl,rfl,rfl,rfl,rfl,rfl,rfl,rfl,rfl,rfl,rfl,rfl,rfl,rfl,rfl,rfl,rfl,rfl,rfl,rfl,rfl,rfl,rfl,rfl,vW,b8,y1⟩;refine go ?_;refine y_add ?_;have q33:=(((t0_f4.ext e16).ext e17).kb e18 b6);have y2:Chg1 w14.heap.size w18 w24:=(Chg.ext (Chg.ext (Chg.chg1 (Chg.ext (Chg.ext (Ct (Chg.refl (fun x=>x=w14.heap.size) w18) x11) e16) e17) e18 (.inr (by omega))) e19) e20);refine go ?_;exact ⟨rfl,(s.lex.length+1)-(t+1),by omega,t+1,D,by omega,(by omega),(by rw [hD,dirTo_no (fun _=>by omega)]),rfl,rfl,rfl,rfl,rfl,rfl,rfl,rfl,rfl,rfl,rfl,rfl,rfl,rfl,rfl,rfl,rfl,rfl,rfl,rfl,rfl,rfl,rfl,rfl,rfl,rfl,rfl,rfl,rfl,rfl,rfl,rfl,rfl,rfl,vW,((q33.ext e19).ext e20),y2⟩;refine xc_regionE [8] (fun W_=>Chg (fun _=>False) w22 W_) hmix ?_;intro w27 e23 z14;have hS8:Chg (fun _=>False) w22 w27:=Ext.to e23;refine yDp 0 ?_;refine yDp 1 ?_;refine ysD (s:=108) (bF (Bool.eq_false_iff.2 h6)) ?_;refine yDp 2 ?_;refine yDp 3 ?_;refine yDp 4 ?_;refine xd_take 5 (some 112) rfl rfl (by kernel_rfl) (v:=undef) (.inr ⟨rfl,rfl⟩) hS8 ?_;refine yDp 6 ?_;refine xd_take 7 (some 114) rfl rfl (by kernel_rfl) (v:=undef) (.inr ⟨rfl,rfl⟩) hS8 ?_;refine yDp 8 ?_;refine yDp 9 ?_;refine yDp 10 ?_;refine xd_done (by kernel_rfl) ?_ _;refine go ?_;refine y_add ?_;have q34:=(((t0_f4.ext e16).ext e17).kb e18 b6);have y3:Chg1 w14.heap.size w18 w27:=(Chg.ext (Chg.chg1 (Chg.ext (Chg.ext (Ct (Chg.refl (fun x=>x=w14.heap.size) w18) x11) e16) e17) e18 (.inr (by omega))) e23);refine go ?_;exact ⟨rfl,(s.lex.length+1)-(t+1),by omega,t+1,D,by omega,(by omega),(by rw [hD,dirTo_no (fun h9=>by rw [(Bool.eq_false_iff.2 h6)] at h9;cases h9)]),rfl,rfl,rfl,rfl,rfl,rfl,rfl,rfl,rfl,rfl,rfl,rfl,rfl,rfl,rfl,rfl,rfl,rfl,rfl,rfl,rfl,rfl,rfl,rfl,rfl,rfl,rfl,rfl,rfl,rfl,rfl,rfl,rfl,rfl,vW,(q34.ext e23),y3⟩;refine go0 ?_;refine xc_cut2 (fun f' W'=>Chg1 w14.heap.size w19 W'∧Blk W' w14.heap.size #[.int .u64 ((dirG s.g st x_1).a:Nat),.int .u64 ((dirG s.g st x_1).b:Nat)] 160∧f' 0=(.pointer (some ⟨bm,0,none⟩))∧f' 20=(.int .i64 ((st.length:Nat)))∧f' 21=(.int .i64 ((n:Nat)))∧f' 22=(.bool (decide (((n:Nat):Int)<((st.length:Nat)))))∧f' 69=(.pointer (some ⟨bm,0,none⟩))∧f' 70=(.pointer (some ⟨bm,0,none⟩))∧f' 71=(.pointer (some ⟨bm,6,none⟩))∧f' 72=(.slice mA1 M1.length mc1)∧f' 73=(.int .i64 (((M1.length:Nat):Int)))∧f' 74=(.int .i64 ((k:Nat)))∧f' 75=(.bool (decide (((k:Nat):Int)<(((M1.length:Nat):Int)))))∧f' 76=(.pointer (some ⟨g_1,0+k*2,none⟩))∧f' 77=(.agg #[(.int .i64 x_1.1),(.int .i64 x_1.2)])∧f' 5=(.pointer (some ⟨w12.heap.size,0,none⟩))∧f' 6=(.pointer (some ⟨w14.heap.size,0,none⟩))∧f' 7=(.slice none 0 0)∧f' 78=(.pointer (some ⟨bm,0,none⟩))∧f' 79=(.pointer (some ⟨bm,0,none⟩))∧f' 80=(.pointer (some ⟨bm,0,none⟩))∧f' 81=(.pointer (some ⟨ba,0,none⟩))∧f' 82=(.pointer (some ⟨w12.heap.size,0,none⟩))∧f' 83=(.int .i64 x_1.1)∧f' 84=(.pointer (some ⟨w12.heap.size,1,none⟩))∧f' 85=(.int .i64 x_1.2)∧f' 86=(.agg #[(.int .i64 3),(.int .i64 x_1.2)])∧f' 87=(.int .i64 (goS st x_1.1 ((⟨3,x_1.2⟩:Sym))))∧f' 8=(.int .i64 (goS st x_1.1 ((⟨3,x_1.2⟩:Sym))))∧f' 88=(.pointer (some ⟨bm,0,none⟩))∧f' 89=(.pointer (some ⟨bm,0,none⟩))∧f' 90=(.pointer (some ⟨bm,1,none⟩))∧f' 91=(.pointer (some ⟨bm,1,none⟩))∧f' 92=(.slice s.lA s.lex.length s.lc)∧f' 93=(.int .i64 (((s.lex.length:Nat):Int)))∧f' 94=(.int .i64 (((s.lex.length:Nat):Int)+1))∧f' 95=(.int .i64 ((t:Nat)))∧f' 96=(.bool (decide (((t:Nat):Int)<(((s.lex.length:Nat):Int)+1))))) ?_ ?_
 by_cases h8:(x_1.1:Int)=0;refine xc_regionE [] (fun W_=>Chg (fun _=>False) w19 W_) hmix ?_;intro w28 e24 z15;have hS9:Chg (fun _=>False) w19 w28:=Ext.to e24;refine yDp 0 ?_;have q35:=((((b4.ext e12).ext e13).ext e14).ext e15);have q36:=(q35.kb x11 (((b5.ext e13).ext e14).ext e15));refine yDt (i:=1) rfl hS9 (fun W_ hW_=>ox_load tA_3.h rfl ((q36.ext hW_).cell rfl) ⟨rfl,rfl⟩) ?_;refine yDp 2 ?_;refine yDp 3 ?_;refine ysD (s:=125) (bT (decide_eq_true h8)) ?_;refine yDp 4 ?_;have q37:=((((b4.ext e12).ext e13).ext e14).ext e15);have q38:=(q37.kb x11 (((b5.ext e13).ext e14).ext e15));refine yDt (i:=5) rfl hS9 (fun W_ hW_=>ox_load tA_3.h rfl ((q38.ext hW_).cell rfl) ⟨rfl,rfl⟩) ?_;refine yDp 6 ?_;refine yDp 7 ?_;refine yDp 8 ?_;refine yDp 9 ?_;have q39:=(q29.kb x11 (((b5.ext e13).ext e14).ext e15));refine yDt (i:=10) rfl hS9 (fun W_ hW_=>ox_load tA_3.h rfl ((q39.ext hW_).cell rfl) ⟨rfl,rfl⟩) ?_;refine yDp 11 ?_;refine yDp 12 ?_;refine xd_done (by kernel_rfl) ?_ _;refine go ?_;refine y_if (fun h9=>?_) (fun h9=>?_);refine xc_regionE [9] (fun W_=>Chg (fun _=>False) w28 W_) hmix ?_;intro w29 e25 z16;have hS10:Chg (fun _=>False) w28 w29:=Ext.to e25;refine yDt (i:=0) rfl hS10 (fun W_ hW_=>ox_loadN (vs:=[(.int .u64 ((D.a:Nat))),(.int .u64 ((D.b:Nat)))]) tA_160.h tS_160.h rfl rfl ⟨((t0_f4.ext e24).ext hW_).cell rfl,((t0_f4.ext e24).ext hW_).cell rfl,trivial⟩ ⟨rfl,rfl⟩) ?_;refine yDp 1 ?_;refine yDp 2 ?_;refine yDp 3 ?_;refine yDp 4 ?_;have q40:=(q29.kb x11 (((b5.ext e13).ext e14).ext e15));refine yDt (i:=5) rfl hS10 (fun W_ hW_=>ox_load tA_22.h rfl (((q40.ext e24).ext hW_).cell rfl) ⟨rfl,rfl⟩) ?_;refine yDp 6 ?_;refine yDq (i:=7) rfl (fun W_ hW_=>ox_add64 (a:=(((s.lex.length:Nat):Int))) (b:=1) rfl rfl (by omega) ⟨rfl,rfl⟩) ?_;refine yD1 (i:=8) rfl (yCx (ret_mono ((by have h9:=setAnd_calls D (s.lex.length+1) w29 hDok (by omega);exact h9)) ?_));rintro _ w30 ⟨rfl,e26⟩;have he26:=e26.size;have hS11:Chg (fun _=>False) w28 w30:=Chg.ext hS10 e26;refine ⟨.inr fun _=>hS11,?_⟩;refine yD1 (i:=9) rfl (ox_store (n:=2) (vs:=[(.int .u64 ((((D.and (s.lex.length+1))).a:Nat))),(.int .u64 ((((D.and (s.lex.length+1))).b:Nat)))]) tS_160.h rfl (v:=(.agg #[(.int .u64 ((((D.and (s.lex.length+1))).a:Nat))),(.int .u64 ((((D.and (s.lex.length+1))).b:Nat)))])) rfl rfl rfl rfl (((t0_f4.ext e24).ext e25).ext e26) (Nat.le_of_ble_eq_true rfl) ?_);intro w31 e27 z17 b9;replace b9:Blk w31 w14.heap.size #[(.int .u64 ((((D.and (s.lex.length+1))).a:Nat))),(.int .u64 ((((D.and (s.lex.length+1))).b:Nat)))] 160:=blk_full b9 rfl;refine ⟨.inl (by decide),?_⟩;refine xd_done (by kernel_rfl) ?_ _;refine go ?_;have hDD:((D.and (s.lex.length+1)))=dirG s.g st x_1:=by unfold dirG;rw [if_pos ⟨h8,h9⟩,hD,show t=s.g.triv.length+1 from (by rw [s.glex];omega),s.glex]
 have y4:Chg1 w14.heap.size w19 w31:=(Ct (Chg.ext (Chg.ext (Chg.ext (Chg.refl (fun x=>x=w14.heap.size) w19) e24) e25) e26) e27);exact ⟨rfl,y4,(by rw [←hDD];exact b9),rfl,rfl,rfl,rfl,rfl,rfl,rfl,rfl,rfl,rfl,rfl,rfl,rfl,rfl,rfl,rfl,rfl,rfl,rfl,rfl,rfl,rfl,rfl,rfl,rfl,rfl,rfl,rfl,rfl,rfl,rfl,rfl,rfl,rfl,rfl,rfl⟩;refine go ?_;have hDD:D=dirG s.g st x_1:=by unfold dirG;rw [if_neg (fun hh=>h9 hh.2),hD,show t=s.g.triv.length+1 from (by rw [s.glex];omega)]
 have y5:Chg1 w14.heap.size w19 w28:=(Chg.ext (Chg.refl (fun x=>x=w14.heap.size) w19) e24);exact ⟨rfl,y5,(by rw [←hDD];exact (t0_f4.ext e24)),rfl,rfl,rfl,rfl,rfl,rfl,rfl,rfl,rfl,rfl,rfl,rfl,rfl,rfl,rfl,rfl,rfl,rfl,rfl,rfl,rfl,rfl,rfl,rfl,rfl,rfl,rfl,rfl,rfl,rfl,rfl,rfl,rfl,rfl,rfl,rfl⟩;refine xc_regionE [] (fun W_=>Chg (fun _=>False) w19 W_) hmix ?_;intro w32 e28 z18;have hS12:Chg (fun _=>False) w19 w32:=Ext.to e28;refine yDp 0 ?_;have q41:=((((b4.ext e12).ext e13).ext e14).ext e15);have q42:=(q41.kb x11 (((b5.ext e13).ext e14).ext e15));refine yDt (i:=1) rfl hS12 (fun W_ hW_=>ox_load tA_3.h rfl ((q42.ext hW_).cell rfl) ⟨rfl,rfl⟩) ?_;refine yDp 2 ?_;refine yDp 3 ?_;refine ysD (s:=125) (bF (decide_eq_false h8)) ?_;refine yDp 4 ?_;refine xd_take 5 (some 127) rfl rfl (by kernel_rfl) (v:=undef) (.inr ⟨rfl,rfl⟩) hS12 ?_;refine yDp 6 ?_;refine yDp 7 ?_;refine yDp 8 ?_;refine yDp 9 ?_;refine xd_take 10 (some 132) rfl rfl (by kernel_rfl) (v:=undef) (.inr ⟨rfl,rfl⟩) hS12 ?_;refine yDp 11 ?_;refine yDp 12 ?_;refine xd_done (by kernel_rfl) ?_ _;refine go ?_;have hDD:D=dirG s.g st x_1:=by unfold dirG;rw [if_neg (fun hh=>h8 hh.1),hD,show t=s.g.triv.length+1 from (by rw [s.glex];omega)]
 have y6:Chg1 w14.heap.size w19 w32:=(Chg.ext (Chg.refl (fun x=>x=w14.heap.size) w19) e28);exact ⟨rfl,y6,(by rw [←hDD];exact (t0_f4.ext e28)),rfl,rfl,rfl,rfl,rfl,rfl,rfl,rfl,rfl,rfl,rfl,rfl,rfl,rfl,rfl,rfl,rfl,rfl,rfl,rfl,rfl,rfl,rfl,rfl,rfl,rfl,rfl,rfl,rfl,rfl,rfl,rfl,rfl,rfl,rfl,rfl⟩;rintro f5 w33 ⟨y7,b10,g0_f5,g20_f5,g21_f5,g22_f5,g69_f5,g70_f5,g71_f5,g72_f5,g73_f5,g74_f5,g75_f5,g76_f5,g77_f5,g5_f5,g6_f5,g7_f5,g78_f5,g79_f5,g80_f5,g81_f5,g82_f5,g83_f5,g84_f5,g85_f5,g86_f5,g87_f5,g8_f5,g88_f5,g89_f5,g90_f5,g91_f5,g92_f5,g93_f5,g94_f5,g95_f5,g96_f5⟩;have hy7:=y7.size;rw [←usf g0_f5,←usf g20_f5,←usf g21_f5,←usf g22_f5,←usf g69_f5,←usf g70_f5,←usf g71_f5,←usf g72_f5,←usf g73_f5,←usf g74_f5,←usf g75_f5,←usf g76_f5,←usf g77_f5,←usf g5_f5,←usf g6_f5,←usf g7_f5,←usf g78_f5,←usf g79_f5,←usf g80_f5,←usf g81_f5,←usf g82_f5,←usf g83_f5,←usf g84_f5,←usf g85_f5,←usf g86_f5,←usf g87_f5,←usf g8_f5,←usf g88_f5,←usf g89_f5,←usf g90_f5,←usf g91_f5,←usf g92_f5,←usf g93_f5,←usf g94_f5,←usf g95_f5,←usf g96_f5];have q43:=(q29.kb x11 (((b5.ext e13).ext e14).ext e15));have q44:=(q43.kb y7 t0_f4);refine go ?_;refine y_ld q44 ?_;refine go ?_;refine xc_loopN (fun m_ f_ Wx=>∃(i:Nat) (rd:List Nat) (Ard:Option Addr) (crd:Nat),m_=s.names.length-i∧(i≤s.names.length)∧(rd=rdTo s.g M1 (goS st x_1.1 ((⟨3,x_1.2⟩:Sym))) i)∧f_ 0=(.pointer (some ⟨bm,0,none⟩))∧f_ 20=(.int .i64 ((st.length:Nat)))∧f_ 21=(.int .i64 ((n:Nat)))∧f_ 22=(.bool (decide (((n:Nat):Int)<((st.length:Nat)))))∧f_ 69=(.pointer (some ⟨bm,0,none⟩))∧f_ 70=(.pointer (some ⟨bm,0,none⟩))∧f_ 71=(.pointer (some ⟨bm,6,none⟩))∧f_ 72=(.slice mA1 M1.length mc1)∧f_ 73=(.int .i64 (((M1.length:Nat):Int)))∧f_ 74=(.int .i64 ((k:Nat)))∧f_ 75=(.bool (decide (((k:Nat):Int)<(((M1.length:Nat):Int)))))∧f_ 76=(.pointer (some ⟨g_1,0+k*2,none⟩))∧f_ 77=(.agg #[(.int .i64 x_1.1),(.int .i64 x_1.2)])∧f_ 5=(.pointer (some ⟨w12.heap.size,0,none⟩))∧f_ 6=(.pointer (some ⟨w14.heap.size,0,none⟩))∧f_ 78=(.pointer (some ⟨bm,0,none⟩))∧f_ 79=(.pointer (some ⟨bm,0,none⟩))∧f_ 80=(.pointer (some ⟨bm,0,none⟩))∧f_ 81=(.pointer (some ⟨ba,0,none⟩))∧f_ 82=(.pointer (some ⟨w12.heap.size,0,none⟩))∧f_ 83=(.int .i64 x_1.1)∧f_ 84=(.pointer (some ⟨w12.heap.size,1,none⟩))∧f_ 85=(.int .i64 x_1.2)∧f_ 86=(.agg #[(.int .i64 3),(.int .i64 x_1.2)])∧f_ 87=(.int .i64 (goS st x_1.1 ((⟨3,x_1.2⟩:Sym))))∧f_ 8=(.int .i64 (goS st x_1.1 ((⟨3,x_1.2⟩:Sym))))∧f_ 88=(.pointer (some ⟨bm,0,none⟩))∧f_ 89=(.pointer (some ⟨bm,0,none⟩))∧f_ 90=(.pointer (some ⟨bm,1,none⟩))∧f_ 91=(.pointer (some ⟨bm,1,none⟩))∧f_ 92=(.slice s.lA s.lex.length s.lc)∧f_ 93=(.int .i64 (((s.lex.length:Nat):Int)))∧f_ 94=(.int .i64 (((s.lex.length:Nat):Int)+1))∧f_ 95=(.int .i64 ((t:Nat)))∧f_ 96=(.bool (decide (((t:Nat):Int)<(((s.lex.length:Nat):Int)+1))))∧f_ 144=(.pointer (some ⟨bm,0,none⟩))∧f_ 145=(.pointer (some ⟨bm,0,none⟩))∧f_ 146=(.pointer (some ⟨bm,5,none⟩))∧f_ 147=(.slice eA s.names.length ec)∧f_ 148=(.int .i64 (((s.names.length:Nat):Int)))∧f_ 149=(.int .i64 ((i:Nat)))∧f_ 7=(.slice Ard rd.length crd)∧Vx.Own Wx 3 1 (.slice Ard rd.length crd) rd.length (rd.flatMap nats)∧(∀k,((.slice Ard rd.length crd):Value).ownBlock=some k→w33.heap.size≤k)∧Ext w33 Wx) (s.names.length) ?_ ?_
 exact ⟨0,[],none,0,(by omega),(by omega),rfl,rfl,rfl,rfl,rfl,rfl,rfl,rfl,rfl,rfl,rfl,rfl,rfl,rfl,rfl,rfl,rfl,rfl,rfl,rfl,rfl,rfl,rfl,rfl,rfl,rfl,rfl,rfl,rfl,rfl,rfl,rfl,rfl,rfl,rfl,rfl,rfl,rfl,rfl,rfl,rfl,vW,rfl,(Vx.Own.nil _ _ _),(fun _k _h=>by simp [Value.ownBlock] at _h),(Chg.refl _ _)⟩;rintro m_ f6 w34 ⟨i,rd,Ard,crd,hm_f6,hi,hrd,g0_f6,g20_f6,g21_f6,g22_f6,g69_f6,g70_f6,g71_f6,g72_f6,g73_f6,g74_f6,g75_f6,g76_f6,g77_f6,g5_f6,g6_f6,g78_f6,g79_f6,g80_f6,g81_f6,g82_f6,g83_f6,g84_f6,g85_f6,g86_f6,g87_f6,g8_f6,g88_f6,g89_f6,g90_f6,g91_f6,g92_f6,g93_f6,g94_f6,g95_f6,g96_f6,g144_f6,g145_f6,g146_f6,g147_f6,g148_f6,g149_f6,g7_f6,a0_f6,l0_f6,x14⟩;have hx14:=x14.size;have hrdl:rd.length≤i:=by rw [hrd];exact rdTo_len
 rw [←usf g0_f6,←usf g20_f6,←usf g21_f6,←usf g22_f6,←usf g69_f6,←usf g70_f6,←usf g71_f6,←usf g72_f6,←usf g73_f6,←usf g74_f6,←usf g75_f6,←usf g76_f6,←usf g77_f6,←usf g5_f6,←usf g6_f6,←usf g78_f6,←usf g79_f6,←usf g80_f6,←usf g81_f6,←usf g82_f6,←usf g83_f6,←usf g84_f6,←usf g85_f6,←usf g86_f6,←usf g87_f6,←usf g8_f6,←usf g88_f6,←usf g89_f6,←usf g90_f6,←usf g91_f6,←usf g92_f6,←usf g93_f6,←usf g94_f6,←usf g95_f6,←usf g96_f6,←usf g144_f6,←usf g145_f6,←usf g146_f6,←usf g147_f6,←usf g148_f6,←usf g149_f6,←usf g7_f6];refine go ?_;refine y_if (fun h10=>?_) (fun h10=>?_);have q45:=((t0_f3.e.ext e10).kb e11 b3);have q46:=((((q45.ext e12).ext e13).ext e14).ext e15);have q47:=(q46.kb x11 (((b5.ext e13).ext e14).ext e15));have q48:=(q47.kb y7 t0_f4);obtain ⟨x_2,g_2,hx_3⟩:=own_may (A:=eA) i bools_len (by decide) (q48.ext x14);obtain ⟨hx_4,hA_2,hc_2⟩:=hx_3 oM;refine go ?_;refine y_ix i hA_2 ?_;refine y_lc (CellsL.at1 hc_2 0 rfl) ?_;refine go ?_;refine y_ld (q44.ext x14) ?_;refine go ?_;refine yOp (ox_mkStruct (ps:=[(0,(.int .i64 (goS st x_1.1 ((⟨3,x_1.2⟩:Sym))))),(1,(.int .i64 ((i:Nat))))]) (cs:=#[(.int .i64 (goS st x_1.1 ((⟨3,x_1.2⟩:Sym)))),(.int .i64 ((i:Nat)))]) tZ_265.h tP_265.h rfl (by kernel_rfl) ?_);have q49:=((t0_f3.p.ext e10).kb e11 b3);have q50:=((((q49.ext e12).ext e13).ext e14).ext e15);have q51:=(q50.kb x11 (((b5.ext e13).ext e14).ext e15));have q52:=(q51.kb y7 t0_f4);refine yOp (ox_lookup2V (enc:=pairE) (.agg #[(.int .i64 ((plN M1 ((goS st x_1.1 ((⟨3,x_1.2⟩:Sym)),(i:Nat)):Int×Int):Nat)))]) ((decide (((goS st x_1.1 ((⟨3,x_1.2⟩:Sym)),(i:Nat)):Int×Int)∈M1))) (keyT_pair fS_265 tK_265) tU_201 tZ_263.h (q52.ext x14) rfl rfl (by rw [hpl1];exact plN_val) (by rw [hpl1];exact plN_is) ?_);refine go ?_;refine y_al ?_;intro w35 e29 z19 b11;refine y_st b11 ?_;intro w36 e30 z20 b12;replace b12:Blk w36 w34.heap.size #[(.int .i64 ((plN M1 ((goS st x_1.1 ((⟨3,x_1.2⟩:Sym)),(i:Nat)):Int×Int):Nat)))] 263:=b12;refine go ?_;refine xl_may (P:=Tryz.prog) (some 167) (j:=1) (b:=true) ((((decide (((goS st x_1.1 ((⟨3,x_1.2⟩:Sym)),(i:Nat)):Int×Int)∈M1))))=true) (.bool ((decide (((goS st x_1.1 ((⟨3,x_1.2⟩:Sym)),(i:Nat)):Int×Int)∈M1)))) (.bool x_2) rfl rfl rfl (may_b (((decide (((goS st x_1.1 ((⟨3,x_1.2⟩:Sym)),(i:Nat)):Int×Int)∈M1)))) true) (fun hp=>ox_move (v:=(.bool x_2)) rfl ⟨rfl,rfl⟩) ?_;refine yOp (ox_pick_and (a:=(((decide (((goS st x_1.1 ((⟨3,x_1.2⟩:Sym)),(i:Nat)):Int×Int)∈M1))))) (b:=x_2) rfl (fun ha=>(if_pos (α:=Value) (t:=(.bool x_2)) (e:=undef) ha)) rfl ?_);refine go ?_;refine xc_cond (b:=((((decide (((goS st x_1.1 ((⟨3,x_1.2⟩:Sym)),(i:Nat)):Int×Int)∈M1)))) && x_2)) rfl (fun h11=>?_) (fun h11=>?_);have h11':=bS h11;refine go ?_;refine y_ld b12 ?_;refine yOp (ox_mkSlice (ps:=[(0,(.int .i64 ((plN M1 ((goS st x_1.1 ((⟨3,x_1.2⟩:Sym)),(i:Nat)):Int×Int):Nat))))]) (zs:=#[(.int .i64 0)]) (cs:=#[(.int .i64 ((plN M1 ((goS st x_1.1 ((⟨3,x_1.2⟩:Sym)),(i:Nat)):Int×Int):Nat)))]) tE_39.h rfl (by decide) (by kernel_rfl) (by kernel_rfl) ?_);intro w37 e31 z21 b13;replace b13:Blk w37 w36.heap.size #[(.int .i64 ((plN M1 ((goS st x_1.1 ((⟨3,x_1.2⟩:Sym)),(i:Nat)):Int×Int):Nat)))] 3:=b13
 have q53:=((a0_f6.ext e29).kb e30 b11);refine yOp (ox_appD (l:=rd) (r:=[(plN M1 ((goS st x_1.1 ((⟨3,x_1.2⟩:Sym)),(i:Nat)):Int×Int))]) (cs:=nats) rfl tE_39.h rfl (by decide) nats_len nats_one (v:=(.slice Ard rd.length crd)) rfl rfl (m:=1) rfl (q53.ext e31) b13.all aM (by decide) ?_);intro A2 c2 w38 o2 e32 at2 hc2;have he32:=e32.size;have low2:=low_at at2 l0_f6;refine go ?_;refine y_add ?_;have hbz:(emG s.g)[i]! = x_2:=bang_of hx_4;have x15:Ext w33 w38:=(Co (Xt (Xc (Xt x14 e29) e30) e31) e32 l0_f6);refine go ?_;exact ⟨rfl,s.names.length-(i+1),by omega,i+1,rd++[(plN M1 ((goS st x_1.1 ((⟨3,x_1.2⟩:Sym)),(i:Nat)):Int×Int))],A2,c2,by omega,(by omega),(by rw [hrd,plN,if_pos (by simp_all),rdTo_yes (by simp_all) (by simp_all)]),rfl,rfl,rfl,rfl,rfl,rfl,rfl,rfl,rfl,rfl,rfl,rfl,rfl,rfl,rfl,rfl,rfl,rfl,rfl,rfl,rfl,rfl,rfl,rfl,rfl,rfl,rfl,rfl,rfl,rfl,rfl,rfl,rfl,rfl,rfl,rfl,rfl,rfl,rfl,rfl,vW,rfl,o2,low2,x15⟩;have h11':=bS h11;refine go ?_;refine y_add ?_;have hbz:(emG s.g)[i]! = x_2:=bang_of hx_4;have q54:=((a0_f6.ext e29).kb e30 b11);have x16:Ext w33 w36:=(Xc (Xt x14 e29) e30);refine go ?_;exact ⟨rfl,s.names.length-(i+1),by omega,i+1,rd,Ard,crd,by omega,(by omega),(by rw [hrd,rdTo_no (fun h8=>by simp_all)]),rfl,rfl,rfl,rfl,rfl,rfl,rfl,rfl,rfl,rfl,rfl,rfl,rfl,rfl,rfl,rfl,rfl,rfl,rfl,rfl,rfl,rfl,rfl,rfl,rfl,rfl,rfl,rfl,rfl,rfl,rfl,rfl,rfl,rfl,rfl,rfl,rfl,rfl,rfl,rfl,vW,rfl,q54,l0_f6,x16⟩;refine go ?_;refine xc_regionE [10] (fun W_=>Chg (fun x=>((.slice fA F.length fc):Value).ownBlock=some x) w34 W_) hmix ?_;intro w39 e33 z22;have hS13:Chg (fun x=>((.slice fA F.length fc):Value).ownBlock=some x) w34 w39:=Ext.to e33;refine yDp 0 ?_;refine yDp 1 ?_;refine yDp 2 ?_;refine yDp 3 ?_;have q55:=((t0_f3.f.ext e10).kb e11 b3);have q56:=((((q55.ext e12).ext e13).ext e14).ext e15);have q57:=(q56.kl x11 (q55.lt));have q58:=(q57.kl y7 (q55.lt));refine yDt (i:=4) rfl hS13 (fun W_ hW_=>ox_load tA_204.h rfl (((q44.ext x14).ko hW_ ((q58.ext x14))).cell rfl) ⟨rfl,rfl⟩) ?_;have q59:=((t0_f3.f.ext e10).kb e11 b3);refine yDt (i:=5) rfl hS13 (fun W_ hW_=>ox_loadN (vs:=[(.int .u64 (((dirG s.g st x_1).a:Nat))),(.int .u64 (((dirG s.g st x_1).b:Nat)))]) tA_160.h tS_160.h rfl rfl ⟨((b10.ext x14).kol hW_ (q59.lt)).cell rfl,((b10.ext x14).kol hW_ (q59.lt)).cell rfl,trivial⟩ ⟨rfl,rfl⟩) ?_;refine yD1 (i:=6) rfl (ox_mkSlice (ps:=[(0,(.agg #[(.int .u64 (((dirG s.g st x_1).a:Nat))),(.int .u64 (((dirG s.g st x_1).b:Nat)))]))]) (zs:=#[(.int .u64 0),(.int .u64 0)]) (cs:=#[(.int .u64 (((dirG s.g st x_1).a:Nat))),(.int .u64 (((dirG s.g st x_1).b:Nat)))]) tE_204.h rfl (by decide) (by kernel_rfl) (by kernel_rfl) ?_);intro w40 e34 z23 b14;replace b14:Blk w40 w39.heap.size #[(.int .u64 (((dirG s.g st x_1).a:Nat))),(.int .u64 (((dirG s.g st x_1).b:Nat)))] 160:=b14;have hS14:Chg (fun x=>((.slice fA F.length fc):Value).ownBlock=some x) w34 w40:=Chg.ext hS13 e34;refine ⟨.inr fun _=>hS14,?_⟩;have q60:=((t0_f3.f.ext e10).kb e11 b3);have q61:=((((q60.ext e12).ext e13).ext e14).ext e15);have q62:=(q61.kl x11 (q60.lt))
 have q63:=(q62.kl y7 (q60.lt));refine yD1 (i:=7) rfl (ox_appD (l:=F) (r:=[(dirG s.g st x_1)]) (cs:=BS.cs) rfl tE_204.h rfl (by decide) BS.len BS.one (v:=(.slice fA F.length fc)) rfl rfl (m:=1) rfl (((q63.ext x14).ext e33).ext e34) b14.all aM (by decide) ?_);intro A3 c3 w41 o3 e35 at3 hc3;have he35:=e35.size;have low3:=low_at at3 t0_f3.lowF;have hS15:Chg (fun x=>((.slice fA F.length fc):Value).ownBlock=some x) w34 w41:=Chg.trans hS14 e35 (fun x hx hl=>hx);refine ⟨.inr fun _=>hS15,?_⟩;refine yDp 8 ?_;refine yDp 9 ?_;have q64:=((((q44.ext x14).ext e33).ext e34).ko e35 (((q63.ext x14).ext e33).ext e34));refine yD1 (i:=10) rfl (ox_store (n:=1) (vs:=[(.slice A3 ((F++[(dirG s.g st x_1)]).length) c3)]) tS_204.h rfl (v:=(.slice A3 ((F++[(dirG s.g st x_1)]).length) c3)) rfl rfl rfl rfl q64 (Nat.le_of_ble_eq_true rfl) ?_);intro w42 e36 z24 b15;replace b15:Blk w42 bm #[(.pointer (some ⟨ba,0,none⟩)),(.slice s.lA s.lex.length s.lc),(.slice s.nA s.names.length s.nc),(.int .i64 s.start),(.slice s.pA s.prods.length s.pc),(.slice eA s.names.length ec),(.slice mA1 M1.length mc1),(.map (some mp)),(.slice rA R.length rc),(.slice none 0 0),(.slice A3 ((F++[(dirG s.g st x_1)]).length) c3),(.map (some mb))] 206:=b15;refine ⟨.inl (by decide),?_⟩;refine xd_done (by kernel_rfl) ?_ _;refine go ?_;refine y_ld b15 ?_;refine go ?_;refine yOp (ox_mkSlice (ps:=[(0,(.slice Ard rd.length crd))]) (zs:=#[(.slice none 0 0)]) (cs:=#[(.slice Ard rd.length crd)]) tE_57.h rfl (by decide) (by kernel_rfl) (by kernel_rfl) ?_);intro w43 e37 z25 b16;replace b16:Blk w43 w42.heap.size #[(.slice Ard rd.length crd)] 39:=b16;have q65:=((t0_f3.r.ext e10).kb e11 b3);have q66:=((((q65.ext e12).ext e13).ext e14).ext e15);have q67:=(q66.kb x11 (((b5.ext e13).ext e14).ext e15));have q68:=(q67.kb y7 t0_f4);have q69:=((((q68.ext x14).ext e33).ext e34).ko e35 (((q63.ext x14).ext e33).ext e34));have q70:=(q69.kb e36 q64);refine yOp (ox_appD (l:=R) (r:=[(⟨Ard,crd,rd⟩:NR)]) (cs:=NR.cs) rfl tE_57.h rfl (by decide) NR.len NR.one (v:=(.slice rA R.length rc)) rfl rfl (m:=1) rfl (q70.ext e37) b16.all aM (by decide) ?_);intro A4 c4 w44 o4 e38 at4 hc4;have he38:=e38.size;have low4:=low_at at4 t0_f3.lowR;have q71:=((b15.ext e37).ko e38 (q70.ext e37));refine go ?_;refine y_st q71 ?_;intro w45 e39 z26 b17;replace b17:Blk w45 bm #[(.pointer (some ⟨ba,0,none⟩)),(.slice s.lA s.lex.length s.lc),(.slice s.nA s.names.length s.nc),(.int .i64 s.start),(.slice s.pA s.prods.length s.pc),(.slice eA s.names.length ec),(.slice mA1 M1.length mc1),(.map (some mp)),(.slice A4 ((R++[(⟨Ard,crd,rd⟩:NR)]).length) c4),(.slice none 0 0),(.slice A3 ((F++[(dirG s.g st x_1)]).length) c3),(.map (some mb))] 206:=b17;refine go ?_;refine y_add ?_;have q72:=(((a0_f6.ext e33).ext e34).ko e35 (((q63.ext x14).ext e33).ext e34));have q73:=(q72.kb e36 q64);have q74:=((q73.ext e37).ko e38 (q70.ext e37));have q75:=(q74.kb e39 q71);have q76:=((t0_f3.e.ext e10).kb e11 b3);have q77:=((((q76.ext e12).ext e13).ext e14).ext e15);have q78:=(q77.kb x11 (((b5.ext e13).ext e14).ext e15))
 have q79:=(q78.kb y7 t0_f4);have q80:=((((q79.ext x14).ext e33).ext e34).ko e35 (((q63.ext x14).ext e33).ext e34));have q81:=(q80.kb e36 q64);have q82:=((q81.ext e37).ko e38 (q70.ext e37));have q83:=(q82.kb e39 q71);have q84:=((t0_f3.m.ext e10).kl e11 (t0_f3.m.lt));have q85:=((((q84.ext e12).ext e13).ext e14).ext e15);have q86:=(q85.kb x11 (((b5.ext e13).ext e14).ext e15));have q87:=(q86.kb y7 t0_f4);have q88:=((((q87.ext x14).ext e33).ext e34).ko e35 (((q63.ext x14).ext e33).ext e34));have q89:=(q88.kb e36 q64);have q90:=((q89.ext e37).ko e38 (q70.ext e37));have q91:=(q90.kb e39 q71);have q92:=((t0_f3.p.ext e10).kb e11 b3);have q93:=((((q92.ext e12).ext e13).ext e14).ext e15);have q94:=(q93.kb x11 (((b5.ext e13).ext e14).ext e15));have q95:=(q94.kb y7 t0_f4);have q96:=((((q95.ext x14).ext e33).ext e34).ko e35 (((q63.ext x14).ext e33).ext e34));have q97:=(q96.kb e36 q64);have q98:=((q97.ext e37).ko e38 (q70.ext e37));have q99:=(q98.kb e39 q71);have q100:=(o4.kb e39 q71);have x17:Ext w12 w40:=(Xt (Xt (Xt (Xc (Xc (Xt (Xt (Xt (Xt (Xc e10 e11) e12) e13) e14) e15) x11) y7) x14) e33) e34);have q101:=(NRs.own (NRs.ext t0_f3.rr x17) e35 (((q63.ext x14).ext e33).ext e34) (by decide));have q102:=(NRs.own (NRs.ext (NRs.blk q101 e36 q64 (by decide)) e37) e38 (q70.ext e37) (by decide));have q103:=(o3.kb e36 q64);have q104:=((q103.ext e37).ko e38 (q70.ext e37));have q105:=(q104.kb e39 q71);have q106:=((t0_f3.b.ext e10).kb e11 b3);have q107:=((((q106.ext e12).ext e13).ext e14).ext e15);have q108:=(q107.kb x11 (((b5.ext e13).ext e14).ext e15));have q109:=(q108.kb y7 t0_f4);have q110:=((((q109.ext x14).ext e33).ext e34).ko e35 (((q63.ext x14).ext e33).ext e34));have q111:=(q110.kb e36 q64);have q112:=((q111.ext e37).ko e38 (q70.ext e37));have q113:=(q112.kb e39 q71);have x18:Ext w0 w45:=(Xc (Co (Xt (Xc (Co (Xt (Xt (Xt (Xc (Xc (Xt x10 e15) x11) y7) x14) e33) e34) e35 t0_f3.lowF) e36) e37) e38 t0_f3.lowR) e39);refine go ?_;exact ⟨rfl,M1.length-(k+1),by omega,k+1,R++[(⟨Ard,crd,rd⟩:NR)],A4,c4,F++[(dirG s.g st x_1)],A3,c3,by omega,(by omega),(by rw [List.map_append,hR,List.take_add_one,List.map_append,hx_2];show _++[rd]=_++[readsG s.g st M1 x_1];rw [hrd,show i=s.g.names from (by show i=s.names.length;omega)]<;>rfl),(by rw [hF,List.take_add_one,List.map_append,hx_2]<;>rfl),rfl,rfl,rfl,rfl,rfl,rfl,rfl,rfl,rfl,vW,⟨b17,q83,t0_f3.lowE,q91,t0_f3.lowM,q99,q100,low4,(NRs.snoc (NRs.blk q102 e39 q71 (by decide)) q75 (fun k hk=>by have _h:=l0_f6 k hk;omega)),q105,low3,(Vx.Own.nil _ _ _),(fun k hk=>by simp [Value.ownBlock] at hk),q113⟩,x18⟩;refine go ?_;refine y_r0 ?_;exact ⟨rfl,M1,mA1,mc1,pl1,R,rA,rc,F,fA,fc,hM,hpl1,(by rw [hR,List.take_of_length_le (by omega)]),(by rw [hF,List.take_of_length_le (by omega)]),x9,⟨t0_f3.bm,t0_f3.e,t0_f3.lowE,t0_f3.m,t0_f3.lowM,t0_f3.p,t0_f3.r,t0_f3.lowR,t0_f3.rr,t0_f3.f,t0_f3.lowF,(Vx.Own.nil _ _ _),(fun k hk=>by simp [Value.ownBlock] at hk),t0_f3.b⟩⟩
def layN(L:List (List Nat))(e:Nat×Nat):List (List Nat):=L.set e.1 (L.getD e.1 []++[e.2])
def layAll(L:List (List Nat))(es:List (Nat×Nat)):List (List Nat):=es.foldl layN L
theorem layAll_len:∀(es:List (Nat×Nat)) (L:List (List Nat)),(layAll L es).length=L.length
  | [],_=>rfl
  | e::es,L=>by
    show (layAll (layN L e) es).length=_;rw [layAll_len es];unfold layN;simp
theorem layAll_mem:∀(es:List (Nat×Nat)) (L:List (List Nat)) (x y:Nat),(∀e∈es,e.1<L.length)→(y∈(layAll L es).getD x []↔y∈L.getD x []∨(x,y)∈es)
  | [],_,_,_,_=>by simp [layAll]
  | e::es,L,x,y,h=>by
    show y∈(layAll (layN L e) es).getD x []↔_;have he:=h e (by simp);rw [layAll_mem es _ x y (fun a ha=>by unfold layN;rw [List.length_set];exact h a (by simp [ha]))];unfold layN;rw [getD_set];by_cases hx:e.1=x;rw [if_pos ⟨hx,he⟩,List.mem_append,List.mem_singleton,List.mem_cons,hx];obtain ⟨a,b⟩:=e;simp only at hx;subst hx;simp only [Prod.mk.injEq,true_and];exact or_assoc;rw [if_neg (fun hh=>hx hh.1),List.mem_cons];have:¬(x,y)=e:=fun hh=>hx (by rw [←hh])
    simp [this]
theorem layAll_row:∀(es:List (Nat×Nat)) (L:List (List Nat)) (n:Nat),(∀r∈L,r.length≤n)→∀r∈layAll L es,r.length≤n+es.length
  | [],L,n,h,r,hr=>h r hr
  | e::es,L,n,h,r,hr=>by
    have:=layAll_row es (layN L e) (n+1) (fun a ha=>by
      unfold layN at ha;rcases List.mem_or_eq_of_mem_set ha with ha|ha;have:=h a ha;omega;rw [ha,List.length_append,List.length_singleton];by_cases hl:e.1<L.length;have:=h _ (List.mem_of_getElem? (show L[e.1]?=some (L.getD e.1 []) by rw [List.getD_eq_getElem?_getD,List.getElem?_eq_getElem hl];rfl));omega;rw [List.getD_eq_getElem?_getD,List.getElem?_eq_none (by omega)];simp) r hr
    rw [List.length_cons];omega
theorem layAll_snoc{L:List (List Nat)}{es:List (Nat×Nat)}{e:Nat×Nat} : layAll L (es++[e])=layN (layAll L es) e:=by unfold layAll;rw [List.foldl_append];rfl
def kEv(g:GD)(st:List ASt)(M:List (Int×Int))(y:Nat)(m:Int)(p:P2)(k:Nat):List (Nat×Nat):=(List.range k).filterMap fun i=>match p.2[i]? with
  | some z=>if z.kind=3∧(p.2.drop (i+1)).all (nulB g)=true then some (plN M (runS st m (p.2.take i),z.n),y) else none
  | none=>none
def jEv(g:GD)(st:List ASt)(M:List (Int×Int))(y:Nat)(q:Int×Int)(j:Nat):List (Nat×Nat):=(List.range j).flatMap fun i=>match g.prods[i]? with
  | some p=>if p.1=q.2 then kEv g st M y q.1 p p.2.length else []
  | none=>[]
def fEv(g:GD)(st:List ASt)(M:List (Int×Int))(n:Nat):List (Nat×Nat):=(List.range n).flatMap fun y=>match M[y]? with
  | some q=>jEv g st M y q g.prods.length
  | none=>[]
def jBk(g:GD)(st:List ASt)(y:Nat)(q:Int×Int)(j:Nat):List ((Int×Int)×Nat):=(List.range j).filterMap fun i=>match g.prods[i]? with
  | some p=>if p.1=q.2 then some ((runS st q.1 p.2,((i:Nat):Int)),y) else none
  | none=>none
def fBk(g:GD)(st:List ASt)(M:List (Int×Int))(n:Nat):List ((Int×Int)×Nat):=(List.range n).flatMap fun y=>match M[y]? with
  | some q=>jBk g st y q g.prods.length
  | none=>[]
section
variable {g:GD}{st:List ASt}{M:List (Int×Int)}{y:Nat}{m:Int}{p:P2}{q:Int×Int}{j k n:Nat}{z:Sym}
theorem kEv_yes(hz:p.2[k]?=some z)(h:z.kind=3)(h2:(p.2.drop (k+1)).all (nulB g)=true):kEv g st M y m p (k+1)=kEv g st M y m p k++[(plN M (runS st m (p.2.take k),z.n),y)]:=by
  unfold kEv;rw [List.range_succ,List.filterMap_append];congr 1;exact fm_one (by rw [hz];exact if_pos ⟨h,h2⟩)
theorem kEv_no(hz:p.2[k]?=some z)(h:z.kind=3→¬(p.2.drop (k+1)).all (nulB g)=true):kEv g st M y m p (k+1)=kEv g st M y m p k:=by
  unfold kEv;rw [List.range_succ,List.filterMap_append,fm_none (a:=k) (by rw [hz];exact if_neg fun hh=>h hh.1 hh.2),List.append_nil]
theorem jEv_yes(hp:g.prods[j]?=some p)(h:p.1=q.2):jEv g st M y q (j+1)=jEv g st M y q j++kEv g st M y q.1 p p.2.length:=by
  unfold jEv;rw [List.range_succ,List.flatMap_append];simp [hp,h]
theorem jEv_no(hp:g.prods[j]?=some p)(h:¬p.1=q.2):jEv g st M y q (j+1)=jEv g st M y q j:=by
  unfold jEv;rw [List.range_succ,List.flatMap_append];simp [hp,h]
theorem fEv_succ(hq:M[n]?=some q):fEv g st M (n+1)=fEv g st M n++jEv g st M n q g.prods.length:=by
  unfold fEv;rw [List.range_succ,List.flatMap_append];simp [hq]
theorem jBk_yes(hp:g.prods[j]?=some p)(h:p.1=q.2):jBk g st y q (j+1)=jBk g st y q j++[((runS st q.1 p.2,((j:Nat):Int)),y)]:=by
  unfold jBk;rw [List.range_succ,List.filterMap_append];congr 1;exact fm_one (by rw [hp];exact if_pos h)
theorem jBk_no(hp:g.prods[j]?=some p)(h:¬p.1=q.2):jBk g st y q (j+1)=jBk g st y q j:=by
  unfold jBk;rw [List.range_succ,List.filterMap_append,fm_none (a:=j) (by rw [hp];exact if_neg h),List.append_nil]
theorem fBk_succ(hq:M[n]?=some q):fBk g st M (n+1)=fBk g st M n++jBk g st n q g.prods.length:=by
  unfold fBk;rw [List.range_succ,List.flatMap_append];simp [hq]
theorem kEv_len:(kEv g st M y m p k).length≤k:=by
  have:=List.length_filterMap_le (fun i:Nat=>match p.2[i]? with
  | some z=>if z.kind=3∧(p.2.drop (i+1)).all (nulB g)=true then some (plN M (runS st m (p.2.take i),z.n),y) else none
  | none=>none) (List.range k)
  rw [List.length_range] at this;exact this
theorem jEv_len(hR:∀p∈g.prods,p.2.length≤16):(jEv g st M y q j).length≤j*16:=by
  induction j with
  | zero=>simp [jEv]
  | succ j ih =>
    by_cases hj:j<g.prods.length;have hp:g.prods[j]?=some g.prods[j]:=List.getElem?_eq_getElem hj
    generalize g.prods[j]=p at hp
    have h1:=hR p (List.mem_of_getElem? hp);have h2:=kEv_len (g:=g) (st:=st) (M:=M) (y:=y) (m:=q.1) (p:=p) (k:=p.2.length);by_cases hc:p.1=q.2;rw [jEv_yes hp hc,List.length_append];omega;rw [jEv_no hp hc];omega
    have:jEv g st M y q (j+1)=jEv g st M y q j:=by
      unfold jEv;rw [List.range_succ,List.flatMap_append];simp [List.getElem?_eq_none (show g.prods.length≤j by omega)]
    rw [this];omega
theorem fEv_len(hR:∀p∈g.prods,p.2.length≤16):(fEv g st M n).length≤n*(g.prods.length*16):=by
  induction n with
  | zero=>simp [fEv]
  | succ n ih =>
    rw [Nat.add_mul];by_cases hn:n<M.length;have hq:M[n]?=some M[n]:=List.getElem?_eq_getElem hn;rw [fEv_succ hq,List.length_append];have:=jEv_len (g:=g) (st:=st) (M:=M) (y:=n) (q:=M[n]) (j:=g.prods.length) hR;omega
    have:fEv g st M (n+1)=fEv g st M n:=by
      unfold fEv;rw [List.range_succ,List.flatMap_append];simp [List.getElem?_eq_none (show M.length≤n by omega)]
    rw [this];omega
theorem jBk_len:(jBk g st y q j).length≤j:=by
  have:=List.length_filterMap_le (fun i:Nat=>match g.prods[i]? with
  | some p=>if p.1=q.2 then some ((runS st q.1 p.2,((i:Nat):Int)),y) else none
  | none=>none) (List.range j)
  rw [List.length_range] at this;exact this
theorem fBk_len:(fBk g st M n).length≤n*g.prods.length:=by
  induction n with
  | zero=>simp [fBk]
  | succ n ih =>
    rw [Nat.add_mul];by_cases hn:n<M.length;have hq:M[n]?=some M[n]:=List.getElem?_eq_getElem hn;rw [fBk_succ hq,List.length_append];have:=jBk_len (g:=g) (st:=st) (y:=n) (q:=M[n]) (j:=g.prods.length);omega
    have:fBk g st M (n+1)=fBk g st M n:=by
      unfold fBk;rw [List.range_succ,List.flatMap_append];simp [List.getElem?_eq_none (show M.length≤n by omega)]
    rw [this];omega
end
section
variable {g:GD}{st:List ASt}(h:Aut g st)
include h
theorem path_at{m:Int}{j:Nat}{p:P2}(hj:g.prods[j]?=some p)(hg:0≤goS st m ⟨3,p.1⟩):∀k:Nat,k≤p.2.length→∃(n:Nat) (v:ASt),runS st m (p.2.take k)=(n:Nat)∧st[n]?=some v∧(⟨(j:Nat),(k:Nat)⟩:Itm)∈v.items
  | 0,_=>by
    obtain ⟨n,u,rfl,hu⟩:=at_state h hg;obtain ⟨x,hx,hb⟩:=(go_stands h hu _).1 hg;exact ⟨n,u,rfl,hu,items_closed h hu hx hb rfl hj rfl⟩
  | k+1,hk=>by
    obtain ⟨n,v,e1,e2,e3⟩:=path_at hj hg k (by omega);have hz:p.2[k]?=some p.2[k]:=List.getElem?_eq_getElem (by omega)
    generalize p.2[k]=z at hz
    have hb:behindG g ⟨(j:Nat),(k:Nat)⟩=some z:=by
      unfold behindG;simp only;rw [rightG_nat hj,show ((k:Nat):Int).toNat=k by omega];exact hz
    obtain ⟨m2,v2,f1,f2,f3⟩:=item_over h e2 e3 hb;refine ⟨m2,v2,?_,f2,f3⟩;rw [List.take_add_one,hz];have h1:=runS_append (st:=st) [z] e1 (by omega);rw [show (some z).toList = [z] from rfl,h1,run_one];exact f1
theorem path_go{m:Int}{j k:Nat}{p:P2}{z:Sym}(hj:g.prods[j]?=some p)(hg:0≤goS st m ⟨3,p.1⟩)(hz:p.2[k]?=some z):0≤goS st (runS st m (p.2.take k)) z∧runS st m (p.2.take (k+1))=goS st (runS st m (p.2.take k)) z:=by
  have hk:=(List.getElem?_eq_some_iff.1 hz).1;obtain ⟨n,v,e1,e2,e3⟩:=path_at h hj hg k (by omega)
  have hb:behindG g ⟨(j:Nat),(k:Nat)⟩=some z:=by
    unfold behindG;simp only;rw [rightG_nat hj,show ((k:Nat):Int).toNat=k by omega];exact hz
  refine ⟨by rw [e1];exact (go_stands h e2 z).2 ⟨_,e3,hb⟩,?_⟩;rw [List.take_add_one,hz];have h1:=runS_append (st:=st) [z] e1 (by omega);rw [show (some z).toList = [z] from rfl,h1,run_one,e1]
theorem inc_ev{M:List (Int×Int)}(hM:MvL st M){x y:Nat}{a:Int×Int}(hx:M[x]?=some a):(x,y)∈fEv g st M M.length↔∃b,M[y]?=some b∧IncE g st a b:=by
  have hxl:=(List.getElem?_eq_some_iff.1 hx).1;unfold fEv;rw [List.mem_flatMap];constructor;rintro ⟨y',h1,h2⟩
  split at h2
  rename_i q hq;unfold jEv at h2;rw [List.mem_flatMap] at h2;obtain ⟨j,h3,h4⟩:=h2
  split at h4
  rename_i p hp
  split at h4
  rename_i hc;unfold kEv at h4;rw [List.mem_filterMap] at h4;obtain ⟨k,h5,h6⟩:=h4
  split at h6
  rename_i z hz
  split at h6
  rename_i hh;simp only [Option.some.injEq,Prod.mk.injEq] at h6;obtain ⟨h7,rfl⟩:=h6;have hmv:=(hM.mem _).1 (List.mem_of_getElem? hq);have hgo:=(path_go h hp (by rw [hc];exact hmv) hz).1;have hin:(runS st q.1 (p.2.take k),z.n)∈M:=(hM.mem _).2 (by unfold MvP;rw [←Sym.name hh.1];exact hgo);unfold plN at h7;rw [if_pos hin] at h7;have h8:=idxOf_at hin;rw [h7,hx] at h8;cases h8;exact ⟨q,hq,j,k,p,z,hp,hz,hh.1,nulB_iff.1 hh.2,hmv,hc.symm,rfl⟩;cases h6;cases h6;cases h4;cases h4;cases h2;rintro ⟨q,hq,j,k,p,z,hp,hz,hk,hn,hmv,hc,rfl⟩;refine ⟨y,List.mem_range.2 (List.getElem?_eq_some_iff.1 hq).1,?_⟩;rw [hq];show (x,y)∈jEv g st M y q g.prods.length;unfold jEv;rw [List.mem_flatMap];refine ⟨j,List.mem_range.2 (List.getElem?_eq_some_iff.1 hp).1,?_⟩;rw [hp];show (x,y)∈(if p.1=q.2 then kEv g st M y q.1 p p.2.length else []);rw [if_pos hc.symm];unfold kEv;rw [List.mem_filterMap];refine ⟨k,List.mem_range.2 (List.getElem?_eq_some_iff.1 hz).1,?_⟩;rw [hz];show (if z.kind=3∧(p.2.drop (k+1)).all (nulB g)=true then _ else _)=_;rw [if_pos ⟨hk,nulB_iff.2 hn⟩];have hin:=List.mem_of_getElem? hx;unfold plN;rw [if_pos hin,idxOf_of hM.nd hx]
theorem back_ev{M:List (Int×Int)}(hM:MvL st M){f:Int×Int}{y:Nat} : (f,y)∈fBk g st M M.length↔∃(b:Int×Int) (j:Nat) (p:P2),M[y]?=some b∧g.prods[j]?=some p∧p.1=b.2∧f=(runS st b.1 p.2,((j:Nat):Int)):=by
  unfold fBk;rw [List.mem_flatMap];constructor;rintro ⟨y',h1,h2⟩
  split at h2
  rename_i q hq;unfold jBk at h2;rw [List.mem_filterMap] at h2;obtain ⟨j,h3,h4⟩:=h2
  split at h4
  rename_i p hp
  split at h4
  rename_i hc;simp only [Option.some.injEq,Prod.mk.injEq] at h4;obtain ⟨h5,rfl⟩:=h4;exact ⟨q,j,p,hq,hp,hc,h5.symm⟩;cases h4;cases h4;cases h2;rintro ⟨q,j,p,hq,hp,hc,rfl⟩;refine ⟨y,List.mem_range.2 (List.getElem?_eq_some_iff.1 hq).1,?_⟩;rw [hq];show _∈jBk g st y q g.prods.length;unfold jBk;rw [List.mem_filterMap];refine ⟨j,List.mem_range.2 (List.getElem?_eq_some_iff.1 hp).1,?_⟩;rw [hp];exact if_pos hc
end
abbrev NR.sl(x:NR):Value:=.slice x.A x.l.length x.c
structure Fam(B:Nat)(w:World)(L:List NR):Prop where
  all:NRs B w L
  apart:∀(i j:Nat) (x y:NR),i≠j→L[i]?=some x→L[j]?=some y→∀k,x.sl.ownBlock=some k→¬y.sl.ownBlock=some k
section
variable {B:Nat}{w w':World}{L:List NR}
theorem Fam.keep{K:Nat→Prop}(h:Fam B w L)(c:Chg K w w')(hk:∀x∈L,∀k,x.sl.ownBlock=some k→k<w.heap.size→¬K k):Fam B w' L:=⟨h.all.keep c hk,h.apart⟩
theorem Fam.ext(h:Fam B w L)(c:Ext w w'):Fam B w' L:=⟨h.all.ext c,h.apart⟩
theorem Fam.blk{b t:Nat}{cs:Array Value}(h:Fam B w L)(c:Chg1 b w w')(hb:Blk w b cs t)(ht:3≠t):Fam B w' L:=⟨h.all.blk c hb ht,h.apart⟩
theorem Fam.map{κ:Type}{enc:κ→Value}{b:Nat}{m:List (κ×Value)}(h:Fam B w L)(c:Chg1 b w w')(hb:MapB enc w b m):Fam B w' L:=⟨h.all.map c hb,h.apart⟩
theorem Fam.own{e sz n:Nat}{v:Value}{xs:List Value}(h:Fam B w L)(c:Chg (fun b=>v.ownBlock=some b) w w')(ho:Vx.Own w e sz v n xs)(ht:3≠e):Fam B w' L:=⟨h.all.own c ho ht,h.apart⟩
theorem Fam.at(h:Fam B w L){i:Nat}{x:NR}(hx:L[i]?=some x):Vx.Own w 3 1 x.sl x.l.length (x.l.flatMap nats)∧∀k,x.sl.ownBlock=some k→B≤k:=h.all x (List.mem_of_getElem? hx)
theorem Fam.upd(h:Fam B w L){i:Nat}{x x':NR}(hx:L[i]?=some x)(c:Chg (fun b=>x.sl.ownBlock=some b) w w')(ho:Vx.Own w' 3 1 x'.sl x'.l.length (x'.l.flatMap nats))(hl:∀k,x'.sl.ownBlock=some k→B≤k)(hat:x'.sl.ownBlock=x.sl.ownBlock∨x'.sl.ownBlock=some w.heap.size):Fam B w' (L.set i x'):=by
  have hi:=(List.getElem?_eq_some_iff.1 hx).1
  have get:∀(j:Nat) (y:NR),(L.set i x')[j]?=some y→(j=i∧y=x')∨(j≠i∧L[j]?=some y):=fun j y hy=>by
    by_cases hj:i=j;subst hj;rw [List.getElem?_set_self hi] at hy;cases hy;exact .inl ⟨rfl,rfl⟩;rw [List.getElem?_set_ne hj] at hy;exact .inr ⟨fun e=>hj e.symm,hy⟩
  refine ⟨fun y hy=>?_,fun a b y z hab ha hb k h1 h2=>?_⟩;obtain ⟨j,hj⟩:=List.mem_iff_getElem?.1 hy;rcases get j y hj with ⟨_,rfl⟩|⟨hne,hj⟩;exact ⟨ho,hl⟩;have:=h.at hj;exact ⟨this.1.keep c fun k h1 h2=>h.apart j i y x hne hj hx k h1 h2,this.2⟩;rcases get a y ha with ⟨ea,ra⟩|⟨ea,ha⟩<;>rcases get b z hb with ⟨eb,rb⟩|⟨eb,hb⟩;exact hab (by rw [ea,eb]);rw [ra] at h1;rcases hat with e|e;exact h.apart i b x z (fun e=>eb e.symm) hx hb k (by rw [←e];exact h1) h2;rw [e] at h1;cases h1;have:=(h.at hb).1.lt _ h2;omega;rw [rb] at h2;rcases hat with e|e;exact h.apart a i y x ea ha hx k h1 (by rw [←e];exact h2);rw [e] at h2;cases h2;have:=(h.at ha).1.lt _ h1;omega;exact h.apart a b y z hab ha hb k h1 h2
theorem Fam.snoc(h:Fam B w L){x':NR}(c:Ext w w')(ho:Vx.Own w' 3 1 x'.sl x'.l.length (x'.l.flatMap nats))(hl:∀k,x'.sl.ownBlock=some k→B≤k)(hat:x'.sl.ownBlock=none∨x'.sl.ownBlock=some w.heap.size):Fam B w' (L++[x']):=by
  have get:∀(j:Nat) (y:NR),(L++[x'])[j]?=some y→(j=L.length∧y=x')∨L[j]?=some y:=fun j y hy=>by
    by_cases hj:j<L.length;rw [List.getElem?_append_left hj] at hy;exact .inr hy;rw [List.getElem?_append_right (by omega)] at hy
    have:j-L.length=0:=by
      have:=(List.getElem?_eq_some_iff.1 hy).1
      simpa using this
    rw [this] at hy;simp at hy;exact .inl ⟨by omega,hy.symm⟩
  refine ⟨fun y hy=>?_,fun a b y z hab ha hb k h1 h2=>?_⟩;rcases List.mem_append.1 hy with hy|hy;exact (h.ext c).all y hy;rw [List.mem_singleton.1 hy];exact ⟨ho,hl⟩;rcases get a y ha with ⟨ea,ra⟩|ha<;>rcases get b z hb with ⟨eb,rb⟩|hb;exact hab (by rw [ea,eb]);rw [ra] at h1;rcases hat with e|e;rw [e] at h1;cases h1;rw [e] at h1;cases h1;have:=(h.at hb).1.lt _ h2;omega;rw [rb] at h2;rcases hat with e|e;rw [e] at h2;cases h2;rw [e] at h2;cases h2;have:=(h.at ha).1.lt _ h1;omega;exact h.apart a b y z hab ha hb k h1 h2
end
def kvB(p:(Int×Int)×NR):(Int×Int)×Value:=(p.1,.agg #[p.2.sl])
def bkRow(K:List ((Int×Int)×NR))(q:Int×Int):NR:=((K.find? fun p=>p.1=q).map (·.2)).getD ⟨none,0,[]⟩
def setK:List ((Int×Int)×NR)→(Int×Int)→NR→List ((Int×Int)×NR)
  | [],k,x=>[(k,x)]
  | p::r,k,x=>if p.1=k then (k,x)::r else p::setK r k x
theorem lookM_kv{K:List ((Int×Int)×NR)}{q:Int×Int} : (lookM (K.map kvB) q).getD (.agg #[.slice none 0 0]) = .agg #[(bkRow K q).sl]:=by
  unfold lookM bkRow;rw [List.find?_map];show ((Option.map kvB (K.find? fun p=>decide (p.1=q))).map (·.2)).getD _=_
  cases hc:K.find? fun p=>decide (p.1=q) with
  | none=>rfl
  | some p=>rfl
theorem setM_kv{q:Int×Int}{x:NR} : ∀ {K:List ((Int×Int)×NR)},setM (K.map kvB) q (.agg #[x.sl])=(setK K q x).map kvB
  | []=>rfl
  | p::r=>by
    rw [List.map_cons,setM,setK];show (if p.1=q then _ else _)=_
    split
    rfl
    rw [setM_kv];rfl
theorem bkRow_set{q f:Int×Int}{x:NR} : ∀ {K:List ((Int×Int)×NR)},bkRow (setK K q x) f=if f=q then x else bkRow K f
  | []=>by
    unfold bkRow setK;by_cases h:f=q;rw [if_pos h];simp [h];rw [if_neg h];simp [Ne.symm h]
  | p::r=>by
    have ih:=bkRow_set (q:=q) (f:=f) (x:=x) (K:=r);rw [setK]
    split
    rename_i h1;unfold bkRow;by_cases h:f=q;rw [if_pos h];simp [h];rw [if_neg h,List.find?_cons_of_neg (by simpa using Ne.symm h),List.find?_cons_of_neg (by simp only [h1];simpa using Ne.symm h)];rename_i h1;by_cases h2:p.1=f;have hf:¬f=q:=fun e=>h1 (h2.trans e)
    rw [if_neg hf];unfold bkRow;rw [List.find?_cons_of_pos (by simpa using h2),List.find?_cons_of_pos (by simpa using h2)];unfold bkRow at ih ⊢;rw [List.find?_cons_of_neg (by simpa using h2),List.find?_cons_of_neg (by simpa using h2)];exact ih
theorem setK_at{q:Int×Int} : ∀ {K:List ((Int×Int)×NR)},(∃j,(K.map (·.2))[j]?=some (bkRow K q)∧∀x,(setK K q x).map (·.2)=(K.map (·.2)).set j x)∨(bkRow K q=⟨none,0,[]⟩∧∀x,(setK K q x).map (·.2)=K.map (·.2)++[x])
  | []=>.inr ⟨rfl,fun x=>rfl⟩
  | p::r=>by
    by_cases h:p.1=q
    left
    refine ⟨0,?_,fun x=>?_⟩;unfold bkRow;rw [List.find?_cons_of_pos (by simpa using h)];rfl;rw [setK,if_pos h];rfl;have hb:bkRow (p::r) q=bkRow r q:=by unfold bkRow;rw [List.find?_cons_of_neg (by simpa using h)]
    rcases setK_at (q:=q) (K:=r) with ⟨j,h1,h2⟩|⟨h1,h2⟩
    left
    refine ⟨j+1,by rw [hb];simpa using h1,fun x=>?_⟩;rw [setK,if_neg h,List.map_cons,h2];rfl
    right
    refine ⟨by rw [hb];exact h1,fun x=>?_⟩;rw [setK,if_neg h,List.map_cons,h2];rfl
theorem setK_mem{q:Int×Int}{x:NR} : ∀ {K:List ((Int×Int)×NR)} {p:(Int×Int)×NR},p∈setK K q x→p∈K∨p=(q,x)
  | [],p,h=>.inr (by simpa [setK] using h)
  | a::r,p,h=>by
    rw [setK] at h
    split at h
    rcases List.mem_cons.1 h with h|h;exact .inr h;exact .inl (by simp [h]);rcases List.mem_cons.1 h with h|h;exact .inl (by simp [h]);rcases setK_mem h with h|h;exact .inl (by simp [h]);exact .inr h
section
variable {B:Nat}{w w':World}{I:List NR}{K:List ((Int×Int)×NR)}{q:Int×Int}{x':NR}
theorem Fam.bk(h:Fam B w (I++K.map (·.2))):Vx.Own w 3 1 (bkRow K q).sl (bkRow K q).l.length ((bkRow K q).l.flatMap nats)∧∀k,(bkRow K q).sl.ownBlock=some k→B≤k:=by
  rcases setK_at (q:=q) (K:=K) with ⟨j,h1,_⟩|⟨h1,_⟩;exact h.at (i:=I.length+j) (by rw [List.getElem?_append_right (by omega),show I.length+j-I.length=j by omega];exact h1);rw [h1];exact ⟨Vx.Own.nil _ _ _,fun k hk=>by simp [Value.ownBlock,NR.sl] at hk⟩
theorem Fam.back(h:Fam B w (I++K.map (·.2)))(c:Chg (fun b=>(bkRow K q).sl.ownBlock=some b) w w')(ho:Vx.Own w' 3 1 x'.sl x'.l.length (x'.l.flatMap nats))(hl:∀k,x'.sl.ownBlock=some k→B≤k)(hat:x'.sl.ownBlock=(bkRow K q).sl.ownBlock∨x'.sl.ownBlock=some w.heap.size):Fam B w' (I++(setK K q x').map (·.2)):=by
  rcases setK_at (q:=q) (K:=K) with ⟨j,h1,h2⟩|⟨h1,h2⟩;have h3:=h.upd (i:=I.length+j) (x:=bkRow K q) (by rw [List.getElem?_append_right (by omega),show I.length+j-I.length=j by omega];exact h1) c ho hl hat;rw [List.set_append_right _ _ (by omega),show I.length+j-I.length=j by omega,←h2] at h3;exact h3;rw [h2,←List.append_assoc];rw [h1] at c hat;exact h.snoc (c.mono fun x _ hx=>by simp [Value.ownBlock,NR.sl] at hx) ho hl (hat.imp (fun e=>e.trans (by simp [Value.ownBlock,NR.sl])) id)
theorem Fam.inc(h:Fam B w (I++K.map (·.2))){i:Nat}{x:NR}(hx:I[i]?=some x)(c:Chg (fun b=>x.sl.ownBlock=some b) w w')(ho:Vx.Own w' 3 1 x'.sl x'.l.length (x'.l.flatMap nats))(hl:∀k,x'.sl.ownBlock=some k→B≤k)(hat:x'.sl.ownBlock=x.sl.ownBlock∨x'.sl.ownBlock=some w.heap.size):Fam B w' (I.set i x'++K.map (·.2)):=by
  have hi:=(List.getElem?_eq_some_iff.1 hx).1;have:=h.upd (i:=i) (x:=x) (by rw [List.getElem?_append_left hi];exact hx) c ho hl hat;rw [List.set_append_left _ _ hi] at this;exact this
theorem Fam.iat(h:Fam B w (I++K.map (·.2))){i:Nat}{x:NR}(hx:I[i]?=some x):Vx.Own w 3 1 x.sl x.l.length (x.l.flatMap nats)∧∀k,x.sl.ownBlock=some k→B≤k:=h.at (i:=i) (by rw [List.getElem?_append_left (List.getElem?_eq_some_iff.1 hx).1];exact hx)
end
theorem rowI_len{I:List NR}{n i:Nat}{es:List (Nat×Nat)}(hI:I.map NR.l=layAll (List.replicate n []) es){x:NR}(hx:I[i]?=some x):x.l.length≤es.length:=by
  have:=layAll_row es (List.replicate n []) 0 (fun r hr=>by rw [List.eq_of_mem_replicate hr];simp) x.l (by rw [←hI];exact List.mem_map_of_mem (List.mem_of_getElem? hx));omega
def bkOf(es:List ((Int×Int)×Nat))(f:Int×Int):List Nat:=(es.filter fun e=>e.1=f).map (·.2)
theorem bkOf_len{es:List ((Int×Int)×Nat)}{f:Int×Int} : (bkOf es f).length≤es.length:=by unfold bkOf;rw [List.length_map];exact List.length_filter_le ..
theorem bkOf_snoc{es:List ((Int×Int)×Nat)}{f q:Int×Int}{y:Nat} : bkOf (es++[(q,y)]) f=if f=q then bkOf es f++[y] else bkOf es f:=by
  unfold bkOf;rw [List.filter_append,List.map_append];by_cases h:f=q;rw [if_pos h];simp [h];rw [if_neg h];simp [Ne.symm h]
theorem bkOf_mem{es:List ((Int×Int)×Nat)}{f:Int×Int}{y:Nat} : y∈bkOf es f↔(f,y)∈es:=by
  unfold bkOf;rw [List.mem_map];constructor;rintro ⟨⟨a,b⟩,h1,rfl⟩;rw [List.mem_filter] at h1;have h2:a=f:=by simpa using h1.2
  rw [←h2];exact h1.1;intro h;exact ⟨(f,y),List.mem_filter.2 ⟨h,by simp⟩,rfl⟩
theorem made_nr(n:Nat):(madeCells (Value.slice none 0 0).cells (n*1)).toList=(List.replicate n (⟨none,0,[]⟩:NR)).flatMap NR.cs:=made_flat (z:=(Value.slice none 0 0).cells) (cs:=NR.cs) (x:=⟨none,0,[]⟩) rfl (by decide) n
end Go.Proofs.YtabfopjkgeoiiaaGreatDoor
