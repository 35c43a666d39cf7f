/-
  Part 16 of the proof: texts Si Ta To. No conditions.
-/
import Derived.Shelf.Lay
import Derived.Shelf.LaysM
import Derived.Shelf.Strings.Builder1
import Derived.Shelf.Strings.BuilderF
import Derived.Shelf.Strings.BuilderK
import Derived.Shelf.Strconv.Itoa3
import Derived.Lib.ItoaLen
import Derived.Lib.OthersKept
import Derived.Test.YtabfopjkgeoiiaaGreatDoorRows
import Derived.Test.YtabfopjkgeoiiaaGreatDoorPrg
import Derived.Test.YtabfopjkgeoiiaaGreatDoorPrh
import Derived.Test.YtabfopjkgeoiiaaGreatDoorPrl
import Derived.Test.YtabfopjkgeoiiaaGreatDoorPrm
set_option linter.unusedVariables false
set_option linter.unusedSimpArgs false
set_option linter.unusedSectionVars false
set_option maxRecDepth 100000
set_option maxHeartbeats 4000000
namespace Go.Proofs
open Go.Shelf Go.Vx
shelf_lay Lays.n169 Nm 169 at Tryz as Tryz.lays169
shelf_lay LaysM.n171 Nm 171 at Tryz as Tryz.laysM171
theorem Tryz.bx169:Builder.Extra Tryz.prog Tryz.lays169_ren where
  sizeBuilder:=by kernel_rfl
  liesBuilder:=by kernel_rfl
  t5:=by kernel_rfl
  a5:=fun w=>run_isAgg (P:=Tryz.prog) (t:=5) (by kernel_rfl) w
  z5:=fun w=>run_size (P:=Tryz.prog) (t:=5) (by kernel_rfl) w
  v5:=fun w=>run_zero (P:=Tryz.prog) (t:=5) (by kernel_rfl) w
  infoByte:=by kernel_rfl
  cellsByte:=by kernel_rfl
  sizeByte:=by kernel_rfl
  neB5:=by decide
end Go.Proofs
namespace Go.Proofs.YtabfopjkgeoiiaaGreatDoor
open Go Go.RowKit Go.Vx
def Bld(B b:Nat)(l:List UInt8)(w:World):Prop:=Lib.IsBuilder 248 5 B b (Lib.byteCells l) w
def KBB(B b:Nat)(w:World)(k:Nat):Prop:=B≤k∧(k=b∨∃c fz,w.heap[k]?=some (.cells c 5 fz))
theorem KBB.ne{B b f t:Nat}{w:World}{cs:Array Value}(h:Blk w f cs t)(hb:f≠b)(ht:t≠5):¬KBB B b w f:=fun hk=>hk.2.elim hb fun ⟨c,fz,h1⟩=>by
  unfold Blk at h;rw [h] at h1;cases h1;exact ht rfl
theorem Bld.parts{B b:Nat}{l:List UInt8}{w:World}(h:Bld B b l w):B≤b∧∃p A c,(p = .pointer none∨p = .pointer (some ⟨b,0,none⟩))∧Blk w b #[p,.slice A l.length c] 248∧Vx.Own w 5 1 (.slice A l.length c) l.length (Lib.byteCells l)∧(∀k,(Value.slice A l.length c).ownBlock=some k→B≤k):=by
  have key:∀p,Lib.BuilderAt 248 5 B b p (Lib.byteCells l) w→B≤b∧∃A c,Blk w b #[p,.slice A l.length c] 248∧Vx.Own w 5 1 (.slice A l.length c) l.length (Lib.byteCells l)∧(∀k,(Value.slice A l.length c).ownBlock=some k→B≤k):=by
    rintro p ⟨hB,v,hb,hown,_⟩;rw [Lib.byteCells_length] at hown;obtain ⟨A,c,rfl,_⟩:=Own.shape (Own.unbase hown);exact ⟨hB,A,c,hb,Own.unbase hown,Own.lowB hown⟩
  rcases h with h|h;obtain ⟨h1,A,c,h2⟩:=key _ h;exact ⟨h1,_,A,c,.inl rfl,h2⟩;obtain ⟨h1,A,c,h2⟩:=key _ h;exact ⟨h1,_,A,c,.inr rfl,h2⟩
theorem Bld.of{B b n c:Nat}{A:Option Addr}{l:List UInt8}{w:World}(hB:B≤b)(hb:Blk w b #[.pointer (some ⟨b,0,none⟩),.slice A n c] 248)(hn:n=l.length)(ho:Vx.Own w 5 1 (.slice A n c) n (Lib.byteCells l))(hlo:∀k,(Value.slice A n c).ownBlock=some k→B≤k):Bld B b l w:=by
  subst hn;refine .inr ⟨hB,_,hb,by rw [Lib.byteCells_length];exact Own.base ho hlo,fun hh=>?_⟩;exact ho.ne_blk hb (by decide) _ hh rfl
theorem chg_bld{B b n c:Nat}{A:Option Addr}{xs:List Value}{w w':World}(hB:B≤b)(ho:Vx.Own w 5 1 (.slice A n c) n xs)(hlo:∀k,(Value.slice A n c).ownBlock=some k→B≤k)(h:Chg (fun k=>k=b∨(Value.slice A n c).ownBlock=some k) w w'):Chg (KBB B b w) w w' :=
  h.mono fun k _ hk=>by
    rcases hk with rfl|hk;exact ⟨hB,.inl rfl⟩;refine ⟨hlo k hk,.inr ?_⟩;rcases ho.form with ⟨h1,_⟩|⟨g,cap,cur,h1,hb,_⟩;rw [h1] at hk;simp [Value.ownBlock] at hk;rw [h1] at hk;cases hk;exact ⟨cur,(0,0),hb⟩
theorem Bld.keep{B b:Nat}{l:List UInt8}{K:Nat→Prop}{w w':World}(h:Bld B b l w)(c:Chg K w w')(hk:∀k,K k→k≠b∧∀c fz,w.heap[k]?≠some (.cells c 5 fz)):Bld B b l w':=by
  have key:∀p,Lib.BuilderAt 248 5 B b p (Lib.byteCells l) w→Lib.BuilderAt 248 5 B b p (Lib.byteCells l) w':=by
    rintro p ⟨hB,v,hb,hown,hne⟩;refine ⟨hB,v,(c.keep b (Array.getElem?_eq_some_iff.1 hb).1 fun hK=>(hk b hK).1 rfl).trans hb,⟨hown.1,?_⟩,hne⟩;rcases hown.2 with h1|⟨g,cap,cur,h1,h2,h3,h4⟩;exact .inl h1;exact .inr ⟨g,cap,cur,h1,h2,(c.keep g (Array.getElem?_eq_some_iff.1 h3).1 fun hK=>(hk g hK).2 cur _ h3).trans h3,h4⟩
  rcases h with h|h;exact .inl (key _ h);exact .inr (key _ h)
theorem Bld.ext{B b:Nat}{l:List UInt8}{w w':World}(h:Bld B b l w)(c:Ext w w'):Bld B b l w':=h.keep c fun _ hk=>hk.elim
theorem Bld.new{w:World}{B b:Nat}(h:Blk w b #[.pointer none,.slice none 0 0] 248)(hB:B≤b):Bld B b [] w :=
  .inl ⟨hB,.slice none 0 0,h,World.ownsRow_nil _ _ _ _,by simp [Value.ownBlock]⟩
theorem Gr.ext{w w':World}(h:Gr w w'):Ext w w':=by
  obtain ⟨q,os,rfl⟩:=h;refine ⟨rfl,rfl,rfl,?_,fun b hb _=>?_⟩;show w.heap.size≤(w.heap++os).size;simp;show (w.heap++os)[b]?=_;rw [Array.getElem?_append_left hb]
theorem TabIs.ext{P:Program}{w w':World}{nm:String}{k:IntKind}{zs:List Int}(h:Lib.TabIs P w nm k zs)(c:Ext w w'):Lib.TabIs P w' nm k zs:=by
  unfold Lib.TabIs World.var? at *
  cases hg:P.globalNamed nm with
  | none=>rw [hg] at h;cases h
  | some g =>
    rw [hg] at h;simp only [Option.bind_some] at h ⊢
    have hlt:g<w.heap.size:=by
      apply Classical.byContradiction;intro hh;rw [Array.getElem?_eq_none (by omega)] at h;cases h
    rw [c.keep g hlt not_false];exact h
def TabP(w : World) : Prop := Lib.TabIs Tryz.prog w "internal/strconv.uint64pow10" .u64 Lib.pow10Tab
theorem wbyte(B b:Nat)(l:List UInt8)(x:UInt8)(w:World)(h:Bld B b l w)(hl:l.length+1≤140737488355328)(hB:B≤w.heap.size) :
    Calls Tryz.prog 149 #[.pointer (some ⟨b,0,none⟩),.int .u8 (x.toNat:Int)] w (Ret fun v w'=>v = .nilIface∧Bld B b (l++[x]) w'∧Chg (KBB B b w) w w'):=by
  obtain ⟨h1,p,A,c,hp,hb,ho,hlo⟩:=h.parts;refine ret_mono (writeByte_walk b l.length c B A (Lib.byteCells l) p (x.toNat:Int) w hp hb ho hlo hB hl) ?_;rintro v w' ⟨A',c',rfl,hb',ho',hlo',_,hc⟩;exact ⟨rfl,Bld.of h1 hb' (by simp) (by rw [Lib.byteCells_append];exact ho') hlo',chg_bld h1 ho hlo hc⟩
theorem wstr(B b:Nat)(l:List UInt8)(s:ByteArray)(w:World)(h:Bld B b l w)(hl:l.length+s.size≤140737488355328)(hB:B≤w.heap.size) :
    Calls Tryz.prog 150 #[.pointer (some ⟨b,0,none⟩),.string s] w (Ret fun v w'=>v = .tuple #[.int .i64 s.size,.nilIface]∧Bld B b (l++s.data.toList) w'∧Chg (KBB B b w) w w'):=by
  obtain ⟨h1,p,A,c,hp,hb,ho,hlo⟩:=h.parts;refine ret_mono (writeString_walk b l.length c B A (Lib.byteCells l) p s w hp hb ho hlo hB hl) ?_;rintro v w' ⟨A',c',rfl,hb',ho',hlo',_,hc⟩;exact ⟨rfl,Bld.of h1 hb' (by rw [List.length_append];rfl) (by rw [Lib.byteCells_append];exact ho') hlo',chg_bld h1 ho hlo hc⟩
theorem bstr(B b:Nat)(l:List UInt8)(w:World)(h:Bld B b l w)(hB:B≤w.heap.size) :
    Calls Tryz.prog 152 #[.pointer (some ⟨b,0,none⟩)] w (Ret fun v w'=>v = .string ⟨l.toArray⟩∧Chg (fun k=>B≤k) w w'):=by
  have hc:=Any.Builder_String_any Tryz.lays169 Tryz.bx169 B b l w h hB;change Calls Tryz.prog 152 _ _ _ at hc;refine hc.mono ?_;rintro e w' ⟨rfl,h2⟩;exact ⟨_,rfl,rfl,h2.os,h2.tape,h2.output,h2.size,fun k _ hk=>h2.block k (by omega)⟩
theorem itoa_calls(n:Int)(w:World)(h0 : -9223372036854775808≤n)(h1:n≤9223372036854775807)(ht:TabP w) :
    Calls Tryz.prog 151 #[.int .i64 n] w (Ret fun v w'=>v = .string ⟨(Lib.itoa n).toArray⟩∧Ext w w'):=by
  have hc:=Any.strconv_Itoa Tryz.laysM171 n h0 h1 w ht;change Calls Tryz.prog 151 _ _ _ at hc;refine hc.mono ?_;rintro e w' ⟨rfl,k,os,rfl⟩;exact ⟨_,rfl,rfl,Gr.ext ⟨k,os,rfl⟩⟩
def smallI(x:Itm):Prop:=(-1≤x.p∧x.p≤1000000)∧(0≤x.dot∧x.dot≤1000000)
def itemKey(x:Itm):List UInt8:=[32]++(if x.p = -1 then [115] else Lib.itoa x.p)++[46]++Lib.itoa x.dot
def wkey(l:List Itm):List UInt8:=l.flatMap itemKey
theorem wkey_next{l:List Itm}{i:Nat}{x:Itm}(hx:l[i]?=some x):wkey (l.take (i+1))=wkey (l.take i)++itemKey x:=by
  rw [List.take_add_one,hx];simp [wkey]
theorem wkey_neg{l:List Itm}{i:Nat}{x:Itm}(hx:l[i]?=some x)(hp:x.p = -1):wkey (l.take (i+1))=wkey (l.take i)++[(32:UInt8)]++[(115:UInt8)]++[(46:UInt8)]++Lib.itoa x.dot:=by
  rw [wkey_next hx,itemKey,if_pos hp];simp only [List.append_assoc]
theorem wkey_pos{l:List Itm}{i:Nat}{x:Itm}(hx:l[i]?=some x)(hp:¬x.p = -1):wkey (l.take (i+1))=wkey (l.take i)++[(32:UInt8)]++Lib.itoa x.p++[(46:UInt8)]++Lib.itoa x.dot:=by
  rw [wkey_next hx,itemKey,if_neg hp];simp only [List.append_assoc]
theorem itemKey_len{x:Itm}(h:smallI x):(itemKey x).length≤45:=by
  unfold smallI at h;have h1:=Lib.itoa_length_le x.p (by omega) (by omega);have h2:=Lib.itoa_length_le x.dot (by omega) (by omega);unfold itemKey
  split<;>simp only [List.length_append,List.length_cons,List.length_nil]<;>omega
theorem wkey_len{l:List Itm}(h:∀x∈l,smallI x)(i:Nat):(wkey (l.take i)).length≤i*45:=by
  induction i with
  | zero=>simp [wkey]
  | succ i ih =>
    cases hx:l[i]? with
    | none =>
      have:l.length≤i:=by simpa using hx
      rw [List.take_of_length_le (by omega)] at ih ⊢;omega
    | some x =>
      rw [wkey_next hx,List.length_append];have:=itemKey_len (h x (List.mem_of_getElem? hx));omega
instance pf_149:PlF Tryz.prog 149 where
instance pf_150:PlF Tryz.prog 150 where
instance pf_151:PlF Tryz.prog 151 where
instance pf_152:PlF Tryz.prog 152 where
instance tZ_113:ZrT Tryz.prog 113 (.agg #[(.int .i64 0),(.int .i64 0)]) where
instance tZ_248:ZrT Tryz.prog 248 (.agg #[(.pointer none),(.slice none 0 0)]) where
theorem write_calls(l:List Itm)(A:Option Addr)(c:Nat)(w:World)(hA:RowA w A (l.flatMap Itm.cs))(hn:l.length≤100000000)(hI:∀x∈l,smallI x)(hT:TabP w) :
    Calls Tryz.prog 99 #[(.slice A l.length c)] w (Ret (fun v w'=>v = .string ⟨(wkey l).toArray⟩∧Ext w w')):=by
 refine calls_y (n:=28) Tryz.func99 ?_;refine go ?_;refine y_al ?_;intro w1 e1 z1 b1;refine go ?_;refine xc_loopN (fun m_ f_ Wx=>∃(i:Nat),m_=l.length-i∧(i≤l.length)∧f_ 2=(.string (⟨#[]⟩))∧f_ 3=(.pointer (some ⟨w.heap.size,0,none⟩))∧f_ 6=(.slice A l.length c)∧f_ 7=(.int .i64 (((l.length:Nat):Int)))∧f_ 8=(.int .i64 ((i:Nat)))∧(Bld w.heap.size w.heap.size (wkey (l.take i)) Wx)∧(w.heap.size<Wx.heap.size)∧Ext w Wx) (l.length) ?_ ?_;exact ⟨0,(by omega),(by omega),rfl,rfl,rfl,rfl,vW,(Bld.new b1 (Nat.le_refl _)),(by omega),e1⟩;rintro m_ f1 w2 ⟨i,hm_f1,hi,g2_f1,g3_f1,g6_f1,g7_f1,g8_f1,t0_f1,t1_f1,x1⟩;have hx1:=x1.size;have hkl:=wkey_len hI i;rw [←usf g2_f1,←usf g3_f1,←usf g6_f1,←usf g7_f1,←usf g8_f1];refine go ?_;refine y_if (fun h1=>?_) (fun h1=>?_);obtain ⟨x_1,g_1,o_1,hx_1⟩:=row_may (A:=A) (cs:=Itm.cs) i Itm.len (by decide) (RowA.ext hA x1);obtain ⟨hx_2,hA_1,hc_1⟩:=hx_1 oM;have hsm_x_1:=hI _ (List.mem_of_getElem? hx_2);unfold smallI at hsm_x_1;refine go ?_;refine y_ix i hA_1 ?_;refine y_lN (vs:=[(.int .i64 x_1.p),(.int .i64 x_1.dot)]) hc_1 ?_;refine y_al ?_;intro w3 e2 z2 b2;refine y_st b2 ?_;intro w4 e3 z3 b3;replace b3:Blk w4 w2.heap.size #[(.int .i64 x_1.p),(.int .i64 x_1.dot)] 113:=blk_full b3 rfl;have x2:Ext w2 w4:=(Xc e2 e3);refine go ?_;refine yCa (ret_mono ((by have h9:=wbyte w.heap.size w.heap.size (wkey (l.take i)) (32:UInt8) w4 (Bld.ext t0_f1 x2) (by first | omega | (simp only [List.length_append,List.length_cons,List.length_nil];omega)) (by omega);exact h9)) ?_);rintro _ w5 ⟨rfl,hb1,y1⟩;have hy1:=y1.size;have q1:=(b3.keep y1 (KBB.ne b3 (by omega) (by decide)));refine go ?_;refine y_ld q1 ?_;refine go ?_;refine y_if (fun h2=>?_) (fun h2=>?_);refine go ?_;refine yCa (ret_mono ((by have h9:=wbyte w.heap.size w.heap.size (wkey (l.take i)++[(32:UInt8)]) (115:UInt8) w5 hb1 (by first | omega | (simp only [List.length_append,List.length_cons,List.length_nil];omega)) (by omega);exact h9)) ?_);rintro _ w6 ⟨rfl,hb2,y2⟩;have hy2:=y2.size;refine go ?_;refine yCa (ret_mono ((by have h9:=wbyte w.heap.size w.heap.size (wkey (l.take i)++[(32:UInt8)]++[(115:UInt8)]) (46:UInt8) w6 hb2 (by first | omega | (simp only [List.length_append,List.length_cons,List.length_nil];omega)) (by omega);exact h9)) ?_);rintro _ w7 ⟨rfl,hb3,y3⟩;have hy3:=y3.size;have q2:=(q1.keep y2 (KBB.ne q1 (by omega) (by decide)));have q3:=(q2.keep y3 (KBB.ne q2 (by omega) (by decide)));refine go ?_;refine y_ld q3 ?_;have x3:Ext w w7:=(Chg.trans (Chg.trans (Chg.trans (Xc (Xt x1 e2) e3) y1 (fun b hb hl=>absurd hl (by have _h:=hb.1;omega))) y2 (fun b hb hl=>absurd hl (by have _h:=hb.1;omega))) y3 (fun b hb hl=>absurd hl (by have _h:=hb.1;omega)));refine yCa (ret_mono (itoa_calls x_1.dot w7 (by omega) (by omega) (TabIs.ext hT x3)) ?_);rintro _ w8 ⟨rfl,e4⟩;have he4:=e4.size;have hil:=Lib.itoa_length_le x_1.dot (by omega) (by omega);refine yCa (ret_mono ((by have h9:=wstr w.heap.size w.heap.size (wkey (l.take i)++[(32:UInt8)]++[(115:UInt8)]++[(46:UInt8)]) ⟨(Lib.itoa x_1.dot).toArray⟩ w8 (Bld.ext hb3 e4) (by show _+(Lib.itoa x_1.dot).toArray.size≤_;simp only [List.length_append,List.length_cons,List.length_nil,List.size_toArray];omega) (by omega);exact h9)) ?_)
 rintro _ w9 ⟨rfl,hb4,y4⟩;have hy4:=y4.size;refine go ?_;refine y_add ?_;have x4:Ext w w9:=(Chg.trans (Xt x3 e4) y4 (fun b hb hl=>absurd hl (by have _h:=hb.1;omega)));refine go ?_;exact ⟨rfl,l.length-(i+1),by omega,i+1,by omega,(by omega),rfl,rfl,rfl,rfl,vW,(by have h9:=hb4;rw [wkey_neg hx_2 h2];exact h9),(by omega),x4⟩;refine go ?_;refine y_ld q1 ?_;have x5:Ext w w5:=(Chg.trans (Xc (Xt x1 e2) e3) y1 (fun b hb hl=>absurd hl (by have _h:=hb.1;omega)));refine yCa (ret_mono (itoa_calls x_1.p w5 (by omega) (by omega) (TabIs.ext hT x5)) ?_);rintro _ w10 ⟨rfl,e5⟩;have he5:=e5.size;have hil:=Lib.itoa_length_le x_1.p (by omega) (by omega);refine yCa (ret_mono ((by have h9:=wstr w.heap.size w.heap.size (wkey (l.take i)++[(32:UInt8)]) ⟨(Lib.itoa x_1.p).toArray⟩ w10 (Bld.ext hb1 e5) (by show _+(Lib.itoa x_1.p).toArray.size≤_;simp only [List.length_append,List.length_cons,List.length_nil,List.size_toArray];omega) (by omega);exact h9)) ?_);rintro _ w11 ⟨rfl,hb5,y5⟩;have hy5:=y5.size;refine go ?_;refine yCa (ret_mono ((by have h9:=wbyte w.heap.size w.heap.size (wkey (l.take i)++[(32:UInt8)]++Lib.itoa x_1.p) (46:UInt8) w11 hb5 (by first | omega | (simp only [List.length_append,List.length_cons,List.length_nil];omega)) (by omega);exact h9)) ?_);rintro _ w12 ⟨rfl,hb6,y6⟩;have hy6:=y6.size;have q4:=((q1.ext e5).keep y5 (KBB.ne (q1.ext e5) (by omega) (by decide)));have q5:=(q4.keep y6 (KBB.ne q4 (by omega) (by decide)));refine go ?_;refine y_ld q5 ?_;have x6:Ext w w12:=(Chg.trans (Chg.trans (Xt x5 e5) y5 (fun b hb hl=>absurd hl (by have _h:=hb.1;omega))) y6 (fun b hb hl=>absurd hl (by have _h:=hb.1;omega)));refine yCa (ret_mono (itoa_calls x_1.dot w12 (by omega) (by omega) (TabIs.ext hT x6)) ?_);rintro _ w13 ⟨rfl,e6⟩;have he6:=e6.size;have hil:=Lib.itoa_length_le x_1.dot (by omega) (by omega);refine yCa (ret_mono ((by have h9:=wstr w.heap.size w.heap.size (wkey (l.take i)++[(32:UInt8)]++Lib.itoa x_1.p++[(46:UInt8)]) ⟨(Lib.itoa x_1.dot).toArray⟩ w13 (Bld.ext hb6 e6) (by show _+(Lib.itoa x_1.dot).toArray.size≤_;simp only [List.length_append,List.length_cons,List.length_nil,List.size_toArray];omega) (by omega);exact h9)) ?_);rintro _ w14 ⟨rfl,hb7,y7⟩;have hy7:=y7.size;refine go ?_;refine y_add ?_;have x7:Ext w w14:=(Chg.trans (Xt x6 e6) y7 (fun b hb hl=>absurd hl (by have _h:=hb.1;omega)));refine go ?_;exact ⟨rfl,l.length-(i+1),by omega,i+1,by omega,(by omega),rfl,rfl,rfl,rfl,vW,(by have h9:=hb7;rw [wkey_pos hx_2 h2];exact h9),(by omega),x7⟩;refine go ?_;refine yCa (ret_mono (bstr w.heap.size w.heap.size (wkey (l.take i)) w2 t0_f1 (by omega)) ?_);rintro _ w15 ⟨rfl,y8⟩;have hy8:=y8.size;refine go ?_;refine y_r1 ?_;have x8:Ext w w15:=(Chg.trans x1 y8 (fun b hb hl=>absurd hl (by have _h:=hb;omega)));exact ⟨by rw [List.take_of_length_le (by omega)]<;>rfl,x8⟩
theorem ofNat_dig{d:Nat}(h:d<10):(UInt8.ofNat (48+d)).toNat=48+d:=by
  rw [UInt8.toNat_ofNat'];omega
theorem dec_dig:∀u:Nat,∀b∈Lib.decDigits u,48≤b.toNat∧b.toNat≤57:=by
  intro u
  induction u using Nat.strongRecOn with
  | _ u ih =>
    intro b hb;rw [Lib.decDigits] at hb
    split at hb
    rename_i h;rw [List.mem_singleton.1 hb,ofNat_dig h];omega;rename_i h;rcases List.mem_append.1 hb with hb|hb;exact ih _ (by omega) b hb;rw [List.mem_singleton.1 hb,ofNat_dig (by omega)];omega
def valD(l:List UInt8):Nat:=l.foldl (fun a b=>a*10+(b.toNat-48)) 0
theorem valD_dec(u:Nat):valD (Lib.decDigits u)=u:=by
  induction u using Nat.strongRecOn with
  | _ u ih =>
    rw [Lib.decDigits]
    split
    rename_i h;simp only [valD,List.foldl_cons,List.foldl_nil];rw [ofNat_dig h];omega;rename_i h;have:=ih (u / 10) (by omega);unfold valD at this ⊢;rw [List.foldl_append,this];simp only [List.foldl_cons,List.foldl_nil];rw [ofNat_dig (by omega)];omega
theorem itoa_inj{a b:Int}(ha:0≤a)(hb:0≤b)(h:Lib.itoa a=Lib.itoa b):a=b:=by
  unfold Lib.itoa at h;rw [if_neg (by omega),if_neg (by omega)] at h;have:=congrArg valD h;rw [valD_dec,valD_dec] at this;omega
theorem itoa_dig{a:Int}(ha:0≤a):∀b∈Lib.itoa a,48≤b.toNat∧b.toNat≤57:=by
  unfold Lib.itoa;rw [if_neg (by omega)];exact dec_dig _
theorem run_cut{p:UInt8→Bool} : ∀ {D D' W W':List UInt8},(∀b∈D,p b=true)→(∀b∈D',p b=true)→(∀b,W.head?=some b→p b=false)→(∀b,W'.head?=some b→p b=false)→D++W=D'++W'→D=D'∧W=W'
  | [],[],W,W',_,_,_,_,h=>⟨rfl,h⟩
  | [],d::D',W,W',_,h2,h3,_,h=>by
    simp only [List.nil_append,List.cons_append] at h;have:=h3 d (by rw [h];rfl);rw [h2 d (by simp)] at this;cases this
  | d::D,[],W,W',h1,_,_,h4,h=>by
    simp only [List.nil_append,List.cons_append] at h;have:=h4 d (by rw [←h];rfl);rw [h1 d (by simp)] at this;cases this
  | d::D,d'::D',W,W',h1,h2,h3,h4,h=>by
    simp only [List.cons_append,List.cons.injEq] at h;obtain ⟨e1,e2⟩:=run_cut (fun b hb=>h1 b (by simp [hb])) (fun b hb=>h2 b (by simp [hb])) h3 h4 h.2;exact ⟨by rw [h.1,e1],e2⟩
def pPart(x:Itm):List UInt8:=if x.p = -1 then [115] else Lib.itoa x.p
theorem wkey_cons(x:Itm)(l:List Itm):wkey (x::l)=32::(pPart x++(46::(Lib.itoa x.dot++wkey l))):=by
  simp [wkey,itemKey,pPart]
theorem wkey_head(l:List Itm):∀b,(wkey l).head?=some b→b=32:=by
  intro b h
  cases l with
  | nil=>simp [wkey] at h
  | cons x l=>rw [wkey_cons] at h;simp at h;exact h.symm
theorem pPart_inj{x y:Itm}(hx:smallI x)(hy:smallI y)(h:pPart x=pPart y):x.p=y.p:=by
  unfold smallI at hx hy;unfold pPart at h
  split at h
  rename_i h1
  split at h
  rename_i h2;rw [h1,h2];have:=itoa_dig (a:=y.p) (by omega) 115 (by rw [←h];simp);exact absurd this.2 (by decide)
  split at h
  have:=itoa_dig (a:=x.p) (by omega) 115 (by rw [h];simp);exact absurd this.2 (by decide);exact itoa_inj (by omega) (by omega) h
theorem pPart_no{x:Itm}(hx:smallI x):∀b∈pPart x,(b != 46)=true:=by
  unfold smallI at hx;intro b hb;unfold pPart at hb
  split at hb
  rw [List.mem_singleton.1 hb];decide;have:=itoa_dig (by omega) b hb;rw [bne_iff_ne];rintro rfl;exact absurd this.1 (by decide)
theorem wkey_inj:∀ {l m:List Itm},(∀x∈l,smallI x)→(∀x∈m,smallI x)→wkey l=wkey m→l=m
  | [],[],_,_,_=>rfl
  | [],y::m,_,_,h=>by rw [wkey_cons] at h;simp [wkey] at h
  | x::l,[],_,_,h=>by rw [wkey_cons] at h;simp [wkey] at h
  | x::l,y::m,h1,h2,h=>by
    have hx:=h1 x (by simp);have hy:=h2 y (by simp);rw [wkey_cons,wkey_cons,List.cons.injEq] at h;obtain ⟨e1,e2⟩:=run_cut (p:=fun b=>b != 46) (pPart_no hx) (pPart_no hy) (fun b hb=>by simp at hb;subst hb;rfl) (fun b hb=>by simp at hb;subst hb;rfl) h.2;rw [List.cons.injEq] at e2;have hdx:=hx;have hdy:=hy;unfold smallI at hdx hdy;obtain ⟨e3,e4⟩:=run_cut (p:=fun b=>decide (48≤b.toNat)) (fun b hb=>by have:=itoa_dig (a:=x.dot) (by omega) b hb;simpa using this.1) (fun b hb=>by have:=itoa_dig (a:=y.dot) (by omega) b hb;simpa using this.1) (fun b hb=>by rw [wkey_head l b hb];decide) (fun b hb=>by rw [wkey_head m b hb];decide) e2.2;have e5:=pPart_inj hx hy e1;have e6:=itoa_inj (by omega) (by omega) e3;have e7:=wkey_inj (fun z hz=>h1 z (by simp [hz])) (fun z hz=>h2 z (by simp [hz])) e4;cases x;cases y;simp only at e5 e6;rw [e5,e6,e7]
end Go.Proofs.YtabfopjkgeoiiaaGreatDoor
