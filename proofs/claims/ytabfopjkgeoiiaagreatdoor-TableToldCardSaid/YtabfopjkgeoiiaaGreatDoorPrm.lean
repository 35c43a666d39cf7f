/-
  Part 13 of the proof: texts Sr. No conditions.
-/
import Derived.Lib.Builder
import Derived.Lib.AppendStr
import Derived.Laws.Externs
import Derived.Test.YtabfopjkgeoiiaaGreatDoorRows
import Derived.Test.YtabfopjkgeoiiaaGreatDoorPrg
import Derived.Test.YtabfopjkgeoiiaaGreatDoorPrh
set_option linter.unusedVariables false
set_option linter.unusedSimpArgs false
set_option linter.unusedSectionVars false
set_option maxRecDepth 100000
set_option maxHeartbeats 4000000
namespace Go.Proofs.YtabfopjkgeoiiaaGreatDoor
open Go Go.RowKit Go.Vx
section
variable {P:Program}{ρ:Operand→Value}{w:World}{K:Value→World→Prop}{dst:Option Tmp}{ty:TypeId}{pos:String}{af:Array Edge}{gd:Option (Nat×Bool)}
theorem blk_shape{b t:Nat}{cs:Array Value}(h:Blk w b cs t):w.shape? b=some (t,cs.size):=by unfold World.shape?;rw [h]
theorem ox_toUns{x:Operand}{s u T t:TypeId}{j:TypeInfo}{b cells:Nat}{cs:Array Value}(hs:P.underlying s=some (.pointer T))(hu:P.underlying u=some .unsafePointer)(ht:(P.info? T)=some j)(hj:j.size≠0)(hx:ρ x = .pointer (some ⟨b,0,none⟩))(hb:Blk w b cs t)(hc:0<cs.size)
    (h:K (.pointer (some ⟨b,0,none⟩)) w):OpX P ⟨dst,.convert s u x,ty,pos,af,gd⟩ ρ w K:=by
  refine ox_val (v:=.pointer (some ⟨b,0,none⟩)) (w':=w) ?_ h;simp [execOp,hx,Sem.run_bind,Result.andThen,Lib.run_to_unsafe (w:=w) ⟨b,0,none⟩ hs hu ht hj (blk_shape hb) hc]
theorem ox_fromUns{x:Operand}{s u T t:TypeId}{j:TypeInfo}{b cells:Nat}{cs:Array Value}(hs:P.underlying s=some .unsafePointer)(hu:P.underlying u=some (.pointer T))(ht:(P.info? T)=some j)(hx:ρ x = .pointer (some ⟨b,0,none⟩))(hb:Blk w b cs t)(hl:liesAt P P.depth t (cs.size / P.cellsOf t) 0 T 1=true)
    (h:K (.pointer (some ⟨b,0,none⟩)) w):OpX P ⟨dst,.convert s u x,ty,pos,af,gd⟩ ρ w K:=by
  refine ox_val (v:=.pointer (some ⟨b,0,none⟩)) (w':=w) ?_ h;simp [execOp,hx,Sem.run_bind,Result.andThen,Lib.run_from_unsafe (w:=w) ⟨b,0,none⟩ hs hu ht (blk_shape hb) hl]
theorem ox_appendStr{c:Call}{x y:Operand}{t u e:TypeId}{n B:Nat}{v:Value}{xs:List Value}{s:ByteArray}(hc:c = { callee:=.builtin .append,args:=#[x,y],argTypes:=#[t,u] })(ht:sliceT P t=some (e,1,1,.int .u8 0))(hu:P.underlying u=some .string)(hx:ρ x=v)(hy:ρ y = .string s)
    (ho:w.ownsRow B e 1 v n xs) (hB:B≤w.heap.size) (hb:n+s.size≤140737488355328) (h:∀v' w',w'.ownsRow B e 1 v' (n+s.size) (xs++Lib.strCells s)→Chg (fun b=>v.ownBlock=some b) w w'→(∀k,v'.ownBlock=some k→v.ownBlock=some k∨w.heap.size≤k)→K v' w'):OpX P ⟨dst,.call c,ty,pos,af,gd⟩ ρ w K:=by
  subst hc;obtain ⟨hus,i,hi,hz,hs,hby⟩:=slice_of ht;obtain ⟨v',w',hr,ho',hg,hn⟩:=Lib.run_append_own_string (P:=P) (w:=w) B t u ty e i hus hu hi hz hs hby v n xs ho s (by unfold maxLen;omega) hb hB;refine ox_val (v:=v') (w':=w') ?_ (h v' w' ho' (chg_grown hg fun k hk=>hk) ?_);simp [execOp,resolve,invoke,builtin,hx,hy,Sem.run_bind,Result.andThen,hr];have hxl:xs.length=n:=by simpa using ho.1
  rcases ho.2 with ⟨rfl,h0⟩|⟨g,cap,cur,rfl,hbg,hg',hnc,hcm,hcs,htake⟩;have ho2:w.ownsRow w.heap.size e 1 (.slice none 0 0) n xs:=⟨ho.1,.inl ⟨rfl,h0⟩⟩;obtain ⟨v2,w2,hr2,ho3,_⟩:=Lib.run_append_own_string (P:=P) (w:=w) w.heap.size t u ty e i hus hu hi hz hs hby (.slice none 0 0) n xs ho2 s (by unfold maxLen;omega) hb (Nat.le_refl _);rw [hr] at hr2;cases hr2;intro k hk
  right
  rcases ho3.2 with ⟨rfl,_⟩|⟨g,cap,cur,rfl,hbg,_⟩;simp [Value.ownBlock] at hk;cases hk;exact hbg;by_cases hroom:n+s.size≤cap;have hcs':cur.size=cap:=by simpa using hcs
  have hr2:=Lib.run_append_room_string (P:=P) w t u ty e i hus hu hi hs g n cap cur hg' s hroom (by omega);rw [hr] at hr2;cases hr2;intro k hk;exact .inl hk;have holds:∀j u,xs[j]?=some u→w.cell? ((⟨g,0,none⟩:Addr).add j)=some u:=ho.cells (g:=g) rfl;have hr2:=Lib.run_append_grow_string (P:=P) w t u ty e i (.int .u8 0) hus hu hi hz ⟨g,0,none⟩ n cap xs (by rw [hs];simpa using hxl) holds s (by omega) (by omega) (by rw [hby];exact growslice_fits (by omega) (by omega));rw [hr] at hr2;cases hr2;intro k hk;cases hk;exact .inr (Nat.le_refl _)
end
theorem Own.base{w:World}{B e sz n:Nat}{v:Value}{xs:List Value}(h:Vx.Own w e sz v n xs)(hB:∀k,v.ownBlock=some k→B≤k):w.ownsRow B e sz v n xs:=by
  obtain ⟨h1,h2⟩:=h;refine ⟨h1,h2.imp id ?_⟩;rintro ⟨g,cap,cur,rfl,_,h4⟩;exact ⟨g,cap,cur,rfl,hB g rfl,h4⟩
theorem Own.unbase{w:World}{B e sz n:Nat}{v:Value}{xs:List Value}(h:w.ownsRow B e sz v n xs):Vx.Own w e sz v n xs:=by
  obtain ⟨h1,h2⟩:=h;refine ⟨h1,h2.imp id ?_⟩;rintro ⟨g,cap,cur,rfl,_,h4⟩;exact ⟨g,cap,cur,rfl,Nat.zero_le _,h4⟩
theorem Own.lowB{w:World}{B e sz n:Nat}{v:Value}{xs:List Value}(h:w.ownsRow B e sz v n xs):∀k,v.ownBlock=some k→B≤k:=by
  obtain ⟨h1,h2⟩:=h;intro k hk;rcases h2 with ⟨rfl,_⟩|⟨g,cap,cur,rfl,h3,_⟩;simp [Value.ownBlock] at hk;cases hk;exact h3
theorem noEsc(v:Value)(w:World):(callFunc 206 #[v]).run Tryz.prog w = .ok (.value v) w:=by
  rw [run_callFunc_extern Tryz.func206 (by kernel_rfl) (by kernel_rfl) (by kernel_rfl) (e:=Extern.AbiNoEscape.same) (by kernel_rfl),Lib.run_noEscape]
  rfl
theorem hmix:Tryz.prog.follows .mixedOrders=true:=by kernel_rfl
instance pf_193:PlF Tryz.prog 193 where
instance tA_245:AggF Tryz.prog 245 where
instance tA_246:AggF Tryz.prog 246 where
instance tE_246:SlT Tryz.prog 246 (5,1,1,(.int .u8 0)) where
instance tF_248_0:FdT Tryz.prog 248 0 0 where
instance tF_248_1:FdT Tryz.prog 248 1 1 where
instance tS_245:SzT Tryz.prog 245 1 where
instance tS_246:SzT Tryz.prog 246 1 where
instance tS_248:SzT Tryz.prog 248 2 where
instance tU_245:UnP Tryz.prog 245 248 where
theorem tU_9:Tryz.prog.underlying 9=some (.string):=by kernel_rfl
theorem copyCheck_nil(b n c:Nat)(A:Option Addr)(w:World)(hb:Blk w b #[(.pointer none),.slice A n c] 248) :
    Calls Tryz.prog 193 #[(.pointer (some ⟨b,0,none⟩))] w (Ret (fun v w'=>v = .tuple #[]∧Blk w' b #[.pointer (some ⟨b,0,none⟩),.slice A n c] 248∧Chg1 b w w')):=by
 refine calls_y (n:=20) Tryz.func193 ?_;refine go ?_;refine y_ld hb ?_;refine yOp (ox_eqlNil (p:=none) (q:=none) tU_245.h rfl rfl (.inr rfl) ?_);refine go ?_;refine ysC (s:=6) (bT (decide_eq_true rfl)) ?_;refine go ?_;refine yOp (ox_toUns (b:=b) (T:=248) (cells:=2) (by kernel_rfl) (by kernel_rfl) rfl (by decide) rfl hb (Nat.zero_lt_succ _) ?_);refine yOp (ox_extern (al:=[(.pointer (some ⟨b,0,none⟩))]) (v:=(.pointer (some ⟨b,0,none⟩))) rfl (noEsc _ _) ?_);refine yOp (ox_fromUns (b:=b) (T:=248) (cells:=2) (by kernel_rfl) (by kernel_rfl) rfl rfl hb (by kernel_rfl) ?_);refine go ?_;refine y_st hb ?_;intro w1 e1 z1 b1;replace b1:Blk w1 b #[(.pointer (some ⟨b,0,none⟩)),(.slice A n c)] 248:=b1;refine go ?_;refine y_r0 ?_;have y1:Chg1 b w w1:=(Ct (Chg.refl (fun x=>x=b) w) e1);exact ⟨rfl,b1,y1⟩
theorem copyCheck_self(b n c:Nat)(A:Option Addr)(w:World)(hb:Blk w b #[(.pointer (some ⟨b,0,none⟩)),.slice A n c] 248) :
    Calls Tryz.prog 193 #[(.pointer (some ⟨b,0,none⟩))] w (Ret (fun v w'=>v = .tuple #[]∧Blk w' b #[.pointer (some ⟨b,0,none⟩),.slice A n c] 248∧Chg1 b w w')):=by
 refine calls_y (n:=20) Tryz.func193 ?_;refine go ?_;refine y_ld hb ?_;refine yOp (ox_eqlNil (p:=(some ⟨b,0,none⟩:Option Addr)) (q:=none) tU_245.h rfl rfl (.inr rfl) ?_);refine go ?_;refine ysC (s:=6) (bF (decide_eq_false (by simp))) ?_;refine go ?_;refine y_ld hb ?_;refine go ?_;refine yOp (ox_neqPtr (a:=b) (b:=b) tU_245.h tS_248.h rfl rfl hb hb ?_);refine go ?_;refine ysC (s:=19) (bF (decide_eq_false (by simp))) ?_;refine go ?_;refine y_r0 ?_;have y1:Chg1 b w w:=(Chg.refl (fun x=>x=b) w);exact ⟨rfl,hb,y1⟩
theorem copyCheck_calls(b n c:Nat)(A:Option Addr)(p:Value)(hp:p = .pointer none∨p = .pointer (some ⟨b,0,none⟩))(w:World)(hb:Blk w b #[p,.slice A n c] 248) :
    Calls Tryz.prog 193 #[.pointer (some ⟨b,0,none⟩)] w (Ret fun v w'=>v = .tuple #[]∧Blk w' b #[.pointer (some ⟨b,0,none⟩),.slice A n c] 248∧Chg1 b w w'):=by
  rcases hp with rfl|rfl;exact copyCheck_nil b n c A w hb;exact copyCheck_self b n c A w hb
theorem writeByte_walk(b n c B:Nat)(A:Option Addr)(xs:List Value)(p:Value)(x:Int)(w:World)(hp:p = .pointer none∨p = .pointer (some ⟨b,0,none⟩))(hb:Blk w b #[p,.slice A n c] 248)(ho:Vx.Own w 5 1 (.slice A n c) n xs)(hlo:∀k,(Value.slice A n c).ownBlock=some k→B≤k)(hB:B≤w.heap.size)(hn:n+1≤140737488355328) :
    Calls Tryz.prog 149 #[(.pointer (some ⟨b,0,none⟩)),(.int .u8 x)] w (Ret (fun v w'=>∃A' c',v = .nilIface∧Blk w' b #[.pointer (some ⟨b,0,none⟩),.slice A' (n+1) c'] 248∧Vx.Own w' 5 1 (.slice A' (n+1) c') (n+1) (xs++[.int .u8 x])∧(∀k,(Value.slice A' (n+1) c').ownBlock=some k→B≤k)∧(∀k,(Value.slice A' (n+1) c').ownBlock=some k→(Value.slice A n c).ownBlock=some k∨w.heap.size≤k)∧Chg (fun k=>k=b∨(Value.slice A n c).ownBlock=some k) w w')):=by
 have hbl:=hb.lt;refine calls_y (n:=17) Tryz.func149 ?_;refine go ?_;refine yCa (ret_mono (copyCheck_calls b n c A p hp w hb) ?_);rintro _ w1 ⟨rfl,hb1,y1⟩;have hy1:=y1.size;refine go ?_;refine y_ld hb1 ?_;refine go ?_;refine yOp (ox_mkSlice (ps:=[(0,(.int .u8 x))]) (zs:=#[(.int .u8 0)]) (cs:=#[(.int .u8 x)]) tE_246.h rfl (by decide) (by kernel_rfl) (by kernel_rfl) ?_);intro w2 e1 z1 b1;replace b1:Blk w2 w1.heap.size #[(.int .u8 x)] 5:=b1;have q1:=(ho.keep1 y1 (fun k hk hkb=>ho.ne_blk hb (by decide) _ hk hkb));refine yOp (ox_append (n:=n) (g:=w1.heap.size) (o:=0) (m:=1) (xs:=xs) (news:=([(.int .u8 x)])) rfl tE_246.h rfl (by decide) (v:=(.slice A n c)) rfl rfl (q1.ext e1) rfl b1.all rfl (by omega) (by omega) ?_);intro v1 w3 o1 e2 at1 nil1;have he2:=e2.size;obtain ⟨A1,c1,rfl,hc1⟩:=o1.shape;have low1:=low_at at1 hlo;have q2:=((hb1.ext e1).ko e2 (q1.ext e1));refine go ?_;refine y_st q2 ?_;intro w4 e3 z2 b2;replace b2:Blk w4 b #[(.pointer (some ⟨b,0,none⟩)),(.slice A1 (n+1) c1)] 248:=b2;refine go ?_;refine y_r1 ?_;have q3:=(o1.kb e3 q2);exact ⟨A1,c1,rfl,b2,q3,low1,(fun k hk=>by rcases at1 with e9 | e9<;>rw [e9] at hk;exact .inl hk;exact .inr (by cases hk;omega)),(Chg.trans (Chg.trans (Chg.ext (Chg.trans (Chg.refl (fun k=>k=b∨(Value.slice A n c).ownBlock=some k) w) y1 (fun k hk hl=>.inl hk)) e1) e2 (fun k hk hl=>.inr hk)) e3 (fun k hk hl=>.inl hk))⟩
theorem writeString_walk(b n c B:Nat)(A:Option Addr)(xs:List Value)(p:Value)(st:ByteArray)(w:World)(hp:p = .pointer none∨p = .pointer (some ⟨b,0,none⟩))(hb:Blk w b #[p,.slice A n c] 248)(ho:Vx.Own w 5 1 (.slice A n c) n xs)(hlo:∀k,(Value.slice A n c).ownBlock=some k→B≤k)(hB:B≤w.heap.size)(hn:n+st.size≤140737488355328) :
    Calls Tryz.prog 150 #[(.pointer (some ⟨b,0,none⟩)),(.string st)] w (Ret (fun v w'=>∃A' c',v = .tuple #[.int .i64 st.size,.nilIface]∧Blk w' b #[.pointer (some ⟨b,0,none⟩),.slice A' (n+st.size) c'] 248∧Vx.Own w' 5 1 (.slice A' (n+st.size) c') (n+st.size) (xs++Lib.strCells st)∧(∀k,(Value.slice A' (n+st.size) c').ownBlock=some k→B≤k)∧(∀k,(Value.slice A' (n+st.size) c').ownBlock=some k→(Value.slice A n c).ownBlock=some k∨w.heap.size≤k)∧Chg (fun k=>k=b∨(Value.slice A n c).ownBlock=some k) w w')):=by
 have hbl:=hb.lt;refine calls_y (n:=19) Tryz.func150 ?_;refine go ?_;refine yCa (ret_mono (copyCheck_calls b n c A p hp w hb) ?_);rintro _ w1 ⟨rfl,hb1,y1⟩;have hy1:=y1.size;refine go ?_;refine y_ld hb1 ?_;have q1:=(ho.keep1 y1 (fun k hk hkb=>ho.ne_blk hb (by decide) _ hk hkb));refine go ?_;refine yOp (ox_appendStr (B:=B) (s:=st) (v:=(.slice A n c)) (n:=n) (xs:=xs) rfl tE_246.h tU_9 rfl rfl (Own.base q1 hlo) (by omega) (by omega) ?_);intro v1 w2 o1 e1 hat1;have he1:=e1.size;obtain ⟨A1,c1,rfl,hc1⟩:=Own.shape (Own.unbase o1);have q2:=(hb1.ko e1 q1);refine go ?_;refine y_st q2 ?_;intro w3 e2 z1 b1;replace b1:Blk w3 b #[(.pointer (some ⟨b,0,none⟩)),(.slice A1 ((n+st.size)) c1)] 248:=b1;refine go ?_;refine yOp (ox_lenS (s:=st) rfl tU_9 rfl ?_);refine go ?_;refine y_r2 ?_;have q3:=((Own.unbase o1).kb e2 q2);exact ⟨A1,c1,rfl,b1,q3,(Own.lowB o1),(fun k hk=>(hat1 k hk).imp id (fun h=>by omega)),(Chg.trans (Chg.trans (Chg.trans (Chg.refl (fun k=>k=b∨(Value.slice A n c).ownBlock=some k) w) y1 (fun k hk hl=>.inl hk)) e1 (fun k hk hl=>.inr hk)) e2 (fun k hk hl=>.inl hk))⟩
end Go.Proofs.YtabfopjkgeoiiaaGreatDoor
