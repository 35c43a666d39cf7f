/-
  Part 5 of the proof: texts Vxi Vy. No conditions.
-/
import Derived.Laws.IdiomStrings
import Derived.Test.YtabfopjkgeoiiaaGreatDoorPrc
import Derived.Test.YtabfopjkgeoiiaaGreatDoorPrd
set_option linter.unusedVariables false
set_option linter.unusedSimpArgs false
set_option linter.unusedSectionVars false
set_option maxRecDepth 100000
set_option maxHeartbeats 4000000
namespace Go.Vx
open Go Go.RowKit
section
variable {P:Program}
theorem Own.take{w:World}{e:TypeId}{sz n c m:Nat}{A:Option Addr}{xs:List Value}(h:Own w e sz (.slice A n c) n xs)(hm:m≤n):Own w e sz (.slice A m c) m (xs.take (m*sz)):=by
  rcases h.form with ⟨h1,h2,h3⟩|⟨g,cap,cur,h1,hb,hn,hc,hs,ht⟩;simp only [Value.slice.injEq] at h1;obtain ⟨rfl,h4,rfl⟩:=h1;have:m=0:=by omega
  subst this
  simpa using Own.nil w e sz
  simp only [Value.slice.injEq] at h1;obtain ⟨rfl,_,rfl⟩:=h1;refine Own.of_blk hb (by omega) hc hs ?_;rw [←ht,List.take_take,Nat.min_eq_left (Nat.mul_le_mul_right _ hm)]
section
variable {ρ:Operand→Value}{w:World}{K:Value→World→Prop}{dst:Option Tmp}{ty:TypeId}{pos:String}{af:Array Edge}{gd:Option (Nat×Bool)}
theorem ox_lookup2V{κ:Type}[DecidableEq κ]{enc:κ→Value}{t kt e:TypeId}{x ix:Operand}{b:Nat}{m:List (κ×Value)}{k:κ}{z:Value}(v:Value)(ok:Bool)(hk:KeyT P kt enc)(hu:P.underlying t=some (.map kt e))(hz:zeroOf P e=some z)(hm:MapB enc w b m)
    (hx:ρ x = .map (some b)) (hi:ρ ix=enc k) (hv:(lookM m k).getD z=v) (ho:(lookM m k).isSome=ok) (h:K (.tuple #[v,.bool ok]) w):OpX P ⟨dst,.lookup t x ix true,ty,pos,af,gd⟩ ρ w K :=
  ox_lookup2 hk hu hz hm hx hi (by rw [hv,ho];exact h)
theorem ox_appendR{c:Call}{x y:Operand}{t e:TypeId}{sz by_:Nat}{z:Value}{v:Value}{n m cp:Nat}{A:Option Addr}{xs news:List Value}(hc:c = { callee:=.builtin .append,args:=#[x,y],argTypes:=#[t,t] })(ht:sliceT P t=some (e,sz,by_,z))
    (hzs:z.cells.size=sz) (hsz:0<sz) (hx:ρ x=v) (hy:ρ y = .slice A m cp) (hown:Own w e sz v n xs) (hl:news.length=m*sz) (hA:RowA w A news) (h1:news.all Value.oneCell'=true)
    (hm:n+m≤9223372036854775807) (hb:(n+m)*by_≤140737488355328)
    (h:∀v' w',Own w' e sz v' (n+m) (xs++news)→Chg (fun b=>v.ownBlock=some b) w w'→(v'.ownBlock=v.ownBlock∨v'.ownBlock=some w.heap.size)→(v' = .slice none 0 0↔v = .slice none 0 0∧m=0)→K v' w') :
    OpX P ⟨dst,.call c,ty,pos,af,gd⟩ ρ w K:=by
  cases A with
  | none =>
    have hn:news = []:=hA;subst hn
    have hm0:m=0:=by
      simp only [List.length_nil] at hl;rcases Nat.mul_eq_zero.1 hl.symm with h|h<;>omega
    subst hm0;obtain ⟨A',c',hv,hcn⟩:=hown.shape;subst hv;exact ox_append0 hc ht hx hcn hy (h _ w (by simpa using hown) (Chg.refl _ _) (.inl rfl) (by simp))
  | some a =>
    subst hc;obtain ⟨hu,i,hi,hz,hs,hby⟩:=slice_of ht;obtain ⟨v',w',hr,ho,hg,hn,hat⟩:=run_append_own_at (P:=P) w 0 t ty e i z sz by_ hu hi hz hs hby hzs hsz v n xs hown a m cp news hl hA.at (by simpa using h1) (by unfold maxLen;omega) hb (Nat.zero_le _);refine ox_val (v:=v') (w':=w') ?_ (h v' w' ho (chg_grown hg fun k hk=>hk) hat hn);simp [execOp,resolve,invoke,builtin,hx,hy,Sem.run_bind,Result.andThen,hr]
theorem ox_storeO{x y:Operand}{t e:TypeId}{g o m sz n cap:Nat}{v:Value}{vs xs:List Value}(hs:sizeT P t=some m)(hx:ρ x = .pointer (some ⟨g,o,none⟩))(hy:ρ y=v)(hv:v.cells=vs.toArray)(hm:vs.length=m)(h1:vs.all Value.oneCell'=true)
    (ho:Own w e sz (.slice (some ⟨g,0,none⟩) n cap) n xs) (hr:o+m≤n*sz) (h:∀w',Chg1 g w w'→w'.heap.size=w.heap.size→Own w' e sz (.slice (some ⟨g,0,none⟩) n cap) n (setL xs o vs)→K undef w') :
    OpX P ⟨dst,.store t x y,ty,pos,af,gd⟩ ρ w K:=by
  obtain ⟨cur,hb,hz,hup⟩:=ho.toBlk;exact ox_store hs hx hy hv hm h1 hb (by omega) fun w' hc hsz hb'=>h w' hc hsz (hup vs o w' (by omega) hb')
theorem ox_sliceToN{x y:Operand}{t e:TypeId}{sz by_:Nat}{z:Value}{A:Option Addr}{n cp:Nat}{k:IntKind}{i:Int}(m:Nat)(ht:sliceT P t=some (e,sz,by_,z))(hx:ρ x = .slice A n cp)(hy:ρ y = .int k i)(h0:0≤i)(h1:i≤cp)(hm:i.toNat=m)
    (h:K (.slice A m cp) w):OpX P ⟨dst,.slice t x none (some y) none,ty,pos,af,gd⟩ ρ w K:=ox_sliceTo ht hx hy h0 h1 (by rw [hm];exact h)
end
theorem Own.ne_map{κ:Type}{enc:κ→Value}{w:World}{e:TypeId}{sz n b:Nat}{v:Value}{xs:List Value}{m:List (κ×Value)}(h:Own w e sz v n xs)(hm:MapB enc w b m):∀k,v.ownBlock=some k→k≠b:=by
  intro k hk;rcases h.form with ⟨rfl,_⟩|⟨g,cap,cur,rfl,hg,_⟩;simp [Value.ownBlock] at hk;simp [Value.ownBlock] at hk;subst hk;exact fun e=>hm.ne_blk hg e.symm
theorem setL_full{α:Type} : ∀(vs p xs:List α),xs.length=vs.length→setL (p++xs) p.length vs=p++vs
  | [],p,xs,h=>by rw [List.eq_nil_of_length_eq_zero h];rfl
  | v::vs,p,[],h=>by simp at h
  | v::vs,p,x::xs,h=>by
    simp only [setL];have h1:(p++x::xs).set p.length v=(p++[v])++xs:=by simp
    rw [h1];have:=setL_full vs (p++[v]) xs (by simpa using h);rw [List.length_append,List.length_singleton] at this;rw [this];simp
theorem blk_full{w:World}{b:Nat}{cs:Array Value}{vs:List Value}{t:TypeId}(h:Blk w b (setAll cs 0 vs) t)(hl:cs.size=vs.length):Blk w b vs.toArray t:=by
  have h1:setAll cs 0 vs=vs.toArray:=by
    apply Array.ext';rw [setAll_list];have:=setL_full vs [] cs.toList (by rw [Array.length_toList,hl])
    simpa using this
  rw [h1] at h;exact h
theorem ownBlock_len{A:Option Addr}{n m c k:Nat}(h:(Value.slice A n c).ownBlock=some k):(Value.slice A m c).ownBlock=some k:=by
  cases A with
  | none=>simp [Value.ownBlock] at h
  | some a=>exact h
theorem xc_scopeL{r:Option Nat}{n:Nat}{Q:QX}{f:Nat→Value}{ds:List Deferred}{w:World}{c R:Code}(l:Nat)(J:Nat→(Nat→Value)→List Deferred→World→Prop)(hf:findLabel c l=some (.seq .skip R))
    (pass:∀m f ds w,J m f ds w→XC P r n R (qjump l (fun f' ds' w'=>∃m',m'<m∧J m' f' ds' w') Q) f ds w)
    (first:(∀f ds w,(∃m,J m f ds w)→XC P r n R (qjump l (fun f ds w=>∃m,J m f ds w) Q) f ds w)→XC P r n c (qjump l (fun f ds w=>∃m,J m f ds w) Q) f ds w):XC P r n (.scope c) Q f ds w :=
  xc_scopeN l J hf (first fun f ds w ⟨m,h⟩=>(pass m f ds w h).mono fun e f ds w h=>by
    cases e with
    | goto i=>exact ⟨h.1,let ⟨m',_,h'⟩:=h.2;⟨m',h'⟩⟩
    | _=>exact h) fun m f ds w h=>xc_seq (xc_skip (pass m f ds w h))
end
end Go.Vx
namespace Go.Vx
open Go Go.RowKit
class AggF(P:Program)(t:TypeId):Prop where h:isAggT P t=some false:=by kernel_rfl
class AggT(P:Program)(t:TypeId):Prop where h:isAggT P t=some true:=by kernel_rfl
class SzT(P:Program)(t:TypeId)(n:outParam Nat):Prop where h:sizeT P t=some n:=by kernel_rfl
class ZrT(P:Program)(t:TypeId)(z:outParam Value):Prop where h:zeroOf P t=some z:=by kernel_rfl
class FdT(P:Program)(t:TypeId)(i:Nat)(off:outParam Nat):Prop where h:fieldT P t i=some off:=by kernel_rfl
class PcT(P:Program)(t:TypeId)(l:outParam (Array (Nat×Nat))):Prop where h:placesT P t=some l:=by kernel_rfl
class SlT(P:Program)(t:TypeId)(q:outParam (TypeId×Nat×Nat×Value)):Prop where h:sliceT P t=some q:=by kernel_rfl
class PlF(P:Program)(g:FuncId):Prop where h:plainF P g=true:=by kernel_rfl
class UnS(P:Program)(t:TypeId)(e:outParam TypeId):Prop where h:P.underlying t=some (.slice e):=by kernel_rfl
class UnP(P:Program)(t:TypeId)(e:outParam TypeId):Prop where h:P.underlying t=some (.pointer e):=by kernel_rfl
theorem oM{p:Prop}(h:p:=by first | omega | (simp only [List.length_drop,List.length_replicate,List.length_set,List.length_append,List.length_map,List.length_singleton] at *;omega)):p:=h
theorem aM{p:Prop}(h:p:=by first | omega | (simp only [List.length_append,List.length_cons,List.length_nil];omega)):p:=h
theorem vW{u v:Value}(h:u=v:=by first | exact rfl | exact (congrArg (Value.int .i64) (by omega))):u=v:=h
theorem bS{p q:Prop}(h:p)(t:p→q:=by first | (intro hh;simp only [Bool.or_eq_true,Bool.and_eq_true,decide_eq_true_eq,Bool.or_eq_false_iff,Bool.and_eq_false_iff,decide_eq_false_iff_not,Bool.not_eq_true',Bool.not_eq_false'] at hh;exact hh) | exact id):q:=t h
structure Rd(a b:Value):Prop where h:a=b
structure RdO(a b:Option Value):Prop where h:a=b
structure RdB(a b:Option Bool):Prop where h:a=b
theorem Rd.r{a:Value} : Rd a a:=⟨rfl⟩
theorem RdO.r{a:Option Value} : RdO a a:=⟨rfl⟩
theorem RdB.r{a:Option Bool} : RdB a a:=⟨rfl⟩
class LitT(b:Bool):Prop where h:b=true
class LitF(b:Bool):Prop where h:b=false
instance litT0:LitT true:=⟨rfl⟩
instance litF0:LitF false:=⟨rfl⟩
theorem litT{b:Bool}[h:LitT b]:Rd (.bool b) (.bool true):=⟨by rw [h.h]⟩
theorem litF{b:Bool}[h:LitF b]:Rd (.bool b) (.bool false):=⟨by rw [h.h]⟩
theorem litOT{b:Bool}[h:LitT b]:RdB (some b) (some true):=⟨by rw [h.h]⟩
theorem litOF{b:Bool}[h:LitF b]:RdB (some b) (some false):=⟨by rw [h.h]⟩
theorem usf{f:Nat→Value}{s:Nat}{v:Value}(h:f s=v):upd f s v=f:=by
  funext i
  unfold upd
  cases hb:Nat.beq i s with
  | true=>rw [Nat.eq_of_beq_eq_true hb,h];rfl
  | false=>rfl
def Wtd(g:Option (Nat×Bool))(y:Nat→Option Bool):Bool:=match g with | none=>true | some (j,b)=>y j == some b
theorem wtd_eq(o:Oper)(y:Nat→Option Bool):Region.wanted o y=Wtd o.guard y:=rfl
section
variable {y:Nat→Option Bool}{j:Nat}{b:Bool}
theorem wt0:Wtd none y=true:=rfl
theorem wt1(h:RdB (y j) (some b)):Wtd (some (j,b)) y=true:=by have h:=h.h;simp [Wtd,h]
theorem wtF(h:RdB (y j) (some false)):Wtd (some (j,true)) y=false:=by have h:=h.h;simp [Wtd,h]
theorem wtT(h:RdB (y j) (some true)):Wtd (some (j,false)) y=false:=by have h:=h.h;simp [Wtd,h]
theorem wtN(h:RdB (y j) none):Wtd (some (j,b)) y=false:=by have h:=h.h;simp [Wtd,h]
end
attribute [irreducible] Wtd
section
variable {P:Program}{r:Option Nat}{n:Nat}{ops:Array Oper}{Q:(Nat→Value)→World→Prop}{f:Nat→Value}{w:World}{rest:List Oper}{d:Nat}{dst:Option Nat}{ty:TypeId}{pos:String}{af:Array Edge}{gd:Option (Nat×Bool)}{x y c:Operand}{op:Op}
theorem yOp(h:OpX P ⟨some d,op,ty,pos,af,gd⟩ (ev n f) w (fun v w'=>XL P r n ops Q rest (upd f d v) w'))(hw:Wtd gd (yl n f ops)=true:=by first | apply wt0 | (apply wt1;(conv=>arg 1;whnf);first | exact litOT | exact litOF)):XL P r n ops Q (⟨some d,op,ty,pos,af,gd⟩::rest) f w:=by
  unfold XL;rw [if_pos ((wtd_eq _ _).trans hw)];exact h
theorem yNp(h:OpX P ⟨none,op,ty,pos,af,gd⟩ (ev n f) w (fun _ w'=>XL P r n ops Q rest f w'))(hw:Wtd gd (yl n f ops)=true:=by first | apply wt0 | (apply wt1;(conv=>arg 1;whnf);first | exact litOT | exact litOF)):XL P r n ops Q (⟨none,op,ty,pos,af,gd⟩::rest) f w:=by
  unfold XL;rw [if_pos ((wtd_eq _ _).trans hw)];exact h
theorem y_sk(h:XL P r n ops Q rest (upd f d undef) w)(hw:Wtd gd (yl n f ops)=false:=by first | (apply wtF;(conv=>arg 1;whnf);exact litOF) | (apply wtT;(conv=>arg 1;whnf);exact litOT) | (apply wtN;(conv=>arg 1;whnf);exact RdB.r)):XL P r n ops Q (⟨some d,op,ty,pos,af,gd⟩::rest) f w:=by
  unfold XL;rw [if_neg (by rw [wtd_eq,hw];decide)];exact h
theorem y_sn(h:XL P r n ops Q rest f w)(hw:Wtd gd (yl n f ops)=false:=by first | (apply wtF;(conv=>arg 1;whnf);exact litOF) | (apply wtT;(conv=>arg 1;whnf);exact litOT) | (apply wtN;(conv=>arg 1;whnf);exact RdB.r)):XL P r n ops Q (⟨none,op,ty,pos,af,gd⟩::rest) f w:=by
  unfold XL;rw [if_neg (by rw [wtd_eq,hw];decide)];exact h
theorem y_mv{v:Value}(h:XL P r n ops Q rest (upd f d v) w)(hw:Wtd gd (yl n f ops)=true:=by first | apply wt0 | (apply wt1;(conv=>arg 1;whnf);first | exact litOT | exact litOF))(hv:Rd (ev n f x) v:=by (conv=>arg 1;whnf);exact Rd.r):XL P r n ops Q (⟨some d,.move x,ty,pos,af,gd⟩::rest) f w:=yOp (ox_move hv.h h) hw
theorem y_as{v:Value}(h:XL P r n ops Q rest (upd f d v) w)(hw:Wtd gd (yl n f ops)=true:=by first | apply wt0 | (apply wt1;(conv=>arg 1;whnf);first | exact litOT | exact litOF))(hv:Rd (ev n f x) v:=by (conv=>arg 1;whnf);exact Rd.r):XL P r n ops Q (⟨some d,.assign x,ty,pos,af,gd⟩::rest) f w:=yOp (ox_assign hv.h h) hw
theorem y_nc{p:Addr}(h:XL P r n ops Q rest (upd f d (.pointer (some p))) w)(hw:Wtd gd (yl n f ops)=true:=by first | apply wt0 | (apply wt1;(conv=>arg 1;whnf);first | exact litOT | exact litOF))(hv:ev n f x = .pointer (some p):=by rfl):XL P r n ops Q (⟨some d,.nilCheck x,ty,pos,af,gd⟩::rest) f w:=yOp (ox_nilCheck hv h) hw
theorem y_fa{t:TypeId}{i b o off:Nat}[hf:FdT P t i off](h:XL P r n ops Q rest (upd f d (.pointer (some ⟨b,o+off,none⟩))) w)(hw:Wtd gd (yl n f ops)=true:=by first | apply wt0 | (apply wt1;(conv=>arg 1;whnf);first | exact litOT | exact litOF))(hv:ev n f x = .pointer (some ⟨b,o,none⟩):=by rfl):XL P r n ops Q (⟨some d,.fieldAddr t x i,ty,pos,af,gd⟩::rest) f w:=yOp (ox_fieldAddr hf.h hv h) hw
theorem y_ex{i:Nat}{vs:Array Value}{v:Value}(h:XL P r n ops Q rest (upd f d v) w)(hw:Wtd gd (yl n f ops)=true:=by first | apply wt0 | (apply wt1;(conv=>arg 1;whnf);first | exact litOT | exact litOF))(hx:ev n f x = .tuple vs:=by rfl)(hv:RdO (vs[i]?) (some v):=by (conv=>arg 1;whnf);exact RdO.r):XL P r n ops Q (⟨some d,.extract x i,ty,pos,af,gd⟩::rest) f w:=yOp (ox_extract hx hv.h h) hw
theorem y_pt{v:Value}(h:XL P r n ops Q rest (upd f d v) w)(hw:Wtd gd (yl n f ops)=true:=by first | apply wt0 | (apply wt1;(conv=>arg 1;whnf);first | exact litOT | exact litOF))(hc:Rd (ev n f c) (.bool true):=by (conv=>arg 1;whnf);exact litT)(hv:Rd (ev n f x) v:=by (conv=>arg 1;whnf);exact Rd.r):XL P r n ops Q (⟨some d,.pick c x y,ty,pos,af,gd⟩::rest) f w:=yOp (ox_pick_t hc.h hv.h h) hw
theorem y_pf{v:Value}(h:XL P r n ops Q rest (upd f d v) w)(hw:Wtd gd (yl n f ops)=true:=by first | apply wt0 | (apply wt1;(conv=>arg 1;whnf);first | exact litOT | exact litOF))(hc:Rd (ev n f c) (.bool false):=by (conv=>arg 1;whnf);exact litF)(hv:Rd (ev n f y) v:=by (conv=>arg 1;whnf);exact Rd.r):XL P r n ops Q (⟨some d,.pick c x y,ty,pos,af,gd⟩::rest) f w:=yOp (ox_pick_f hc.h hv.h h) hw
theorem y_nT{t:TypeId}(h:XL P r n ops Q rest (upd f d (.bool false)) w)(hw:Wtd gd (yl n f ops)=true:=by first | apply wt0 | (apply wt1;(conv=>arg 1;whnf);first | exact litOT | exact litOF))(hv:Rd (ev n f x) (.bool true):=by (conv=>arg 1;whnf);exact litT):XL P r n ops Q (⟨some d,.unOp .not t x,ty,pos,af,gd⟩::rest) f w:=yOp (ox_not hv.h h) hw
theorem y_nF{t:TypeId}(h:XL P r n ops Q rest (upd f d (.bool true)) w)(hw:Wtd gd (yl n f ops)=true:=by first | apply wt0 | (apply wt1;(conv=>arg 1;whnf);first | exact litOT | exact litOF))(hv:Rd (ev n f x) (.bool false):=by (conv=>arg 1;whnf);exact litF):XL P r n ops Q (⟨some d,.unOp .not t x,ty,pos,af,gd⟩::rest) f w:=yOp (ox_not hv.h h) hw
theorem y_not{t:TypeId}{b:Bool}(h:XL P r n ops Q rest (upd f d (.bool (!b))) w)(hw:Wtd gd (yl n f ops)=true:=by first | apply wt0 | (apply wt1;(conv=>arg 1;whnf);first | exact litOT | exact litOF))(hv:ev n f x = .bool b:=by rfl):XL P r n ops Q (⟨some d,.unOp .not t x,ty,pos,af,gd⟩::rest) f w:=yOp (ox_not hv h) hw
theorem y_lss{t u:TypeId}{k:IntKind}{a b:Int}(h:XL P r n ops Q rest (upd f d (.bool (decide (a<b)))) w)(hw:Wtd gd (yl n f ops)=true:=by first | apply wt0 | (apply wt1;(conv=>arg 1;whnf);first | exact litOT | exact litOF))(hx:ev n f x = .int k a:=by rfl)(hy:ev n f y = .int k b:=by rfl):XL P r n ops Q (⟨some d,.binOp .lss t x y u,ty,pos,af,gd⟩::rest) f w:=yOp (ox_lss hx hy h) hw
theorem y_leq{t u:TypeId}{k:IntKind}{a b:Int}(h:XL P r n ops Q rest (upd f d (.bool (decide (a≤b)))) w)(hw:Wtd gd (yl n f ops)=true:=by first | apply wt0 | (apply wt1;(conv=>arg 1;whnf);first | exact litOT | exact litOF))(hx:ev n f x = .int k a:=by rfl)(hy:ev n f y = .int k b:=by rfl):XL P r n ops Q (⟨some d,.binOp .leq t x y u,ty,pos,af,gd⟩::rest) f w:=yOp (ox_leq hx hy h) hw
theorem y_gtr{t u:TypeId}{k:IntKind}{a b:Int}(h:XL P r n ops Q rest (upd f d (.bool (decide (b<a)))) w)(hw:Wtd gd (yl n f ops)=true:=by first | apply wt0 | (apply wt1;(conv=>arg 1;whnf);first | exact litOT | exact litOF))(hx:ev n f x = .int k a:=by rfl)(hy:ev n f y = .int k b:=by rfl):XL P r n ops Q (⟨some d,.binOp .gtr t x y u,ty,pos,af,gd⟩::rest) f w:=yOp (ox_gtr hx hy h) hw
theorem y_geq{t u:TypeId}{k:IntKind}{a b:Int}(h:XL P r n ops Q rest (upd f d (.bool (decide (b≤a)))) w)(hw:Wtd gd (yl n f ops)=true:=by first | apply wt0 | (apply wt1;(conv=>arg 1;whnf);first | exact litOT | exact litOF))(hx:ev n f x = .int k a:=by rfl)(hy:ev n f y = .int k b:=by rfl):XL P r n ops Q (⟨some d,.binOp .geq t x y u,ty,pos,af,gd⟩::rest) f w:=yOp (ox_geq hx hy h) hw
theorem y_eql{t u:TypeId}{k:IntKind}{a b:Int}(h:XL P r n ops Q rest (upd f d (.bool (decide (a=b)))) w)(hw:Wtd gd (yl n f ops)=true:=by first | apply wt0 | (apply wt1;(conv=>arg 1;whnf);first | exact litOT | exact litOF))(hx:ev n f x = .int k a:=by rfl)(hy:ev n f y = .int k b:=by rfl):XL P r n ops Q (⟨some d,.binOp .eql t x y u,ty,pos,af,gd⟩::rest) f w:=yOp (ox_eql hx hy h) hw
theorem y_neq{t u:TypeId}{k:IntKind}{a b:Int}(h:XL P r n ops Q rest (upd f d (.bool (decide (a≠b)))) w)(hw:Wtd gd (yl n f ops)=true:=by first | apply wt0 | (apply wt1;(conv=>arg 1;whnf);first | exact litOT | exact litOF))(hx:ev n f x = .int k a:=by rfl)(hy:ev n f y = .int k b:=by rfl):XL P r n ops Q (⟨some d,.binOp .neq t x y u,ty,pos,af,gd⟩::rest) f w:=yOp (ox_neq hx hy h) hw
theorem y_len{t e:TypeId}{A:Option Addr}{m cp:Nat}[hu:UnS P t e](h:XL P r n ops Q rest (upd f d (.int .i64 m)) w)(hw:Wtd gd (yl n f ops)=true:=by first | apply wt0 | (apply wt1;(conv=>arg 1;whnf);first | exact litOT | exact litOF))(hx:ev n f x = .slice A m cp:=by rfl) :
    XL P r n ops Q (⟨some d,.call { callee:=.builtin .len,args:=#[x],argTypes:=#[t] },ty,pos,af,gd⟩::rest) f w:=yOp (ox_len rfl hu.h hx h) hw
theorem y_add{t u:TypeId}{a b:Int}(h:XL P r n ops Q rest (upd f d (.int .i64 (a+b))) w)(hw:Wtd gd (yl n f ops)=true:=by first | apply wt0 | (apply wt1;(conv=>arg 1;whnf);first | exact litOT | exact litOF))(hx:ev n f x = .int .i64 a:=by rfl)(hy:ev n f y = .int .i64 b:=by rfl)(hr : -9223372036854775808≤a+b∧a+b≤9223372036854775807:=by omega):XL P r n ops Q (⟨some d,.binOp .add t x y u,ty,pos,af,gd⟩::rest) f w:=yOp (ox_add64 hx hy hr h) hw
theorem y_sub{t u:TypeId}{a b:Int}(h:XL P r n ops Q rest (upd f d (.int .i64 (a-b))) w)(hw:Wtd gd (yl n f ops)=true:=by first | apply wt0 | (apply wt1;(conv=>arg 1;whnf);first | exact litOT | exact litOF))(hx:ev n f x = .int .i64 a:=by rfl)(hy:ev n f y = .int .i64 b:=by rfl)(hr : -9223372036854775808≤a-b∧a-b≤9223372036854775807:=by omega):XL P r n ops Q (⟨some d,.binOp .sub t x y u,ty,pos,af,gd⟩::rest) f w:=yOp (ox_sub64 hx hy hr h) hw
theorem y_ld{t tb:TypeId}{b o:Nat}{cs:Array Value}{v:Value}[ha:AggF P t](hb:Blk w b cs tb)(h:XL P r n ops Q rest (upd f d v) w)(hw:Wtd gd (yl n f ops)=true:=by first | apply wt0 | (apply wt1;(conv=>arg 1;whnf);first | exact litOT | exact litOF))(hx:ev n f x = .pointer (some ⟨b,o,none⟩):=by rfl)(hv:RdO (cs[o]?) (some v):=by (conv=>arg 1;whnf);exact RdO.r):XL P r n ops Q (⟨some d,.load t x,ty,pos,af,gd⟩::rest) f w:=yOp (ox_load ha.h hx (hb.cell hv.h) h) hw
theorem y_lc{t:TypeId}{a:Addr}{v:Value}[ha:AggF P t](hc:w.cell? a=some v)(h:XL P r n ops Q rest (upd f d v) w)(hw:Wtd gd (yl n f ops)=true:=by first | apply wt0 | (apply wt1;(conv=>arg 1;whnf);first | exact litOT | exact litOF))(hx:ev n f x = .pointer (some a):=by rfl):XL P r n ops Q (⟨some d,.load t x,ty,pos,af,gd⟩::rest) f w:=yOp (ox_load ha.h hx hc h) hw
theorem y_lN{t:TypeId}{b o m:Nat}{vs:List Value}[ha:AggT P t][hs:SzT P t m](hc:CellsL w b o vs)(h:XL P r n ops Q rest (upd f d (.agg vs.toArray)) w)(hw:Wtd gd (yl n f ops)=true:=by first | apply wt0 | (apply wt1;(conv=>arg 1;whnf);first | exact litOT | exact litOF))(hn:vs.length=m:=by rfl)(hx:ev n f x = .pointer (some ⟨b,o,none⟩):=by rfl):XL P r n ops Q (⟨some d,.load t x,ty,pos,af,gd⟩::rest) f w:=yOp (ox_loadN ha.h hs.h hx hn hc h) hw
theorem y_st{t tb:TypeId}{b o m:Nat}{v:Value}{vs:List Value}{cs:Array Value}[hs:SzT P t m](hb:Blk w b cs tb)(h:∀w',Chg1 b w w'→w'.heap.size=w.heap.size→Blk w' b (setAll cs o vs) tb→XL P r n ops Q rest f w')
    (hw:Wtd gd (yl n f ops)=true:=by first | apply wt0 | (apply wt1;(conv=>arg 1;whnf);first | exact litOT | exact litOF)) (hx:ev n f x = .pointer (some ⟨b,o,none⟩):=by rfl) (hy:Rd (ev n f y) v:=by (conv=>arg 1;whnf);exact Rd.r) (hv:v.cells=vs.toArray:=by rfl) (hn:vs.length=m:=by rfl)
    (h1:vs.all Value.oneCell'=true:=by first | rfl | simp [Value.oneCell', *]) (hr:o+m≤cs.size:=by exact Nat.le_of_ble_eq_true rfl):XL P r n ops Q (⟨none,.store t x y,ty,pos,af,gd⟩::rest) f w:=yNp (ox_store hs.h hx hy.h hv hn h1 hb hr h) hw
theorem y_al{e:TypeId}{z:Value}[hz:ZrT P e z](h:∀w',Ext w w'→w'.heap.size=w.heap.size+1→Blk w' w.heap.size z.cells e→XL P r n ops Q rest (upd f d (.pointer (some ⟨w.heap.size,0,none⟩))) w')
    (hw:Wtd gd (yl n f ops)=true:=by first | apply wt0 | (apply wt1;(conv=>arg 1;whnf);first | exact litOT | exact litOF)):XL P r n ops Q (⟨some d,.alloc e,ty,pos,af,gd⟩::rest) f w:=yOp (ox_alloc hz.h h) hw
theorem y_bx{e:TypeId}{v:Value}(h:∀w',Ext w w'→w'.heap.size=w.heap.size+1→Blk w' w.heap.size v.cells e→XL P r n ops Q rest (upd f d (.pointer (some ⟨w.heap.size,0,none⟩))) w')
    (hw:Wtd gd (yl n f ops)=true:=by first | apply wt0 | (apply wt1;(conv=>arg 1;whnf);first | exact litOT | exact litOF)) (hv:Rd (ev n f x) v:=by (conv=>arg 1;whnf);exact Rd.r):XL P r n ops Q (⟨some d,.box e x,ty,pos,af,gd⟩::rest) f w:=yOp (ox_box hv.h h) hw
theorem yCa{args:Array Operand}{ats:Array TypeId}{g:FuncId}{al:List Value}[hp:PlF P g](h:Calls P g al.toArray w (Ret fun v w'=>XL P r n ops Q rest (upd f d v) w'))(hw:Wtd gd (yl n f ops)=true:=by first | apply wt0 | (apply wt1;(conv=>arg 1;whnf);first | exact litOT | exact litOF))(ha:args.toList.map (ev n f)=al:=by rfl) :
    XL P r n ops Q (⟨some d,.call { callee:=.value (.func g),args:=args,argTypes:=ats },ty,pos,af,gd⟩::rest) f w:=yOp (ox_callE hp.h ha h) hw
end
section
variable {P:Program}{r:Option Nat}{n:Nat}{Q:QX}{f:Nat→Value}{ds:List Deferred}{w:World}
theorem y_ct{c:Operand}{x y:Code}(h:XC P r n x Q f ds w)(hc:Rd (ev n f c) (.bool true):=by (conv=>arg 1;whnf);exact litT):XC P r n (.cond c x y) Q f ds w:=xc_cond_t hc.h h
theorem y_cf{c:Operand}{x y:Code}(h:XC P r n y Q f ds w)(hc:Rd (ev n f c) (.bool false):=by (conv=>arg 1;whnf);exact litF):XC P r n (.cond c x y) Q f ds w:=xc_cond_f hc.h h
theorem y_if{c:Operand}{x y:Code}{p:Prop}[Decidable p](ht:p→XC P r n x Q f ds w)(hf:¬p→XC P r n y Q f ds w)(hc:ev n f c = .bool (decide p):=by rfl):XC P r n (.cond c x y) Q f ds w:=xc_if hc ht hf
theorem ysC{c:Code}{s:Nat}{v:Value}(hs:f s=v)(h:XC P r n c Q (upd f s v) ds w):XC P r n c Q f ds w:=by rw [usf hs] at h;exact h
theorem ysL{ops:Array Oper}{Q:(Nat→Value)→World→Prop}{l:List Oper}{s:Nat}{v:Value}(hs:f s=v)(h:XL P r n ops Q l (upd f s v) w):XL P r n ops Q l f w:=by rw [usf hs] at h;exact h
theorem bT{b:Bool}(h:b=true):Value.bool b = .bool true:=by rw [h]
theorem bF{b:Bool}(h:b=false):Value.bool b = .bool false:=by rw [h]
end
section
variable {P:Program}{r:Option Nat}{n:Nat}{ops:Array Oper}{Q:(Nat→Value)→World→Prop}{f:Nat→Value}{w:World}{rest:List Oper}{d:Nat}{ty:TypeId}{pos:String}{af:Array Edge}{gd:Option (Nat×Bool)}
theorem isMv{x:Operand}(h:XL P r n ops Q (⟨some d,.move x,ty,pos,af,gd⟩::rest) f w):XL P r n ops Q (⟨some d,.move x,ty,pos,af,gd⟩::rest) f w:=h
theorem isAs{x:Operand}(h:XL P r n ops Q (⟨some d,.assign x,ty,pos,af,gd⟩::rest) f w):XL P r n ops Q (⟨some d,.assign x,ty,pos,af,gd⟩::rest) f w:=h
theorem isFa{x:Operand}{t:TypeId}{i:Nat}(h:XL P r n ops Q (⟨some d,.fieldAddr t x i,ty,pos,af,gd⟩::rest) f w):XL P r n ops Q (⟨some d,.fieldAddr t x i,ty,pos,af,gd⟩::rest) f w:=h
theorem isLen{x:Operand}{t:TypeId}(h:XL P r n ops Q (⟨some d,.call { callee:=.builtin .len,args:=#[x],argTypes:=#[t] },ty,pos,af,gd⟩::rest) f w):XL P r n ops Q (⟨some d,.call { callee:=.builtin .len,args:=#[x],argTypes:=#[t] },ty,pos,af,gd⟩::rest) f w:=h
theorem isLss{x:Operand}{y:Operand}{t:TypeId}{u:TypeId}(h:XL P r n ops Q (⟨some d,.binOp .lss t x y u,ty,pos,af,gd⟩::rest) f w):XL P r n ops Q (⟨some d,.binOp .lss t x y u,ty,pos,af,gd⟩::rest) f w:=h
theorem isEql{x:Operand}{y:Operand}{t:TypeId}{u:TypeId}(h:XL P r n ops Q (⟨some d,.binOp .eql t x y u,ty,pos,af,gd⟩::rest) f w):XL P r n ops Q (⟨some d,.binOp .eql t x y u,ty,pos,af,gd⟩::rest) f w:=h
theorem isNeq{x:Operand}{y:Operand}{t:TypeId}{u:TypeId}(h:XL P r n ops Q (⟨some d,.binOp .neq t x y u,ty,pos,af,gd⟩::rest) f w):XL P r n ops Q (⟨some d,.binOp .neq t x y u,ty,pos,af,gd⟩::rest) f w:=h
theorem isLeq{x:Operand}{y:Operand}{t:TypeId}{u:TypeId}(h:XL P r n ops Q (⟨some d,.binOp .leq t x y u,ty,pos,af,gd⟩::rest) f w):XL P r n ops Q (⟨some d,.binOp .leq t x y u,ty,pos,af,gd⟩::rest) f w:=h
theorem isGtr{x:Operand}{y:Operand}{t:TypeId}{u:TypeId}(h:XL P r n ops Q (⟨some d,.binOp .gtr t x y u,ty,pos,af,gd⟩::rest) f w):XL P r n ops Q (⟨some d,.binOp .gtr t x y u,ty,pos,af,gd⟩::rest) f w:=h
theorem isGeq{x:Operand}{y:Operand}{t:TypeId}{u:TypeId}(h:XL P r n ops Q (⟨some d,.binOp .geq t x y u,ty,pos,af,gd⟩::rest) f w):XL P r n ops Q (⟨some d,.binOp .geq t x y u,ty,pos,af,gd⟩::rest) f w:=h
theorem isEx{x:Operand}{i:Nat}(h:XL P r n ops Q (⟨some d,.extract x i,ty,pos,af,gd⟩::rest) f w):XL P r n ops Q (⟨some d,.extract x i,ty,pos,af,gd⟩::rest) f w:=h
theorem isNc{x:Operand}(h:XL P r n ops Q (⟨some d,.nilCheck x,ty,pos,af,gd⟩::rest) f w):XL P r n ops Q (⟨some d,.nilCheck x,ty,pos,af,gd⟩::rest) f w:=h
theorem isNot{x:Operand}{t:TypeId}(h:XL P r n ops Q (⟨some d,.unOp .not t x,ty,pos,af,gd⟩::rest) f w):XL P r n ops Q (⟨some d,.unOp .not t x,ty,pos,af,gd⟩::rest) f w:=h
theorem isPick{x:Operand}{y:Operand}{c:Operand}(h:XL P r n ops Q (⟨some d,.pick c x y,ty,pos,af,gd⟩::rest) f w):XL P r n ops Q (⟨some d,.pick c x y,ty,pos,af,gd⟩::rest) f w:=h
theorem isGs{op:Op}{g:Nat×Bool}(h:XL P r n ops Q (⟨some d,op,ty,pos,af,some g⟩::rest) f w):XL P r n ops Q (⟨some d,op,ty,pos,af,some g⟩::rest) f w:=h
theorem isGn{op:Op}{g:Nat×Bool}(h:XL P r n ops Q (⟨none,op,ty,pos,af,some g⟩::rest) f w):XL P r n ops Q (⟨none,op,ty,pos,af,some g⟩::rest) f w:=h
theorem isXL{l:List Oper}(h:XL P r n ops Q l f w):XL P r n ops Q l f w:=h
end
theorem isXC{P:Program}{r:Option Nat}{n:Nat}{Q:QX}{f:Nat→Value}{ds:List Deferred}{w:World}{c:Code}(h:XC P r n c Q f ds w):XC P r n c Q f ds w:=h
theorem isLv{P:Program}{fn:Func}{n:Nat}{f:Nat→Value}{K:Value→World→Prop}{ds:List Deferred}{w:World}(h:leaves P fn n f K ds w):leaves P fn n f K ds w:=h
theorem isCd{P:Program}{r:Option Nat}{n:Nat}{Q:QX}{f:Nat→Value}{ds:List Deferred}{w:World}{c:Operand}{x y:Code}(h:XC P r n (.cond c x y) Q f ds w):XC P r n (.cond c x y) Q f ds w:=h
theorem go {G' G:Prop} (h:G') (t:G'→G:=by
  intro hh
  repeat (first | (apply isXL;first | (apply isGs;refine y_sk ?_) | (apply isGn;refine y_sn ?_) | (apply isMv;refine y_mv ?_) | (apply isAs;refine y_as ?_) | (apply isFa;refine y_fa ?_) | (apply isLen;refine y_len ?_) | (apply isLss;refine y_lss ?_) | (apply isEql;refine y_eql ?_) | (apply isNeq;refine y_neq ?_) | (apply isLeq;refine y_leq ?_) | (apply isGtr;refine y_gtr ?_) | (apply isGeq;refine y_geq ?_) | (apply isEx;refine y_ex ?_) | (apply isNc;refine y_nc ?_) | (apply isNot;first | refine y_nT ?_ | refine y_nF ?_ | refine y_not ?_) | (apply isPick;first | refine y_pt ?_ | refine y_pf ?_) | apply xl_nil) | (apply isXC;first | apply xc_seq | apply xc_region | apply xc_skip | (apply isCd;first | refine y_ct ?_ | refine y_cf ?_) | apply xc_block | apply xc_exit | apply xc_ret))
  first | (apply isXC;exact hh) | (apply isLv;exact hh) | exact hh):G:=t h
theorem go0 {G' G:Prop} (h:G') (t:G'→G:=by
  intro hh
  repeat (first | (apply isXL;first | (apply isGs;refine y_sk ?_) | (apply isGn;refine y_sn ?_) | (apply isMv;refine y_mv ?_) | (apply isAs;refine y_as ?_) | (apply isFa;refine y_fa ?_) | (apply isLen;refine y_len ?_) | (apply isLss;refine y_lss ?_) | (apply isEql;refine y_eql ?_) | (apply isNeq;refine y_neq ?_) | (apply isLeq;refine y_leq ?_) | (apply isGtr;refine y_gtr ?_) | (apply isGeq;refine y_geq ?_) | (apply isEx;refine y_ex ?_) | (apply isNc;refine y_nc ?_) | (apply isNot;first | refine y_nT ?_ | refine y_nF ?_ | refine y_not ?_) | (apply isPick;first | refine y_pt ?_ | refine y_pf ?_) | apply xl_nil) | (apply isXC;first | apply xc_seq | apply xc_skip | apply xc_exit | apply xc_ret))
  first | (apply isXC;exact hh) | (apply isLv;exact hh) | exact hh):G:=t h
theorem calls_y{P:Program}{g:FuncId}{fn:Func}{c:Code}{al:List Value}{w:World}{K:Value→World→Prop}{n:Nat}(hf:P.funcs[g]?=some fn)
    (h:XC P none n c (qbody P fn n K) (fun s=>al.getD s undef) [] w) (hb:fn.body=some c:=by rfl) (hn:fn.ntmps=n:=by rfl) (hs:Nat.ble al.length n=true:=by rfl):Calls P g al.toArray w (Ret K) :=
  calls_xc hf hb hn (by rw [List.size_toArray];exact Nat.le_of_ble_eq_true hs) (fun i=>by simp) h
theorem y_r1{P:Program}{fn:Func}{n a:Nat}{f:Nat→Value}{K:Value→World→Prop}{w:World}{v:Value}(hk:K v w)(hr:fn.results=#[.tmp a]:=by rfl)(ha:Nat.blt a n=true:=by rfl)(hv:Rd (f a) v:=by (conv=>arg 1;whnf);exact Rd.r):leaves P fn n f K [] w :=
  leaves_nil (rs:=[.tmp a]) (vs:=[v]) hr ⟨⟨by rw [Nat.blt_eq] at ha;exact ha,hv.h⟩,trivial⟩ hk
theorem y_r2{P:Program}{fn:Func}{n a b:Nat}{f:Nat→Value}{K:Value→World→Prop}{w:World}{u v:Value}(hk:K (.tuple #[u,v]) w)(hr:fn.results=#[.tmp a,.tmp b]:=by rfl)(ha:(Nat.blt a n && Nat.blt b n)=true:=by rfl)(hu:Rd (f a) u:=by (conv=>arg 1;whnf);exact Rd.r)(hv:Rd (f b) v:=by (conv=>arg 1;whnf);exact Rd.r):leaves P fn n f K [] w:=by
  simp only [Bool.and_eq_true,Nat.blt_eq] at ha;exact leaves_nil (rs:=[.tmp a,.tmp b]) (vs:=[u,v]) hr ⟨⟨ha.1,hu.h⟩,⟨ha.2,hv.h⟩,trivial⟩ hk
theorem y_r3{P:Program}{fn:Func}{n a b c:Nat}{f:Nat→Value}{K:Value→World→Prop}{w:World}{u v x:Value}(hk:K (.tuple #[u,v,x]) w)(hr:fn.results=#[.tmp a,.tmp b,.tmp c]:=by rfl)(ha:(Nat.blt a n && (Nat.blt b n && Nat.blt c n))=true:=by rfl)(hu:Rd (f a) u:=by (conv=>arg 1;whnf);exact Rd.r)(hv:Rd (f b) v:=by (conv=>arg 1;whnf);exact Rd.r)(hx:Rd (f c) x:=by (conv=>arg 1;whnf);exact Rd.r):leaves P fn n f K [] w:=by
  simp only [Bool.and_eq_true,Nat.blt_eq] at ha;exact leaves_nil (rs:=[.tmp a,.tmp b,.tmp c]) (vs:=[u,v,x]) hr ⟨⟨ha.1,hu.h⟩,⟨ha.2.1,hv.h⟩,⟨ha.2.2,hx.h⟩,trivial⟩ hk
theorem y_r0{P:Program}{fn:Func}{n:Nat}{f:Nat→Value}{K:Value→World→Prop}{w:World}(hk:K (.tuple #[]) w)(hr:fn.results=#[]:=by rfl):leaves P fn n f K [] w:=leaves_nil (rs:=[]) (vs:=[]) hr trivial hk
section
variable {P:Program}{n:Nat}{ops:Array Oper}{S:World→Prop}{f:Nat→Value}{d:Nat}{ty:TypeId}{pos:String}{af:Array Edge}{gd:Option (Nat×Bool)}{x y c:Operand}{op:Op}
theorem qy{o:Oper}{v:Value}(hq:∀w,S w→OpX P o (ev n f) w (fun v' w'=>v'=v∧w'=w))(hw:Wtd o.guard (yl n f ops)=true:=by first | apply wt0 | (apply wt1;(conv=>arg 1;whnf);first | exact litOT | exact litOF)):Quiet P n ops S o v f:=.inl ⟨(wtd_eq _ _).trans hw,hq⟩
theorem q_mv{v:Value}(hw:Wtd gd (yl n f ops)=true:=by first | apply wt0 | (apply wt1;(conv=>arg 1;whnf);first | exact litOT | exact litOF))(hv:Rd (ev n f x) v:=by (conv=>arg 1;whnf);exact Rd.r):Quiet P n ops S ⟨some d,.move x,ty,pos,af,gd⟩ v f:=qy (fun _ _=>ox_move hv.h ⟨rfl,rfl⟩) hw
theorem q_as{v:Value}(hw:Wtd gd (yl n f ops)=true:=by first | apply wt0 | (apply wt1;(conv=>arg 1;whnf);first | exact litOT | exact litOF))(hv:Rd (ev n f x) v:=by (conv=>arg 1;whnf);exact Rd.r):Quiet P n ops S ⟨some d,.assign x,ty,pos,af,gd⟩ v f:=qy (fun _ _=>ox_assign hv.h ⟨rfl,rfl⟩) hw
theorem q_nc{p:Addr}(hw:Wtd gd (yl n f ops)=true:=by first | apply wt0 | (apply wt1;(conv=>arg 1;whnf);first | exact litOT | exact litOF))(hv:ev n f x = .pointer (some p):=by rfl):Quiet P n ops S ⟨some d,.nilCheck x,ty,pos,af,gd⟩ (.pointer (some p)) f:=qy (fun _ _=>ox_nilCheck hv ⟨rfl,rfl⟩) hw
theorem q_fa{t:TypeId}{i b o off:Nat}[hf:FdT P t i off](hw:Wtd gd (yl n f ops)=true:=by first | apply wt0 | (apply wt1;(conv=>arg 1;whnf);first | exact litOT | exact litOF))(hv:ev n f x = .pointer (some ⟨b,o,none⟩):=by rfl):Quiet P n ops S ⟨some d,.fieldAddr t x i,ty,pos,af,gd⟩ (.pointer (some ⟨b,o+off,none⟩)) f:=qy (fun _ _=>ox_fieldAddr hf.h hv ⟨rfl,rfl⟩) hw
theorem q_ex{i:Nat}{vs:Array Value}{v:Value}(hw:Wtd gd (yl n f ops)=true:=by first | apply wt0 | (apply wt1;(conv=>arg 1;whnf);first | exact litOT | exact litOF))(hx:ev n f x = .tuple vs:=by rfl)(hv:RdO (vs[i]?) (some v):=by (conv=>arg 1;whnf);exact RdO.r):Quiet P n ops S ⟨some d,.extract x i,ty,pos,af,gd⟩ v f:=qy (fun _ _=>ox_extract hx hv.h ⟨rfl,rfl⟩) hw
theorem q_pt{v:Value}(hw:Wtd gd (yl n f ops)=true:=by first | apply wt0 | (apply wt1;(conv=>arg 1;whnf);first | exact litOT | exact litOF))(hc:Rd (ev n f c) (.bool true):=by (conv=>arg 1;whnf);exact litT)(hv:Rd (ev n f x) v:=by (conv=>arg 1;whnf);exact Rd.r):Quiet P n ops S ⟨some d,.pick c x y,ty,pos,af,gd⟩ v f:=qy (fun _ _=>ox_pick_t hc.h hv.h ⟨rfl,rfl⟩) hw
theorem q_pf{v:Value}(hw:Wtd gd (yl n f ops)=true:=by first | apply wt0 | (apply wt1;(conv=>arg 1;whnf);first | exact litOT | exact litOF))(hc:Rd (ev n f c) (.bool false):=by (conv=>arg 1;whnf);exact litF)(hv:Rd (ev n f y) v:=by (conv=>arg 1;whnf);exact Rd.r):Quiet P n ops S ⟨some d,.pick c x y,ty,pos,af,gd⟩ v f:=qy (fun _ _=>ox_pick_f hc.h hv.h ⟨rfl,rfl⟩) hw
theorem q_nT{t:TypeId}(hw:Wtd gd (yl n f ops)=true:=by first | apply wt0 | (apply wt1;(conv=>arg 1;whnf);first | exact litOT | exact litOF))(hv:Rd (ev n f x) (.bool true):=by (conv=>arg 1;whnf);exact litT):Quiet P n ops S ⟨some d,.unOp .not t x,ty,pos,af,gd⟩ (.bool false) f:=qy (fun _ _=>ox_not hv.h ⟨rfl,rfl⟩) hw
theorem q_nF{t:TypeId}(hw:Wtd gd (yl n f ops)=true:=by first | apply wt0 | (apply wt1;(conv=>arg 1;whnf);first | exact litOT | exact litOF))(hv:Rd (ev n f x) (.bool false):=by (conv=>arg 1;whnf);exact litF):Quiet P n ops S ⟨some d,.unOp .not t x,ty,pos,af,gd⟩ (.bool true) f:=qy (fun _ _=>ox_not hv.h ⟨rfl,rfl⟩) hw
theorem q_not{t:TypeId}{b:Bool}(hw:Wtd gd (yl n f ops)=true:=by first | apply wt0 | (apply wt1;(conv=>arg 1;whnf);first | exact litOT | exact litOF))(hv:ev n f x = .bool b:=by rfl):Quiet P n ops S ⟨some d,.unOp .not t x,ty,pos,af,gd⟩ (.bool (!b)) f:=qy (fun _ _=>ox_not hv ⟨rfl,rfl⟩) hw
theorem q_lss{t u:TypeId}{k:IntKind}{a b:Int}(hw:Wtd gd (yl n f ops)=true:=by first | apply wt0 | (apply wt1;(conv=>arg 1;whnf);first | exact litOT | exact litOF))(hx:ev n f x = .int k a:=by rfl)(hy:ev n f y = .int k b:=by rfl):Quiet P n ops S ⟨some d,.binOp .lss t x y u,ty,pos,af,gd⟩ (.bool (decide (a<b))) f:=qy (fun _ _=>ox_lss hx hy ⟨rfl,rfl⟩) hw
theorem q_leq{t u:TypeId}{k:IntKind}{a b:Int}(hw:Wtd gd (yl n f ops)=true:=by first | apply wt0 | (apply wt1;(conv=>arg 1;whnf);first | exact litOT | exact litOF))(hx:ev n f x = .int k a:=by rfl)(hy:ev n f y = .int k b:=by rfl):Quiet P n ops S ⟨some d,.binOp .leq t x y u,ty,pos,af,gd⟩ (.bool (decide (a≤b))) f:=qy (fun _ _=>ox_leq hx hy ⟨rfl,rfl⟩) hw
theorem q_gtr{t u:TypeId}{k:IntKind}{a b:Int}(hw:Wtd gd (yl n f ops)=true:=by first | apply wt0 | (apply wt1;(conv=>arg 1;whnf);first | exact litOT | exact litOF))(hx:ev n f x = .int k a:=by rfl)(hy:ev n f y = .int k b:=by rfl):Quiet P n ops S ⟨some d,.binOp .gtr t x y u,ty,pos,af,gd⟩ (.bool (decide (b<a))) f:=qy (fun _ _=>ox_gtr hx hy ⟨rfl,rfl⟩) hw
theorem q_geq{t u:TypeId}{k:IntKind}{a b:Int}(hw:Wtd gd (yl n f ops)=true:=by first | apply wt0 | (apply wt1;(conv=>arg 1;whnf);first | exact litOT | exact litOF))(hx:ev n f x = .int k a:=by rfl)(hy:ev n f y = .int k b:=by rfl):Quiet P n ops S ⟨some d,.binOp .geq t x y u,ty,pos,af,gd⟩ (.bool (decide (b≤a))) f:=qy (fun _ _=>ox_geq hx hy ⟨rfl,rfl⟩) hw
theorem q_eql{t u:TypeId}{k:IntKind}{a b:Int}(hw:Wtd gd (yl n f ops)=true:=by first | apply wt0 | (apply wt1;(conv=>arg 1;whnf);first | exact litOT | exact litOF))(hx:ev n f x = .int k a:=by rfl)(hy:ev n f y = .int k b:=by rfl):Quiet P n ops S ⟨some d,.binOp .eql t x y u,ty,pos,af,gd⟩ (.bool (decide (a=b))) f:=qy (fun _ _=>ox_eql hx hy ⟨rfl,rfl⟩) hw
theorem q_neq{t u:TypeId}{k:IntKind}{a b:Int}(hw:Wtd gd (yl n f ops)=true:=by first | apply wt0 | (apply wt1;(conv=>arg 1;whnf);first | exact litOT | exact litOF))(hx:ev n f x = .int k a:=by rfl)(hy:ev n f y = .int k b:=by rfl):Quiet P n ops S ⟨some d,.binOp .neq t x y u,ty,pos,af,gd⟩ (.bool (decide (a≠b))) f:=qy (fun _ _=>ox_neq hx hy ⟨rfl,rfl⟩) hw
theorem q_len{t e:TypeId}{A:Option Addr}{m cp:Nat}[hu:UnS P t e](hw:Wtd gd (yl n f ops)=true:=by first | apply wt0 | (apply wt1;(conv=>arg 1;whnf);first | exact litOT | exact litOF))(hx:ev n f x = .slice A m cp:=by rfl) :
    Quiet P n ops S ⟨some d,.call { callee:=.builtin .len,args:=#[x],argTypes:=#[t] },ty,pos,af,gd⟩ (.int .i64 m) f:=qy (fun _ _=>ox_len rfl hu.h hx ⟨rfl,rfl⟩) hw
theorem qsMv{x:Operand}{v:Value}(h:Quiet P n ops S ⟨some d,.move x,ty,pos,af,gd⟩ v f):Quiet P n ops S ⟨some d,.move x,ty,pos,af,gd⟩ v f:=h
theorem qsAs{x:Operand}{v:Value}(h:Quiet P n ops S ⟨some d,.assign x,ty,pos,af,gd⟩ v f):Quiet P n ops S ⟨some d,.assign x,ty,pos,af,gd⟩ v f:=h
theorem qsFa{x:Operand}{t:TypeId}{i:Nat}{v:Value}(h:Quiet P n ops S ⟨some d,.fieldAddr t x i,ty,pos,af,gd⟩ v f):Quiet P n ops S ⟨some d,.fieldAddr t x i,ty,pos,af,gd⟩ v f:=h
theorem qsLen{x:Operand}{t:TypeId}{v:Value}(h:Quiet P n ops S ⟨some d,.call { callee:=.builtin .len,args:=#[x],argTypes:=#[t] },ty,pos,af,gd⟩ v f):Quiet P n ops S ⟨some d,.call { callee:=.builtin .len,args:=#[x],argTypes:=#[t] },ty,pos,af,gd⟩ v f:=h
theorem qsLss{x:Operand}{y:Operand}{t:TypeId}{u:TypeId}{v:Value}(h:Quiet P n ops S ⟨some d,.binOp .lss t x y u,ty,pos,af,gd⟩ v f):Quiet P n ops S ⟨some d,.binOp .lss t x y u,ty,pos,af,gd⟩ v f:=h
theorem qsEql{x:Operand}{y:Operand}{t:TypeId}{u:TypeId}{v:Value}(h:Quiet P n ops S ⟨some d,.binOp .eql t x y u,ty,pos,af,gd⟩ v f):Quiet P n ops S ⟨some d,.binOp .eql t x y u,ty,pos,af,gd⟩ v f:=h
theorem qsNeq{x:Operand}{y:Operand}{t:TypeId}{u:TypeId}{v:Value}(h:Quiet P n ops S ⟨some d,.binOp .neq t x y u,ty,pos,af,gd⟩ v f):Quiet P n ops S ⟨some d,.binOp .neq t x y u,ty,pos,af,gd⟩ v f:=h
theorem qsLeq{x:Operand}{y:Operand}{t:TypeId}{u:TypeId}{v:Value}(h:Quiet P n ops S ⟨some d,.binOp .leq t x y u,ty,pos,af,gd⟩ v f):Quiet P n ops S ⟨some d,.binOp .leq t x y u,ty,pos,af,gd⟩ v f:=h
theorem qsGtr{x:Operand}{y:Operand}{t:TypeId}{u:TypeId}{v:Value}(h:Quiet P n ops S ⟨some d,.binOp .gtr t x y u,ty,pos,af,gd⟩ v f):Quiet P n ops S ⟨some d,.binOp .gtr t x y u,ty,pos,af,gd⟩ v f:=h
theorem qsGeq{x:Operand}{y:Operand}{t:TypeId}{u:TypeId}{v:Value}(h:Quiet P n ops S ⟨some d,.binOp .geq t x y u,ty,pos,af,gd⟩ v f):Quiet P n ops S ⟨some d,.binOp .geq t x y u,ty,pos,af,gd⟩ v f:=h
theorem qsEx{x:Operand}{i:Nat}{v:Value}(h:Quiet P n ops S ⟨some d,.extract x i,ty,pos,af,gd⟩ v f):Quiet P n ops S ⟨some d,.extract x i,ty,pos,af,gd⟩ v f:=h
theorem qsNc{x:Operand}{v:Value}(h:Quiet P n ops S ⟨some d,.nilCheck x,ty,pos,af,gd⟩ v f):Quiet P n ops S ⟨some d,.nilCheck x,ty,pos,af,gd⟩ v f:=h
theorem qsNot{x:Operand}{t:TypeId}{v:Value}(h:Quiet P n ops S ⟨some d,.unOp .not t x,ty,pos,af,gd⟩ v f):Quiet P n ops S ⟨some d,.unOp .not t x,ty,pos,af,gd⟩ v f:=h
theorem qsPick{x:Operand}{y:Operand}{c:Operand}{v:Value}(h:Quiet P n ops S ⟨some d,.pick c x y,ty,pos,af,gd⟩ v f):Quiet P n ops S ⟨some d,.pick c x y,ty,pos,af,gd⟩ v f:=h
theorem qsGd{op:Op}{dst:Option Nat}{g:Nat×Bool}{v:Value}(h:Quiet P n ops S ⟨dst,op,ty,pos,af,some g⟩ v f):Quiet P n ops S ⟨dst,op,ty,pos,af,some g⟩ v f:=h
theorem q_sk{o:Oper}(hw:Wtd o.guard (yl n f ops)=false:=by first | (apply wtF;(conv=>arg 1;whnf);exact litOF) | (apply wtT;(conv=>arg 1;whnf);exact litOT) | (apply wtN;(conv=>arg 1;whnf);exact RdB.r)):Quiet P n ops S o undef f:=.inr ⟨(wtd_eq _ _).trans hw,rfl⟩
end
section
variable {P:Program}{n:Nat}{ops:Array Oper}{S:World→Prop}{md:Region.Mode}{Z:List Nat}{Q:(Nat→Value)→World→Prop}{fuel:Nat}{listed:Array Bool}{f:Nat→Value}{w:World}{dst:Option Nat}{op:Op}{ty:TypeId}{pos:String}{af:Array Edge}{gd:Option (Nat×Bool)}{v:Value}
theorem yDp(i:Nat)(h:XD P n md ops Z S Q fuel (listed.setIfInBounds i true) (updo f dst v) w)(hi:ops[i]?=some ⟨dst,op,ty,pos,af,gd⟩:=by rfl)
    (hs:(Region.noSelect ops && Region.free md ops listed i && (Region.ready md ops listed).contains i)=true:=by kernel_rfl)
    (hy:Quiet P n ops (fun _=>True) ⟨dst,op,ty,pos,af,gd⟩ v f:=by first | (apply qsGd;exact q_sk) | (apply qsMv;exact q_mv) | (apply qsAs;exact q_as) | (apply qsFa;exact q_fa) | (apply qsLen;exact q_len) | (apply qsLss;exact q_lss) | (apply qsEql;exact q_eql) | (apply qsNeq;exact q_neq) | (apply qsLeq;exact q_leq) | (apply qsGtr;exact q_gtr) | (apply qsGeq;exact q_geq) | (apply qsEx;exact q_ex) | (apply qsNc;exact q_nc) | (apply qsNot;first | exact q_nT | exact q_nF | exact q_not) | (apply qsPick;first | exact q_pt | exact q_pf) | exact q_sk) :
    XD P n md ops Z S Q (fuel+1) listed f w:=xd_pure i dst hi rfl hs hy h
theorem yDq{i:Nat}(hi:ops[i]?=some ⟨dst,op,ty,pos,af,gd⟩)(hq:∀w,True→OpX P ⟨dst,op,ty,pos,af,gd⟩ (ev n f) w (fun v' w'=>v'=v∧w'=w))(h:XD P n md ops Z S Q fuel (listed.setIfInBounds i true) (updo f dst v) w)
    (hs:(Region.noSelect ops && Region.free md ops listed i && (Region.ready md ops listed).contains i)=true:=by kernel_rfl)
    (hw:Wtd gd (yl n f ops)=true:=by first | apply wt0 | (apply wt1;(conv=>arg 1;whnf);first | exact litOT | exact litOF)):XD P n md ops Z S Q (fuel+1) listed f w:=xd_pure i dst hi rfl hs (qy hq hw) h
theorem yDt{i:Nat}(hi:ops[i]?=some ⟨dst,op,ty,pos,af,gd⟩)(hS:S w)(hq:∀w,S w→OpX P ⟨dst,op,ty,pos,af,gd⟩ (ev n f) w (fun v' w'=>v'=v∧w'=w))(h:XD P n md ops Z S Q fuel (listed.setIfInBounds i true) (updo f dst v) w)
    (hs:(Region.noSelect ops && Region.free md ops listed i && (Region.ready md ops listed).contains i && Z.all fun j=>waitsB md ops j i)=true:=by kernel_rfl)
    (hw:Wtd gd (yl n f ops)=true:=by first | apply wt0 | (apply wt1;(conv=>arg 1;whnf);first | exact litOT | exact litOF)):XD P n md ops Z S Q (fuel+1) listed f w:=xd_take i dst hi rfl hs (qy hq hw) hS h
theorem yD1{i:Nat}(hi:ops[i]?=some ⟨dst,op,ty,pos,af,none⟩)(h:OpX P ⟨dst,op,ty,pos,af,none⟩ (ev n f) w (fun v w'=>(i∈Z∨(S w→S w'))∧XD P n md ops Z S Q fuel (listed.setIfInBounds i true) (updo f dst v) w'))(hr:Region.ready md ops listed = [i]:=by kernel_rfl):XD P n md ops Z S Q (fuel+1) listed f w:=xd_one i dst hi rfl hr rfl h
theorem yCx{P:Program}{n:Nat}{f:Nat→Value}{w:World}{K:Value→World→Prop}{dst:Option Tmp}{ty:TypeId}{pos:String}{af:Array Edge}{gd:Option (Nat×Bool)}{args:Array Operand}{ats:Array TypeId}{g:FuncId}{al:List Value}[hp:PlF P g](h:Calls P g al.toArray w (Ret K))(ha:args.toList.map (ev n f)=al:=by rfl) :
    OpX P ⟨dst,.call { callee:=.value (.func g),args:=args,argTypes:=ats },ty,pos,af,gd⟩ (ev n f) w K:=ox_callE hp.h ha h
theorem ysD{s:Nat}{v:Value}(hs:f s=v)(h:XD P n md ops Z S Q fuel listed (upd f s v) w):XD P n md ops Z S Q fuel listed f w:=by rw [usf hs] at h;exact h
end
end Go.Vx
