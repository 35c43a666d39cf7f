/-
  Part 1 of the proof: texts Vxa Vxb. No conditions.
-/
import Derived.WalkKit
import Derived.OrdersIn
import Derived.RangeFuncNested
import Derived.RangeFuncLeaves
import Derived.RangeFuncCalls
import Derived.TacticsInMore
import Derived.KernelRfl
set_option linter.unusedVariables false
set_option linter.unusedSimpArgs false
set_option linter.unusedSectionVars false
set_option maxRecDepth 100000
set_option maxHeartbeats 4000000
namespace Go.Vx
open Go Go.RowKit
def FW(r:Option Nat):Fence:={ fn:=fun _=>True,depth:=none,alive:=false,round:=r }
theorem fw_room(r:Option Nat)(n:Nat):(FW r).room n:=fun _ h=>by cases h
def fr(n:Nat)(f:Nat→Value)(ds:List Deferred):Act:=⟨(Array.range n).map f,ds⟩
def upd(f:Nat→Value)(d:Nat)(v:Value):Nat→Value:=fun i=>bif Nat.beq i d then v else f i
def updo(f:Nat→Value)(d:Option Nat)(v:Value):Nat→Value:=match d with | some d=>upd f d v | none=>f
def ev(n:Nat)(f:Nat→Value):Operand→Value
  | .tmp t=>bif Nat.blt t n then f t else undef
  | .const v=>v
  | .global g=>.pointer (some ⟨g,0,none⟩)
  | .func g=>.func (.func g) #[] #[]
theorem fr_get(n:Nat)(f:Nat→Value)(ds:List Deferred)(t:Nat):(fr n f ds).tmps[t]?=if t<n then some (f t) else none:=by
  simp only [fr,Array.getElem?_map,Array.getElem?_range]
  split<;>rfl
theorem fr_eval(n:Nat)(f:Nat→Value)(ds:List Deferred)(x:Operand):(fr n f ds).eval x=ev n f x:=by
  cases x with
  | tmp t =>
    simp only [Act.eval,ev];rw [Array.getD_eq_getD_getElem?,fr_get];by_cases h:t<n;have:Nat.blt t n=true:=by rw [Nat.blt_eq];exact h
    simp [h,this]
    have:Nat.blt t n=false:=by
      cases hb:Nat.blt t n with
      | false=>rfl
      | true=>rw [Nat.blt_eq] at hb;exact absurd hb h
    simp [h,this]
  | const v=>rfl
  | global g=>rfl
  | func g=>rfl
theorem fr_eval'(n:Nat)(f:Nat→Value)(ds:List Deferred):(fr n f ds).eval=ev n f:=funext (fr_eval n f ds)
theorem fr_put(n:Nat)(f:Nat→Value)(ds:List Deferred)(d:Option Nat)(v:Value):(fr n f ds).put d v=fr n (updo f d v) ds:=by
  cases d with
  | none=>rfl
  | some d =>
    simp only [Act.put,fr,updo];congr 1;apply Array.ext;simp;intro i h1 h2;have h1':i<n:=by simpa using h1
    rw [Array.getElem_setIfInBounds (by simpa using h1')];simp only [Array.getElem_map,Array.getElem_range,upd];by_cases hi:d=i;subst hi;simp
    have:Nat.beq i d=false:=by
      cases hb:Nat.beq i d with
      | false=>rfl
      | true=>exact absurd (Nat.eq_of_beq_eq_true hb).symm hi
    simp [hi,this]
def yl(n:Nat)(f:Nat→Value)(ops:Array Oper)(j:Nat):Option Bool :=
  match (ops[j]?).bind (·.dst) with
  | none=>none
  | some d=>bif Nat.blt d n then (match f d with | .bool b=>some b | _=>none) else none
theorem fr_yielded(n:Nat)(f:Nat→Value)(ds:List Deferred)(ops:Array Oper):yielded ops (fr n f ds).tmps=yl n f ops:=by
  funext j
  simp only [yielded,yl]
  cases (ops[j]?).bind (·.dst) with
  | none=>rfl
  | some d =>
    simp only [Option.bind_some,fr_get];by_cases h:d<n;have:Nat.blt d n=true:=by rw [Nat.blt_eq];exact h
    simp only [h,if_true,this,cond_true];cases f d<;>rfl
    have:Nat.blt d n=false:=by
      cases hb:Nat.blt d n with
      | false=>rfl
      | true=>rw [Nat.blt_eq] at hb;exact absurd hb h
    simp [h,this]
@[reducible] def Ret (K:Value→World→Prop):Ending→World→Prop:=fun e w=>∃v,e = .returned v∧K v w
def OpX(P:Program)(o:Oper)(ρ:Operand→Value)(w:World)(K:Value→World→Prop):Prop :=
  match (execOp ρ o).run P w with
  | .ok (.value v) w'=>K v w'
  | .ok .skip w'=>K undef w'
  | .ok (.enter g args) w'=>Calls P g args w' (Ret K)
  | .ok (.round l g tmps assign body) w'=>RoundIn (FW none) 0 P l g tmps assign body w' (Ret K)
  | _=>False
theorem OpX.mono{P:Program}{o:Oper}{ρ:Operand→Value}{w:World}{K K':Value→World→Prop}(h:OpX P o ρ w K)(hk:∀v w,K v w→K' v w):OpX P o ρ w K':=by
  unfold OpX at *
  generalize (execOp ρ o).run P w=x at *
  cases x with
  | ok x w' =>
    cases x<;>simp only at h ⊢
    case value=>exact hk _ _ h
    case skip=>exact hk _ _ h
    case enter=>exact h.mono fun e w ⟨v,he,hv⟩=>⟨v,he,hk _ _ hv⟩
    case round=>exact h.mono fun e w ⟨v,he,hv⟩=>⟨v,he,hk _ _ hv⟩
  | halt x w'=>exact h
theorem roundIn_fw{r:Option Nat}{P:Program}{l:Nat}{f:FuncId}{tmps:Array Value}{assign body:Code}{w:World}{R:Ending→World→Prop}{m m':Nat}
    (h:RoundIn (FW none) m P l f tmps assign body w R):RoundIn (FW r) m' P l f tmps assign body w R :=
  ⟨trivial,fun c cs _=>h.2 c cs (fw_room _ _)⟩
theorem callsIn_fw{r:Option Nat}{P:Program}{f:FuncId}{args:Array Value}{w:World}{R:Ending→World→Prop}{m:Nat}(h:Calls P f args w R):CallsIn (FW r) m P f args w R:=by
  have h':=(callsIn_wide (n:=m)).2 h;exact ⟨trivial,fun cs _=>h'.2 cs (room_wide _)⟩
theorem calls_of_fw{P:Program}{f:FuncId}{args:Array Value}{w:World}{R:Ending→World→Prop}{m:Nat}(h:CallsIn (FW none) m P f args w R):Calls P f args w R :=
  (callsIn_wide (n:=m)).1 h
theorem OpX.wpIn{P:Program}{r:Option Nat}{o:Oper}{n:Nat}{f:Nat→Value}{ds:List Deferred}{w:World}{K:Value→World→Prop}{K':Act→World→Prop}{Q:Exit→Act→World→Prop}
    (h:OpX P o (ev n f) w K) (hk:∀v w',K v w'→K' (fr n (updo f o.dst v) ds) w'):o.wpIn (FW r) 0 P (fr n f ds) w K' Q:=by
  refine ⟨fun _ _=>trivial,?_⟩
  have hsem:o.semAt r (ev n f)=execOp (ev n f) o:=Oper.semAt_eq _ _ _ (fun c hc=>by
    unfold OpX at h;unfold execOp at h;simp only [hc] at h
    have hb:(do pure (Next.defer (←resolve (ev n f) c o.type)):Sem Next).run P w=match (resolve (ev n f) c o.type).run P w with | .ok d w=>.ok (.defer d) w | .halt h w=>.halt h w:=by
      rw [Sem.run_bind];cases (resolve (ev n f) c o.type).run P w<;>rfl
    rw [hb] at h
    generalize (resolve (ev n f) c o.type).run P w=x at h
    cases x<;>exact h)
  unfold OpX at h;rw [fr_eval'];show o.uponIn (FW r) 0 P (fr n f ds) K' Q ((o.semAt r (ev n f)).run P w);rw [hsem]
  generalize (execOp (ev n f) o).run P w=x at *
  cases x with
  | ok x w' =>
    cases x<;>simp only at h<;>try exact h.elim
    case value v=>simp only [Oper.uponIn];rw [fr_put];exact hk _ _ h
    case skip=>simp only [Oper.uponIn];rw [fr_put];exact hk _ _ h
    case enter g args =>
      refine ⟨(fun h=>by cases h),callsIn_fw (Calls.mono h ?_)⟩;rintro e w'' ⟨v,rfl,hv⟩;simp only [fr_put];exact hk _ _ hv
    case round l g tmps assign body =>
      refine ⟨(fun h=>by cases h),roundIn_fw (RoundIn.mono h ?_)⟩;rintro e w'' ⟨v,rfl,hv⟩;simp only [fr_put];exact hk _ _ hv
  | halt x w'=>exact h.elim
def XL(P:Program)(r:Option Nat)(n:Nat)(ops:Array Oper)(Q:(Nat→Value)→World→Prop):List Oper→(Nat→Value)→World→Prop
  | [],f,w=>Q f w
  | o::rest,f,w =>
    if Region.wanted o (yl n f ops) then OpX P o (ev n f) w (fun v w'=>XL P r n ops Q rest (updo f o.dst v) w') else XL P r n ops Q rest (updo f o.dst undef) w
section xl
variable {P:Program}{r:Option Nat}{n:Nat}{ops:Array Oper}{Q:(Nat→Value)→World→Prop}{f:Nat→Value}{w:World}{o:Oper}{rest:List Oper}
theorem xl_nil(h:Q f w):XL P r n ops Q [] f w:=h
theorem xl_sound{Q':Exit→Act→World→Prop}{ds:List Deferred}(hq:∀f w,Q f w→Q' .normal (fr n f ds) w):∀(l:List Oper) (f:Nat→Value) (w:World),XL P r n ops Q l f w→wpListIn (FW r) 0 P ops Q' l (fr n f ds) w
  | [],f,w,h=>hq _ _ h
  | o::rest,f,w,h=>by
    unfold XL at h;unfold wpListIn;rw [fr_yielded]
    split
    rename_i hw;rw [if_pos hw] at h;exact h.wpIn fun v w' hv=>xl_sound hq rest _ _ hv
    rename_i hw;rw [if_neg hw] at h;refine ⟨fun _ _=>trivial,?_⟩;rw [fr_put];exact xl_sound hq rest _ _ h
end xl
abbrev QX:=Exit→(Nat→Value)→List Deferred→World→Prop
def lift(n:Nat)(Q:QX):Exit→Act→World→Prop:=fun e a w=>∃f ds,a=fr n f ds∧Q e f ds w
def XC(P:Program)(r:Option Nat)(n:Nat)(c:Code)(Q:QX)(f:Nat→Value)(ds:List Deferred)(w:World):Prop :=
  c.wpIn (FW r) 0 P (lift n Q) (fr n f ds) w
@[reducible] def qseq (K:(Nat→Value)→List Deferred→World→Prop) (Q:QX):QX:=fun e f ds w=>match e with
  | .normal=>K f ds w
  | .exit i=>Q (.exit i) f ds w
  | .goto i=>Q (.goto i) f ds w
  | .ret=>Q .ret f ds w
  | .panic c=>Q (.panic c) f ds w
  | .outgrown=>Q .outgrown f ds w
@[reducible] def qblock (id:Nat) (Q:QX):QX:=fun e f ds w=>match e with
  | .exit i=>bif Nat.beq i id then Q .normal f ds w else Q (.exit i) f ds w
  | .normal=>Q .normal f ds w
  | .goto i=>Q (.goto i) f ds w
  | .ret=>Q .ret f ds w
  | .panic c=>Q (.panic c) f ds w
  | .outgrown=>Q .outgrown f ds w
@[reducible] def qjump (l:Nat) (J:(Nat→Value)→List Deferred→World→Prop) (Q:QX):QX:=fun e f ds w=>match e with
  | .goto i=>i=l∧J f ds w
  | .normal=>Q .normal f ds w
  | .exit i=>Q (.exit i) f ds w
  | .ret=>Q .ret f ds w
  | .panic c=>Q (.panic c) f ds w
  | .outgrown=>Q .outgrown f ds w
section xc
variable {P:Program}{r:Option Nat}{n:Nat}{Q:QX}{f:Nat→Value}{ds:List Deferred}{w:World}
theorem XC.mono{c:Code}{Q':QX}(h:XC P r n c Q f ds w)(hq:∀e f ds w,Q e f ds w→Q' e f ds w):XC P r n c Q' f ds w :=
  wpIn_mono h fun _ _ _ ⟨f,ds,ha,h⟩=>⟨f,ds,ha,hq _ _ _ _ h⟩
theorem xc_skip(h:Q .normal f ds w):XC P r n .skip Q f ds w:=wpIn_skip ⟨f,ds,rfl,h⟩
theorem xc_label{l:Nat}(h:Q .normal f ds w):XC P r n (.label l) Q f ds w:=wpIn_label ⟨f,ds,rfl,h⟩
theorem xc_exit{i:Nat}(h:Q (.exit i) f ds w):XC P r n (.exit i) Q f ds w:=wpIn_exit ⟨f,ds,rfl,h⟩
theorem xc_goto{l:Nat}(h:Q (.goto l) f ds w):XC P r n (.goto l) Q f ds w:=wpIn_goto ⟨f,ds,rfl,h⟩
theorem xc_ret(h:Q .ret f ds w):XC P r n .ret Q f ds w:=wpIn_ret ⟨f,ds,rfl,h⟩
theorem xc_seq{x y:Code}(h:XC P r n x (qseq (fun f ds w=>XC P r n y Q f ds w) Q) f ds w):XC P r n (.seq x y) Q f ds w:=by
  refine wpIn_seq (wpIn_mono h ?_);rintro e a w ⟨f,ds,rfl,hq⟩
  cases e with
  | normal=>exact hq
  | exit i=>exact ⟨f,ds,rfl,hq⟩
  | goto i=>exact ⟨f,ds,rfl,hq⟩
  | ret=>exact ⟨f,ds,rfl,hq⟩
  | panic c=>exact ⟨f,ds,rfl,hq⟩
  | outgrown=>exact ⟨f,ds,rfl,hq⟩
theorem xc_cond{c:Operand}{x y:Code}{b:Bool}(hc:ev n f c = .bool b)(ht:b=true→XC P r n x Q f ds w)(hf:b=false→XC P r n y Q f ds w):XC P r n (.cond c x y) Q f ds w :=
  wpIn_cond_split ((fr_eval n f ds c).trans hc) ht hf
theorem xc_cond_t{c:Operand}{x y:Code}(hc:ev n f c = .bool true)(h:XC P r n x Q f ds w):XC P r n (.cond c x y) Q f ds w :=
  wpIn_cond_true ((fr_eval n f ds c).trans hc) h
theorem xc_cond_f{c:Operand}{x y:Code}(hc:ev n f c = .bool false)(h:XC P r n y Q f ds w):XC P r n (.cond c x y) Q f ds w :=
  wpIn_cond_false ((fr_eval n f ds c).trans hc) h
theorem xc_if{c:Operand}{x y:Code}{p:Prop}[Decidable p](hc:ev n f c = .bool (decide p))(ht:p→XC P r n x Q f ds w)(hf:¬p→XC P r n y Q f ds w):XC P r n (.cond c x y) Q f ds w :=
  xc_cond hc (fun h=>ht (of_decide_eq_true h)) (fun h=>hf (of_decide_eq_false h))
theorem xc_block{id:Nat}{c:Code}(h:XC P r n c (qblock id Q) f ds w):XC P r n (.block id c) Q f ds w:=by
  refine wpIn_block (wpIn_mono h ?_);rintro e a w ⟨f,ds,rfl,hq⟩
  cases e with
  | normal=>exact ⟨f,ds,rfl,hq⟩
  | exit i =>
    simp only [Exit.inBlock];simp only [qblock] at hq;by_cases hi:i=id;subst hi;simp at hq ⊢;exact ⟨f,ds,rfl,hq⟩
    have:Nat.beq i id=false:=by
      cases hb:Nat.beq i id with
      | false=>rfl
      | true=>exact absurd (Nat.eq_of_beq_eq_true hb) hi
    rw [this] at hq;simp [hi];exact ⟨f,ds,rfl,hq⟩
  | goto i=>exact ⟨f,ds,rfl,hq⟩
  | ret=>exact ⟨f,ds,rfl,hq⟩
  | panic c=>exact ⟨f,ds,rfl,hq⟩
  | outgrown=>exact ⟨f,ds,rfl,hq⟩
theorem stepR_scope{b:Frame}{a:Act}{k:List Item}{cs:List Frame}{c:Code} : step P (lone (b.atR a (.code (.scope c)::k)) cs w) = .next (lone (b.atR a (.code c::.inScope c::k)) cs w) :=
  step_lone_go (by simp [stepG,stepG.exec,Frame.atR])
theorem stepR_inScope{b:Frame}{a:Act}{k:List Item}{cs:List Frame}{c:Code} : step P (lone (b.atR a (.inScope c::k)) cs w) = .next (lone (b.atR a k) cs w) :=
  step_lone_go (by simp [stepG,stepG.exec,Frame.atR])
theorem xc_region{id:Nat}{l:List Oper}(h:XL P r n l.toArray (fun f w=>Q .normal f ds w) l f w):XC P r n (.region id l.toArray false) Q f ds w :=
  wpIn_region_lit (xl_sound (fun f w hq=>⟨f,ds,rfl,hq⟩) l f w h)
end xc
def leaves(P:Program)(fn:Func)(n:Nat)(f:Nat→Value)(K:Value→World→Prop):List Deferred→World→Prop
  | [],w=>∃v,(results fn (fr n f []).tmps).run P w = .ok v w∧K v w
  | d::ds,w=>∃D,d.target = .collected D∧w.heap[D]?=some (.deferred (some []))∧leaves P fn n f K ds (w.putObj D (.deferred none))
def qbody(P:Program)(fn:Func)(n:Nat)(K:Value→World→Prop):QX:=fun e f ds w=>match e with
  | .normal=>leaves P fn n f K ds w
  | .ret=>leaves P fn n f K ds w
  | _=>False
theorem leaves_in{P:Program}{fn:Func}{n:Nat}{f:Nat→Value}{K:Value→World→Prop} : ∀(ds:List Deferred) (w:World),leaves P fn n f K ds w→LeavesInM (FW none) 0 P fn (fr n f []).tmps (Ret K) ds .returning w
  | [],_,h=>by
    obtain ⟨v,hr,hk⟩:=h;exact ⟨v,hr,v,rfl,hk⟩
  | d::ds,w,h=>by
    obtain ⟨D,ht,hh,h⟩:=h;exact ⟨by simp,.inl ⟨D,_,ht,run_takeDeferred hh,leaves_in ds _ h⟩⟩
theorem calls_xc{P:Program}{g:FuncId}{fn:Func}{c:Code}{args:Array Value}{w:World}{K:Value→World→Prop}{n:Nat}{f:Nat→Value}
    (hf:P.funcs[g]?=some fn) (hb:fn.body=some c) (hn:fn.ntmps=n) (hs:args.size≤n) (hff:∀i,f i=args.getD i undef)
    (h:XC P none n c (qbody P fn n K) f [] w):Calls P g args w (Ret K):=by
  refine calls_of_fw (m:=0) (callsIn_of_wp_marks hf hb trivial ?_)
  have hfr:({ tmps:=args++Array.replicate (fn.ntmps-args.size) undef,defers:=[] } : Act)=fr n f []:=by
    subst hn;simp only [fr];congr 1;apply Array.ext;simp;omega;intro i h1 h2;simp only [Array.getElem_map,Array.getElem_range,hff];by_cases hi:i<args.size;rw [Array.getElem_append_left hi];simp [hi];rw [Array.getElem_append_right (by omega)];simp [hi]
  rw [hfr];refine wpIn_mono h ?_;rintro e a w ⟨f,ds,rfl,hq⟩
  cases e with
  | normal=>exact leaves_in _ _ hq
  | ret=>exact leaves_in _ _ hq
  | exit i=>exact hq.elim
  | goto i=>exact hq.elim
  | panic c=>exact hq.elim
  | outgrown=>exact hq.elim
attribute [irreducible] XL OpX
end Go.Vx
namespace Go.Vx
open Go Go.RowKit
section
variable {P:Program}{r:Option Nat}{n:Nat}{md:Region.Mode}{ops:Array Oper}{S:World→Prop}{Q:(Nat→Value)→World→Prop}
theorem ev_upd{f:Nat→Value}{d:Option Nat}{v:Value}{x:Operand}(h:∀e,d=some e→x≠.tmp e):ev n (updo f d v) x=ev n f x:=by
  cases d with
  | none=>rfl
  | some d =>
    cases x with
    | tmp t =>
      have hne:t≠d:=fun e=>h d rfl (e ▸ rfl)
      have:Nat.beq t d=false:=by
        cases hb:Nat.beq t d with
        | false=>rfl
        | true=>exact absurd (Nat.eq_of_beq_eq_true hb) hne
      simp [ev,updo,upd,this]
    | const v=>rfl
    | global g=>rfl
    | func g=>rfl
theorem updo_comm(f:Nat→Value){x y:Option Nat}(v u:Value)(h:∀d,x=some d→y≠some d):updo (updo f x v) y u=updo (updo f y u) x v:=by
  cases x with
  | none=>rfl
  | some d =>
    cases y with
    | none=>rfl
    | some e =>
      have hne:d≠e:=fun he=>h d rfl (he ▸ rfl)
      funext i
      simp only [updo,upd];cases hd:Nat.beq i d<;>cases he:Nat.beq i e<;>simp;exact absurd ((Nat.eq_of_beq_eq_true hd).symm.trans (Nat.eq_of_beq_eq_true he)) hne
theorem execOp_updo(o:Oper)(hs:∀cs b,o.op≠.select cs b)(f:Nat→Value)(dst:Option Nat)(v:Value)(h:∀d,dst=some d→d∉o.looksAt ops) :
    execOp (ev n (updo f dst v)) o=execOp (ev n f) o :=
  execOp_congr o hs fun x hx=>ev_upd fun d hd hxd=>h d hd (by
    subst hxd;exact List.mem_append_left _ (List.mem_filterMap.2 ⟨.tmp d,by simpa using hx,rfl⟩))
theorem wanted_updo(o:Oper)(f:Nat→Value)(dst:Option Nat)(v:Value)(h:∀d,dst=some d→d∉o.looksAt ops) :
    Region.wanted o (yl n (updo f dst v) ops)=Region.wanted o (yl n f ops):=by
  cases dst with
  | none=>rfl
  | some d =>
    unfold Region.wanted
    cases hg:o.guard with
    | none=>rfl
    | some gw =>
      obtain ⟨g,want⟩:=gw
      have hy:yl n (updo f (some d) v) ops g=yl n f ops g:=by
        unfold yl
        cases ht:(ops[g]?).bind (·.dst) with
        | none=>rfl
        | some t =>
          have hne:d≠t:=fun e=>h d rfl (by subst e;simp [Oper.looksAt,hg,ht])
          have:Nat.beq t d=false:=by
            cases hb:Nat.beq t d with
            | false=>rfl
            | true=>exact absurd (Nat.eq_of_beq_eq_true hb).symm hne
          simp [updo,upd,this]
      simp only [hy]
def stepX(P:Program)(n:Nat)(ops:Array Oper)(i:Nat)(K:(Nat→Value)→World→Prop)(f:Nat→Value)(w:World):Prop :=
  match ops[i]? with
  | none=>K f w
  | some o=>if Region.wanted o (yl n f ops) then OpX P o (ev n f) w (fun v w'=>K (updo f o.dst v) w') else K (updo f o.dst undef) w
theorem stepX_mono{i:Nat}{f:Nat→Value}{w:World}{K K':(Nat→Value)→World→Prop}(hk:∀f w,K f w→K' f w)(h:stepX P n ops i K f w):stepX P n ops i K' f w:=by
  unfold stepX at *
  split
  exact hk _ _ (by simpa [*] using h);rename_i o ho;simp only [ho] at h
  split
  rename_i hw;simp only [hw,if_true] at h;exact h.mono fun _ _=>hk _ _
  rename_i hw;simp only [hw] at h;exact hk _ _ h
def Quiet(P:Program)(n:Nat)(ops:Array Oper)(S:World→Prop)(o:Oper)(v:Value)(f:Nat→Value):Prop :=
  (Region.wanted o (yl n f ops)=true∧∀w,S w→OpX P o (ev n f) w (fun v' w'=>v'=v∧w'=w)) ∨
  (Region.wanted o (yl n f ops)=false∧v=undef)
theorem Quiet.of_same{o:Oper}{v:Value}{f f':Nat→Value}(hy:Quiet P n ops S o v f)(he:execOp (ev n f') o=execOp (ev n f) o)
    (hw:Region.wanted o (yl n f' ops)=Region.wanted o (yl n f ops)):Quiet P n ops S o v f':=by
  unfold Quiet OpX at *;rw [he,hw];exact hy
theorem Quiet.stepX{i:Nat}{o:Oper}{v:Value}{f:Nat→Value}(hi:ops[i]?=some o)(hy:Quiet P n ops S o v f){K:(Nat→Value)→World→Prop}{w:World}(hS:S w)
    (h:K (updo f o.dst v) w):stepX P n ops i K f w:=by
  unfold Go.Vx.stepX;simp only [hi];rcases hy with ⟨hw,hv⟩|⟨hw,rfl⟩;simp only [hw,if_true];exact (hv w hS).mono fun v' w' ⟨e1,e2⟩=>by subst e1;subst e2;exact h
  simp only [hw,Bool.false_eq_true,if_false];exact h
theorem stepX_put{j:Nat}{oi oj:Oper}{v:Value}(hj:ops[j]?=some oj)(hap:oi.apart ops oj=true)
    (hsi:∀cs b,oi.op≠.select cs b) (hsj:∀cs b,oj.op≠.select cs b) {K:(Nat→Value)→World→Prop} {f:Nat→Value} {w:World}
    (hy:Quiet P n ops S oi v f) (h:stepX P n ops j K (updo f oi.dst v) w) :
    stepX P n ops j (fun f' w'=>Quiet P n ops S oi v f'∧K (updo f' oi.dst v) w') f w:=by
  obtain ⟨h1,h2,h3⟩:=Oper.apart_spec hap;have keep:∀u,Quiet P n ops S oi v (updo f oj.dst u):=fun u=>hy.of_same (execOp_updo oi hsi f oj.dst u h3) (wanted_updo oi f oj.dst u h3)
  unfold stepX at *;simp only [hj] at *;rw [wanted_updo oj f oi.dst v h1] at h
  split
  rename_i hw;simp only [hw,if_true] at h;unfold OpX at *;rw [execOp_updo oj hsj f oi.dst v h1] at h
  generalize (execOp (ev n f) oj).run P w=x at *
  cases x with
  | ok x w' =>
    cases x<;>simp only at h ⊢<;>try exact h
    case value u=>exact ⟨keep u,by rw [←updo_comm f v u h2];exact h⟩
    case skip=>exact ⟨keep _,by rw [←updo_comm f v undef h2];exact h⟩
    case enter g args=>exact Calls.mono h fun e w'' ⟨u,he,hu⟩=>⟨u,he,keep u,by rw [←updo_comm f v u h2];exact hu⟩
    case round l g tmps assign body=>exact RoundIn.mono h fun e w'' ⟨u,he,hu⟩=>⟨u,he,keep u,by rw [←updo_comm f v u h2];exact hu⟩
  | halt x w'=>exact h
  rename_i hw;simp only [hw] at h;exact ⟨keep _,by rw [←updo_comm f v undef h2];exact h⟩
def waitsB(md:Region.Mode)(ops:Array Oper)(j i:Nat):Bool :=
  match ops[j]? with
  | some oj=>oj.after.any fun e=>Region.binds md e && e.on == i
  | none=>true
theorem waitsB_ready{i j:Nat}{listed:Array Bool}(h:waitsB md ops j i=true)(hj:j∈Region.ready md ops listed):listed.getD i false=true:=by
  obtain ⟨_,oj,hoj,hall⟩:=mem_ready.1 hj;unfold waitsB at h;rw [hoj] at h;obtain ⟨e,he,hb⟩:=Array.any_eq_true'.1 h;simp only [Bool.and_eq_true,beq_iff_eq] at hb;have:=hall e he hb.1
  rwa [hb.2] at this
def XD(P:Program)(n:Nat)(md:Region.Mode)(ops:Array Oper)(Z:List Nat)(S:World→Prop)(Q:(Nat→Value)→World→Prop):Nat→Array Bool→(Nat→Value)→World→Prop
  | 0,listed,f,w=>Region.ready md ops listed = []∧Q f w
  | fuel+1,listed,f,w =>
    (Region.ready md ops listed = []→Q f w) ∧
    ∀i∈Region.ready md ops listed,stepX P n ops i (fun f' w'=>(i∈Z∨(S w→S w'))∧XD P n md ops Z S Q fuel (listed.setIfInBounds i true) f' w') f w
theorem xd_first{Z:List Nat}{S' R:World→Prop}{i:Nat}{oi:Oper}{v:Value}(hi:ops[i]?=some oi)(hsel:∀(j:Nat) (o:Oper) cs b,ops[j]?=some o→o.op≠.select cs b)
    (hR1:∀w,R w→S' w) (hR3:∀(j:Nat) (listed:Array Bool) (w w':World),R w→j∈Region.ready md ops listed→listed.getD i true=false→(j∈Z∨(S w→S w'))→R w') :
    ∀(fuel:Nat) (listed:Array Bool) (f:Nat→Value) (w:World),
      (∀j oj,ops[j]?=some oj→j≠i→listed.getD j true=false→(∀e∈oj.after,Region.binds md e=true→e.on≠i)→oi.apart ops oj=true) →
      i∈Region.ready md ops listed→Quiet P n ops S' oi v f→R w →
      XD P n md ops Z S Q fuel (listed.setIfInBounds i true) (updo f oi.dst v) w→XD P n md ops Z S Q (fuel+1) listed f w:=by
  intro fuel
  induction fuel with
  | zero =>
    intro listed f w _ hr hy hS H;refine ⟨fun h=>(by rw [h] at hr;cases hr),fun j hj=>?_⟩;by_cases hji:j=i;subst hji;exact hy.stepX hi (hR1 _ hS) ⟨.inr fun h=>h,H⟩;have:=ready_mono hj hji;rw [H.1] at this;cases this
  | succ fuel ih =>
    intro listed f w hfree hr hy hS H;refine ⟨fun h=>(by rw [h] at hr;cases hr),fun j hj=>?_⟩;by_cases hji:j=i;subst hji;exact hy.stepX hi (hR1 _ hS) ⟨.inr fun h=>h,H⟩;have h1:=H.2 j (ready_mono hj hji);obtain ⟨hjun,oj,hoj,hall⟩:=mem_ready.1 hj
    have hnot:∀e∈oj.after,Region.binds md e=true→e.on≠i:=fun e he hb heq=>by
      have h1:=hall e he hb;have h0:=(mem_ready.1 hr).1;rw [heq] at h1;rcases Nat.lt_or_ge i listed.size with h'|h';simp [h'] at h0 h1;rw [h0] at h1;cases h1;simp [Array.getElem?_eq_none h'] at h1
    have h2:=stepX_put hoj (hfree j oj hoj hji hjun hnot) (fun cs b=>hsel i oi cs b hi) (fun cs b=>hsel j oj cs b hoj) hy h1;have hfree':∀k ok,ops[k]?=some ok→k≠i→(listed.setIfInBounds j true).getD k true=false →
        (∀e∈ok.after,Region.binds md e=true→e.on≠i)→oi.apart ops ok=true:=fun k ok hk hki hun hno=>by
      refine hfree k ok hk hki ?_ hno;by_cases hjk:j=k;subst hjk;exact hjun;rw [getD_set_ne true hjk] at hun;exact hun
    refine stepX_mono (fun f' w' h3=>⟨h3.2.1,ih (listed.setIfInBounds j true) f' w' hfree' (ready_mono hr (Ne.symm hji)) h3.1 (hR3 j listed w w' hS hj (mem_ready.1 hr).1 h3.2.1) ?_⟩) h2;rw [Array.setIfInBounds_comm _ _ hji];exact h3.2.2
theorem xd_sound{Z:List Nat}{Q':Exit→Act→World→Prop}{ds:List Deferred}(hq:∀f w,Q f w→Q' .normal (fr n f ds) w):∀(fuel:Nat) (listed:Array Bool) (f:Nat→Value) (w:World),
    XD P n md ops Z S Q fuel listed f w→wpAnyIn (FW r) 0 P md ops Q' fuel listed (fr n f ds) w
  | 0,_,_,_,h=>⟨h.1,hq _ _ h.2⟩
  | fuel+1,listed,f,w,h=>by
    refine ⟨fun h0=>hq _ _ (h.1 h0),fun i hi=>?_⟩;have h1:=h.2 i hi;unfold wpOpIn;unfold stepX at h1
    cases ho:ops[i]? with
    | none=>simp only [ho] at h1 ⊢;exact xd_sound hq fuel _ _ _ h1.2
    | some o =>
      simp only [ho] at h1 ⊢;rw [fr_yielded]
      split
      rename_i hw;rw [if_pos hw] at h1;exact h1.wpIn fun v w' hv=>xd_sound hq fuel _ _ _ hv.2
      rename_i hw;rw [if_neg hw] at h1;refine ⟨fun _ _=>trivial,?_⟩;rw [fr_put];exact xd_sound hq fuel _ _ _ h1.2
theorem getD_tf{listed:Array Bool}{i:Nat}(h:listed.getD i true=false)(h':listed.getD i false=true):False:=by
  rcases Nat.lt_or_ge i listed.size with hl|hl;simp [hl] at h h';rw [h] at h';cases h';simp [Array.getElem?_eq_none hl] at h
theorem xd_take{Z:List Nat}{oi:Oper}{v:Value}{fuel:Nat}{listed:Array Bool}{f:Nat→Value}{w:World}(i:Nat)(d:Option Nat)(hi:ops[i]?=some oi)(hd:oi.dst=d)
    (hs:(Region.noSelect ops && Region.free md ops listed i && (Region.ready md ops listed).contains i && Z.all fun j=>waitsB md ops j i)=true)
    (hy:Quiet P n ops S oi v f) (hS:S w)
    (h:XD P n md ops Z S Q fuel (listed.setIfInBounds i true) (updo f d v) w):XD P n md ops Z S Q (fuel+1) listed f w:=by
  subst hd;simp only [Bool.and_eq_true] at hs;obtain ⟨⟨⟨hs,hf⟩,hr⟩,hz⟩:=hs;refine xd_first (S':=S) (R:=S) hi (Region.noSelect_spec hs) (fun w h=>h) (fun j listed w w' hw hj hun h=>h.resolve_left (fun hjz=>?_) hw) fuel listed f w (Region.free_spec hi hf) (by simpa using hr) hy hS h;exact getD_tf hun (waitsB_ready (List.all_eq_true.1 hz j hjz) hj)
theorem xd_pure{Z:List Nat}{oi:Oper}{v:Value}{fuel:Nat}{listed:Array Bool}{f:Nat→Value}{w:World}(i:Nat)(d:Option Nat)(hi:ops[i]?=some oi)(hd:oi.dst=d)
    (hs:(Region.noSelect ops && Region.free md ops listed i && (Region.ready md ops listed).contains i)=true)
    (hy:Quiet P n ops (fun _=>True) oi v f)
    (h:XD P n md ops Z S Q fuel (listed.setIfInBounds i true) (updo f d v) w):XD P n md ops Z S Q (fuel+1) listed f w:=by
  subst hd;simp only [Bool.and_eq_true] at hs;obtain ⟨⟨hs,hf⟩,hr⟩:=hs;exact xd_first (S':=fun _=>True) (R:=fun _=>True) hi (Region.noSelect_spec hs) (fun w h=>trivial) (fun j listed w w' _ hj hun h=>trivial) fuel listed f w (Region.free_spec hi hf) (by simpa using hr) hy trivial h
theorem xd_one{Z:List Nat}{oi:Oper}{fuel:Nat}{listed:Array Bool}{f:Nat→Value}{w:World}(i:Nat)(d:Option Nat)(hi:ops[i]?=some oi)(hd:oi.dst=d)(hr:Region.ready md ops listed = [i])(hg:oi.guard=none)
    (h:OpX P oi (ev n f) w (fun v w'=>(i∈Z∨(S w→S w'))∧XD P n md ops Z S Q fuel (listed.setIfInBounds i true) (updo f d v) w')):XD P n md ops Z S Q (fuel+1) listed f w:=by
  subst hd;refine ⟨fun h0=>absurd (hr ▸ h0) (by simp),fun j hj=>?_⟩;rw [hr] at hj;obtain rfl:j=i:=by simpa using hj
  unfold stepX;simp only [hi];rw [if_pos (by simp [Region.wanted,hg])];exact h
theorem xd_two{Z:List Nat}{oi ok:Oper}{fuel:Nat}{listed:Array Bool}{f:Nat→Value}{w:World}(i k:Nat)(d e:Option Nat)(hi:ops[i]?=some oi)(hk:ops[k]?=some ok)(hd:oi.dst=d)(he:ok.dst=e)(hr:Region.ready md ops listed = [i,k])(hg:oi.guard=none)(hg':ok.guard=none)
    (h:OpX P oi (ev n f) w (fun v w'=>(i∈Z∨(S w→S w'))∧XD P n md ops Z S Q fuel (listed.setIfInBounds i true) (updo f d v) w'))
    (h':OpX P ok (ev n f) w (fun v w'=>(k∈Z∨(S w→S w'))∧XD P n md ops Z S Q fuel (listed.setIfInBounds k true) (updo f e v) w')):XD P n md ops Z S Q (fuel+1) listed f w:=by
  subst hd;subst he;refine ⟨fun h0=>absurd (hr ▸ h0) (by simp),fun j hj=>?_⟩;rw [hr] at hj;have hj2:j=i∨j=k:=by simpa using hj
  rcases hj2 with rfl|rfl;unfold stepX;simp only [hi];rw [if_pos (by simp [Region.wanted,hg])];exact h;unfold stepX;simp only [hk];rw [if_pos (by simp [Region.wanted,hg'])];exact h'
theorem xd_done{Z:List Nat}{listed:Array Bool}{f:Nat→Value}{w:World}(hr:Region.ready md ops listed = [])(h:Q f w):∀fuel,XD P n md ops Z S Q fuel listed f w
  | 0=>⟨hr,h⟩
  | _+1=>⟨fun _=>h,by rw [hr];simp⟩
theorem xc_regionD{id:Nat}{Q:QX}{f:Nat→Value}{ds:List Deferred}{w:World}(Z:List Nat)(S:World→Prop)(hm:P.follows .mixedOrders=true)
    (h:∀w',w' = { w with drawn:=w.drawn+1 }→XD P n .any ops Z S (fun f w=>Q .normal f ds w) ops.size (Array.replicate ops.size false) f w'):XC P r n (.region id ops true) Q f ds w:=by
  exact wpIn_region_any hm (xd_sound (fun f w hq=>⟨f,ds,rfl,hq⟩) _ _ _ _ (h _ rfl))
end
end Go.Vx
