/-
  Part 4 of the proof: texts Vxh. No conditions.
-/
import Derived.LaidEqlPtr
import Derived.Laws.StructEq
import Derived.Test.YtabfopjkgeoiiaaGreatDoorPrc
set_option linter.unusedVariables false
set_option linter.unusedSimpArgs false
set_option linter.unusedSectionVars false
set_option maxRecDepth 100000
set_option maxHeartbeats 4000000
namespace Go.Vx
open Go Go.RowKit
inductive FKd where
  | int (k:IntKind)
  | bool
  | str
deriving DecidableEq
def fitsA:FKd→Value→Bool
  | .int k,.int k' _=>decide (k=k')
  | .bool,.bool _=>true
  | .str,.string _=>true
  | _,_=>false
def fits:List (FKd)→List Value→Bool
  | [],[]=>true
  | a::l,v::vs=>fitsA a v && fits l vs
  | _,_=>false
theorem fits_len:∀ {l:List (FKd)} {vs:List Value},fits l vs=true→vs.length=l.length
  | [],[],_=>rfl
  | _::_,_::_,h=>by simp only [fits,Bool.and_eq_true] at h;simp [fits_len h.2]
  | [],_::_,h=>by simp [fits] at h
  | _::_,[],h=>by simp [fits] at h
theorem fits_int{k:IntKind} : ∀ {vs:List Value},fits [.int k] vs=true→∃a,vs = [.int k a]
  | [.int k' a],h=>by simp only [fits,fitsA,Bool.and_true,decide_eq_true_eq] at h;subst h;exact ⟨a,rfl⟩
  | [],h=>by simp [fits] at h
  | v::_::_,h=>by simp [fits] at h
  | [v],h=>by cases v<;>simp [fits,fitsA] at h;subst h;exact ⟨_,rfl⟩
theorem fits_bool:∀ {vs:List Value},fits [.bool] vs=true→∃a,vs = [.bool a]
  | [],h=>by simp [fits] at h
  | v::_::_,h=>by simp [fits] at h
  | [v],h=>by cases v<;>simp [fits,fitsA] at h;exact ⟨_,rfl⟩
theorem fits_str:∀ {vs:List Value},fits [.str] vs=true→∃a,vs = [.string a]
  | [],h=>by simp [fits] at h
  | v::_::_,h=>by simp [fits] at h
  | [v],h=>by cases v<;>simp [fits,fitsA] at h;exact ⟨_,rfl⟩
theorem fits_append:∀ {a b:List (FKd)} {vs:List Value},fits (a++b) vs=true→fits a (vs.take a.length)=true∧fits b (vs.drop a.length)=true
  | [],b,vs,h=>by simpa [fits] using h
  | x::a,b,v::vs,h=>by
    simp only [List.cons_append,fits,Bool.and_eq_true] at h;have:=fits_append h.2;simp only [List.length_cons,List.take_succ_cons,List.drop_succ_cons,fits,Bool.and_eq_true];exact ⟨⟨h.1,this.1⟩,this.2⟩
  | x::a,b,[],h=>by simp [fits] at h
def flatFs(F:TypeId→Option (List (FKd)))(S:TypeId→Option Nat):List Field→Nat→Option (List (FKd))
  | [],_=>some []
  | f::fs,n =>
    match F f.type with
    | some l => if f.name ≠ "_" ∧ f.offset = n ∧ S f.type = some l.length then (flatFs F S fs (n + l.length)).map (l ++ ·) else none
    | none=>none
def flatT(P:Program):Nat→TypeId→Option (List (FKd))
  | 0,_=>none
  | d+1,t =>
    match P.underlying t with
    | some (.int k)=>if isAggT P t=some false then some [.int k] else none
    | some .bool=>if isAggT P t=some false then some [.bool] else none
    | some .string=>if isAggT P t=some false then some [.str] else none
    | some (.struct fs)=>if P.stoodInHeld t=false∧isAggT P t=some true then flatFs (flatT P d) (sizeT P) fs.toList 0 else none
    | _=>none
def valT(P:Program)(t:TypeId)(vs:List Value):Value:=if isAggT P t=some true then .agg vs.toArray else vs.headD undef
section
variable {P:Program}
theorem run_part_val{d:Nat}{t:TypeId}{l:List (FKd)}(ht:flatT P d t=some l)(hs:sizeT P t=some l.length){vs:List Value}{o:Nat}(hf:fits l ((vs.drop o).take l.length)=true)(w:World) :
    (part t vs.toArray o).run P w = .ok (valT P t ((vs.drop o).take l.length)) w:=by
  unfold part
  cases d with
  | zero=>simp [flatT] at ht
  | succ d =>
    unfold flatT at ht
    split at ht
    split at ht
    rename_i ha;cases ht;rw [Sem.run_bind,run_isAgg ha];have hl:=fits_len hf;have h1:vs[o]?=((vs.drop o).take 1).head?:=by rw [List.head?_take];simp
    cases hv:(vs.drop o).take 1 with
    | nil=>simp [hv] at hl
    | cons x r=>rw [hv] at h1;simp [Result.andThen,valT,ha,hv,h1]
    cases ht
    split at ht
    rename_i ha;cases ht;rw [Sem.run_bind,run_isAgg ha];have hl:=fits_len hf;have h1:vs[o]?=((vs.drop o).take 1).head?:=by rw [List.head?_take];simp
    cases hv:(vs.drop o).take 1 with
    | nil=>simp [hv] at hl
    | cons x r=>rw [hv] at h1;simp [Result.andThen,valT,ha,hv,h1]
    cases ht
    split at ht
    rename_i ha;cases ht;rw [Sem.run_bind,run_isAgg ha];have hl:=fits_len hf;have h1:vs[o]?=((vs.drop o).take 1).head?:=by rw [List.head?_take];simp
    cases hv:(vs.drop o).take 1 with
    | nil=>simp [hv] at hl
    | cons x r=>rw [hv] at h1;simp [Result.andThen,valT,ha,hv,h1]
    cases ht
    split at ht
    rename_i h2;rw [Sem.run_bind,run_isAgg h2.2];simp only [Result.andThen,if_true,Sem.run_bind,run_size hs,Sem.run_pure,valT,h2.2];congr 2;apply Array.ext';simp [Array.toList_extract,List.extract_eq_take_drop];cases ht;cases ht
theorem run_flatFs{d e:Nat}(ih:∀(t:TypeId) (l:List (FKd)) (xs ys:List Value),flatT P d t=some l→fits l xs=true→fits l ys=true→∀w,∃r,(Op.equalIn (e+d) t (valT P t xs) (valT P t ys)).run P w = .ok r w∧(r=true↔xs=ys)) :
    ∀(fs:List Field) (o:Nat) (l:List (FKd)) (xs ys:List Value),flatFs (flatT P d) (sizeT P) fs o=some l→fits l (xs.drop o)=true→fits l (ys.drop o)=true→∀w,∃r,(Op.eqFields (e+d) xs.toArray ys.toArray fs).run P w = .ok r w∧(r=true↔xs.drop o=ys.drop o)
  | [],o,l,xs,ys,h,hx,hy,w=>by
    simp only [flatFs,Option.some.injEq] at h;subst h;have h1:=fits_len hx;have h2:=fits_len hy;refine ⟨true,by simp [Op.eqFields],?_⟩;rw [List.eq_nil_of_length_eq_zero h1,List.eq_nil_of_length_eq_zero h2];simp
  | f::fs,o,l,xs,ys,h,hx,hy,w=>by
    unfold flatFs at h
    cases hF:flatT P d f.type with
    | none=>simp [hF] at h
    | some l1 =>
      simp only [hF] at h
      split at h
      rename_i hc;obtain ⟨hn,ho,hs⟩:=hc
      cases hr:flatFs (flatT P d) (sizeT P) fs (o+l1.length) with
      | none=>simp [hr] at h
      | some l2 =>
        simp only [hr,Option.map_some,Option.some.injEq] at h;subst h;have fx:=fits_append hx;have fy:=fits_append hy;rw [List.drop_drop] at fx fy;obtain ⟨r1,e1,i1⟩:=ih f.type l1 _ _ hF fx.1 fy.1 w;obtain ⟨r2,e2,i2⟩:=run_flatFs ih fs (o+l1.length) l2 xs ys hr fx.2 fy.2 w
        have key:xs.drop o=ys.drop o↔(xs.drop o).take l1.length=(ys.drop o).take l1.length∧xs.drop (o+l1.length)=ys.drop (o+l1.length):=by
          constructor;intro hh;rw [←List.drop_drop,←List.drop_drop,hh];exact ⟨rfl,rfl⟩;intro ⟨h1,h2⟩;rw [←List.take_append_drop l1.length (xs.drop o),←List.take_append_drop l1.length (ys.drop o),List.drop_drop,List.drop_drop,h1,h2]
        subst ho;refine ⟨r1 && r2,?_,by rw [key,Bool.and_eq_true,i1,i2]⟩;rw [Op.eqFields,if_pos hn];simp only [Sem.run_bind,run_part_val hF hs fx.1,run_part_val hF hs fy.1,Result.andThen_ok,e1];cases r1;simp
        simpa using e2
      cases h
theorem run_flatT:∀(d e:Nat) (t:TypeId) (l:List (FKd)) (xs ys:List Value),flatT P d t=some l→fits l xs=true→fits l ys=true→∀w,∃r,(Op.equalIn (e+d) t (valT P t xs) (valT P t ys)).run P w = .ok r w∧(r=true↔xs=ys)
  | 0,_,_,_,_,_,h,_,_,_=>by simp [flatT] at h
  | d+1,e,t,l,xs,ys,h,hx,hy,w=>by
    unfold flatT at h
    split at h
    rename_i k hu
    split at h
    rename_i ha;cases h;obtain ⟨a,rfl⟩:=fits_int hx;obtain ⟨b,rfl⟩:=fits_int hy;refine ⟨a == b,?_,by simp⟩;simp [valT,ha];exact run_equalIn_int w (e+d) t _ _ a b hu;cases h;rename_i hu
    split at h
    rename_i ha;cases h;obtain ⟨a,rfl⟩:=fits_bool hx;obtain ⟨b,rfl⟩:=fits_bool hy;refine ⟨a == b,?_,by simp⟩;simp [valT,ha];exact run_equalIn_bool' w (e+d) t a b hu;cases h;rename_i hu
    split at h
    rename_i ha;cases h;obtain ⟨a,rfl⟩:=fits_str hx;obtain ⟨b,rfl⟩:=fits_str hy
    refine ⟨a.toList == b.toList,?_,by
      rw [←beq_toListBytes];obtain ⟨⟨x⟩⟩:=a;obtain ⟨⟨y⟩⟩:=b;show ((⟨x⟩:Array UInt8) == ⟨y⟩)=true↔_;simp⟩
    simp [valT,ha];exact run_equalIn_string w (e+d) t a b hu;cases h;rename_i fs hu
    split at h
    rename_i hc;obtain ⟨r,e1,i1⟩:=run_flatFs (e:=e) (fun t l xs ys a b c w=>run_flatT d e t l xs ys a b c w) fs.toList 0 l xs ys h (by simpa using hx) (by simpa using hy) w;refine ⟨r,?_,by simpa using i1⟩;have hfs:P.fieldsOf t=fs:=by simp [Program.fieldsOf,hu]
    simp only [valT,hc.2,if_true];rw [←Nat.add_assoc,run_equalIn_struct (P:=P) w (e+d) t _ _ (by rw [hfs];exact hu) hc.1,hfs];exact e1;cases h;cases h
end
def RowA(w:World)(A:Option Addr)(vs:List Value):Prop :=
  match A with
  | none=>vs = []
  | some a=>(vs≠[]→a=⟨a.block,a.off,none⟩)∧CellsL w a.block a.off vs
theorem RowA.keep{K:Nat→Prop}{w w':World}{A:Option Addr}{vs:List Value}(h:RowA w A vs)(c:Chg K w w')(hk:∀a,A=some a→¬K a.block):RowA w' A vs:=by
  cases A with
  | none=>exact h
  | some a=>exact ⟨h.1,CellsL.keep c (hk a rfl) h.2⟩
theorem RowA.ext{w w':World}{A:Option Addr}{vs:List Value}(h:RowA w A vs)(c:Ext w w'):RowA w' A vs:=h.keep c fun _ _=>not_false
theorem RowA.ex{w:World}{A:Option Addr}{vs:List Value}(h:RowA w A vs)(hv:vs≠[]):∃g o,A=some ⟨g,o,none⟩:=by
  cases A with
  | none=>exact absurd h hv
  | some a=>exact ⟨a.block,a.off,congrArg Option.some (h.1 hv)⟩
theorem RowA.cells{w:World}{g o:Nat}{vs:List Value}(h:RowA w (some ⟨g,o,none⟩) vs):CellsL w g o vs:=h.2
theorem RowA.nil(w:World)(A:Option Addr):RowA w A []:=by cases A<;>simp [RowA,CellsL]
theorem cellsL_get{w:World}{g:Nat} : ∀ {vs:List Value} {o i:Nat} {v:Value},CellsL w g o vs→vs[i]?=some v→w.cell? ⟨g,o+i,none⟩=some v
  | [],_,_,_,_,h=>by simp at h
  | x::vs,o,0,v,h,hi=>by simp at hi;subst hi;exact h.1
  | x::vs,o,i+1,v,h,hi=>by
    have:=cellsL_get (o:=o+1) (i:=i) h.2 (by simpa using hi);rw [show o+(i+1)=o+1+i by omega];exact this
theorem RowA.at{w:World}{a:Addr}{vs:List Value}(h:RowA w (some a) vs)(j:Nat)(v:Value)(hj:vs[j]?=some v):w.cell? (a.add j)=some v:=by
  have ha:=h.1 (by intro h0;subst h0;simp at hj);have h1:=cellsL_get h.2 hj
  have h2:a.add j=⟨a.block,a.off+j,none⟩:=by
    unfold Addr.add;split;rename_i h0;subst h0;exact ha
    rfl
  rw [h2];exact h1
section ox
variable {P:Program}{ρ:Operand→Value}{w:World}{K:Value→World→Prop}{dst:Option Tmp}{ty:TypeId}{pos:String}{af:Array Edge}{gd:Option (Nat×Bool)}
def flatS(P:Program)(t:TypeId)(l:List FKd):Bool:=decide (flatT P 9 t=some l) && decide (isAggT P t=some true) && !(P.eqGuardType P.depth t)
theorem ox_eqlF{x y:Operand}{t u:TypeId}{l:List FKd}{xs ys:List Value}{p:Prop}[Decidable p](ht:flatS P t l=true)(hx:ρ x = .agg xs.toArray)(hy:ρ y = .agg ys.toArray)(fx:fits l xs=true)(fy:fits l ys=true)
    (hp:xs=ys↔p) (h:K (.bool (decide p)) w):OpX P ⟨dst,.binOp .eql t x y u,ty,pos,af,gd⟩ ρ w K:=by
  simp only [flatS,Bool.and_eq_true,decide_eq_true_eq,Bool.not_eq_true'] at ht;obtain ⟨⟨h1,h2⟩,h3⟩:=ht;obtain ⟨r,e1,i1⟩:=run_flatT (P:=P) 9 9991 t l xs ys h1 fx fy w;simp only [valT,h2,if_true] at e1;have hr:r=decide p:=by rw [Bool.eq_iff_iff];simp [i1,hp]
  subst hr;exact ox_val (v:=.bool (decide p)) (w':=w) (by simp only [execOp,hx,hy,Sem.run_bind,run_eqGuard_agg w .eql t x y _ _ h3,run_eql_struct,Result.andThen,e1,Sem.run_pure]) h
theorem ox_neqF{x y:Operand}{t u:TypeId}{l:List FKd}{xs ys:List Value}{p:Prop}[Decidable p](ht:flatS P t l=true)(hx:ρ x = .agg xs.toArray)(hy:ρ y = .agg ys.toArray)(fx:fits l xs=true)(fy:fits l ys=true)
    (hp:xs=ys↔p) (h:K (.bool (!decide p)) w):OpX P ⟨dst,.binOp .neq t x y u,ty,pos,af,gd⟩ ρ w K:=by
  simp only [flatS,Bool.and_eq_true,decide_eq_true_eq,Bool.not_eq_true'] at ht;obtain ⟨⟨h1,h2⟩,h3⟩:=ht;obtain ⟨r,e1,i1⟩:=run_flatT (P:=P) 9 9991 t l xs ys h1 fx fy w;simp only [valT,h2,if_true] at e1;have hr:r=decide p:=by rw [Bool.eq_iff_iff];simp [i1,hp]
  subst hr;exact ox_val (v:=.bool (!decide p)) (w':=w) (by simp only [execOp,hx,hy,Sem.run_bind,run_eqGuard_agg w .neq t x y _ _ h3,run_neq_struct,Result.andThen,e1,Sem.run_pure]) h
theorem run_equal_two{t e:TypeId}{n a b:Nat}{ca cb:Array Value}{ta tb:TypeId}(hu:P.underlying t=some (.pointer e))(hs:sizeT P e=some (n+1))(ha:Blk w a ca ta)(hb:Blk w b cb tb) :
    (Op.equal t (.pointer (some ⟨a,0,none⟩)) (.pointer (some ⟨b,0,none⟩))).run P w = .ok (decide (a=b)) w:=by
  have:∀d:Nat,(Op.equalIn (d+1) t (.pointer (some ⟨a,0,none⟩)) (.pointer (some ⟨b,0,none⟩))).run P w = .ok (decide (a=b)) w:=fun d=>by
    by_cases h:a=b;subst h;simp only [Op.equalIn,run_underlying hu,Sem.run_bind,run_size hs,Result.andThen];simp [run_sameAddr_same];simp only [Op.equalIn,run_underlying hu,Sem.run_bind,run_size hs,Result.andThen];simp [run_sameAddr_other (P:=P) w (a:=⟨a,0,none⟩) (b:=⟨b,0,none⟩) (by simp [h]) ha hb,h]
  exact this 9999
theorem ox_neqPtr{x y:Operand}{t e u:TypeId}{n:Nat}{a b:Nat}{ca cb:Array Value}{ta tb:TypeId}(hu:P.underlying t=some (.pointer e))(hs:sizeT P e=some (n+1))(hx:ρ x = .pointer (some ⟨a,0,none⟩))(hy:ρ y = .pointer (some ⟨b,0,none⟩))
    (ha:Blk w a ca ta) (hb:Blk w b cb tb) (h:K (.bool (decide (a≠b))) w):OpX P ⟨dst,.binOp .neq t x y u,ty,pos,af,gd⟩ ρ w K :=
  ox_val (v:=.bool (decide (a≠b))) (w':=w) (by simp [execOp,hx,hy,eqGuard,binOp,Sem.run_bind,run_equal_two (P:=P) hu hs ha hb,Result.andThen]) h
end ox
def asB:Value→Option Bool | .bool b=>some b | _=>none
theorem may_b(c b:Bool):(asB (.bool c) == some b)=decide (c=b):=by cases c<;>cases b<;>rfl
theorem may_i(q:Prop)[Decidable q](c b:Bool):(asB (if q then .bool c else undef) == some b)=decide (q∧c=b):=by
  by_cases h:q;rw [if_pos h,may_b];simp [h];rw [if_neg h];simp [h,asB,undef,noResult]
section may
variable {P:Program}{r:Option Nat}{n:Nat}{ops:Array Oper}{Q:(Nat→Value)→World→Prop}{f:Nat→Value}{w:World}{o:Oper}{rest:List Oper}
theorem xl_may(d:Option Nat){j:Nat}{b:Bool}(p:Prop)[Decidable p](u v:Value)(hd:o.dst=d)(hg:o.guard=some (j,b))(hy:yl n f ops j=asB u)(hp:(asB u == some b)=decide p)
    (h:p→OpX P o (ev n f) w (fun v' w'=>v'=v∧w'=w)) (k:XL P r n ops Q rest (updo f d (if p then v else undef)) w):XL P r n ops Q (o::rest) f w:=by
  subst hd;have hw:Region.wanted o (yl n f ops)=decide p:=by simp only [Region.wanted,hg,hy,hp]
  unfold XL;by_cases hq:p;rw [if_pos (by rw [hw];exact decide_eq_true hq)];refine (h hq).mono fun v' w' ⟨h1,h2⟩=>?_
  subst h1;subst h2;rw [if_pos hq] at k;exact k;rw [if_neg (by rw [hw];simp [hq])];rw [if_neg hq] at k;exact k
variable {ρ:Operand→Value}{K:Value→World→Prop}{dst:Option Tmp}{ty:TypeId}{pos:String}{af:Array Edge}{gd:Option (Nat×Bool)}
theorem ox_pick_or{c x y:Operand}{a b:Bool}(hc:ρ c = .bool a)(hx:ρ x = .bool true)(hy:a=false→ρ y = .bool b)(h:K (.bool (a || b)) w):OpX P ⟨dst,.pick c x y,ty,pos,af,gd⟩ ρ w K:=by
  cases a;exact ox_pick_f hc (hy rfl) (by simpa using h);exact ox_pick_t hc hx (by simpa using h)
theorem ox_pick_and{c x y:Operand}{a b:Bool}(hc:ρ c = .bool a)(hx:a=true→ρ x = .bool b)(hy:ρ y = .bool false)(h:K (.bool (a && b)) w):OpX P ⟨dst,.pick c x y,ty,pos,af,gd⟩ ρ w K:=by
  cases a;exact ox_pick_f hc hy (by simpa using h);exact ox_pick_t hc (hx rfl) (by simpa using h)
end may
end Go.Vx
