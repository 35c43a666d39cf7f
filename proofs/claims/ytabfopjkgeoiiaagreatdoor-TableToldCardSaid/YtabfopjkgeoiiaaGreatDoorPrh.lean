/-
  Part 8 of the proof: texts Vq. No conditions.
-/
import Derived.Test.YtabfopjkgeoiiaaGreatDoorPrf
import Derived.Test.YtabfopjkgeoiiaaGreatDoorPrg
set_option linter.unusedVariables false
set_option linter.unusedSimpArgs false
set_option linter.unusedSectionVars false
set_option maxRecDepth 100000
set_option maxHeartbeats 4000000
namespace Go.Vx
open Go
section
variable {w w' a b c:World}{e t t':TypeId}{sz n sz' n' p q x X Y B:Nat}{v v':Value}{xs xs':List Value}{cs cs':Array Value}{κ:Type}{enc:κ→Value}{m:List (κ×Value)}{K:Nat→Prop}
theorem Own.kb(h:Own w e sz v n xs)(c:Chg1 p w w')(hb:Blk w p cs t)(ht:e≠t:=by decide):Own w' e sz v n xs:=h.keep1 c fun k hk=>h.ne_blk hb ht k hk
theorem Own.kl(h:Own w e sz v n xs)(c:Chg1 p w w')(l:∀k,v.ownBlock=some k→k<X)(i:∀k,k<X→k≠p:=by intro _ _;omega):Own w' e sz v n xs:=h.keep1 c fun k hk=>i k (l k hk)
theorem Own.kw(h:Own w e sz v n xs)(c:Chg1 p w w')(l:∀k,v.ownBlock=some k→Y≤k)(i:∀k,Y≤k→k≠p:=by intro _ _;omega):Own w' e sz v n xs:=h.keep1 c fun k hk=>i k (l k hk)
theorem Own.ko(h:Own w e sz v n xs)(c:Chg (fun x=>v'.ownBlock=some x) w w')(ho:Own w t sz' v' n' xs')(ht:e≠t:=by decide):Own w' e sz v n xs:=h.keep c fun k hk=>h.ne_own ho ht k hk
theorem Blk.kb(h:Blk w q cs t)(c:Chg1 p w w')(hb:Blk w p cs' t')(ht:t≠t':=by decide):Blk w' q cs t:=h.keep1 c (h.ne hb ht)
theorem Blk.kl(h:Blk w q cs t)(c:Chg1 p w w')(l:q<X)(i:q<X→q≠p:=by intro _;omega):Blk w' q cs t:=h.keep1 c (i l)
theorem Blk.ko(h:Blk w q cs t)(c:Chg (fun x=>v.ownBlock=some x) w w')(ho:Own w e sz v n xs)(ht:e≠t:=by decide):Blk w' q cs t:=h.keep c fun hh=>ho.ne_blk h ht _ hh rfl
theorem Blk.kol(h:Blk w q cs t)(c:Chg (fun x=>v.ownBlock=some x) w w')(l:∀k,v.ownBlock=some k→k<X)(i:¬q<X:=by omega):Blk w' q cs t:=h.keep c fun hh=>i (l _ hh)
theorem MapB.kb(h:MapB enc w q m)(c:Chg1 p w w')(hb:Blk w p cs t):MapB enc w' q m:=h.keep1 c (h.ne_blk hb)
theorem MapB.kl(h:MapB enc w q m)(c:Chg1 p w w')(l:q<X)(i:q<X→q≠p:=by intro _;omega):MapB enc w' q m:=h.keep1 c (i l)
theorem MapB.ko(h:MapB enc w q m)(c:Chg (fun x=>v.ownBlock=some x) w w')(ho:Own w e sz v n xs):MapB enc w' q m:=h.keep c fun hh=>by
  rcases ho.form with ⟨e1,_⟩|⟨g1,c1,cur,e1,hb,_⟩<;>rw [e1] at hh<;>simp [Value.ownBlock] at hh;exact h.ne_blk hb hh.symm
theorem Xc(h:Ext a b)(k:Chg1 x b c)(i:a.heap.size≤x:=by omega):Ext a c:=Ext.chg1 h k i
theorem Xt(h:Ext a b)(k:Ext b c):Ext a c:=Ext.trans h k
theorem Co(h:Chg K a b)(k:Chg (fun x=>v.ownBlock=some x) b c)(l:∀k,v.ownBlock=some k→Y≤k)(i:a.heap.size≤Y:=by omega):Chg K a c:=Chg.trans h k fun y hb hl=>absurd hl (by have:=l y hb;omega)
theorem Ct(h:Chg K a b)(k:Chg K b c):Chg K a c:=Chg.trans h k fun _ hb _=>hb
theorem low_at(o:v'.ownBlock=v.ownBlock∨v'.ownBlock=some p)(l:∀k,v.ownBlock=some k→B≤k)(i:B≤p:=by omega):∀k,v'.ownBlock=some k→B≤k:=fun k hk=>by
  rcases o with o|o<;>rw [o] at hk;exact l k hk;cases hk;omega
end
end Go.Vx
