/-
  Part 14 of the proof: texts Rs. No conditions.
-/
import Derived.Test.YtabfopjkgeoiiaaGreatDoorRows
import Derived.Test.YtabfopjkgeoiiaaGreatDoorPrg
import Derived.Test.YtabfopjkgeoiiaaGreatDoorPrk
set_option linter.unusedVariables false
set_option linter.unusedSimpArgs false
set_option linter.unusedSectionVars false
set_option maxRecDepth 100000
set_option maxHeartbeats 4000000
namespace Go.Proofs.YtabfopjkgeoiiaaGreatDoor
open Go Go.RowKit Go.Vx
theorem reach_is:reachBytes=140737488351232:=by decide
theorem wf64{i:Int}(h:(Lit.int .i64 i).wf=true) : -9223372036854775808≤i∧i≤9223372036854775807:=by
  simp only [Lit.wf,Bool.and_eq_true,decide_eq_true_eq] at h;have e1:IntKind.min .i64 = -9223372036854775808:=by decide
  have e2:IntKind.max .i64=9223372036854775807:=by decide
  rw [e1,e2] at h;exact h
def R64(i:Int):Prop:=-9223372036854775808≤i∧i≤9223372036854775807
section
variable {w:World}{n:Nat}{cs:List Value}
theorem rd_int{m:Nat}(h:Rdv Tryz.prog w m 3 cs):∃i:Int,cs = [.int .i64 i]∧R64 i:=by
  obtain ⟨i,h1,h2⟩:=h.int Tryz.underlying3;exact ⟨i,h1,wf64 h2⟩
theorem rd_str{m:Nat}(h:Rdv Tryz.prog w m 9 cs):∃s:ByteArray,cs = [.string s]∧s.size≤140737488351232:=by
  obtain ⟨s,h1,h2⟩:=h.string Tryz.underlying9;exact ⟨s,h1,reach_is ▸ h2⟩
theorem rd_bool{m:Nat}(h:Rdv Tryz.prog w m 4 cs):∃b:Bool,cs = [.bool b]:=h.bool Tryz.underlying4
theorem few_of{b k c:Nat}(h1:k≤c)(h2:c*b≤reachBytes):few b k c:=⟨h1,by
  have h3:k*b≤c*b:=Nat.mul_le_mul_right _ h1;rw [reach_is] at h2;omega⟩
theorem rd_strs{t:Nat}(hu:Tryz.prog.underlying t=some (.slice 9))(h:Rdv Tryz.prog w n t cs):∃A cap,∃l:List ByteArray,cs = [.slice A l.length cap]∧(A=none→cap=0)∧l.length≤cap∧cap≤maxLen∧cap*16≤140737488351232∧RowA w A (l.flatMap strs)∧∀x∈l,x.size≤140737488351232:=by
  obtain ⟨A,cap,l,h1,h2,h3,h4,h5,h6,h7⟩:=h.slice strs (fun x=>x.size≤140737488351232) hu (by kernel_rfl) (by kernel_rfl) (B:=16) (k:=1) (fun _=>rfl) fun m cs' _ hr=>rd_str hr
  exact ⟨A,cap,l,h1,h2,h3,h4,reach_is ▸ h5,h6,h7⟩
theorem rd_sym{m:Nat}(hl:cs.length=2)(h:Rdv Tryz.prog w m 75 cs):∃x:Sym,cs=x.cs∧R64 x.kind∧R64 x.n:=by
  obtain ⟨m',_,h1⟩:=h.struct Tryz.underlying75
  match cs,hl with
  | [a,b],_ =>
    have p0:=h1 0 _ rfl;have p1:=h1 1 _ rfl;obtain ⟨i,hi,ri⟩:=rd_int (cs:=[a]) p0;obtain ⟨j,hj,rj⟩:=rd_int (cs:=[b]) p1;cases hi;cases hj;exact ⟨⟨i,j⟩,rfl,ri,rj⟩
theorem rd_syms{t:Nat}(hu:Tryz.prog.underlying t=some (.slice 75))(h:Rdv Tryz.prog w n t cs):∃A cap,∃l:List Sym,cs = [.slice A l.length cap]∧(A=none→cap=0)∧l.length≤cap∧cap≤maxLen∧cap*16≤reachBytes∧RowA w A (l.flatMap Sym.cs)∧∀x∈l,R64 x.kind∧R64 x.n :=
  h.slice Sym.cs (fun x=>R64 x.kind∧R64 x.n) hu (by kernel_rfl) (by kernel_rfl) (B:=16) (k:=2) (fun _=>rfl) fun m cs' hl hr=>rd_sym hl hr
theorem exRL_of{l:List EX}(h:∀x∈l,ExR w x):ExRL w l:=by
  induction l with
  | nil=>trivial
  | cons x l ih=>exact ⟨h x (by simp),ih fun y hy=>h y (by simp [hy])⟩
theorem rd_ex:∀(n:Nat) {cs:List Value},cs.length=6→Rdv Tryz.prog w n 82 cs→∃x:EX,cs=x.cs∧ExR w x:=by
  intro n
  induction n using Nat.strongRecOn with
  | ind n ih =>
    intro cs hl h;obtain ⟨_,hn,h1⟩:=h.structN Tryz.underlying82
    match cs,hl with
    | [a0,a1,a2,a3,a4,a5],_ =>
      have p0:=h1 0 _ rfl;have p1:=h1 1 _ rfl;have p2:=h1 2 _ rfl;have p3:=h1 3 _ rfl;have p4:=h1 4 _ rfl;have p5:=h1 5 _ rfl;obtain ⟨i0,q0,_⟩:=rd_int (cs:=[a0]) p0;obtain ⟨i1,q1,_⟩:=rd_int (cs:=[a1]) p1;obtain ⟨i2,q2,_⟩:=rd_int (cs:=[a2]) p2;obtain ⟨i3,q3,_⟩:=rd_int (cs:=[a3]) p3;obtain ⟨i4,q4,_⟩:=rd_int (cs:=[a4]) p4;have p5:Rdv Tryz.prog w (n-1) 80 [a5]:=p5;obtain ⟨A,cap,l,q5,k2,k3,k4,k5,k6,k7⟩:=p5.sliceN EX.cs (ExR w) Tryz.underlying80 (by kernel_rfl) (by kernel_rfl) (B:=64) (k:=6) (fun _=>rfl) fun cs' hl' hr=>ih (n-1-1) (by omega) hl' hr
      cases q0;cases q1;cases q2;cases q3;cases q4;cases q5;refine ⟨.mk i0 i1 i2 i3 i4 A cap l,rfl,?_⟩;simp only [ExR];exact ⟨k6,few_of k3 k5,exRL_of k7⟩
theorem rd_lr{m:Nat}(hl:cs.length=8)(h:Rdv Tryz.prog w m 84 cs):∃x:LR,cs=x.cs∧ExR w x.e∧x.name.size≤140737488351232:=by
  obtain ⟨m',_,h1⟩:=h.struct Tryz.underlying84
  match cs,hl with
  | [a,b,c0,c1,c2,c3,c4,c5],_ =>
    have p0:=h1 0 _ rfl;have p1:=h1 1 _ rfl;have p2:=h1 2 _ rfl;obtain ⟨s,hs,hz⟩:=rd_str (cs:=[a]) p0;obtain ⟨t,ht⟩:=rd_bool (cs:=[b]) p1;obtain ⟨x,hx,hr⟩:=rd_ex m' (cs:=[c0,c1,c2,c3,c4,c5]) rfl p2;cases hs;cases ht;refine ⟨⟨s,t,x⟩,?_,hr,hz⟩;show _ = .string s::.bool t::x.cs;rw [←hx]
theorem rd_pd{m:Nat}(hl:cs.length=2)(h:Rdv Tryz.prog w m 79 cs):∃x:PD,cs=x.cs∧RowA w x.rA (x.right.flatMap Sym.cs)∧few 16 x.right.length x.rc:=by
  obtain ⟨m',_,h1⟩:=h.struct Tryz.underlying79
  match cs,hl with
  | [a,b],_ =>
    have p0:=h1 0 _ rfl;have p1:=h1 1 _ rfl;obtain ⟨i,hi,_⟩:=rd_int (cs:=[a]) p0;obtain ⟨A,cap,l,hc,_,h3,_,h5,h6,_⟩:=rd_syms (cs:=[b]) Tryz.underlying38 p1;cases hi;cases hc;exact ⟨⟨i,A,cap,l⟩,rfl,h6,few_of h3 h5⟩
theorem rd_spec{m:Nat}(hl:cs.length=4)(h:Rdv Tryz.prog w m 26 cs):∃s:SP,cs = [.slice s.lA s.lex.length s.lc,.slice s.nA s.names.length s.nc,.int .i64 s.start,.slice s.pA s.prods.length s.pc]∧SpR w s∧R64 s.start:=by
  obtain ⟨m',_,h1⟩:=h.struct Tryz.underlying26
  match cs,hl with
  | [a,b,c,d],_ =>
    have p0:=h1 0 _ rfl;have p1:=h1 1 _ rfl;have p2:=h1 2 _ rfl;have p3:=h1 3 _ rfl;have p0:Rdv Tryz.prog w m' 22 [a]:=p0;have p3:Rdv Tryz.prog w m' 24 [d]:=p3;obtain ⟨A0,c0,l0,q0,_,k03,_,k05,k06,k07⟩:=p0.slice LR.cs (fun x=>ExR w x.e∧x.name.size≤140737488351232) Tryz.underlying22 (by kernel_rfl) (by kernel_rfl) (B:=88) (k:=8) (fun _=>rfl) fun m cs' hl hr=>rd_lr hl hr
    obtain ⟨A1,c1,l1,q1,_,k13,_,k15,k16,k17⟩:=rd_strs (cs:=[b]) Tryz.underlying23 p1;obtain ⟨i,q2,ri⟩:=rd_int (cs:=[c]) p2;obtain ⟨A3,c3,l3,q3,_,k33,_,k35,k36,k37⟩:=p3.slice PD.cs (fun x=>RowA w x.rA (x.right.flatMap Sym.cs)∧few 16 x.right.length x.rc) Tryz.underlying24 (by kernel_rfl) (by kernel_rfl) (B:=32) (k:=2) (fun _=>rfl) fun m cs' hl hr=>rd_pd hl hr
    cases q0;cases q1;cases q2;cases q3;refine ⟨⟨A0,c0,l0,A1,c1,l1,i,A3,c3,l3⟩,rfl,⟨k06,k16,k36,fun x hx=>(k07 x hx).1,fun x hx=>(k37 x hx).1,few_of k03 k05,few_of k13 (reach_is ▸ k15),few_of k33 k35,fun x hx=>(k37 x hx).2⟩,ri⟩
theorem rd_specv{m base:Nat}{v:Value}(ho:Value.okWide Tryz.prog w .any base 26 v)(h:Rdv Tryz.prog w m 26 v.cells.toList):∃s:SP,v = .agg #[.slice s.lA s.lex.length s.lc,.slice s.nA s.names.length s.nc,.int .i64 s.start,.slice s.pA s.prods.length s.pc]∧SpR w s∧R64 s.start:=by
  have hu:=Tryz.underlying26;simp only [Value.okWide,hu] at ho;obtain ⟨cs,rfl,hl,_⟩:=ho;have hl4:cs.toList.length=4:=by rw [Array.length_toList,hl];kernel_rfl
  obtain ⟨s,hs,hok⟩:=rd_spec hl4 (by simpa [Value.cells] using h);refine ⟨s,?_,hok⟩;rw [←hs]
end
end Go.Proofs.YtabfopjkgeoiiaaGreatDoor
