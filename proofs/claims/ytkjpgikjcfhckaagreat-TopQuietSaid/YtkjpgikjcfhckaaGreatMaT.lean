/-
What an adoption frees, counted: plain. Conditions: none.
-/
import Derived.Test.YtkjpgikjcfhckaaGreatMaHeap
import Derived.Test.YtkjpgikjcfhckaaGreatMaW
import Derived.Test.YtkjpgikjcfhckaaGreatMaO
set_option linter.unusedVariables false
set_option linter.unusedSectionVars false
set_option linter.unusedSimpArgs false
namespace Go.Ma
open Go.Pl
namespace Kt
def sm (f:Nat→Int):Nat→Int
 | 0=>0
 | n+1=>sm f n+f n
def hl (s:Sh) (ws:Nat→Int) (ad:Int):Int×Bool:=
 if Cn.held s ws (ad / 64)=true then(Cn.who s ws (ad / 64),true)
 else if pgK s (ad / 64) (pgAt s ws (ad / 64))=2 then
  if slK (slAt s ws (ad / 64) (ad % 64 / size (pgA s (ad / 64) (pgAt s ws (ad / 64)))))=2 then(slA (slAt s ws (ad / 64) (ad % 64 / size (pgA s (ad / 64) (pgAt s ws (ad / 64))))),true) else(0,false)
 else(0,false)
def one (d:Int) (s:Sh) (ws:Nat→Int) (x:Nat):Int:=if(hl s ws x).2=true∧(hl s ws x).1=d then 1 else 0
def wayS (d:Int) (s:Sh) (ws:Nat→Int) (q A:Int):Nat→Int
 | 0=>0
 | i+1=>wayS d s ws q A i+if slK (slAt s ws q i)=2∧slA (slAt s ws q i)=d then size A else 0
def mineP (d:Int) (s:Sh) (ws:Nat→Int) (q:Int):Int:=
 if Cn.held s ws q=true then(if Cn.who s ws q=d then 64 else 0)
 else if pgK s q (pgAt s ws q)=2 then wayS d s ws q (pgA s q (pgAt s ws q)) (slots (pgA s q (pgAt s ws q))).toNat else 0
section
variable {s:Sh} {ws ws0:Nat→Int} {d:Int}
def mineN (d:Int) (s:Sh) (ws:Nat→Int):Nat→Int
 | 0=>0
 | q+1=>mineN d s ws q+mineP d s ws q
end
end Kt
end Go.Ma
namespace Go.Ma
open Go.Pl
open Ow
namespace Ow
structure Sq (s:Sh) (c:Int) (ws ws':Nat→Int):Prop where
 bs:Bs s ws'
 re:∀ c',0≤c'→c'<s.c→c'≠c→Rel s c' ws ws'
 mw:Mw s c ws ws'
theorem Nx.sq {s:Sh} {c:Int} {ws ws':Nat→Int} {o:Ho} (h:Nx s c ws ws' o):Sq s c ws ws':=⟨h.bs,h.re,h.mw⟩
theorem Sq.refl {s:Sh} {ws:Nat→Int} (c:Int) (h:Bs s ws):Sq s c ws ws:=⟨h,fun c' _ _ _=>Rel.refl s c' ws,Mw.refl s c ws⟩
def Nr (a:Int) (o:Ho):Prop:=(∀ q,o.hp q→a≤q∧q<a+8)∧(∀ q h,o.hb q h→a≤q∧q<a+8)∧∀ q i,o.hs q i→a≤q∧q<a+8
theorem Nr.nil (a:Int):Nr a nil:=⟨fun _ e=>e.elim,fun _ _ e=>e.elim,fun _ _ e=>e.elim⟩
theorem Nr.one (p i:Int):Nr p (one p i):=⟨fun _ e=>e.elim,fun _ _ e=>e.elim,fun q _ e=>by have:q=p:=e.1;omega⟩
theorem Nr.rw6 {p i n:Int} (h:n≤8) (i0:0≤i):Nr p (rw6 p i n):=⟨fun q e=>by have:q=p:=e;omega,fun q h' e=>by have:h'=p∧p+i<q∧q<p+n:=e;omega,fun _ _ e=>e.elim⟩
theorem Nr.ofB {s:Sh} {c:Int} {b:Bk} (h:b.Fit s c):Nr b.p (ofB b):=by
 unfold Ow.ofB
 split
 ·rename_i e;exact Nr.rw6 (h.l e).2.1 (Int.le_refl _)
 ·exact Nr.one ..
theorem ofB_cl {b:Bk}:∀ q h,(ofB b).hb q h→(ofB b).hp h:=by
 unfold ofB
 split
 ·intro q h e;exact e.1
 ·intro q h e;exact e.elim
theorem ofB_rg {s:Sh} {c:Int} {b:Bk} (h:b.Fit s c):∀ q,(ofB b).hp q→0≤q∧q<s.p:=by
 unfold ofB
 split
 ·intro q e;have:q=b.p:=e;have:=h.p0;have:=h.p1;omega
 ·intro q e;exact e.elim
end Ow
namespace Sk
theorem In.near {s:Sh} {c:Int} {t:Sk} {ws:Nat→Int} (h:In s c t ws):∃ a,Nr a t.ho:=by
 unfold ho
 split
 ·split
  ·exact⟨_,Nr.one ..⟩
  ·exact⟨0,Nr.nil 0⟩
 ·split
  ·rename_i m e
   exact⟨m.p,fun q e=>by have:q=m.p:=e.2;omega,fun _ _ e=>e.elim,fun q i e=>by have:q=m.p:=e.2.1;omega⟩
  ·rename_i m e
   exact⟨m.p,fun q e=>by have:q=m.p:=e.2;omega,fun _ _ e=>e.elim,fun q i e=>by have:q=m.p:=e.2.1;omega⟩
  ·exact⟨0,Nr.nil 0⟩
end Sk
namespace Rn
theorem In.near {s:Sh} {c:Int} {t:Rn} {ws:Nat→Int} (h:In s c t ws):∃ a,Nr a t.ho:=by
 cases hd:t.dn
 ·obtain⟨-,-,ar⟩:=h.wf.of hd
  unfold Ar at ar
  refine⟨t.hd,?_⟩
  unfold ho
  rw[if_neg (by rw[hd];decide)]
  split
  ·exact⟨fun q e=>by have:t.hd≤q∧q<t.at':=e;omega,fun _ _ e=>e.elim,fun _ _ e=>e.elim⟩
  split
  ·rename_i e2
   obtain⟨q',e,-,-,-,-,p1,-⟩:=h.wf.q hd e2
   rw[e]
   refine⟨fun q e=>by have:t.hd≤q∧q<t.at':=e;omega,fun _ _ e=>e.elim,fun q i e=>?_⟩
   have:q'.hd=false∧q=q'.p∧0≤i∧i<q'.i:=e
   omega
  split
  ·exact⟨fun q e=>by have:t.hd≤q∧q<t.at'+1:=e;omega,fun _ _ e=>e.elim,fun _ _ e=>e.elim⟩
  split
  ·exact⟨fun q e=>by have:t.hd≤q∧q<t.i:=e;omega,fun _ _ e=>e.elim,fun _ _ e=>e.elim⟩
  ·exact⟨fun q e=>by have:q=t.hd∨(t.i≤q∧q<t.hd+t.n):=e;omega,fun q h e=>by have:h=t.hd∧t.hd<q∧q<t.i:=e;omega,fun _ _ e=>e.elim⟩
 ·unfold ho
  rw[if_pos hd]
  split
  ·rename_i hf
   have:=h.fb hf
   exact⟨t.hd,fun q e=>by have:q=t.hd∨(t.hd+t.n≤q∧q<t.hd+t.n):=e;omega,fun q h e=>by have:h=t.hd∧t.hd<q∧q<t.hd+t.n:=e;omega,fun _ _ e=>e.elim⟩
  ·exact⟨0,Nr.nil 0⟩
end Rn
namespace Rv
def ho:Rv→Ho
 | .sk t=>t.ho
 | .rn t=>t.ho
 | .no=>nil
def In (s:Sh) (c:Int) (t:Rv) (ws:Nat→Int):Prop:=match t with
 | .sk t=>Sk.In s c t ws
 | .rn t=>Rn.In s c t ws
 | .no=>Own s ws c nil
section
variable {s:Sh} {c:Int} {t:Rv} {w:Wd} {ws ws':Nat→Int}
theorem In.own (h:In s c t ws):Own s ws c t.ho:=by
 cases t with
 | sk t=>exact Sk.In.ow h
 | rn t=>exact Rn.In.ow h
 | no=>exact h
theorem In.near (h:In s c t ws):∃ a,Nr a t.ho:=by
 cases t with
 | sk t=>exact Sk.In.near h
 | rn t=>exact Rn.In.near h
 | no=>exact⟨0,Nr.nil 0⟩
theorem In.step (h:In s c t w.ws) (hB:Bs s w.ws):Nx s c w.ws (t.step w).2.ws (t.step w).1.ho∧In s c (t.step w).1 (t.step w).2.ws:=by
 cases t with
 | sk t=>exact Sk.In.step h hB
 | rn t=>exact Rn.In.step h hB
 | no=>exact⟨Nx.id hB h,h⟩
theorem In.rel (h:In s c t ws) (r:Rel s c ws ws'):In s c t ws':=by
 cases t with
 | sk t=>exact Sk.In.rel h r
 | rn t=>exact Rn.In.rel h r
 | no=>exact Own.rel h r
theorem In.new (hm:may s.p s.c s.m=true) (c0:0≤c) (c1:c<s.c) (n f:Int) (ow:Own s ws c nil):In s c (Rv.new s c n f) ws:=by
 unfold Rv.new
 split
 ·exact Sk.In.new hm c0 c1 _ _ ow
 ·split
  ·exact Rn.In.new hm c0 c1 _ ow
  ·exact ow
theorem In.found (h:In s c t ws) (hd:t.dn=true) (hf:t.fd=true):t.bk.Fit s c∧FtB s t.bk ws∧Own s ws c (ofB t.bk):=by
 cases t with
 | no=>cases hf
 |sk q=>
  have h:Sk.In s c q ws:=h
  have hf:q.fd=true:=hf
  have hd:q.dn=true:=hd
  have e:(Rv.sk q).bk=⟨false,q.pg,q.sl,q.k,0⟩:=by unfold Rv.bk;simp only[hf,if_true]
  rw[e]
  obtain⟨p0,p1,s0,s1,hs,hw⟩:=h.fin hd hf
  have ow:=h.ow
  rw[Sk.ho_bk hd hf]at ow
  exact⟨⟨h.m,h.c0,h.c1,p0,p1,fun g=>(by cases g),fun _=>⟨s0,s1⟩⟩,⟨fun g=>(by cases g),fun _=>hs⟩,ow⟩
 |rn q=>
  have h:Rn.In s c q ws:=h
  have hf:q.fd=true:=hf
  have hd:q.dn=true:=hd
  have e:(Rv.rn q).bk=⟨true,q.hd,0,0,q.n⟩:=by unfold Rv.bk;simp only[hf,if_true]
  rw[e]
  obtain⟨h0,n1,n8,hn⟩:=h.fb hf
  have hbk:=Rn.ho_bk hd hf
  have ow:=h.ow.congr hbk.p hbk.b hbk.s
  have hp:q.ho.hp q.hd:=by rw[Rn.ho_f hd hf];exact .inl rfl
  exact⟨⟨h.m,h.c0,h.c1,h0,by show q.hd<s.p;omega,fun _=>⟨n1,n8,hn⟩,fun g=>(by cases g)⟩,⟨fun _ i i0 i1=>h.ft.z q.hd i i0 i1 hp fun g=>(by rw[hd]at g;cases g),fun g=>(by cases g)⟩,ow⟩
theorem In.none (h:In s c t ws) (hd:t.dn=true) (hf:t.fd=false):Own s ws c nil:=by
 cases t with
 | no=>exact h
 |sk q=>
  have ow:=Sk.In.ow h
  have e:q.ho=nil:=by unfold Sk.ho;rw[show q.dn=true from hd,show q.fd=false from hf];rfl
  rw[e]at ow;exact ow
 |rn q=>
  have ow:=Rn.In.ow h
  rw[Rn.ho_n hd hf]at ow;exact ow
end
end Rv
theorem Uo.In.of {s:Sh} {c:Int} {ws:Nat→Int} {b:Bk} (b1:b.Fit s c) (ft:FtB s b ws) (ow:Own s ws c (ofB b)):Uo.In s c (Uo.new s c b) ws:=by
 have hd:(Uo.new s c b).dn=false:=by show(!b.fits s c)=false;rw[Bk.of_fits b1];rfl
 refine⟨Uo.new_wf _ _ _,rfl,rfl,?_,fun _=>ft⟩
 have e:(Uo.new s c b).ho=ofB b:=by unfold Uo.ho ofB;rw[hd];rfl
 rw[e];exact ow
theorem Cm.In.of {s:Sh} {c:Int} {ws:Nat→Int} {b:Bk} (b1:b.Fit s c) (ft:FtB s b ws) (ow:Own s ws c (ofB b)):Cm.In s c (Cm.new s c b) ws∧(Cm.new s c b).dn=false:=by
 have hd:(Cm.new s c b).dn=false:=by show(!b.fits s c)=false;rw[Bk.of_fits b1];rfl
 refine⟨⟨Cm.new_wf _ _ _,rfl,rfl,?_,fun _=>ft⟩,hd⟩
 have e:(Cm.new s c b).ho=ofB b:=by unfold Cm.ho;rw[hd];rfl
 rw[e];exact ow
theorem Uo.In.near {s:Sh} {c:Int} {t:Uo} {ws:Nat→Int} (h:Uo.In s c t ws):∃ a,Nr a t.ho:=by
 unfold Uo.ho
 cases hd:t.dn
 ·rw[if_neg (by decide)]
  obtain⟨h1,h2⟩:=h.wf hd
  split
  ·rename_i e;exact⟨_,Nr.rw6 (h1.l e).2.1 (h2 e).1⟩
  ·exact⟨_,Nr.one ..⟩
 ·exact⟨0,Nr.nil 0⟩
theorem Cm.In.near {s:Sh} {c:Int} {t:Cm} {ws:Nat→Int} (h:Cm.In s c t ws):∃ a,Nr a t.ho:=by
 unfold Cm.ho
 cases hd:t.dn
 ·rw[if_neg (by decide)]
  exact⟨_,Nr.ofB (h.wf hd)⟩
 ·exact⟨0,Nr.nil 0⟩
theorem Gv.near {s:Sh} {t:Gv} (h:t.wf):∃ a,Nr a t.ho:=by
 unfold Gv.ho
 cases hd:t.dn
 ·rw[if_neg (by decide)]
  split
  ·exact⟨0,Nr.nil 0⟩
  split
  ·exact⟨_,Nr.one ..⟩
  ·rename_i n1 n3
   have hx:=h.of hd
   have n4:t.nx=4:=by omega
   obtain⟨hk,i0,i1⟩:=h.n4 hd n4
   have hbl:=(h.bl hd (by omega)).2.1
   refine⟨_,Nr.rw6 ?_ i0⟩
   rcases hbl with g | g<;>omega
 ·exact⟨0,Nr.nil 0⟩
namespace Re
inductive Ph (s:Sh) (c:Int) (t:Re) (ws:Nat→Int):Prop
 | rv (hd:t.dn=false) (e:t.md=.no) (hr:t.rv.dn=false) (h:Rv.In s c t.rv ws) (a:Int) (g:t.gv=Gv.new s c a)
 | gv (hd:t.dn=false) (e:t.md=.no) (hr:t.rv.dn=true) (hf:t.rv.fd=true) (b:t.rv.bk.Fit s c) (ft:FtB s t.rv.bk ws) (h:Gv.InX s c (ofB t.rv.bk) t.gv ws)
 | uo (u:Uo) (hd:t.dn=false) (e:t.md=.uo u) (h:Uo.In s c u ws)
 | cm (u:Cm) (hd:t.dn=false) (e:t.md=.cm u) (h:Cm.In s c u ws)
 | fn (hd:t.dn=true) (ow:Own s ws c nil)
structure In (s:Sh) (c:Int) (t:Re) (ws:Nat→Int):Prop where
 m:may s.p s.c s.m=true
 c0:0≤c
 c1:c<s.c
 wf:t.wf
 es:t.s=s
 ec:t.c=c
 ph:Ph s c t ws
section
variable {s:Sh} {c:Int} {t:Re} {w:Wd} {ws ws':Nat→Int}
theorem ft_rel {b:Bk} {o:Ho} (hb:b.Fit s c) (ow:Own s ws c o) (h1:b.lg=true→o.hp b.p) (h2:b.lg=false→o.hs b.p b.i) (r:Rel s c ws ws') (h:FtB s b ws):FtB s b ws':=by
 have hsl:=slots_bd b.k
 refine⟨fun g i i0 i1=>?_,fun g=>?_⟩
 ·rw[r.hs b.p i hb.p0 hb.p1 i0 i1 ((ow.pg b.p hb.p0 hb.p1).2 (h1 g))];exact h.1 g i i0 i1
 ·obtain⟨i0,i1⟩:=hb.s g
  obtain⟨g1,g2⟩:=(ow.sl b.p b.i hb.p0 hb.p1 i0 (by omega)).2 (.inl (h2 g))
  rw[r.sp b.p b.i hb.p0 hb.p1 i0 (by omega) g1 g2];exact h.2 g
theorem ofB_h {b:Bk}:(b.lg=true→(ofB b).hp b.p)∧(b.lg=false→(ofB b).hs b.p b.i):=by
 unfold ofB
 refine⟨fun g=>?_,fun g=>?_⟩
 ·rw[if_pos g];rfl
 ·rw[if_neg (by rw[g];decide)];exact⟨rfl,rfl⟩
theorem In.rel (h:In s c t ws) (r:Rel s c ws ws'):In s c t ws':=by
 refine⟨h.m,h.c0,h.c1,h.wf,h.es,h.ec,?_⟩
 cases h.ph with
 | rv hd e hr hi a g=>exact .rv hd e hr (hi.rel r) a g
 | gv hd e hr hf b ft hi=>exact .gv hd e hr hf b (ft_rel b hi.ow (fun g=>.inr (ofB_h.1 g)) (fun g=>.inr (ofB_h.2 g)) r ft) (hi.rel r)
 | uo u hd e hi=>exact .uo u hd e (hi.rel r)
 | cm u hd e hi=>exact .cm u hd e (hi.rel r)
 | fn hd ow=>exact .fn hd (ow.rel r)
theorem add_nil {x:Ho} (ow:Own s ws c (add x nil)):Own s ws c x:=ow.congr (fun q=>⟨.inr,fun g=>g.resolve_left id⟩) (fun q h=>⟨.inr,fun g=>g.resolve_left id⟩) fun q i=>⟨.inr,fun g=>g.resolve_left id⟩
theorem go_ph {t:Re} (es:t.s=s) (ec:t.c=c) (hd:t.dn=false) (e:t.md=.no) (h:(t.rv.dn=false∧Rv.In s c t.rv ws∧∃ a,t.gv=Gv.new s c a) ∨
  (t.rv.dn=true∧t.rv.fd=false∧Own s ws c nil)∨(t.rv.dn=true∧t.rv.fd=true∧t.rv.bk.Fit s c∧FtB s t.rv.bk ws∧Gv.InX s c (ofB t.rv.bk) t.gv ws)):Ph s c t.go ws:=by
 have eg:t.go=if t.rv.dn then(if t.rv.fd then(if t.gv.dn then(if t.gv.gv then { t with md:=.cm (Cm.new t.s t.c t.rv.bk) } else { t with md:=.uo (Uo.new t.s t.c t.rv.bk) }) else t) else t.fin 3) else t:=by unfold go;rw[e]
 rcases h with⟨h1,h2,a,h3⟩|⟨h1,h2,h3⟩|⟨h1,h2,h3,h4,h5⟩
 ·rw[eg,if_neg (by rw[h1];decide)];exact .rv hd e h1 h2 a h3
 ·rw[eg,if_pos h1,if_neg (by rw[h2];decide)];exact .fn rfl h3
 ·rw[eg,if_pos h1,if_pos h2]
  cases gd:t.gv.dn
  ·rw[if_neg (by decide)];exact .gv hd e h1 h2 h3 h4 h5
  ·rw[if_pos rfl]
   have ow:=h5.ow
   rw[Gv.ho_d gd]at ow
   have ow:=add_nil ow
   cases gg:t.gv.gv
   ·rw[if_neg (by decide)]
    refine .uo _ hd rfl ?_
    rw[es,ec];exact Uo.In.of h3 h4 ow
   ·rw[if_pos rfl]
    refine .cm _ hd rfl ?_
    rw[es,ec];exact(Cm.In.of h3 h4 ow).1
theorem In.step (h:In s c t w.ws) (ho:w.of s) (hB:Bs s w.ws):Sq s c w.ws (t.step w).2.ws∧In s c (t.step w).1 (t.step w).2.ws:=by
 have wf2:(t.step w).1.wf:=Re.step_wf h.wf fun _=>by rw[h.es];exact ho
 have sk:=Re.step_k (t:=t) (w:=w)
 have key:Sq s c w.ws (t.step w).2.ws∧Ph s c (t.step w).1 (t.step w).2.ws:=by
  have es:=h.es
  have ec:=h.ec
  have estep:t.dn=false→∀ (t1:Re) (w1:Wd),t.acc w=(t1,w1)→t.step w=(t1.go,w1):=fun hd t1 w1 e=>by unfold Re.step;rw[hd,e];rfl
  cases h.ph with
  |rv hd e hr hi a g=>
   have ea:t.acc w=({ t with rv:=(t.rv.step w).1 },(t.rv.step w).2):=by unfold acc;rw[if_neg (by rw[hr];decide)]
   rw[estep hd _ _ ea]
   obtain⟨n,i⟩:=hi.step hB
   refine⟨n.sq,go_ph (t:={ t with rv:=(t.rv.step w).1 }) es ec hd e ?_⟩
   show((t.rv.step w).1.dn=false∧Rv.In s c (t.rv.step w).1 (t.rv.step w).2.ws∧∃ a,t.gv=Gv.new s c a)∨_
   cases hd2:(t.rv.step w).1.dn
   ·exact .inl ⟨rfl,i,a,g⟩
   ·cases hf2:(t.rv.step w).1.fd
    ·exact .inr (.inl ⟨rfl,rfl,i.none hd2 hf2⟩)
    ·obtain⟨b1,b2,b3⟩:=i.found hd2 hf2
     refine .inr (.inr ⟨rfl,rfl,b1,b2,?_⟩)
     show Gv.InX s c _ t.gv _
     rw[g];exact Gv.InX.new h.m h.c0 h.c1 a ofB_cl (ofB_rg b1) b3
  |gv hd e hr hf b ft hi=>
   cases gd:t.gv.dn
   ·have ea:t.acc w=({ t with gv:=(t.gv.step w).1 },(t.gv.step w).2):=by unfold acc;rw[if_pos hr,if_neg (by rw[gd];decide)]
    rw[estep hd _ _ ea]
    obtain⟨n,i⟩:=hi.step ho hB
    have fb:FtB s t.rv.bk (t.gv.step w).2.ws:=hi.ftb ho hB b ft
    exact⟨n.sq,go_ph (t:={ t with gv:=(t.gv.step w).1 }) es ec hd e (.inr (.inr ⟨hr,hf,b,fb,i⟩))⟩
   ·exact absurd gd (by have:=(h.wf.nx hd e hr).2;rw[this];decide)
  |uo u hd e hi=>
   obtain⟨-,-,-,h4,h5,h6,-⟩:=h.wf.uo u e
   have ea:t.acc w=({ t with md:=.uo (u.step w).1 },(u.step w).2):=by unfold acc;rw[if_pos h4,if_pos h6,e]
   rw[estep hd _ _ ea]
   obtain⟨n,i⟩:=hi.step hB
   refine⟨n.sq,?_⟩
   have eg:({ t with md:=.uo (u.step w).1 }:Re).go=if(u.step w).1.dn then({ t with md:=.uo (u.step w).1 }:Re).fin 1 else { t with md:=.uo (u.step w).1 }:=rfl
   rw[eg]
   cases ud:(u.step w).1.dn
   ·rw[if_neg (by decide)];exact .uo _ hd rfl i
   ·rw[if_pos rfl]
    refine .fn rfl ?_
    have ow:=i.ow
    have:(u.step w).1.ho=nil:=by unfold Uo.ho;rw[if_pos ud]
    rw[this]at ow;exact ow
  |cm u hd e hi=>
   obtain⟨-,-,-,h4,h5,h6,-⟩:=h.wf.cm u e
   have ea:t.acc w=({ t with md:=.cm (u.step w).1 },(u.step w).2):=by unfold acc;rw[if_pos h4,if_pos h6,e]
   rw[estep hd _ _ ea]
   obtain⟨n,i,ud⟩:=hi.step hB
   refine⟨n.sq,?_⟩
   have eg:({ t with md:=.cm (u.step w).1 }:Re).go=if(u.step w).1.dn then({ t with md:=.cm (u.step w).1 }:Re).fin 0 else { t with md:=.cm (u.step w).1 }:=rfl
   rw[eg,if_pos ud]
   refine .fn rfl ?_
   have ow:=i.ow
   have:(u.step w).1.ho=nil:=by unfold Cm.ho;rw[if_pos ud]
   rw[this]at ow;exact ow
  | fn hd ow=>rw[Re.step_dn hd];exact⟨Sq.refl c hB,.fn hd ow⟩
 exact⟨key.1,h.m,h.c0,h.c1,wf2,sk.1.trans h.es,sk.2.1.trans h.ec,key.2⟩
end
end Re
end Go.Ma
namespace Go.Ma
open Go.Pl
open Ow
namespace Ow
section
variable (s:Sh) (ws:Nat→Int) (d:Int)
def Wy (q i:Int):Prop:=(∃ k,Sup s k (pgAt s ws q))∧slAt s ws q i=2+16*d
def Bd (q h:Int):Prop:=pgAt s ws q=4+16*h∧pgAt s ws h=1+16*d
def NB (n:Int):Prop:=∀ q h,0≤q→q<n→0≤h→h<s.p→¬ Bd s ws d q h
def NH (n:Int):Prop:=∀ q,0≤q→q<n→pgAt s ws q≠1+16*d
def NM (n:Int):Prop:=∀ j,0≤j→j<n→mgAt s ws d j=0
def NW (n:Int):Prop:=∀ q i,0≤q→q<n→0≤i→i<16→¬ Wy s ws d q i
end
structure Shr (s:Sh) (d:Int) (ws ws':Nat→Int):Prop where
 pg:∀ q,0≤q→q<s.p→pgAt s ws' q=1+16*d→pgAt s ws q=1+16*d
 bd:∀ q h,0≤q→q<s.p→0≤h→h<s.p→Bd s ws' d q h→Bd s ws d q h
 sl:∀ q i,0≤q→q<s.p→0≤i→i<16→Wy s ws' d q i→Wy s ws d q i
section
variable {s:Sh} {ws ws':Nat→Int} {d q i y n:Int}
theorem Shr.refl (s:Sh) (d:Int) (ws:Nat→Int):Shr s d ws ws:=⟨fun _ _ _ g=>g,fun _ _ _ _ _ _ g=>g,fun _ _ _ _ _ _ g=>g⟩
theorem Rel.shr (r:Rel s d ws ws'):Shr s d ws ws':=⟨fun q a b g=>(r.pg q a b).1 g,fun q h a b a' b' g=>by
  have h1:=(r.pg h a' b').1 g.2
  exact⟨(r.bd q h a b a' b' h1).1 g.1,h1⟩,fun q i a b i0 i1 g=>(r.sl q i a b i0 i1).1 g⟩
theorem Shr.page (hm:may s.p s.c s.m=true) (q0:0≤q) (q1:q<s.p) (d0:0≤d):Shr s d ws (upW ws (page s.p s.c s.m q) 0):=by
 refine⟨fun x a b g=>?_,fun x h a b a' b' g=>?_,fun x j a b j0 j1 g=>?_⟩
 ·rw[pg_pg hm q0 q1 a b]at g
  by_cases e:x=q
  ·rw[if_pos e]at g;omega
  ·rw[if_neg e]at g;exact g
 ·unfold Bd at g ⊢
  rw[pg_pg hm q0 q1 a b,pg_pg hm q0 q1 a' b']at g
  by_cases e:x=q
  ·rw[if_pos e]at g;omega
  ·rw[if_neg e]at g
   by_cases e2:h=q
   ·rw[if_pos e2]at g;omega
   ·rw[if_neg e2]at g;exact g
 ·unfold Wy at g ⊢
  rw[pg_pg hm q0 q1 a b,sl_pg hm q0 q1 a j0]at g
  by_cases e:x=q
  ·rw[if_pos e]at g;obtain⟨⟨k,g⟩,-⟩:=g;have:=g.mod;omega
  ·rw[if_neg e]at g;exact g
theorem Shr.slot (hm:may s.p s.c s.m=true) (q0:0≤q) (q1:q<s.p) (i0:0≤i) (i1:i<16) (hy:y≠2+16*d):Shr s d ws (upW ws (slot s.p s.c s.m q i) y):=by
 refine⟨fun x a b g=>?_,fun x h a b a' b' g=>?_,fun x j a b j0 j1 g=>?_⟩
 ·rw[pg_sl hm q0 q1 i0 i1 a b]at g;exact g
 ·unfold Bd at g ⊢
  rw[pg_sl hm q0 q1 i0 i1 a b,pg_sl hm q0 q1 i0 i1 a' b']at g;exact g
 ·unfold Wy at g ⊢
  rw[pg_sl hm q0 q1 i0 i1 a b,sl_sl hm q0 q1 i0 i1 a j0 j1]at g
  by_cases e:x=q∧j=i
  ·rw[if_pos e]at g;exact absurd g.2 hy
  ·rw[if_neg e]at g;exact g
theorem Shr.mag (hm:may s.p s.c s.m=true) {c j:Int} (c0:0≤c) (c1:c<s.c) (j0:0≤j) (j1:j<s.m):Shr s d ws (upW ws (mag s.p s.c s.m c j) y):=by
 refine⟨fun x a b g=>?_,fun x h a b a' b' g=>?_,fun x i a b i0 i1 g=>?_⟩
 ·rw[pg_mg hm c0 c1 j0 j1 a b]at g;exact g
 ·unfold Bd at g ⊢
  rw[pg_mg hm c0 c1 j0 j1 a b,pg_mg hm c0 c1 j0 j1 a' b']at g;exact g
 ·unfold Wy at g ⊢
  rw[pg_mg hm c0 c1 j0 j1 a b,sl_mg hm c0 c1 j0 j1 a b i0 i1]at g;exact g
theorem Shr.st (hm:may s.p s.c s.m=true) {c:Int} (c0:0≤c) (c1:c<s.c):Shr s d ws (upW ws (status s.p s.c s.m c) y):=by
 refine⟨fun x a b g=>?_,fun x h a b a' b' g=>?_,fun x i a b i0 i1 g=>?_⟩
 ·rw[pg_st hm c0 c1 a b]at g;exact g
 ·unfold Bd at g ⊢
  rw[pg_st hm c0 c1 a b,pg_st hm c0 c1 a' b']at g;exact g
 ·unfold Wy at g ⊢
  rw[pg_st hm c0 c1 a b,sl_st hm c0 c1 a i0]at g;exact g
theorem NB.shr (r:Shr s d ws ws') (hn:n≤s.p) (h:NB s ws d n):NB s ws' d n:=fun q x a b a' b' g=>h q x a b a' b' (r.bd q x a (by omega) a' b' g)
theorem NH.shr (r:Shr s d ws ws') (hn:n≤s.p) (h:NH s ws d n):NH s ws' d n:=fun q a b g=>h q a b (r.pg q a (by omega) g)
theorem NW.shr (r:Shr s d ws ws') (hn:n≤s.p) (h:NW s ws d n):NW s ws' d n:=fun q i a b i0 i1 g=>h q i a b i0 i1 (r.sl q i a (by omega) i0 i1 g)
theorem NM.rel (r:Rel s d ws ws') (hn:n≤s.m) (h:NM s ws d n):NM s ws' d n:=fun j a b=>by rw[r.mg j a (by omega)];exact h j a b
theorem inm_wy (hm:may s.p s.c s.m=true) (h:Bs s ws) (d0:0≤d) (d1:d<s.c) (q0:0≤q) (q1:q<s.p) (i0:0≤i) (i1:i<16) (g:InM s ws d q i):Wy s ws d q i:=by
 have hb:=(may_iff _ _ _).1 hm
 obtain⟨j,k,j0,j1,k0,k1,e⟩:=g
 obtain⟨p,i',k',g1,g2,g3,g4,g5,g6,g7⟩:=h.mg d j d0 d1 j0 j1 (by omega)
 have:=slots_bd k'
 have:=g6.bd
 have e1:p=q:=by omega
 have e2:i'=i:=by omega
 subst e1;subst e2
 exact⟨⟨k',g6⟩,g7⟩
def hoOf (s:Sh) (ws:Nat→Int) (d:Int):Ho:=⟨fun q=>pgAt s ws q=1+16*d,fun q h=>Bd s ws d q h,fun q i=>Wy s ws d q i∧¬ InM s ws d q i⟩
theorem Bs.own (hm:may s.p s.c s.m=true) (h:Bs s ws) (d0:0≤d) (d1:d<s.c):Own s ws d (hoOf s ws d):=
 ⟨fun _ _ _=>Iff.rfl,fun _ _ _ _ _ _=>Iff.rfl,fun q i a b i0 i1=>⟨fun g=>by
   by_cases e:InM s ws d q i
   ·exact .inr e
   ·exact .inl ⟨g,e⟩,fun g=>by
   rcases g with g | g
   ·exact g.1
   ·exact inm_wy hm h d0 d1 a b i0 i1 g⟩,fun _ _ _ _ _ _ g=>g.2⟩
theorem Pg.rd (hm:may s.p s.c s.m=true) (q0:0≤q) (q1:q<s.p) (h:Pg s ws q):okPg s q (pgAt s ws q)=true∧pgK s q (pgAt s ws q)=pgAt s ws q % 16 ∧
  (pgAt s ws q % 16=4→pgAt s ws q=4+16*pgA s q (pgAt s ws q)∧0≤pgA s q (pgAt s ws q)∧pgA s q (pgAt s ws q)<q) ∧
  (pgAt s ws q % 16=1→pgAt s ws q=1+16*pgA s q (pgAt s ws q)∧0≤pgA s q (pgAt s ws q)∧pgA s q (pgAt s ws q)<s.c)∧(pgAt s ws q % 16=2→Sup s (pgA s q (pgAt s ws q)) (pgAt s ws q)):=by
 have hb:=(may_iff _ _ _).1 hm
 rcases h.word (by omega) with e |⟨c,c0,c1,e⟩|⟨k,e⟩|⟨n,n1,n8,nq,e⟩|⟨x,h0,h1,h2,e⟩
 ·obtain⟨g1,g2,g3⟩:=rd_0 (s:=s) hm q0 q1
  rw[e];exact⟨g1,by rw[g2];rfl,fun g=>by omega,fun g=>by omega,fun g=>by omega⟩
 ·obtain⟨g1,g2,g3⟩:=rd_h (s:=s) hm q0 q1 c0 c1
  rw[e];exact⟨g1,by rw[g2];omega,fun g=>by omega,fun g=>by rw[g3];exact⟨rfl,c0,c1⟩,fun g=>by omega⟩
 ·obtain⟨g1,g2,g3⟩:=rd_s (s:=s) hm q0 q1 e
  have:=e.mod
  exact⟨g1,by rw[g2];omega,fun g=>by omega,fun g=>by omega,fun g=>by rw[g3];exact e⟩
 ·obtain⟨g1,g2,g3⟩:=rd_l (s:=s) hm q0 q1 n1 n8 nq
  rw[e];exact⟨g1,by rw[g2];omega,fun g=>by omega,fun g=>by omega,fun g=>by omega⟩
 ·obtain⟨g1,g2,g3⟩:=rd_b (s:=s) hm q1 h0 h1 h2
  rw[e];exact⟨g1,by rw[g2];omega,fun g=>by rw[g3];exact⟨rfl,h0,h1⟩,fun g=>by omega,fun g=>by omega⟩
end
end Ow
namespace Ad
inductive Ph (s:Sh) (t:Ad) (ws:Nat→Int):Prop
 | b3 (n:t.nx=3) (nb:NB s ws t.d t.at')
 | b4 (n:t.nx=4) (nb:NB s ws t.d t.at') (k:pgAt s ws t.pA=1+16*t.d→pgAt s ws t.at'=4+16*t.pA) (u:∀ h,0≤h→h<s.p→Bd s ws t.d t.at' h→h=t.pA)
 | b5 (n:t.nx=5) (nb:NB s ws t.d t.at') (p0:0≤t.pA) (p1:t.pA<s.p) (k:Bd s ws t.d t.at' t.pA)
 | b6 (n:t.nx=6) (nb:NB s ws t.d s.p) (nh:NH s ws t.d t.at')
 | b7 (n:t.nx=7) (nb:NB s ws t.d s.p) (nh:NH s ws t.d t.at') (h:pgAt s ws t.at'=1+16*t.d) (z:∀ j,0≤j→j<t.i→slAt s ws t.at' j=0)
 | b8 (n:t.nx=8) (nb:NB s ws t.d s.p) (nh:NH s ws t.d t.at') (h:pgAt s ws t.at'=1+16*t.d) (z:∀ j,0≤j→j<16→slAt s ws t.at' j=0)
 | b9 (n:t.nx=9) (a:t.at'=0) (nh:NH s ws t.d s.p) (nm:NM s ws t.d t.i)
 | b10 (n:t.nx=10) (nh:NH s ws t.d s.p) (nm:NM s ws t.d s.m) (nw:NW s ws t.d t.at')
 | b11 (n:t.nx=11) (nh:NH s ws t.d s.p) (nm:NM s ws t.d s.m) (nw:NW s ws t.d t.at') (k:∀ j,0≤j→j<16→Wy s ws t.d t.at' j→Sup s t.pA (pgAt s ws t.at')) (z:∀ j,0≤j→j<t.i→¬ Wy s ws t.d t.at' j)
 | b12 (n:t.nx=12) (nh:NH s ws t.d s.p) (nm:NM s ws t.d s.m) (nw:NW s ws t.d t.at') (k:Sup s t.pA (pgAt s ws t.at')) (x:slAt s ws t.at' t.i=2+16*t.d) (z:∀ j,0≤j→j<t.i→¬ Wy s ws t.d t.at' j)
 | b13 (n:t.nx=13) (nh:NH s ws t.d s.p) (nm:NM s ws t.d s.m) (nw:NW s ws t.d s.p)
section
variable {s:Sh} {t:Ad} {w:Wd} {ws ws':Nat→Int}
theorem Ph.t3 (es:t.s=s) (nb:NB s ws t.d (t.at'+1)):Ph s (t.turn 3 6) ws:=by
 unfold turn
 rw[es]
 by_cases e:t.at'+1=s.p
 ·rw[if_pos e]
  refine .b6 ?_ (by rw[← e];exact nb) (fun q a b=>?_)
  ·show(if(6:Int)=9∧s.m=0 then 10 else 6:Int)=6
   rw[if_neg (by omega)]
  ·have b:q<0:=b
   omega
 ·rw[if_neg e];exact .b3 rfl nb
theorem Ph.t6 (es:t.s=s) (nb:NB s ws t.d s.p) (nh:NH s ws t.d (t.at'+1)):Ph s (t.turn 6 9) ws:=by
 unfold turn
 rw[es]
 by_cases e:t.at'+1=s.p
 ·rw[if_pos e]
  rw[e]at nh
  by_cases e2:s.m=0
  ·refine .b10 ?_ nh (fun j a b=>by omega) (fun q i a b=>?_)
   ·show(if(9:Int)=9∧s.m=0 then 10 else 9:Int)=10
    rw[if_pos ⟨rfl,e2⟩]
   ·have b:q<0:=b
    omega
  ·refine .b9 ?_ rfl nh (fun j a b=>?_)
   ·show(if(9:Int)=9∧s.m=0 then 10 else 9:Int)=9
    rw[if_neg (by omega)]
   ·have b:j<0:=b
    omega
 ·rw[if_neg e];exact .b6 rfl nb nh
theorem Ph.t10 (es:t.s=s) (nh:NH s ws t.d s.p) (nm:NM s ws t.d s.m) (nw:NW s ws t.d (t.at'+1)):Ph s (t.turn 10 13) ws:=by
 unfold turn
 rw[es]
 by_cases e:t.at'+1=s.p
 ·rw[if_pos e]
  refine .b13 ?_ nh nm (by rw[← e];exact nw)
  show(if(13:Int)=9∧s.m=0 then 10 else 13:Int)=13
  rw[if_neg (by omega)]
 ·rw[if_neg e];exact .b10 rfl nh nm nw
theorem Ph.rel (hm:may s.p s.c s.m=true) (es:t.s=s) (wf:t.wf) (hd:t.dn=false) (h:Ph s t ws) (r:Rel s t.d ws ws'):Ph s t ws':=by
 obtain⟨-,-,-,ar⟩:=wf.of hd
 unfold Ar at ar
 rw[es]at ar
 have sh:=r.shr
 have sb:=slots_bd t.pA
 have hb:=(may_iff _ _ _).1 hm
 cases h with
 | b3 n nb=>exact .b3 n (nb.shr sh (by omega))
 |b4 n nb k u=>
  refine .b4 n (nb.shr sh (by omega)) (fun g=>?_) fun h a b g=>u h a b (sh.bd _ _ (by omega) (by omega) a b g)
  have g1:=(r.pg t.pA (by omega) (by omega)).1 g
  exact(r.bd t.at' t.pA (by omega) (by omega) (by omega) (by omega) g1).2 (k g1)
 | b5 n nb p0 p1 k=>exact .b5 n (nb.shr sh (by omega)) p0 p1 ⟨(r.bd t.at' t.pA (by omega) (by omega) p0 p1 k.2).2 k.1,(r.pg t.pA p0 p1).2 k.2⟩
 | b6 n nb nh=>exact .b6 n (nb.shr sh (by omega)) (nh.shr sh (by omega))
 | b7 n nb nh h z=>exact .b7 n (nb.shr sh (by omega)) (nh.shr sh (by omega)) ((r.pg _ (by omega) (by omega)).2 h) fun j a b=>by rw[r.hs t.at' j (by omega) (by omega) a (by omega) h];exact z j a b
 | b8 n nb nh h z=>exact .b8 n (nb.shr sh (by omega)) (nh.shr sh (by omega)) ((r.pg _ (by omega) (by omega)).2 h) fun j a b=>by rw[r.hs t.at' j (by omega) (by omega) a (by omega) h];exact z j a b
 | b9 n a nh nm=>exact .b9 n a (nh.shr sh (by omega)) (nm.rel r (by omega))
 | b10 n nh nm nw=>exact .b10 n (nh.shr sh (by omega)) (nm.rel r (by omega)) (nw.shr sh (by omega))
 |b11 n nh nm nw k z=>
  refine .b11 n (nh.shr sh (by omega)) (nm.rel r (by omega)) (nw.shr sh (by omega)) (fun j a b g=>?_) fun j a b g=>z j a b (sh.sl _ _ (by omega) (by omega) a (by omega) g)
  have g1:=sh.sl _ _ (by omega) (by omega) a b g
  rw[r.sp t.at' j (by omega) (by omega) a b g1.1 g1.2];exact k j a b g1
 |b12 n nh nm nw k x z=>
  have hk:=r.sp t.at' t.i (by omega) (by omega) (by omega) (by omega) ⟨_,k⟩ x
  refine .b12 n (nh.shr sh (by omega)) (nm.rel r (by omega)) (nw.shr sh (by omega)) (by rw[hk];exact k) ?_ fun j a b g=>z j a b (sh.sl _ _ (by omega) (by omega) a (by omega) g)
  exact((r.sl t.at' t.i (by omega) (by omega) (by omega) (by omega)).2 ⟨⟨_,k⟩,x⟩).2
 | b13 n nh nm nw=>exact .b13 n (nh.shr sh (by omega)) (nm.rel r (by omega)) (nw.shr sh (by omega))
theorem Ph.sl (hm:may s.p s.c s.m=true) (es:t.s=s) (hB:Bs s ws) (a0:0≤t.at') (a1:t.at'<s.p) (nh:NH s ws t.d s.p) (nm:NM s ws t.d s.m) (nw:NW s ws t.d t.at')
  (k:∀ j,0≤j→j<16→Wy s ws t.d t.at' j→Sup s t.pA (pgAt s ws t.at')) (z:∀ j,0≤j→j<t.i+1→¬ Wy s ws t.d t.at' j):Ph s t.slot ws:=by
 have hb:=(may_iff _ _ _).1 hm
 unfold Ad.slot
 by_cases e:t.i+1=slots t.pA
 ·rw[if_pos e]
  refine Ph.t10 (t:={ t with i:=0,di:=t.di+1,nx:=11 }) es nh nm fun q j b0 b1 j0 j1 g=>?_
  have b1:q<t.at'+1:=b1
  by_cases e2:q=t.at'
  ·subst e2
   have hk:=k j j0 j1 g
   rcases (hB.pg _ a0 a1).sup (by omega) hk j j0 j1 with⟨g1,-⟩|⟨-,g1⟩
   ·exact z j j0 (by omega) g
   ·have g2:slAt s ws t.at' j=2+16*t.d:=g.2
    have:(0:Int)=2+16*t.d:=by rw[← g1];exact g2
    omega
  ·exact nw q j b0 (by omega) j0 j1 g
 ·rw[if_neg e];exact .b11 rfl nh nm nw k z
theorem Ph.step (hm:may s.p s.c s.m=true) (es:t.s=s) (wf:t.wf) (hd:t.dn=false) (hB:Bs s w.ws) (h:Ph s t w.ws) (hn:t.nx≠13) :
    Sq s t.d w.ws (t.step w).2.ws∧Shr s t.d w.ws (t.step w).2.ws∧Ph s (t.step w).1 (t.step w).2.ws∧(t.step w).1.dn=false:=by
  obtain⟨-,-,-,ar⟩:=wf.of hd
  unfold Ar at ar
  rw[es]at ar
  have sb:=slots_bd t.pA
  have hb:=(may_iff _ _ _).1 hm
  have d0:0≤t.d:=by omega
  have d1:t.d<s.c:=by omega
  have a0:0≤t.at':=by omega
  have a1:t.at'<s.p:=by omega
  have hpat:t.pat=page s.p s.c s.m t.at':=by unfold pat;rw[es]
  have hhat:t.hat=page s.p s.c s.m t.pA:=by unfold hat;rw[es]
  have hsat:t.sat=Go.Pl.slot s.p s.c s.m t.at' t.i:=by unfold sat;rw[es]
  have gp:w.get t.pat=pgAt s w.ws t.at':=by rw[hpat];rfl
  have gh:w.get t.hat=pgAt s w.ws t.pA:=by rw[hhat];rfl
  have ow:=hB.own hm d0 d1
  have rd:=Pg.rd hm a0 a1 (hB.pg _ a0 a1)
  have same:Sq s t.d w.ws w.ws∧Shr s t.d w.ws w.ws:=⟨Sq.refl _ hB,Shr.refl ..⟩
  have isown:∀ q,0≤q→q<s.p→(t.own q (pgAt s w.ws q)=true↔pgAt s w.ws q=1+16*t.d):=fun q q0 q1=>by
    obtain⟨r1,r2,-,r4,-⟩:=Pg.rd hm q0 q1 (hB.pg _ q0 q1)
    unfold own
    rw[es,r1,r2]
    simp only[Bool.true_and,Bool.and_eq_true,decide_eq_true_eq]
    constructor
    · rintro⟨g1,g2⟩;rw[← g2];exact(r4 g1).1
    · intro g
      have g1:pgAt s w.ws q % 16=1:=by omega
      have:=(r4 g1).1
      exact⟨g1,by omega⟩
  cases h with
  | b3 n nb=>
    rw[s3 hd n,gp]
    refine⟨same.1,same.2,?_⟩
    show Ph s (t.bodies _) w.ws∧(t.bodies _).dn=false
    unfold bodies
    by_cases hx:t.isB (pgAt s w.ws t.at')=true
    · rw[if_pos hx]
      unfold isB at hx
      rw[es,rd.1,rd.2.1]at hx
      simp only[Bool.true_and,decide_eq_true_eq]at hx
      have hr:=rd.2.2.1 hx
      refine⟨.b4 rfl nb (fun _=>?_) (fun h h0 h1 g=>?_),hd⟩
      · show pgAt s w.ws t.at'=4+16*pgA t.s t.at' _
        rw[es];exact hr.1
      · show h=pgA t.s t.at' _
        rw[es];have g1:pgAt s w.ws t.at'=4+16*h:=g.1;omega
    · rw[if_neg hx]
      refine⟨Ph.t3 (t:=t.read _) es fun q h q0 q1 h0 h1 g=>?_,(turn_k _ _ _).2.2.2.1.trans hd⟩
      have q1:q<t.at'+1:=q1
      by_cases e:q=t.at'
      · subst e
        refine hx ?_
        unfold isB
        rw[es,rd.1,rd.2.1]
        have:=g.1
        simp only[Bool.true_and,decide_eq_true_eq];omega
      · exact nb q h q0 (by omega) h0 h1 g
  | b4 n nb k u=>
    rw[s4 hd n,gh]
    refine⟨same.1,same.2,?_⟩
    show Ph s (t.head _) w.ws∧(t.head _).dn=false
    unfold head
    have ho:=isown t.pA (by omega) (by omega)
    by_cases hx:t.own t.pA (pgAt s w.ws t.pA)=true
    · rw[if_pos hx]
      have hx:=ho.1 hx
      exact⟨.b5 rfl nb (by show 0≤t.pA;omega) (by show t.pA<s.p;omega) ⟨k hx,hx⟩,hd⟩
    · rw[if_neg hx]
      refine⟨Ph.t3 es fun q h q0 q1 h0 h1 g=>?_,(turn_k _ _ _).2.2.2.1.trans hd⟩
      by_cases e:q=t.at'
      · subst e
        have:=u h h0 h1 g
        subst this
        exact hx (ho.2 g.2)
      · exact nb q h q0 (by omega) h0 h1 g
  | b5 n nb p0 p1 k=>
    have ew:(w.store t.c t.pat 0).ws=upW w.ws (page s.p s.c s.m t.at') 0:=by rw[store_ws,hpat]
    rw[s5 hd n]
    show Sq s t.d w.ws (w.store t.c t.pat 0).ws∧Shr s t.d w.ws (w.store t.c t.pat 0).ws∧Ph s (t.turn 3 6) (w.store t.c t.pat 0).ws∧(t.turn 3 6).dn=false
    rw[ew]
    have sh:=Shr.page (ws:=w.ws) (d:=t.d) hm a0 a1 d0
    have nx:=unbody (o':=⟨(hoOf s w.ws t.d).hp,fun x h'=>(hoOf s w.ws t.d).hb x h'∧x≠t.at',(hoOf s w.ws t.d).hs⟩) hm hB ow d0 d1 a0 a1 (d:=t.pA) k p0 p1 rfl (fun _ _=>Iff.rfl) rfl
    refine⟨nx.sq,sh,Ph.t3 es fun q h q0 q1 h0 h1 g=>?_,(turn_k _ _ _).2.2.2.1.trans hd⟩
    by_cases e:q=t.at'
    · subst e
      have g1:=g.1
      rw[pg_pg hm a0 a1 a0 a1,if_pos rfl]at g1
      omega
    · exact nb q h q0 (by omega) h0 h1 (sh.bd q h q0 (by omega) h0 h1 g)
  | b6 n nb nh=>
    rw[s6 hd n,gp]
    refine⟨same.1,same.2,?_⟩
    show Ph s (t.pages _) w.ws∧(t.pages _).dn=false
    unfold Ad.pages
    have ho:=isown t.at' a0 a1
    by_cases hx:t.own t.at' (pgAt s w.ws t.at')=true
    · rw[if_pos hx]
      exact⟨.b7 rfl nb nh (ho.1 hx) fun j j0 j1=>by have j1:j<0:=j1;omega,hd⟩
    · rw[if_neg hx]
      refine⟨Ph.t6 es nb fun q q0 q1 g=>?_,(turn_k _ _ _).2.2.2.1.trans hd⟩
      by_cases e:q=t.at'
      · subst e;exact hx (ho.2 g)
      · exact nh q q0 (by omega) g
  | b7 n nb nh hh z=>
    have i1:t.i<16:=by omega
    have i0:0≤t.i:=by omega
    have ew:(w.store t.c t.sat 0).ws=upW w.ws (Go.Pl.slot s.p s.c s.m t.at' t.i) 0:=by rw[store_ws,hsat]
    rw[s7 hd n]
    show Sq s t.d w.ws (w.store t.c t.sat 0).ws∧Shr s t.d w.ws (w.store t.c t.sat 0).ws∧Ph s t.clear (w.store t.c t.sat 0).ws∧t.clear.dn=false
    rw[ew]
    have sh:=Shr.slot (ws:=w.ws) (d:=t.d) (y:=0) hm a0 a1 i0 i1 (by omega)
    have nx:=hslot hm hB ow d0 d1 a0 a1 i0 i1 (y:=0) hh (.inl rfl)
    have hz:∀ j,0≤j→j<t.i+1→slAt s (upW w.ws (Go.Pl.slot s.p s.c s.m t.at' t.i) 0) t.at' j=0:=fun j j0 j1=>by
      rw[sl_sl hm a0 a1 i0 i1 a0 j0 (by omega)]
      split
      · rfl
      · rename_i e; exact z j j0 (by have : j ≠ t.i := fun e2 => e ⟨rfl, e2⟩
                                     omega)
    have hh2:pgAt s (upW w.ws (Go.Pl.slot s.p s.c s.m t.at' t.i) 0) t.at'=1+16*t.d:=by rw[pg_sl hm a0 a1 i0 i1 a0 a1];exact hh
    refine⟨nx.sq,sh,?_,hd⟩
    by_cases e:t.i+1=16
    · refine .b8 ?_ (nb.shr sh (Int.le_refl _)) (nh.shr sh (by show t.at'≤s.p;omega)) hh2 fun j j0 j1=>hz j j0 (by omega)
      show(if t.i+1=16 then 8 else 7:Int)=8;rw[if_pos e]
    · refine .b7 ?_ (nb.shr sh (Int.le_refl _)) (nh.shr sh (by show t.at'≤s.p;omega)) hh2 hz
      show(if t.i+1=16 then 8 else 7:Int)=7;rw[if_neg e]
  | b8 n nb nh hh z=>
    have ew:(w.store t.c t.pat 0).ws=upW w.ws (page s.p s.c s.m t.at') 0:=by rw[store_ws,hpat]
    rw[s8 hd n]
    show Sq s t.d w.ws (w.store t.c t.pat 0).ws∧Shr s t.d w.ws (w.store t.c t.pat 0).ws∧Ph s (t.turn 6 9) (w.store t.c t.pat 0).ws∧(t.turn 6 9).dn=false
    rw[ew]
    have sh:=Shr.page (ws:=w.ws) (d:=t.d) hm a0 a1 d0
    have nx:=Ow.free (o':=⟨fun x=>(hoOf s w.ws t.d).hp x∧x≠t.at',(hoOf s w.ws t.d).hb,(hoOf s w.ws t.d).hs⟩) hm hB ow d0 d1 a0 a1 hh z (fun x b0 b1 g=>nb x t.at' b0 b1 a0 a1 g) (fun _=>Iff.rfl) rfl rfl
    refine⟨nx.sq,sh,Ph.t6 es (nb.shr sh (Int.le_refl _)) fun q q0 q1 g=>?_,(turn_k _ _ _).2.2.2.1.trans hd⟩
    by_cases e:q=t.at'
    · subst e
      rw[pg_pg hm a0 a1 a0 a1,if_pos rfl]at g
      omega
    · exact nh q q0 (by omega) (sh.pg q q0 (by omega) g)
  | b9 n a nh nm=>
    have i1:t.i<s.m:=by omega
    have i0:0≤t.i:=by omega
    have ew:(w.store t.c t.mat 0).ws=upW w.ws (mag s.p s.c s.m t.d t.i) 0:=by rw[store_ws];unfold mat;rw[es]
    rw[s9 hd n]
    show Sq s t.d w.ws (w.store t.c t.mat 0).ws∧Shr s t.d w.ws (w.store t.c t.mat 0).ws∧Ph s t.entry (w.store t.c t.mat 0).ws∧t.entry.dn=false
    rw[ew]
    have sh:=Shr.mag (ws:=w.ws) (d:=t.d) (y:=0) hm d0 d1 i0 i1
    have hz:NM s (upW w.ws (mag s.p s.c s.m t.d t.i) 0) t.d (t.i+1):=fun j j0 j1=>by
      rw[mg_mg hm d0 d1 i0 i1 d0 j0 (by omega)]
      split
      · rfl
      · rename_i e; exact nm j j0 (by have : j ≠ t.i := fun e2 => e ⟨rfl, e2⟩
                                      omega)
    refine⟨⟨hB.mag hm d0 d1 i0 i1 (.inl rfl),fun c' b0 b1 hne=>Rel.mag hm d0 d1 i0 i1 b0 hne,Mw.mag hm d0 d1 i0 i1⟩,sh,?_⟩
    unfold entry
    rw[es]
    by_cases e:t.i+1=s.m
    · rw[if_pos e]
      rw[e]at hz
      exact⟨.b10 rfl (nh.shr sh (Int.le_refl _)) hz fun q i b0 b1=>by have b1:q<t.at':=b1;omega,hd⟩
    · rw[if_neg e];exact⟨.b9 n a (nh.shr sh (Int.le_refl _)) hz,hd⟩
  | b10 n nh nm nw=>
    rw[s10 hd n,gp]
    refine⟨same.1,same.2,?_⟩
    show Ph s (t.supers _) w.ws∧(t.supers _).dn=false
    unfold supers
    by_cases hx:t.isS (pgAt s w.ws t.at')=true
    · rw[if_pos hx]
      unfold isS at hx
      rw[es,rd.1,rd.2.1]at hx
      simp only[Bool.true_and,decide_eq_true_eq]at hx
      refine⟨.b11 rfl nh nm nw (fun j j0 j1 g=>?_) (fun j j0 j1=>by have j1:j<0:=j1;omega),hd⟩
      show Sup s (pgA t.s t.at' _) _
      rw[es];exact rd.2.2.2.2 hx
    · rw[if_neg hx]
      refine⟨Ph.t10 (t:=t.read _) es nh nm fun q j q0 q1 j0 j1 g=>?_,(turn_k _ _ _).2.2.2.1.trans hd⟩
      have q1:q<t.at'+1:=q1
      by_cases e:q=t.at'
      · subst e
        obtain⟨⟨k,g⟩,-⟩:=g
        refine hx ?_
        unfold isS
        rw[es,rd.1,rd.2.1]
        have:=g.mod
        simp only[Bool.true_and,decide_eq_true_eq];exact this
      · exact nw q j q0 (by omega) j0 j1 g
  | b11 n nh nm nw k z=>
    have i0:0≤t.i:=by omega
    have i1:t.i<16:=by omega
    have gs:w.get t.sat=slAt s w.ws t.at' t.i:=by rw[hsat,slot_at hm a0 a1 i0 i1]
    rw[s11 hd n,gs]
    refine⟨same.1,same.2,?_⟩
    show Ph s (t.slots' _) w.ws∧(t.slots' _).dn=false
    unfold slots'
    rw[way_v d0 (by omega)]
    by_cases hx:slAt s w.ws t.at' t.i=2+16*t.d
    · rw[if_pos hx]
      have hk:Sup s t.pA (pgAt s w.ws t.at'):=by
        cases hB.pg t.at' a0 a1 with
        | e h z=>have:=z t.i i0 i1;omega
        | h c c0 c1 h z=>
          have:=z t.i i0 i1
          have:c=t.d:=by omega
          subst this;exact absurd h (nh _ a0 a1)
        | s k' h z=>exact k t.i i0 i1 ⟨⟨k',h⟩,hx⟩
        | l n n1 n8 nq h z b=>have:=z t.i i0 i1;omega
        | b h h0 h1 h2 e z w=>have:=z t.i i0 i1;omega
      exact⟨.b12 rfl nh nm nw hk hx z,hd⟩
    · rw[if_neg hx]
      refine⟨Ph.sl hm es hB a0 a1 nh nm nw k fun j j0 j1 g=>?_,(slot_k _).2.2.2.1.trans hd⟩
      by_cases e:j=t.i
      · subst e;exact hx g.2
      · exact z j j0 (by omega) g
  | b12 n nh nm nw k x z=>
    have i0:0≤t.i:=by omega
    have i1:t.i<16:=by omega
    have kb:=k.bd
    have ew:(w.store t.c t.sat (opn t.pA)).ws=upW w.ws (Go.Pl.slot s.p s.c s.m t.at' t.i) (1+16*t.pA):=by rw[store_ws,hsat,opn_v kb.1 (by omega)]
    rw[s12 hd n]
    show Sq s t.d w.ws (w.store t.c t.sat (opn t.pA)).ws∧Shr s t.d w.ws (w.store t.c t.sat (opn t.pA)).ws∧Ph s t.slot (w.store t.c t.sat (opn t.pA)).ws∧t.slot.dn=false
    rw[ew]
    have sh:=Shr.slot (ws:=w.ws) (d:=t.d) (y:=1+16*t.pA) hm a0 a1 i0 i1 (by omega)
    have ni:¬ InM s w.ws t.d t.at' t.i:=by
      rintro⟨j,k',j0,j1,k0,k1,e⟩
      have:=nm j j0 j1
      omega
    have nx:=freeO (o':=⟨(hoOf s w.ws t.d).hp,(hoOf s w.ws t.d).hb,fun q j=>(hoOf s w.ws t.d).hs q j∧¬ (q=t.at'∧j=t.i)⟩) hm hB ow d0 d1 a0 a1 i0 i1 k ⟨⟨⟨_,k⟩,x⟩,ni⟩ (y:=1+16*t.pA) (.inl rfl) rfl rfl fun _ _=>Iff.rfl
    refine⟨nx.sq,sh,Ph.sl hm es nx.bs a0 a1 (nh.shr sh (Int.le_refl _)) (fun j j0 j1=>?_) (nw.shr sh (by omega)) (fun j j0 j1 _=>?_) fun j j0 j1 g=>?_,(slot_k _).2.2.2.1.trans hd⟩
    · rw[mg_sl hm a0 a1 i0 i1 d0 j0];exact nm j j0 j1
    · rw[pg_sl hm a0 a1 i0 i1 a0 a1];exact k
    · by_cases e:j=t.i
      · subst e
        have g2:=g.2
        rw[sl_sl hm a0 a1 i0 i1 a0 i0 i1,if_pos ⟨rfl,rfl⟩]at g2
        omega
      · exact z j j0 (by omega) (sh.sl _ _ a0 a1 j0 (by omega) g)
  | b13 n _ _ _=>exact absurd n hn
end
end Ad
end Go.Ma
namespace Go.Ma
open Go.Pl
open Ow
namespace Ow
section
variable (s:Sh) (ws:Nat→Int)
def Sx (d:Int):Prop:=ws d.toNat=0∨ws d.toNat=1∨ws d.toNat=2∨ws d.toNat=4∨∃ b,0≤b∧b<s.c∧ws d.toNat=3+16*b∧ws b.toNat≠0
structure Nl (d:Int):Prop where
 h:NH s ws d s.p
 w:NW s ws d s.p
def Lk (d:Int):Prop:=∃ a b:Int,∃ E:Int→Int×Int,(∀ q,0≤q→q<s.p→pgAt s ws q=1+16*d→(a≤q∧q<a+8)∨(b≤q∧q<b+8)) ∧
 (∀ q h,0≤q→q<s.p→0≤h→h<s.p→Bd s ws d q h→(a≤q∧q<a+8)∨(b≤q∧q<b+8)) ∧
 ∀ q i,0≤q→q<s.p→0≤i→i<16→Wy s ws d q i→((a≤q∧q<a+8)∨(b≤q∧q<b+8))∨∃ j,0≤j∧j<s.m∧E j=(q,i)
end
section
variable {s:Sh} {ws ws':Nat→Int} {c d e:Int}
theorem Nl.shr (r:Shr s d ws ws') (h:Nl s ws d):Nl s ws' d:=⟨h.h.shr r (Int.le_refl _),h.w.shr r (Int.le_refl _)⟩
theorem Lk.shr (r:Shr s d ws ws') (h:Lk s ws d):Lk s ws' d:=by
 obtain⟨a,b,E,h1,h2,h3⟩:=h
 exact⟨a,b,E,fun q x y g=>h1 q x y (r.pg q x y g),fun q h x y x' y' g=>h2 q h x y x' y' (r.bd q h x y x' y' g),fun q i x y i0 i1 g=>h3 q i x y i0 i1 (r.sl q i x y i0 i1 g)⟩
theorem Lk.of (hm:may s.p s.c s.m=true) {o:Ho} (h:Own s ws c o) {a b:Int} (h1:∀ q,o.hp q→(a≤q∧q<a+8)∨(b≤q∧q<b+8)) (h2:∀ q h,o.hb q h→(a≤q∧q<a+8)∨(b≤q∧q<b+8))
  (h3:∀ q i,o.hs q i→(a≤q∧q<a+8)∨(b≤q∧q<b+8)):Lk s ws c:=by
 have hb:=(may_iff _ _ _).1 hm
 refine⟨a,b,fun j=>((mgAt s ws c j / 16) % 256,(mgAt s ws c j / 4096) % 256),fun q x y g=>h1 q ((h.pg q x y).1 g),fun q h' x y x' y' g=>h2 q h' ((h.bd q h' x y x' y').1 g),fun q i x y i0 i1 g=>?_⟩
 rcases (h.sl q i x y i0 i1).1 g with g |⟨j,k,j0,j1,k0,k1,g⟩
 ·exact .inl (h3 q i g)
 ·refine .inr ⟨j,j0,j1,?_⟩
  show((mgAt s ws c j / 16) % 256,(mgAt s ws c j / 4096) % 256)=(q,i)
  rw[g]
  exact Prod.ext (by show(1+16*q+4096*i+1048576*k) / 16 % 256=q;omega) (by show(1+16*q+4096*i+1048576*k) / 4096 % 256=i;omega)
theorem Lk.of1 (hm:may s.p s.c s.m=true) {o:Ho} (h:Own s ws c o) (n:∃ a,Nr a o):Lk s ws c:=by
 obtain⟨a,n1,n2,n3⟩:=n
 exact Lk.of hm h (a:=a) (b:=a) (fun q g=>.inl (n1 q g)) (fun q h g=>.inl (n2 q h g)) fun q i g=>.inl (n3 q i g)
theorem Nl.own (hm:may s.p s.c s.m=true) (hB:Bs s ws) (c0:0≤c) (c1:c<s.c) (h:Nl s ws c):Own s ws c nil:=
 ⟨fun q a b=>⟨fun g=>h.h q a b g,fun g=>g.elim⟩,fun q h' a b a' b'=>⟨fun g=>h.h h' a' b' g.2,fun g=>g.elim⟩,
  fun q i a b i0 i1=>⟨fun g=>absurd g (h.w q i a b i0 i1),fun g=>by
  rcases g with g | g
  ·exact g.elim
  ·exact absurd (inm_wy hm hB c0 c1 a b i0 i1 g) (h.w q i a b i0 i1)⟩,fun q i _ _ _ _ g=>g.elim⟩
theorem Rel.st (hm:may s.p s.c s.m=true) {x y:Int} (x0:0≤x) (x1:x<s.c) (e0:0≤e):Rel s e ws (upW ws (status s.p s.c s.m x) y):=by
 have hP:∀ q,0≤q→q<s.p→pgAt s (upW ws (status s.p s.c s.m x) y) q=pgAt s ws q:=fun q a b=>pg_st hm x0 x1 a b
 have hS:∀ q i,0≤q→0≤i→slAt s (upW ws (status s.p s.c s.m x) y) q i=slAt s ws q i:=fun q i a b=>sl_st hm x0 x1 a b
 exact⟨fun q a b=>by rw[hP q a b],fun q i a b i0 i1 _=>hS q i a i0,fun q h a b a' b' _=>by rw[hP q a b],fun q i a b i0 i1=>by rw[hP q a b,hS q i a i0],fun q i a b i0 i1 _ _=>hP q a b,fun j j0 j1=>mg_st hm x0 x1 e0 j0⟩
theorem Bs.st (hm:may s.p s.c s.m=true) (h:Bs s ws) {x y:Int} (x0:0≤x) (x1:x<s.c):Bs s (upW ws (status s.p s.c s.m x) y):=by
 have hP:∀ q,0≤q→q<s.p→pgAt s (upW ws (status s.p s.c s.m x) y) q=pgAt s ws q:=fun q a b=>pg_st hm x0 x1 a b
 have hS:∀ q i,0≤q→0≤i→slAt s (upW ws (status s.p s.c s.m x) y) q i=slAt s ws q i:=fun q i a b=>sl_st hm x0 x1 a b
 have hM:∀ c j,0≤c→0≤j→mgAt s (upW ws (status s.p s.c s.m x) y) c j=mgAt s ws c j:=fun c j a b=>mg_st hm x0 x1 a b
 refine⟨fun q a b=>(h.pg q a b).tr (hP q a b) (fun i i0 i1=>hS q i a i0) (fun n j n1 n8 nq hw j1 jn=>hP _ (by omega) (by omega)) fun h' h0 h1 h2 hw=>.inl (hP h' h0 (by omega)),fun c j c0 c1 j0 j1 hx=>?_,fun c j j' c0 c1 j0 j1 j0' j1' hx he=>?_⟩
 ·rw[hM c j c0 j0]at hx ⊢
  obtain⟨p,i,k,g1,g2,g3,g4,g5,g6,g7⟩:=h.mg c j c0 c1 j0 j1 hx
  exact⟨p,i,k,g1,g2,g3,g4,g5,by rw[hP p g1 g2];exact g6,by rw[hS p i g1 g3];exact g7⟩
 ·rw[hM c j c0 j0]at hx he
  rw[hM c j' c0 j0']at he
  exact h.uq c j j' c0 c1 j0 j1 j0' j1' hx he
structure See (s:Sh) (e:Int) (ws ws':Nat→Int):Prop where
 re:Rel s e ws ws'
 s0:∀ b,0≤b→b<s.c→ws b.toNat≠0→ws' b.toNat≠0
 s1:∀ b,0≤b→b<s.c→ws b.toNat≠0→ws b.toNat≠1→ws' b.toNat≠1
 ad:∀ d,0≤d→d<s.c→ws d.toNat=3+16*e→ws' d.toNat=3+16*e∧Rel s d ws ws'
 bk:∀ d,0≤d→d<s.c→ws' d.toNat=3+16*e→ws d.toNat=3+16*e
inductive Ef (s:Sh) (c:Int) (ws ws':Nat→Int):Prop
 | a (h:Sq s c ws ws')
 | b (d:Int) (d0:0≤d) (d1:d<s.c) (x:ws d.toNat=3+16*c) (h:Sq s d ws ws') (r:Shr s d ws ws')
 | c (d:Int) (d0:0≤d) (d1:d<s.c) (x:ws d.toNat=2∨∃ b,0≤b∧b<s.c∧ws d.toNat=3+16*b∧ws b.toNat≠0∧ws b.toNat≠1) (e:ws'=upW ws (status s.p s.c s.m d) (3+16*c))
 | d (d:Int) (d0:0≤d) (d1:d<s.c) (x:ws d.toNat=3+16*c) (n:Nl s ws d) (e:ws'=upW ws (status s.p s.c s.m d) 4)
theorem Ef.see (hm:may s.p s.c s.m=true) (h:Ef s c ws ws') (c0:0≤c) (c1:c<s.c) (lc:ws c.toNat=1) (e0:0≤e) (e1:e<s.c) (le:ws e.toNat=1) (hne:e≠c):See s e ws ws':=by
 cases h with
 |a h=>
  have st:=h.mw.st
  exact⟨h.re e e0 e1 hne,fun b a b' g=>by rw[st b a b'];exact g,fun b a b' g g2=>by rw[st b a b'];exact g2,fun d d0 d1 x=>⟨by rw[st d d0 d1];exact x,h.re d d0 d1 fun g=>by rw[g]at x;omega⟩,fun d d0 d1 x=>by rw[← st d d0 d1];exact x⟩
 |b d d0 d1 x h r=>
  have st:=h.mw.st
  exact⟨h.re e e0 e1 fun g=>by rw[g]at le;omega,fun b a b' g=>by rw[st b a b'];exact g,fun b a b' g g2=>by rw[st b a b'];exact g2,
   fun d' d0 d1 x'=>⟨by rw[st d' d0 d1];exact x',h.re d' d0 d1 fun g=>by rw[g]at x';omega⟩,fun d d0 d1 x=>by rw[← st d d0 d1];exact x⟩
 |c d d0 d1 x e'=>
  subst e'
  have st:∀ b,0≤b→b<s.c→upW ws (status s.p s.c s.m d) (3+16*c) b.toNat=if b=d then 3+16*c else ws b.toNat:=fun b a b'=>st_st hm a b' d0 d1
  refine⟨Rel.st hm d0 d1 e0,fun b a b' g=>?_,fun b a b' g g2=>?_,fun d' b0 b1 x'=>⟨?_,Rel.st hm d0 d1 b0⟩,fun d' b0 b1 x'=>?_⟩
  ·rw[st b a b'];clear x;split<;>omega
  ·rw[st b a b'];clear x;split<;>omega
  ·rw[st d' b0 b1,if_neg]
   ·exact x'
   ·rintro rfl
    rcases x with x |⟨b,b0',b1',x,y,z⟩
    ·omega
    ·have:b=e:=by omega
     subst this;exact z le
  ·rw[st d' b0 b1]at x'
   clear x
   split at x'
   ·omega
   ·exact x'
 |d d d0 d1 x n e'=>
  subst e'
  have st:∀ b,0≤b→b<s.c→upW ws (status s.p s.c s.m d) 4 b.toNat=if b=d then 4 else ws b.toNat:=fun b a b'=>st_st hm a b' d0 d1
  refine⟨Rel.st hm d0 d1 e0,fun b a b' g=>?_,fun b a b' g g2=>?_,fun d' b0 b1 x'=>⟨?_,Rel.st hm d0 d1 b0⟩,fun d' b0 b1 x'=>?_⟩
  ·rw[st b a b'];split<;>omega
  ·rw[st b a b'];split<;>omega
  ·rw[st d' b0 b1,if_neg]
   ·exact x'
   ·rintro rfl;omega
  ·rw[st d' b0 b1]at x'
   split at x'
   ·omega
   ·exact x'
end
end Ow

/-! ### A job -/
namespace Ad
structure In (s:Sh) (c:Int) (t:Ad) (ws:Nat→Int):Prop where
 m:may s.p s.c s.m=true
 c0:0≤c
 c1:c<s.c
 wf:t.wf
 es:t.s=s
 ec:t.c=c
 ow:Own s ws c nil
 f1:t.dn=false→t.nx=1→t.was=3+16*t.by'∧ws t.by'.toNat≠0
 f2:t.dn=false→t.nx=2→t.was=2∨∃ b,0≤b∧b<s.c∧t.was=3+16*b∧ws b.toNat≠0∧ws b.toNat≠1
 f3:t.dn=false→3≤t.nx→ws t.d.toNat=3+16*c∧Ph s t ws
section
variable {s:Sh} {c:Int} {t:Ad} {w:Wd} {ws ws':Nat→Int}
theorem In.see (h:In s c t ws) (r:See s c ws ws'):In s c t ws':=by
 refine⟨h.m,h.c0,h.c1,h.wf,h.es,h.ec,h.ow.rel r.re,fun hd hn=>?_,fun hd hn=>?_,fun hd hn=>?_⟩
 ·have ar:=(h.wf.of hd).2.2.2
  unfold Ar at ar
  rw[h.es]at ar
  obtain⟨g1,g2⟩:=h.f1 hd hn
  exact⟨g1,r.s0 _ (by omega) (by omega) g2⟩
 ·rcases h.f2 hd hn with g |⟨b,b0,b1,g1,g2,g3⟩
  ·exact .inl g
  ·exact .inr ⟨b,b0,b1,g1,r.s0 b b0 b1 g2,r.s1 b b0 b1 g2 g3⟩
 ·have ar:=(h.wf.of hd).2.2.2
  unfold Ar at ar
  rw[h.es]at ar
  obtain⟨g1,g2⟩:=h.f3 hd hn
  obtain⟨r1,r2⟩:=r.ad t.d (by omega) (by omega) g1
  exact⟨r1,g2.rel h.m h.es h.wf hd r2⟩
theorem In.new (hm:may s.p s.c s.m=true) (c0:0≤c) (c1:c<s.c) (d:Int) (ow:Own s ws c nil):In s c (Ad.new s c d) ws:=
 ⟨hm,c0,c1,Ad.new_wf ..,rfl,rfl,ow,fun _ g=>(by cases g),fun _ g=>(by cases g),fun _ g=>(by have g:(3:Int)≤0:=g;omega)⟩
theorem st_rd (hm:may s.p s.c s.m=true) {d:Int} (h:Sx s ws d):(stK (ws d.toNat)=2→ws d.toNat=2)∧(stK (ws d.toNat)=1↔ws d.toNat=1)∧(stK (ws d.toNat)=3→∃ b,0≤b∧b<s.c∧ws d.toNat=3+16*b∧ws b.toNat≠0∧stB (ws d.toNat)=b):=by
 have hb:=(may_iff _ _ _).1 hm
 rcases h with e | e | e | e |⟨b,b0,b1,e,z⟩
 ·rw[e];refine⟨fun g=>absurd g (by decide),⟨fun g=>absurd g (by decide),fun g=>absurd g (by decide)⟩,fun g=>absurd g (by decide)⟩
 ·rw[e];refine⟨fun g=>absurd g (by decide),⟨fun g=>rfl,fun g=>by decide⟩,fun g=>absurd g (by decide)⟩
 ·rw[e];refine⟨fun g=>rfl,⟨fun g=>absurd g (by decide),fun g=>absurd g (by decide)⟩,fun g=>absurd g (by decide)⟩
 ·rw[e];refine⟨fun g=>absurd g (by decide),⟨fun g=>absurd g (by decide),fun g=>absurd g (by decide)⟩,fun g=>absurd g (by decide)⟩
 ·have h1:pt (3+16*b) 16=b:=by unfold pt;omega
  have h2:(3+16*b) % 16=3:=by omega
  have h3:putSt 3 b=3+16*b:=by unfold putSt;rw[if_pos (by omega)]
  have h4:stK (3+16*b)=3:=by unfold stK;rw[h1,h2,h3,if_pos rfl]
  have h5:stB (3+16*b)=b:=by unfold stB;rw[h1,h2,h3,if_pos rfl]
  rw[e,h4,h5]
  exact⟨fun g=>absurd g (by decide),⟨fun g=>absurd g (by decide),fun g=>by omega⟩,fun _=>⟨b,b0,b1,rfl,z,rfl⟩⟩
theorem Ph.nx (h:Ph s t ws):3≤t.nx∧t.nx≤13:=by cases h<;>omega
theorem In.dn (h:In s c t ws) {t':Ad} (wf:t'.wf) (es:t'.s=s) (ec:t'.c=c) (r:Rel s c ws ws') (hd:t'.dn=true):In s c t' ws':=
 ⟨h.m,h.c0,h.c1,wf,es,ec,h.ow.rel r,fun g=>(by rw[hd]at g;cases g),fun g=>(by rw[hd]at g;cases g),fun g=>(by rw[hd]at g;cases g)⟩
theorem In.step (h:In s c t w.ws) (ho:w.of s) (hB:Bs s w.ws) (hd:t.dn=false) (hx:∀ d,0≤d→d<s.c→Sx s w.ws d) (lc:w.ws c.toNat=1) (by':∀ d,0≤d→d<s.c→w.ws d.toNat=3+16*c→3≤t.nx∧t.d=d) :
  Ef s c w.ws (t.step w).2.ws∧In s c (t.step w).1 (t.step w).2.ws∧∀ d,0≤d→d<s.c→(t.step w).2.ws d.toNat=3+16*c→(t.step w).1.dn=false∧3≤(t.step w).1.nx∧(t.step w).1.d=d:=by
 have hm:=h.m
 have hb:=(may_iff _ _ _).1 hm
 have c0:=h.c0
 have c1:=h.c1
 obtain⟨-,-,cd,ar⟩:=h.wf.of hd
 unfold Ar at ar
 rw[h.es,h.ec]at ar
 rw[h.ec]at cd
 have d0:0≤t.d:=by omega
 have d1:t.d<s.c:=by omega
 have wf2:=Ad.step_wf (w:=w) h.wf ho.u
 have sk:=step_k t w
 have es2:=sk.1.trans h.es
 have ec2:=sk.2.1.trans h.ec
 have hdat:t.dat=status s.p s.c s.m t.d:=by unfold dat;rw[h.es]
 have gd:w.get t.dat=w.ws t.d.toNat:=by rw[hdat,st_place hm d0 d1];rfl
 have rd:=st_rd hm (hx t.d d0 d1)
 have ld:∀ (t':Ad),t.step w=(t',(t.step w).2)→(t.step w).2.ws=w.ws→(t'.dn=false→t'.nx=1→t'.was=3+16*t'.by'∧w.ws t'.by'.toNat≠0)→(t'.dn=false→t'.nx=2→t'.was=2∨∃ b,0≤b∧b<s.c∧t'.was=3+16*b∧w.ws b.toNat≠0∧w.ws b.toNat≠1)→(t'.dn=false→t'.nx≤2)→t.nx≤2 →
   Ef s c w.ws (t.step w).2.ws∧In s c (t.step w).1 (t.step w).2.ws∧∀ d,0≤d→d<s.c→(t.step w).2.ws d.toNat=3+16*c→(t.step w).1.dn=false∧3≤(t.step w).1.nx∧(t.step w).1.d=d:=fun t' e1 e2 k1 k2 k3 k4=>by
  have e3:(t.step w).1=t':=by rw[e1]
  rw[e3]at wf2 es2 ec2 ⊢
  rw[e2]
  refine⟨.a (Sq.refl c hB),⟨hm,c0,c1,wf2,es2,ec2,h.ow,k1,k2,fun g1 g2=>absurd (k3 g1) (by omega)⟩,fun d a b x=>?_⟩
  have:=(by' d a b x).1
  omega
 rcases (by omega:t.nx=0∨t.nx=1∨t.nx=2∨(3≤t.nx∧t.nx≠13)∨t.nx=13) with n | n | n |⟨n,n13⟩| n
 ·have e:=s0 (w:=w) hd n
  refine ld (t.ask (w.get t.dat)) (by rw[e]) (by rw[e];rfl) ?_ ?_ ?_ (by omega)
  all_goals
   rw[gd]
   unfold ask
   by_cases k2:stK (w.ws t.d.toNat)=2
   ·simp only[if_pos k2]
    first
     | exact fun _ g=>absurd g (by decide)
     | exact fun _ _=>.inl (rd.1 k2)
     | exact fun _=>Int.le_refl _
   ·simp only[if_neg k2]
    by_cases k3:stK (w.ws t.d.toNat)=3
    ·obtain⟨b,b0,b1,e1,e2,e3⟩:=rd.2.2 k3
     have nb:¬ b<0:=by clear rd;omega
     simp only[if_pos k3,h.es,e3,status_yes hm b0 b1,if_neg nb]
     first
      | exact fun _ _=>⟨e1,e2⟩
      | exact fun _ g=>absurd g (by decide)
      | exact fun _=>by decide
    ·simp only[if_neg k3]
     exact fun g=>by cases g
 ·have e:=s1 (w:=w) hd n
  clear rd
  obtain⟨g1,g2⟩:=h.f1 hd n
  have b0:0≤t.by':=by omega
  have b1:t.by'<s.c:=by omega
  have gb:w.get t.bat=w.ws t.by'.toNat:=by unfold bat;rw[h.es,st_place hm b0 b1];rfl
  have rb:=st_rd hm (hx t.by' b0 b1)
  refine ld (t.other (w.get t.bat)) (by rw[e]) (by rw[e];rfl) ?_ ?_ ?_ (by omega)
  all_goals
   rw[gb]
   unfold other
   by_cases k1:stK (w.ws t.by'.toNat)=1
   ·simp only[if_pos k1]
    exact fun g=>by cases g
   ·simp only[if_neg k1]
    first
     | exact fun _ g=>absurd g (by decide)
     | exact fun _ _=>.inr ⟨t.by',b0,b1,g1,g2,fun g=>k1 (rb.2.1.2 g)⟩
     | exact fun _=>Int.le_refl _
 ·have e:=s2 (w:=w) hd n
  have pv:putSt 3 t.c=3+16*c:=by rw[h.ec];unfold putSt;rw[if_pos (by omega)]
  by_cases hw:w.get t.dat=t.was
  ·have ew:(w.swap t.c t.dat t.was (putSt 3 t.c)).ws=upW w.ws (status s.p s.c s.m t.d) (3+16*c):=by rw[swap_yes hw,hdat,pv]
   have et:(t.step w).1 = { t with nx:=3,di:=0 }:=by rw[e];show t.claim _=_;unfold claim;rw[if_pos hw]
   have es':(t.step w).2.ws=upW w.ws (status s.p s.c s.m t.d) (3+16*c):=by rw[e];exact ew
   rw[et]at wf2 ⊢
   rw[es']
   refine⟨.c t.d d0 d1 ?_ rfl,⟨hm,c0,c1,wf2,h.es,h.ec,h.ow.rel (Rel.st hm d0 d1 c0),fun _ g=>(by cases g),fun _ g=>(by cases g),fun _ _=>⟨?_,.b3 rfl fun q x a b=>?_⟩⟩,fun d a b x=>⟨hd,Int.le_refl _,?_⟩⟩
   ·rw[gd]at hw
    rw[hw];exact h.f2 hd n
   ·show upW w.ws _ _ t.d.toNat=_
    rw[st_st hm d0 d1 d0 d1,if_pos rfl]
   ·have b:q<t.at':=b
    omega
   ·show t.d=d
    rw[st_st hm a b d0 d1]at x
    split at x
    ·rename_i g;exact g.symm
    ·have:=(by' d a b x).1;omega
  ·refine ld { t with nx:=3,di:=0,err:=4,dn:=true } ?_ (by rw[e];exact swap_no hw) (fun g=>by cases g) (fun g=>by cases g) (fun g=>by cases g) (by omega)
   rw[e]
   show(t.claim _,_)=_
   unfold claim;rw[if_neg hw]
 ·obtain⟨g1,g2⟩:=h.f3 hd n
  obtain⟨k1,k2,k3,k4⟩:=g2.step hm h.es h.wf hd hB n13
  have st:=k1.mw.st
  refine⟨.b t.d d0 d1 g1 k1 k2,⟨hm,c0,c1,wf2,es2,ec2,h.ow.rel (k1.re c c0 c1 cd),fun _ g=>(by have:=k3.nx;omega),fun _ g=>(by have:=k3.nx;omega),fun _ _=>⟨?_,k3⟩⟩,fun d a b x=>⟨k4,k3.nx.1,?_⟩⟩
  ·rw[sk.2.2,st t.d d0 d1];exact g1
  ·rw[sk.2.2]
   rw[st d a b]at x
   exact(by' d a b x).2
 ·have e:=s13 (w:=w) hd n
  obtain⟨g1,g2⟩:=h.f3 hd (by omega)
  have nl:Nl s w.ws t.d:=by
   cases g2 with
   | b13 n nh nm nw=>exact⟨nh,nw⟩
   | b3 | b4 | b5 | b6 | b7 | b8 | b9 | b10 | b11 | b12=>omega
  have es':(t.step w).2.ws=upW w.ws (status s.p s.c s.m t.d) 4:=by rw[e];show(w.store t.c t.dat (putSt 4 0)).ws=_;rw[store_ws,hdat];rfl
  have et:(t.step w).1.dn=true:=by rw[e];rfl
  refine⟨.d t.d d0 d1 g1 nl es',h.dn wf2 es2 ec2 (by rw[es'];exact Rel.st hm d0 d1 c0) et,fun d a b x=>?_⟩
  rw[es',st_st hm a b d0 d1]at x
  split at x
  ·omega
  ·rename_i g
   exact absurd (by' d a b x).2.symm g
end
end Ad
namespace Job
def In (s:Sh) (c:Int) (j:Job) (ws:Nat→Int):Prop:=match j with
 | .no=>Own s ws c nil
 | .ml v none=>Rv.In s c v ws
 | .ml _ (some m)=>Cm.In s c m ws
 | .fr t=>Gv.In s c t ws
 | .ag t=>Re.In s c t ws
 | .hr t=>Ad.In s c t ws
def By (s:Sh) (c:Int) (j:Job) (ws:Nat→Int):Prop:=∀ d,0≤d→d<s.c→ws d.toNat=3+16*c→∃ t,j=.hr t∧t.dn=false∧3≤t.nx∧t.d=d
section
variable {s:Sh} {c:Int} {j:Job} {w:Wd} {ws ws':Nat→Int}
theorem In.see (h:j.In s c ws) (r:See s c ws ws'):j.In s c ws':=by
 cases j with
 | no=>exact Own.rel h r.re
 |ml v m=>
  cases m with
  | none=>exact Rv.In.rel h r.re
  | some m=>exact Cm.In.rel h r.re
 | fr t=>exact Gv.In.rel h r.re
 | ag t=>exact Re.In.rel h r.re
 | hr t=>exact Ad.In.see h r
theorem By.see (h:j.By s c ws) (r:See s c ws ws'):j.By s c ws':=fun d a b x=>h d a b (r.bk d a b x)
theorem In.lk (hm:may s.p s.c s.m=true) (h:j.In s c ws):Lk s ws c:=by
 cases j with
 | no=>exact Lk.of1 hm h ⟨0,Nr.nil 0⟩
 |ml v m=>
  cases m with
  | none=>exact Lk.of1 hm (Rv.In.own h) (Rv.In.near h)
  | some m=>exact Lk.of1 hm (Cm.In.ow h) (Cm.In.near h)
 | fr t=>exact Lk.of1 hm (Gv.In.ow h) (Gv.near (s:=s) (Gv.In.wf h))
 |ag t=>
  cases Re.In.ph h with
  | rv hd e hr hi a g=>exact Lk.of1 hm hi.own hi.near
  |gv hd e hr hf b ft hi=>
   obtain⟨a,n1,n2,n3⟩:=Gv.near (s:=s) hi.wf
   obtain⟨m1,m2,m3⟩:=Nr.ofB b
   exact Lk.of hm hi.ow (a:=a) (b:=t.rv.bk.p) (fun q g=>g.elim (fun g=>.inl (n1 q g)) fun g=>.inr (m1 q g)) (fun q h g=>g.elim (fun g=>.inl (n2 q h g)) fun g=>.inr (m2 q h g)) fun q i g=>g.elim (fun g=>.inl (n3 q i g)) fun g=>.inr (m3 q i g)
  | uo u hd e hi=>exact Lk.of1 hm hi.ow hi.near
  | cm u hd e hi=>exact Lk.of1 hm hi.ow hi.near
  | fn hd ow=>exact Lk.of1 hm ow ⟨0,Nr.nil 0⟩
 | hr t=>exact Lk.of1 hm (Ad.In.ow h) ⟨0,Nr.nil 0⟩
theorem In.fin (hw:j.wf s c) (h:j.In s c ws) (hd:j.dn=true):Own s ws c nil:=by
 cases j with
 | no=>cases hd
 |ml v m=>
  have hd:(v.dn && (!v.fd || odn m))=true:=hd
  rw[Bool.and_eq_true]at hd
  cases m with
  |none=>
   have:v.fd=false:=by
    have h2:=hd.2
    rw[show odn none=false from rfl]at h2;simpa using h2
   exact Rv.In.none h hd.1 this
  |some m=>
   have h2:v.fd=true:=(hw.2.2 m rfl).2.2.2.2
   have:m.dn=true:=by have h3:=hd.2;rw[h2]at h3;exact h3
   have ow:=Cm.In.ow h
   rw[show m.ho=nil by unfold Cm.ho;rw[if_pos this]]at ow;exact ow
 |fr t=>
  have ow:=Gv.In.ow h
  rw[Gv.ho_d hd]at ow;exact ow
 |ag t=>
  have hd:t.dn=true:=hd
  cases Re.In.ph h with
  | fn hd ow=>exact ow
  | rv g | gv g | uo u g | cm u g=>rw[hd]at g;cases g
 | hr t=>exact Ad.In.ow h
theorem In.new (k:Cl) {o:Op} (hm:may s.p s.c s.m=true) (c0:0≤c) (c1:c<s.c) (f:Int) (ow:Own s ws c nil):(Cl.start s c f o).In s c ws:=by
 unfold Cl.start
 split
 ·exact Rv.In.new hm c0 c1 _ _ ow
 split
 ·exact Gv.In.new hm c0 c1 _ ow
 split
 ·show Re.In s c (Re.new s c o.a o.n f) ws
  have wf:=Re.new_wf s c o.a o.n f
  unfold Re.new at wf ⊢
  by_cases e:Re.ok s c o.a o.n=true
  ·rw[if_pos e]at wf ⊢
   have gk:=Re.go_k (t:=Re.raw s c o.a o.n f)
   refine⟨hm,c0,c1,wf,gk.1,gk.2.1,Re.go_ph (t:=Re.raw s c o.a o.n f) rfl rfl rfl rfl ?_⟩
   show((Rv.new s c o.n f).dn=false∧Rv.In s c (Rv.new s c o.n f) ws∧∃ a,Gv.new s c o.a=Gv.new s c a)∨((Rv.new s c o.n f).dn=true∧(Rv.new s c o.n f).fd=false∧Own s ws c nil) ∨
    ((Rv.new s c o.n f).dn=true∧(Rv.new s c o.n f).fd=true∧(Rv.new s c o.n f).bk.Fit s c∧FtB s (Rv.new s c o.n f).bk ws∧Gv.InX s c (ofB (Rv.new s c o.n f).bk) (Gv.new s c o.a) ws)
   have i:=Rv.In.new (n:=o.n) (f:=f) hm c0 c1 ow
   cases hd:(Rv.new s c o.n f).dn
   ·exact .inl ⟨rfl,i,_,rfl⟩
   ·cases hf:(Rv.new s c o.n f).fd
    ·exact .inr (.inl ⟨rfl,rfl,ow⟩)
    ·obtain⟨b1,b2,b3⟩:=i.found hd hf
     exact .inr (.inr ⟨rfl,rfl,b1,b2,Gv.InX.new hm c0 c1 _ ofB_cl (ofB_rg b1) b3⟩)
  ·rw[if_neg e]at wf ⊢
   exact⟨hm,c0,c1,wf,rfl,rfl,.fn rfl ow⟩
 ·exact Ad.In.new hm c0 c1 _ ow
theorem In.step (h:j.In s c w.ws) (hw:j.wf s c) (by':j.By s c w.ws) (hd:j.dn=false) (ho:w.of s) (hB:Bs s w.ws) (hx:∀ d,0≤d→d<s.c→Sx s w.ws d) (lc:w.ws c.toNat=1) :
  Ef s c w.ws (j.step s c w).2.ws∧(j.step s c w).1.In s c (j.step s c w).2.ws∧(j.step s c w).1.By s c (j.step s c w).2.ws:=by
 have nb:∀ {j':Job} {ws':Nat→Int},Sq s c w.ws ws'→(∀ t,j≠.hr t)→j'.By s c ws':=fun sq hj d a b x=>by
  rw[sq.mw.st d a b]at x
  obtain⟨t,e,-⟩:=by' d a b x
  exact absurd e (hj t)
 cases j with
 | no=>exact⟨.a (Sq.refl c hB),h,by'⟩
 |ml v m=>
  obtain⟨h1,h2,h3⟩:=hw
  rcases ml_cases (s:=s) (c:=c) (w:=w) v m with⟨hv,e⟩|⟨hv,rfl,hf,e⟩|⟨hv,rfl,hf,e⟩|⟨hv,x,rfl,e⟩<;>rw[e]
  ·cases m with
   |none=>
    obtain⟨n,i⟩:=Rv.In.step h hB
    exact⟨.a n.sq,i,nb n.sq fun t g=>by cases g⟩
   | some m=>rw[(h3 m rfl).2.2.2.1]at hv;cases hv
  ·exact⟨.a (Sq.refl c hB),h,by'⟩
  ·obtain⟨b1,b2,b3⟩:=Rv.In.found h hv hf
   obtain⟨n,i,-⟩:=(Cm.In.of b1 b2 b3).1.step hB
   exact⟨.a n.sq,i,nb n.sq fun t g=>by cases g⟩
  ·obtain⟨n,i,-⟩:=Cm.In.step h hB
   exact⟨.a n.sq,i,nb n.sq fun t g=>by cases g⟩
 |fr t=>
  obtain⟨n,i⟩:=Gv.In.step h ho hB
  exact⟨.a n.sq,i,nb n.sq fun t g=>by cases g⟩
 |ag t=>
  obtain⟨n,i⟩:=Re.In.step h ho hB
  exact⟨.a n,i,nb n fun t g=>by cases g⟩
 |hr t=>
  obtain⟨n,i,b⟩:=Ad.In.step h ho hB hd hx lc fun d a b x=>by
   obtain⟨t',e,g1,g2,g3⟩:=by' d a b x
   injection e with e;subst e
   exact⟨g2,g3⟩
  refine⟨n,i,fun d a b' x=>?_⟩
  obtain⟨g1,g2,g3⟩:=b d a b' x
  exact⟨_,rfl,g1,g2,g3⟩
end
end Job
end Go.Ma
namespace Go.Ma
open Go.Pl
open Ow
namespace Ow
section
variable {s:Sh} {ws ws':Nat→Int} {c d e:Int}
theorem See.refl (s:Sh) (e:Int) (ws:Nat→Int):See s e ws ws:=⟨Rel.refl s e ws,fun _ _ _ g=>g,fun _ _ _ _ g=>g,fun d _ _ g=>⟨g,Rel.refl s d ws⟩,fun _ _ _ g=>g⟩
theorem Sx.st (h:Sx s ws d) (h0:∀ b,0≤b→b<s.c→ws b.toNat≠0→ws' b.toNat≠0) (e:ws' d.toNat=ws d.toNat):Sx s ws' d:=by
 unfold Sx at h ⊢
 rw[e]
 rcases h with h | h | h | h |⟨b,b0,b1,h,z⟩
 ·exact .inl h
 ·exact .inr (.inl h)
 ·exact .inr (.inr (.inl h))
 ·exact .inr (.inr (.inr (.inl h)))
 ·exact .inr (.inr (.inr (.inr ⟨b,b0,b1,h,h0 b b0 b1 z⟩)))
structure Fx (s:Sh) (c:Int) (ws ws':Nat→Int):Prop where
 bs:Bs s ws'
 sx:∀ d,0≤d→d<s.c→Sx s ws' d
 sh:∀ e,0≤e→e<s.c→e≠c→Shr s e ws ws'
 lv:∀ e,0≤e→e<s.c→(ws' e.toNat=1↔ws e.toNat=1)
 nl:(∀ e,0≤e→e<s.c→ws e.toNat=0∨ws e.toNat=4→Nl s ws e)→∀ e,0≤e→e<s.c→ws' e.toNat=0∨ws' e.toNat=4→Nl s ws' e
theorem Ef.fx (hm:may s.p s.c s.m=true) (hB:Bs s ws) (hx:∀ d,0≤d→d<s.c→Sx s ws d) (h:Ef s c ws ws') (c0:0≤c) (c1:c<s.c) (lc:ws c.toNat=1):Fx s c ws ws':=by
 cases h with
 |a h=>
  have st:=h.mw.st
  refine⟨h.bs,fun d d0 d1=>(hx d d0 d1).st (fun b b0 b1 g=>by rw[st b b0 b1];exact g) (st d d0 d1),fun e e0 e1 ne=>(h.re e e0 e1 ne).shr,fun e e0 e1=>by rw[st e e0 e1],fun hn e e0 e1 g=>?_⟩
  rw[st e e0 e1]at g
  exact(hn e e0 e1 g).shr (h.re e e0 e1 fun g2=>by rw[g2]at g;omega).shr
 |b d d0 d1 x h r=>
  have st:=h.mw.st
  have sh:∀ e,0≤e→e<s.c→Shr s e ws ws':=fun e e0 e1=>by
   by_cases g:e=d
   ·rw[g];exact r
   ·exact(h.re e e0 e1 g).shr
  refine⟨h.bs,fun d d0 d1=>(hx d d0 d1).st (fun b b0 b1 g=>by rw[st b b0 b1];exact g) (st d d0 d1),fun e e0 e1 _=>sh e e0 e1,fun e e0 e1=>by rw[st e e0 e1],fun hn e e0 e1 g=>?_⟩
  rw[st e e0 e1]at g
  exact(hn e e0 e1 g).shr (sh e e0 e1)
 |c d d0 d1 x e'=>
  subst e'
  have dc:d≠c:=by
   rintro rfl
   rcases x with x |⟨b,-,-,x,-⟩<;>omega
  have d1':ws d.toNat≠1:=by rcases x with x |⟨b,-,-,x,-⟩<;>omega
  clear x
  have st:∀ b,0≤b→b<s.c→upW ws (status s.p s.c s.m d) (3+16*c) b.toNat=if b=d then 3+16*c else ws b.toNat:=fun b a b'=>st_st hm a b' d0 d1
  have h0:∀ b,0≤b→b<s.c→ws b.toNat≠0→upW ws (status s.p s.c s.m d) (3+16*c) b.toNat≠0:=fun b b0 b1 g=>by rw[st b b0 b1];split<;>omega
  refine⟨hB.st hm d0 d1,fun e e0 e1=>?_,fun e e0 e1 _=>Shr.st hm d0 d1,fun e e0 e1=>?_,fun hn e e0 e1 g=>?_⟩
  ·by_cases g:e=d
   ·refine .inr (.inr (.inr (.inr ⟨c,c0,c1,?_,?_⟩)))
    ·rw[st e e0 e1,if_pos g]
    ·exact h0 c c0 c1 (by omega)
   ·exact(hx e e0 e1).st h0 (by rw[st e e0 e1,if_neg g])
  ·rw[st e e0 e1]
   by_cases g:e=d
   ·rw[if_pos g,g];omega
   ·rw[if_neg g]
  ·rw[st e e0 e1]at g
   by_cases g2:e=d
   ·rw[if_pos g2]at g;omega
   ·rw[if_neg g2]at g;exact(hn e e0 e1 g).shr (Shr.st hm d0 d1)
 |d d d0 d1 x n e'=>
  subst e'
  have st:∀ b,0≤b→b<s.c→upW ws (status s.p s.c s.m d) 4 b.toNat=if b=d then 4 else ws b.toNat:=fun b a b'=>st_st hm a b' d0 d1
  have h0:∀ b,0≤b→b<s.c→ws b.toNat≠0→upW ws (status s.p s.c s.m d) 4 b.toNat≠0:=fun b b0 b1 g=>by rw[st b b0 b1];split<;>omega
  refine⟨hB.st hm d0 d1,fun e e0 e1=>?_,fun e e0 e1 _=>Shr.st hm d0 d1,fun e e0 e1=>?_,fun hn e e0 e1 g=>?_⟩
  ·by_cases g:e=d
   ·exact .inr (.inr (.inr (.inl (by rw[st e e0 e1,if_pos g]))))
   ·exact(hx e e0 e1).st h0 (by rw[st e e0 e1,if_neg g])
  ·rw[st e e0 e1]
   by_cases g:e=d
   ·rw[if_pos g,g];omega
   ·rw[if_neg g]
  ·rw[st e e0 e1]at g
   by_cases g2:e=d
   ·rw[g2];exact n.shr (Shr.st hm d0 d1)
   ·rw[if_neg g2]at g;exact(hn e e0 e1 g).shr (Shr.st hm d0 d1)
end
end Ow
structure Ti (W:Wo):Prop where
 wf:W.wf
 bs:Bs W.s W.w.ws
 sx:∀ d,0≤d→d<W.s.c→Sx W.s W.w.ws d
 lv:∀ (c:Nat) k,W.k c=some k→W.w.ws c=1∧k.j.In W.s c W.w.ws∧k.j.By W.s c W.w.ws
 no:∀ c:Nat,(c:Int)<W.s.c→W.k c=none→W.w.ws c≠1∧Lk W.s W.w.ws c
 nl:∀ c,0≤c→c<W.s.c→W.w.ws c.toNat=0∨W.w.ws c.toNat=4→Nl W.s W.w.ws c
namespace Ti
variable {W:Wo} {x:Ch} {c:Int} {k:Cl}
theorem ev (h:Ti W) (c0:0≤c) (c1:c<W.s.c) {w':Wd} {o:Option Cl} {tr:List Evt} {sp:List Acs} (wf':(⟨W.s,w',W.put c o,tr,sp⟩:Wo).wf) (bs':Bs W.s w'.ws) (sx':∀ d,0≤d→d<W.s.c→Sx W.s w'.ws d)
  (see:∀ e,0≤e→e<W.s.c→e≠c→W.w.ws e.toNat=1→w'.ws e.toNat=1∧See W.s e W.w.ws w'.ws) (own:∀ k,o=some k→w'.ws c.toNat=1∧k.j.In W.s c w'.ws∧k.j.By W.s c w'.ws)
  (dead:o=none→w'.ws c.toNat≠1∧Lk W.s w'.ws c) (oth:∀ e,0≤e→e<W.s.c→e≠c→W.w.ws e.toNat≠1→w'.ws e.toNat≠1∧Shr W.s e W.w.ws w'.ws)
  (nl':∀ e,0≤e→e<W.s.c→w'.ws e.toNat=0∨w'.ws e.toNat=4→Nl W.s w'.ws e):Ti ⟨W.s,w',W.put c o,tr,sp⟩:=by
 refine⟨wf',bs',sx',fun d z e=>?_,fun d d1 e=>?_,nl'⟩
 ·have e:(if d=c.toNat then o else W.k d)=some z:=e
  by_cases g:d=c.toNat
  ·rw[if_pos g]at e
   obtain⟨g1,g2,g3⟩:=own z e
   have:(d:Int)=c:=by omega
   rw[this,g];exact⟨g1,g2,g3⟩
  ·rw[if_neg g]at e
   obtain⟨k1,k2,k3⟩:=h.wf.k d z e
   have d1:(d:Int)<W.s.c:=by rw[← k3,← k2];exact k1.c1
   obtain⟨g1,g2,g3⟩:=h.lv d z e
   obtain⟨s1,s2⟩:=see d (by omega) d1 (by omega) g1
   exact⟨s1,g2.see s2,g3.see s2⟩
 ·have e:(if d=c.toNat then o else W.k d)=none:=e
  by_cases g:d=c.toNat
  ·rw[if_pos g]at e
   obtain⟨g1,g2⟩:=dead e
   have:(d:Int)=c:=by omega
   rw[this,g];exact⟨g1,g2⟩
  ·rw[if_neg g]at e
   obtain⟨g1,g2⟩:=h.no d d1 e
   obtain⟨o1,o2⟩:=oth d (by omega) d1 (by omega) g1
   exact⟨o1,g2.shr o2⟩
theorem ev0 (h:Ti W) (c0:0≤c) (c1:c<W.s.c) {k:Cl} {tr:List Evt} {sp:List Acs} (wf':(⟨W.s,W.w,W.put c (some k),tr,sp⟩:Wo).wf) (lc:W.w.ws c.toNat=1) (i:k.j.In W.s c W.w.ws) (b:k.j.By W.s c W.w.ws):Ti ⟨W.s,W.w,W.put c (some k),tr,sp⟩:=
 h.ev c0 c1 wf' h.bs h.sx (fun e _ _ _ g=>⟨g,See.refl ..⟩) (fun z e=>by injection e with e;subst e;exact⟨lc,i,b⟩) (fun e=>by cases e) (fun e _ _ _ g=>⟨g,Shr.refl ..⟩) h.nl
theorem ef (h:Ti W) (e:W.k c.toNat=some k) (c0:0≤c) (hb:k.busy=true):Ef W.s c W.w.ws (k.j.step k.s k.c W.w).2.ws∧(k.j.step k.s k.c W.w).1.In W.s c (k.j.step k.s k.c W.w).2.ws∧(k.j.step k.s k.c W.w).1.By W.s c (k.j.step k.s k.c W.w).2.ws:=by
 obtain⟨k1,k2,k3⟩:=h.wf.k _ _ e
 have k3:k.c=c:=by omega
 obtain⟨l1,l2,l3⟩:=h.lv _ _ e
 have ec:((c.toNat:Nat):Int)=c:=by omega
 rw[ec]at l2 l3
 have jw:=k1.jw
 rw[k2,k3]at jw ⊢
 exact l2.step jw l3 (k1.jb hb).2.1 h.wf.w h.bs h.sx l1
theorem act (h:Ti W) (hx:W.fit x):Ti (W.act x).1:=by
 have wf2:=Wo.act_wf h.wf hx
 have hm:=h.wf.m
 revert wf2
 unfold Wo.act
 by_cases g0:x.k<1∨4<x.k∨W.sat x.c<0
 ·rw[if_pos g0];exact fun _=>h
 rw[if_neg g0]
 obtain⟨c0,c1,c2⟩:=Wo.sat_bd (c:=x.c) h.wf (by omega)
 have ec:((x.c.toNat:Nat):Int)=x.c:=by omega
 have mk:∀ y,(W.mark x.c y).ws=upW W.w.ws (status W.s.p W.s.c W.s.m x.c) y:=fun y=>put_ws ..
 have st:∀ y b,0≤b→b<W.s.c→upW W.w.ws (status W.s.p W.s.c W.s.m x.c) y b.toNat=if b=x.c then y else W.w.ws b.toNat:=fun y b a b'=>st_st hm a b' c0 c1
 -- a status is marked
 have mark:∀ (y:Int) (o:Option Cl) (tr:List Evt),y=1∨y=2→W.w.ws x.c.toNat≠3→(y=1→W.w.ws x.c.toNat=0)→(y=2→W.w.ws x.c.toNat=1)→(⟨W.s,W.mark x.c y,W.put x.c o,tr,W.sp⟩:Wo).wf →
   (∀ k,o=some k→y=1∧k.j=.no)→(o=none→y=2)→(y=2→Lk W.s W.w.ws x.c)→Ti ⟨W.s,W.mark x.c y,W.put x.c o,tr,W.sp⟩:=fun y o tr hy _ y1 y2 wf' own dead lk=>by
  have h0:∀ b,0≤b→b<W.s.c→W.w.ws b.toNat≠0→upW W.w.ws (status W.s.p W.s.c W.s.m x.c) y b.toNat≠0:=fun b b0 b1 g=>by rw[st y b b0 b1];split<;>omega
  have nb:∀ d e,0≤d→d<W.s.c→0≤e→W.w.ws d.toNat=3+16*e→d≠x.c:=fun d e d0 d1 e0 g g2=>by
   subst g2
   rcases hy with hy | hy
   ·have:=y1 hy;omega
   ·have:=y2 hy;omega
  have hx0:∀ e,0≤e→e<W.s.c→y=1→W.w.ws e.toNat≠3+16*x.c:=fun e e0 e1 hy g=>by
   rcases h.sx e e0 e1 with g1 | g1 | g1 | g1 |⟨b,b0,b1,g1,z⟩
   ·omega
   ·omega
   ·omega
   ·omega
   ·have:b=x.c:=by omega
    subst this;exact z (y1 hy)
  refine h.ev c0 c1 wf' ?_ (fun d d0 d1=>?_) (fun e e0 e1 ne g=>⟨?_,?_⟩) (fun k e=>?_) (fun e=>?_) (fun e e0 e1 ne g=>?_) fun e e0 e1 g=>?_
  ·rw[mk];exact h.bs.st hm c0 c1
  ·rw[mk]
   by_cases g:d=x.c
   ·unfold Sx
    rw[st y d d0 d1,if_pos g]
    rcases hy with hy | hy
    ·exact .inr (.inl hy)
    ·exact .inr (.inr (.inl hy))
   ·exact(h.sx d d0 d1).st h0 (by rw[st y d d0 d1,if_neg g])
  ·rw[mk,st y e e0 e1,if_neg ne];exact g
  ·rw[mk]
   refine⟨Rel.st hm c0 c1 e0,h0,fun b b0 b1 g1 g2=>?_,fun d d0 d1 g1=>⟨?_,Rel.st hm c0 c1 d0⟩,fun d d0 d1 g1=>?_⟩
   ·rw[st y b b0 b1]
    split
    ·rename_i g3
     subst g3
     rcases hy with hy | hy
     ·exact absurd (y1 hy) g1
     ·omega
    ·exact g2
   ·rw[st y d d0 d1,if_neg (nb d e d0 d1 e0 g1)];exact g1
   ·rw[st y d d0 d1]at g1
    split at g1
    ·omega
    ·exact g1
  ·obtain⟨o1,o2⟩:=own k e
   rw[mk,o2]
   refine⟨by rw[st y x.c c0 c1,if_pos rfl];exact o1,?_,fun d d0 d1 g=>?_⟩
   ·have nl:=h.nl x.c c0 c1 (.inl (y1 o1))
    exact(nl.own hm h.bs c0 c1).rel (Rel.st hm c0 c1 c0)
   ·rw[st y d d0 d1]at g
    split at g
    ·omega
    ·exact absurd g (hx0 d d0 d1 o1)
  ·have y2':=dead e
   rw[mk]
   exact⟨by rw[st y x.c c0 c1,if_pos rfl];omega,(lk y2').shr (Shr.st hm c0 c1)⟩
  ·rw[mk,st y e e0 e1,if_neg ne]
   exact⟨g,Shr.st hm c0 c1⟩
  ·rw[mk]at g ⊢
   rw[st y e e0 e1]at g
   split at g
   ·omega
   ·exact(h.nl e e0 e1 g).shr (Shr.st hm c0 c1)
 by_cases g1:x.k=1
 ·rw[if_pos g1]
  unfold Wo.start
  by_cases g2:W.stk x.c≠0
  ·rw[if_pos g2];exact fun _=>h
  ·rw[if_neg g2]
   intro wf2
   have hz:W.w.ws x.c.toNat=0:=by
    have g2:W.stk x.c=0:=Classical.not_not.1 g2
    unfold Wo.stk at g2
    rw[if_neg (by omega),c2]at g2
    have g2:stK (W.w.ws x.c.toNat)=0:=g2
    rcases h.sx x.c c0 c1 with e | e | e | e |⟨b,b0,b1,e,z⟩
    ·exact e
    ·rw[e]at g2;exact absurd g2 (by decide)
    ·rw[e]at g2;exact absurd g2 (by decide)
    ·rw[e]at g2;exact absurd g2 (by decide)
    ·have hb:=(may_iff _ _ _).1 hm
     have h1:pt (3+16*b) 16=b:=by unfold pt;omega
     have h2:(3+16*b) % 16=3:=by omega
     have h3:putSt 3 b=3+16*b:=by unfold putSt;rw[if_pos (by omega)]
     have h4:stK (3+16*b)=3:=by unfold stK;rw[h1,h2,h3,if_pos rfl]
     rw[e,h4]at g2;exact absurd g2 (by decide)
   have e1:putSt 1 0=1:=by decide
   dsimp only at wf2 ⊢
   rw[e1]at wf2 ⊢
   refine mark 1 _ _ (.inl rfl) (by omega) (fun _=>hz) (fun g=>absurd g (by decide)) wf2 (fun k e=>?_) (fun e=>by cases e) fun g=>absurd g (by decide)
   injection e with e;subst e;exact⟨rfl,rfl⟩
 rw[if_neg g1]
 cases e:W.k x.c.toNat with
 | none=>exact fun _=>h
 |some k=>
  obtain⟨k1,k2,k3⟩:=h.wf.k _ _ e
  have k3:k.c=x.c:=by rw[k3];omega
  obtain⟨l1,l2,l3⟩:=h.lv _ _ e
  rw[ec]at l2 l3
  dsimp only
  by_cases g3:x.k=3
  ·rw[if_pos g3]
   unfold Wo.step
   by_cases hb:k.busy=true
   rotate_left
   ·have es:k.step W.w=(k,W.w,[],2):=if_neg hb
    rw[es]
    exact fun wf2=>h.ev0 c0 c1 wf2 l1 l2 l3
   have es:k.step W.w=((k.adv W.w).tell.1,(k.j.step k.s k.c W.w).2,(k.adv W.w).tell.2,0):=if_pos hb
   have hw:W.w.of k.s:=by rw[k2];exact h.wf.w
   obtain⟨f1,f2,f3⟩:=h.ef e c0 hb
   have fx:=f1.fx hm h.bs h.sx c0 c1 l1
   have mid:=Cl.adv_mid k1 hb hw
   rw[es]
   intro wf2
   refine h.ev c0 c1 wf2 fx.bs fx.sx (fun e e0 e1 ne g=>⟨(fx.lv e e0 e1).2 g,f1.see hm c0 c1 l1 e0 e1 g ne⟩) (fun z e=>?_) (fun e=>by cases e) (fun e e0 e1 ne g=>⟨fun g2=>g ((fx.lv e e0 e1).1 g2),fx.sh e e0 e1 ne⟩) (fx.nl h.nl)
   injection e with e;subst e
   refine⟨(fx.lv x.c c0 c1).2 l1,?_⟩
   show((k.adv W.w).tell.1.j).In W.s x.c (k.j.step k.s k.c W.w).2.ws∧((k.adv W.w).tell.1.j).By W.s x.c (k.j.step k.s k.c W.w).2.ws
   unfold Cl.tell
   cases hd:(k.adv W.w).j.dn
   ·exact⟨f2,f3⟩
   ·have jw:=mid.jw
    have jw:(k.adv W.w).j.wf W.s x.c:=by rw[show(k.adv W.w).s=W.s from k2,show(k.adv W.w).c=x.c from k3]at jw;exact jw
    refine⟨Job.In.fin jw f2 hd,fun d d0 d1 g=>?_⟩
    obtain⟨t,t1,t2,-⟩:=f3 d d0 d1 g
    have:(k.adv W.w).j.dn=false:=by rw[show(k.adv W.w).j=.hr t from t1];exact t2
    rw[hd]at this;cases this
  rw[if_neg g3]
  by_cases g2:x.k=2
  ·rw[if_pos g2]
   unfold Wo.ask Cl.invoke
   by_cases hb:k.busy=true
   ·rw[if_pos hb];exact fun wf2=>h.ev0 c0 c1 wf2 l1 l2 l3
   rw[if_neg hb]
   by_cases hk:x.o.k<1∨4<x.o.k
   ·rw[if_pos hk];exact fun wf2=>h.ev0 c0 c1 wf2 l1 l2 l3
   rw[if_neg hk]
   have jn:=k1.jn (by simpa using hb)
   rw[jn]at l2 l3
   have nb:∀ d,0≤d→d<W.s.c→W.w.ws d.toNat≠3+16*x.c:=fun d d0 d1 g=>by
    obtain⟨t,t1,-⟩:=l3 d d0 d1 g
    cases t1
   by_cases hn:x.o.once k.s k.c=true
   ·rw[if_pos hn];exact fun wf2=>h.ev0 c0 c1 wf2 l1 l2 fun d d0 d1 g=>absurd g (nb d d0 d1)
   ·rw[if_neg hn]
    refine fun wf2=>h.ev0 c0 c1 wf2 l1 ?_ fun d d0 d1 g=>absurd g (nb d d0 d1)
    show(Cl.start k.s k.c k.f x.o).In W.s x.c W.w.ws
    rw[k2,k3];exact Job.In.new k hm c0 c1 _ l2
  rw[if_neg g2]
  unfold Wo.kill
  intro wf2
  have e1:putSt 2 0=2:=by decide
  dsimp only at wf2 ⊢
  rw[e1]at wf2 ⊢
  exact mark 2 _ _ (.inr rfl) (by omega) (fun g=>absurd g (by decide)) (fun _=>l1) wf2 (fun k e=>by cases e) (fun _=>rfl) fun _=>l2.lk hm
theorem new {s:Sh} {w:Wd} (hm:may s.p s.c s.m=true) (hw:w.of s) (hz:∀ j,w.ws j=0):Ti (Wo.new s w):=by
 have nl:∀ c,0≤c→Nl s w.ws c:=fun c c0=>by
  refine⟨fun q a b g=>?_,fun q i a b i0 i1 g=>?_⟩
  ·have h1:pgAt s w.ws q=0:=hz _
   omega
  ·have h1:slAt s w.ws q i=0:=hz _
   have:=g.2
   omega
 refine⟨⟨hm,hw,fun d x e=>(by cases e)⟩,Bs.zero hz,fun d _ _=>.inl (hz _),fun c k e=>(by cases e),fun c c1 _=>⟨by show w.ws c≠1;rw[hz];decide,?_⟩,fun c c0 c1 _=>nl c c0⟩
 exact Lk.of1 hm ((nl c (by omega)).own hm (Bs.zero hz) (by omega) c1) ⟨0,Nr.nil 0⟩
end Ti
end Go.Ma
namespace Go.Ma
open Go.Pl
open Ow
namespace Kt
section
variable {f g:Nat→Int} {n:Nat}
theorem sm_eq:∀ {n:Nat},(∀ j,j<n→f j=g j)→sm f n=sm g n
 | 0,_=>rfl
 |n+1,h=>by
  have h1:=sm_eq (n:=n) fun j hj=>h j (by omega)
  have h2:=h n (by omega)
  show sm f n+f n=sm g n+g n
  omega
theorem sm_add:∀ n,sm (fun j=>f j+g j) n=sm f n+sm g n
 | 0=>rfl
 |n+1=>by
  have h1:=sm_add n
  show sm (fun j=>f j+g j) n+(f n+g n)=sm f n+f n+(sm g n+g n)
  omega
theorem sm_0:∀ n,sm (fun _=>(0:Int)) n=0
 | 0=>rfl
 |n+1=>by
  have h1:=sm_0 n
  show sm (fun _=>(0:Int)) n+0=0
  omega
theorem sm_one (x:Nat) (v:Int):∀ n,sm (fun j=>if j=x then v else 0) n=if x<n then v else 0
 | 0=>rfl
 |n+1=>by
  have h1:=sm_one x v n
  show sm (fun j=>if j=x then v else 0) n+(if n=x then v else 0)=_
  rw[h1]
  by_cases e:n=x
  ·rw[if_pos e,if_neg (by omega),if_pos (by omega)];omega
  ·rw[if_neg e]
   by_cases e2:x<n
   ·rw[if_pos e2,if_pos (by omega)];omega
   ·rw[if_neg e2,if_neg (by omega)];omega
end
def nr (a:Int) (n:Nat):Int:=sm (fun q=>if a≤(q:Int)∧(q:Int)<a+8 then 1 else 0) n
section
variable {s:Sh} {ws:Nat→Int} {d:Int}
theorem pg_cn (hm:may s.p s.c s.m=true) (hB:Bs s ws) {q:Int} (q0:0≤q) (q1:q<s.p):okPg s q (pgAt s ws q)=true ∧
    ((Cn.held s ws q=true∧pgK s q (pgAt s ws q)≠0∧∃ c,0≤c∧c<s.c∧Cn.who s ws q=c∧(pgAt s ws q=1+16*c∨∃ h,0≤h∧h<s.p∧Bd s ws c q h)) ∨
     (Cn.held s ws q=false∧(pgK s q (pgAt s ws q)=0∨pgK s q (pgAt s ws q)=3∨pgK s q (pgAt s ws q)=4)) ∨
     (Cn.held s ws q=false∧∃ k,pgK s q (pgAt s ws q)=2∧pgA s q (pgAt s ws q)=k∧Sup s k (pgAt s ws q))):=by
  have hb:=(may_iff _ _ _).1 hm
  have here:pgK s q (pgAt s ws q)≠4→Cn.held s ws q=(pgK s q (pgAt s ws q) == 1)∧Cn.who s ws q=pgA s q (pgAt s ws q):=fun g=>by
    have e:Cn.at' s ws q=q:=by unfold Cn.at';rw[if_neg g]
    unfold Cn.held Cn.who
    rw[e];exact⟨rfl,rfl⟩
  cases hB.pg q q0 q1 with
  | e h z=>
    obtain⟨g1,g2,g3⟩:=rd_0 (s:=s) hm q0 q1
    have g1:okPg s q (pgAt s ws q)=true:=by rw[h];exact g1
    have g2:pgK s q (pgAt s ws q)=0:=by rw[h];exact g2
    obtain⟨h1,h2⟩:=here (by rw[g2];decide)
    exact⟨g1,.inr (.inl ⟨by rw[h1,g2];rfl,.inl g2⟩)⟩
  | h c c0 c1 h z=>
    obtain⟨g1,g2,g3⟩:=rd_h (s:=s) hm q0 q1 c0 c1
    rw[← h]at g1 g2 g3
    obtain⟨h1,h2⟩:=here (by rw[g2];decide)
    exact⟨g1,.inl ⟨by rw[h1,g2];rfl,by rw[g2];decide,c,c0,c1,by rw[h2,g3],.inl h⟩⟩
  | s k h z=>
    obtain⟨g1,g2,g3⟩:=rd_s (s:=s) hm q0 q1 h
    obtain⟨h1,h2⟩:=here (by rw[g2];decide)
    exact⟨g1,.inr (.inr ⟨by rw[h1,g2];rfl,k,g2,g3,h⟩)⟩
  | l n n1 n8 nq h z b=>
    obtain⟨g1,g2,g3⟩:=rd_l (s:=s) hm q0 q1 n1 n8 nq
    rw[← h]at g1 g2
    obtain⟨h1,h2⟩:=here (by rw[g2];decide)
    exact⟨g1,.inr (.inl ⟨by rw[h1,g2];rfl,.inr (.inl g2)⟩)⟩
  | b h h0 h1 h2 e z w=>
    obtain⟨g1,g2,g3⟩:=rd_b (s:=s) hm q1 h0 h1 h2
    rw[← e]at g1 g2 g3
    have ea:Cn.at' s ws q=h:=by unfold Cn.at';rw[if_pos g2,g3]
    rcases w with⟨c,c0,c1,w⟩|⟨n,n1,n8,nq,w⟩
    · obtain⟨f1,f2,f3⟩:=rd_h (s:=s) hm h0 (by omega:h<s.p) c0 c1
      rw[← w]at f2 f3
      refine⟨g1,.inl ⟨?_,by rw[g2];decide,c,c0,c1,?_,.inr ⟨h,h0,by omega,e,w⟩⟩⟩
      · unfold Cn.held;rw[ea,f2];rfl
      · unfold Cn.who;rw[ea,f3]
    · refine⟨g1,.inr (.inl ⟨?_,.inr (.inr g2)⟩)⟩
      have hl:h+n≤s.p:=by
        rcases (hB.pg h h0 (by omega)).word (by omega) with g |⟨c,c0,c1,g⟩|⟨k,g⟩|⟨n',n1',n8',nq',g⟩|⟨x,x0,x1,x2,g⟩
        · omega
        · omega
        · have:=g.mod;omega
        · omega
        · omega
      obtain⟨f1,f2,f3⟩:=rd_l (s:=s) hm h0 (by omega:h<s.p) n1 n8 hl
      unfold Cn.held;rw[ea,w,f2];rfl
theorem sl_cn (hm:may s.p s.c s.m=true) (hB:Bs s ws) {q k i:Int} (q0:0≤q) (q1:q<s.p) (hk:Sup s k (pgAt s ws q)) (i0:0≤i) (i1:i<slots k) :
  (slK (slAt s ws q i)=1∧slAt s ws q i=1+16*k)∨(slK (slAt s ws q i)=3∧slAt s ws q i=3+16*k)∨(slK (slAt s ws q i)=2∧∃ c,0≤c∧c<s.c∧slA (slAt s ws q i)=c∧slAt s ws q i=2+16*c):=by
 have hb:=(may_iff _ _ _).1 hm
 have kb:=hk.bd
 have:=slots_bd k
 rcases (hB.pg q q0 q1).sup (by omega) hk i i0 (by omega) with⟨-,g | g |⟨c,c0,c1,g⟩⟩|⟨g,-⟩
 ·have:=rd_sl (k:=1) (a:=k) (by decide) (by decide) kb.1 (by omega)
  rw[g];exact .inl ⟨this.1,rfl⟩
 ·have:=rd_sl (k:=3) (a:=k) (by decide) (by decide) kb.1 (by omega)
  rw[g];exact .inr (.inl ⟨this.1,rfl⟩)
 ·have:=rd_sl (k:=2) (a:=c) (by decide) (by decide) c0 (by omega)
  rw[g];exact .inr (.inr ⟨this.1,c,c0,c1,this.2,rfl⟩)
 ·omega
theorem sl_way (hm:may s.p s.c s.m=true) (hB:Bs s ws) {q k i:Int} (q0:0≤q) (q1:q<s.p) (hk:Sup s k (pgAt s ws q)) (i0:0≤i) (i1:i<slots k) (d0:0≤d) (d1:d<s.c) :
  (slK (slAt s ws q i)=2∧slA (slAt s ws q i)=d)↔Wy s ws d q i:=by
 constructor
 ·rintro⟨g1,g2⟩
  rcases sl_cn hm hB q0 q1 hk i0 i1 with⟨g,-⟩|⟨g,-⟩|⟨g,c,c0,c1,g3,g4⟩
  ·omega
  ·omega
  ·exact⟨⟨k,hk⟩,by omega⟩
 ·rintro⟨-,g⟩
  have hb:=(may_iff _ _ _).1 hm
  have:=rd_sl (k:=2) (a:=d) (by decide) (by decide) d0 (by omega)
  rw[g];exact this
theorem sup_size {k x:Int} (h:Sup s k x):4≤size k∧size k≤32∧slots k*size k=64∧2≤slots k∧slots k≤16:=by
 rcases (by have:=h.bd;omega:k=0∨k=1∨k=2∨k=3) with rfl | rfl | rfl | rfl<;>decide
theorem mine_nl (hm:may s.p s.c s.m=true) (hB:Bs s ws) (d0:0≤d) (d1:d<s.c) (h:Nl s ws d):∀ n:Nat,(n:Int)≤s.p→mineN d s ws n=0
 | 0,_=>rfl
 |n+1,hn=>by
  have ih:=mine_nl hm hB d0 d1 h n (by omega)
  have q0:(0:Int)≤(n:Int):=by omega
  have q1:(n:Int)<s.p:=by omega
  have:mineP d s ws n=0:=by
   obtain⟨-,⟨g,-,c,c0,c1,g2,g3⟩|⟨g,g2⟩|⟨g,k,g1,g2,g3⟩⟩:=pg_cn hm hB q0 q1
   ·unfold mineP
    rw[if_pos g,if_neg]
    intro e
    have e:c=d:=by omega
    subst e
    rcases g3 with g3 |⟨x,x0,x1,g3⟩
    ·exact h.h _ q0 q1 g3
    ·exact h.h x x0 x1 g3.2
   ·unfold mineP;rw[if_neg (by rw[g];decide),if_neg (by omega)]
   ·unfold mineP
    rw[if_neg (by rw[g];decide),if_pos g1,g2]
    have z:=sup_size g3
    have key:∀ i:Nat,(i:Int)≤slots k→wayS d s ws n k i=0:=fun i=>by
     induction i with
     | zero=>intro _;rfl
     |succ i ih=>
      intro hi
      show wayS d s ws n k i+(if slK (slAt s ws n i)=2∧slA (slAt s ws n i)=d then size k else 0)=0
      rw[ih (by omega),if_neg]
      ·rfl
      ·intro e
       exact h.w n i q0 q1 (by omega) (by omega) ((sl_way hm hB q0 q1 g3 (by omega) (by omega) d0 d1).1 e)
    exact key _ (by omega)
  show mineN d s ws n+mineP d s ws n=0
  omega
def cE (E:Int→Int×Int) (m:Nat) (q:Int) (i:Nat):Int:=sm (fun j=>if(E j).1=q∧0≤(E j).2∧(E j).2<i then 1 else 0) m
def tE (E:Int→Int×Int) (m:Nat) (n:Nat):Int:=sm (fun j=>if 0≤(E j).1∧(E j).1<n then 1 else 0) m
/-! ### The count of all -/
def mineA (w:Int→Bool) (s:Sh) (ws:Nat→Int) (n:Nat):Int:=sm (fun c=>if w c then mineN c s ws n else 0) s.c.toNat
theorem mineA_step (w:Int→Bool) (n:Nat):mineA w s ws (n+1)=mineA w s ws n+sm (fun c=>if w c then mineP c s ws n else 0) s.c.toNat:=by
 unfold mineA
 rw[← sm_add]
 refine sm_eq fun c _=>?_
 (try dsimp only)
 split
 ·rfl
 ·omega
theorem cn_slots (liv:Int→Bool) (hm:may s.p s.c s.m=true) (hB:Bs s ws) {q k:Int} (q0:0≤q) (q1:q<s.p) (hk:Sup s k (pgAt s ws q)) (n:Cn):∀ i:Nat,(i:Int)≤slots k →
  (Cn.slots liv s ws q k n i).lo=n.lo+sm (fun c=>if !liv c then wayS c s ws q k i else 0) s.c.toNat ∧
  (Cn.slots liv s ws q k n i).li=n.li+sm (fun c=>if liv c then wayS c s ws q k i else 0) s.c.toNat ∧
  (Cn.slots liv s ws q k n i).fr+(Cn.slots liv s ws q k n i).ta+(Cn.slots liv s ws q k n i).li+(Cn.slots liv s ws q k n i).lo=n.fr+n.ta+n.li+n.lo+i*size k
 | 0,_=>by
  have h:∀ b:Int→Bool,sm (fun c=>if b c then wayS c s ws q k 0 else 0) s.c.toNat=0:=fun b=>by
   rw[sm_eq (g:=fun _=>0) fun c _=>by (try dsimp only);split<;>rfl];exact sm_0 _
  have e:Cn.slots liv s ws q k n 0=n:=rfl
  rw[e,h (fun c=>!liv c),h liv];omega
 |i+1,hi=>by
  obtain⟨h1,h2,h3⟩:=cn_slots liv hm hB q0 q1 hk n i (by omega)
  have hb:=(may_iff _ _ _).1 hm
  have st:∀ b:Int→Bool,sm (fun c:Nat=>if b c then wayS c s ws q k (i+1) else 0) s.c.toNat=sm (fun c:Nat=>if b c then wayS c s ws q k i else 0) s.c.toNat+sm (fun c:Nat=>if b c then(if slK (slAt s ws q i)=2∧slA (slAt s ws q i)=c then size k else 0) else 0) s.c.toNat:=fun b=>by
   rw[← sm_add]
   refine sm_eq fun c _=>?_
   (try dsimp only)
   split
   ·rfl
   ·omega
  have e2:((i+1:Nat):Int)*size k=i*size k+size k:=by rw[Int.natCast_add,Int.add_mul];omega
  have e:Cn.slots liv s ws q k n (i+1)=Cn.slot liv k (slAt s ws q i) (Cn.slots liv s ws q k n i):=rfl
  rw[e,st fun c=>!liv c,st liv,e2]
  generalize Cn.slots liv s ws q k n i=x at h1 h2 h3
  have z0:∀ b:Int→Bool,slK (slAt s ws q i)≠2→sm (fun c:Nat=>if b c then(if slK (slAt s ws q i)=2∧slA (slAt s ws q i)=c then size k else 0) else 0) s.c.toNat=0:=fun b g=>by
   rw[sm_eq (g:=fun _=>0) fun c _=>?_]
   ·exact sm_0 _
   ·(try dsimp only)
    split
    ·rw[if_neg fun e=>g e.1]
    ·rfl
  rcases sl_cn hm hB q0 q1 hk (i:=i) (by omega) (by omega) with⟨g,-⟩|⟨g,-⟩|⟨g,c,c0,c1,g3,g4⟩
  ·rw[z0 (fun c=>!liv c) (by omega),z0 liv (by omega)]
   unfold Cn.slot
   rw[if_pos g];(try dsimp only);omega
  ·rw[z0 (fun c=>!liv c) (by omega),z0 liv (by omega)]
   unfold Cn.slot
   rw[if_neg (by omega),if_pos g];(try dsimp only);omega
  ·have zc:∀ b:Int→Bool,sm (fun c:Nat=>if b c then(if slK (slAt s ws q i)=2∧slA (slAt s ws q i)=c then size k else 0) else 0) s.c.toNat=if b c then size k else 0:=fun b=>by
    have:=sm_one c.toNat (if b c then size k else 0) s.c.toNat
    rw[if_pos (by omega:c.toNat<s.c.toNat)]at this
    rw[← this]
    refine sm_eq fun d _=>?_
    (try dsimp only)
    by_cases ed:d=c.toNat
    ·have:(d:Int)=c:=by omega
     rw[if_pos ed,this,if_pos (⟨g,g3⟩:slK (slAt s ws q i)=2∧slA (slAt s ws q i)=c)]
    ·rw[if_neg ed,if_neg ((fun e=>ed (by omega)):¬ (slK (slAt s ws q i)=2∧slA (slAt s ws q i)=(d:Int)))]
     split<;>rfl
   rw[zc (fun c=>!liv c),zc liv]
   unfold Cn.slot
   rw[if_neg (by omega),if_neg (by omega),g3]
   cases hl:liv c
   ·rw[if_neg (by simp)];simp only[Bool.not_false,if_true,Bool.false_eq_true,if_false];omega
   ·rw[if_pos ⟨g,rfl⟩];simp only[Bool.not_true,if_true,Bool.false_eq_true,if_false];omega
theorem cn_all (liv:Int→Bool) (hm:may s.p s.c s.m=true) (hB:Bs s ws):∀ n:Nat,(n:Int)≤s.p →
  (Cn.all liv s ws n).lo=mineA (fun c=>!liv c) s ws n∧(Cn.all liv s ws n).li=mineA liv s ws n ∧
  (Cn.all liv s ws n).fr+(Cn.all liv s ws n).ta+(Cn.all liv s ws n).li+(Cn.all liv s ws n).lo=64*n
 | 0,_=>by
  have h:∀ b:Int→Bool,mineA b s ws 0=0:=fun b=>by
   unfold mineA
   rw[sm_eq (g:=fun _=>0) fun c _=>by (try dsimp only);split<;>rfl];exact sm_0 _
  rw[h,h];exact⟨rfl,rfl,rfl⟩
 |n+1,hn=>by
  obtain⟨h1,h2,h3⟩:=cn_all liv hm hB n (by omega)
  have hb:=(may_iff _ _ _).1 hm
  have q0:(0:Int)≤(n:Int):=by omega
  have q1:(n:Int)<s.p:=by omega
  rw[mineA_step,mineA_step]
  have e:Cn.all liv s ws (n+1)=Cn.page liv s ws n (Cn.all liv s ws n):=rfl
  rw[e]
  generalize Cn.all liv s ws n=x at h1 h2 h3
  have pz:∀ (b:Int→Bool) (f:Nat→Int),(∀ c:Nat,mineP c s ws n=f c)→sm (fun c:Nat=>if b c then mineP c s ws n else 0) s.c.toNat=sm (fun c:Nat=>if b c then f c else 0) s.c.toNat:=fun b f hf=>sm_eq fun c _=>by (try dsimp only);rw[hf c]
  obtain⟨ok,⟨g,gk,c,c0,c1,g2,g3⟩|⟨g,g2⟩|⟨g,k,g1,g2,g3⟩⟩:=pg_cn hm hB q0 q1
  ·have zc:∀ b:Int→Bool,sm (fun c:Nat=>if b c then mineP c s ws n else 0) s.c.toNat=if b c then 64 else 0:=fun b=>by
    have:=sm_one c.toNat (if b c then 64 else 0) s.c.toNat
    rw[if_pos (by omega:c.toNat<s.c.toNat)]at this
    rw[← this]
    refine sm_eq fun d _=>?_
    (try dsimp only)
    unfold mineP
    rw[if_pos g,g2]
    by_cases ed:d=c.toNat
    ·have:(d:Int)=c:=by omega
     rw[if_pos ed,this,if_pos (rfl:c=c)]
    ·rw[if_neg ed,if_neg ((fun e=>ed (by omega)):¬ c=(d:Int))]
     split<;>rfl
   rw[zc (fun c=>!liv c),zc liv]
   unfold Cn.page
   rw[if_neg fun e=>gk e.2,g2]
   cases hl:liv c
   ·rw[if_neg (by simp),if_pos (.inl g)];simp only[Bool.not_false,if_true,Bool.false_eq_true,if_false];omega
   ·rw[if_pos ⟨g,rfl⟩];simp only[Bool.not_true,if_true,Bool.false_eq_true,if_false];omega
  ·have zc:∀ b:Int→Bool,sm (fun c:Nat=>if b c then mineP c s ws n else 0) s.c.toNat=0:=fun b=>by
    rw[sm_eq (g:=fun _=>0) fun d _=>?_]
    ·exact sm_0 _
    ·(try dsimp only)
     unfold mineP
     rw[if_neg ((by rw[g];decide):¬ Cn.held s ws n=true),if_neg ((by omega):¬ pgK s n (pgAt s ws n)=2)]
     split<;>rfl
   rw[zc (fun c=>!liv c),zc liv]
   unfold Cn.page
   rw[g,ok]
   by_cases k0:pgK s n (pgAt s ws n)=0
   ·rw[if_pos ⟨rfl,k0⟩];(try dsimp only);omega
   ·rw[if_neg fun e=>k0 e.2,if_neg (by simp),if_neg (by simp),if_neg (by omega)];(try dsimp only);omega
  ·have z:=sup_size g3
   obtain⟨s1,s2,s3⟩:=cn_slots liv hm hB q0 q1 g3 x (slots k).toNat (by omega)
   have pc:∀ c:Nat,mineP c s ws n=wayS c s ws n k (slots k).toNat:=fun c=>by
    unfold mineP;rw[if_neg (by rw[g];decide),if_pos g1,g2]
   rw[pz (fun c=>!liv c) _ pc,pz liv _ pc]
   unfold Cn.page
   rw[g,ok,if_neg fun e=>by have:=e.2;omega,if_neg (by simp),if_neg (by simp),if_pos g1,g2]
   rw[show(((slots k).toNat:Nat):Int)=slots k by omega,z.2.2.1]at s3
   omega
end
end Kt
end Go.Ma
namespace Go.Ma
open Go.Pl
open Ow
open Kt
namespace Ti
variable {W:Wo} {x:Ch} {c:Int}
theorem stk_eq (h:Ti W) (c0:0≤c) (c1:c<W.s.c):(W.stk c=0∧W.w.ws c.toNat=0)∨(W.stk c=1∧W.w.ws c.toNat=1)∨(W.stk c=2∧W.w.ws c.toNat=2)∨(W.stk c=4∧W.w.ws c.toNat=4)∨(W.stk c=3∧∃ b,0≤b∧b<W.s.c∧W.w.ws c.toNat=3+16*b∧W.w.ws b.toNat≠0):=by
 have hb:=(may_iff _ _ _).1 h.wf.m
 have e:W.stk c=stK (W.w.ws c.toNat):=by
  unfold Wo.stk Wo.sat
  rw[status_yes h.wf.m c0 c1,if_neg (by omega)];rfl
 rw[e]
 rcases h.sx c c0 c1 with g | g | g | g |⟨b,b0,b1,g,z⟩
 ·rw[g];exact .inl ⟨by decide,rfl⟩
 ·rw[g];exact .inr (.inl ⟨by decide,rfl⟩)
 ·rw[g];exact .inr (.inr (.inl ⟨by decide,rfl⟩))
 ·rw[g];exact .inr (.inr (.inr (.inl ⟨by decide,rfl⟩)))
 ·have h1:pt (3+16*b) 16=b:=by unfold pt;omega
  have h2:(3+16*b) % 16=3:=by omega
  have h3:putSt 3 b=3+16*b:=by unfold putSt;rw[if_pos (by omega)]
  have h4:stK (3+16*b)=3:=by unfold stK;rw[h1,h2,h3,if_pos rfl]
  refine .inr (.inr (.inr (.inr ⟨by rw[g,h4],b,b0,b1,g,z⟩)))
theorem held0 (h:Ti W) (c0:0≤c) (c1:c<W.s.c) (hs:W.w.ws c.toNat=0∨W.w.ws c.toNat=4):mineN c W.s W.w.ws W.s.p.toNat=0:=by
 have:=(may_iff _ _ _).1 h.wf.m
 exact mine_nl h.wf.m h.bs c0 c1 (h.nl c c0 c1 hs) _ (by omega)
def dn (W:Wo):Int:=sm (fun c=>if W.w.ws c≠0∧W.w.ws c≠1 then 1 else 0) W.s.c.toNat
theorem dead (h:Ti W) (hx:W.fit x) {e:Int} (e0:0≤e) (e1:e<W.s.c) (g0:(W.act x).1.w.ws e.toNat≠0) (g1:(W.act x).1.w.ws e.toNat≠1) :
  (W.w.ws e.toNat≠0∧W.w.ws e.toNat≠1)∨(e=x.c∧x.k=4∧(W.act x).2=0):=by
 have hm:=h.wf.m
 revert g0 g1
 unfold Wo.act
 by_cases z0:x.k<1∨4<x.k∨W.sat x.c<0
 ·rw[if_pos z0];exact fun a b=>.inl ⟨a,b⟩
 rw[if_neg z0]
 obtain⟨c0,c1,c2⟩:=Wo.sat_bd (c:=x.c) h.wf (by omega)
 have mk:∀ y,(W.mark x.c y).ws e.toNat=if e=x.c then y else W.w.ws e.toNat:=fun y=>by
  have:(W.mark x.c y).ws=upW W.w.ws (status W.s.p W.s.c W.s.m x.c) y:=put_ws ..
  rw[this,st_st hm e0 e1 c0 c1]
 by_cases z1:x.k=1
 ·rw[if_pos z1]
  unfold Wo.start
  by_cases z2:W.stk x.c≠0
  ·rw[if_pos z2];exact fun a b=>.inl ⟨a,b⟩
  ·rw[if_neg z2]
   dsimp only
   rw[mk,show putSt 1 0=1 from by decide]
   split
   ·exact fun a b=>absurd rfl b
   ·exact fun a b=>.inl ⟨a,b⟩
 rw[if_neg z1]
 cases ek:W.k x.c.toNat with
 | none=>exact fun a b=>.inl ⟨a,b⟩
 |some k=>
  dsimp only
  by_cases z3:x.k=3
  ·rw[if_pos z3]
   unfold Wo.step
   dsimp only
   by_cases hb:k.busy=true
   rotate_left
   ·have es:k.step W.w=(k,W.w,[],2):=if_neg hb
    rw[es];exact fun a b=>.inl ⟨a,b⟩
   have es:k.step W.w=((k.adv W.w).tell.1,(k.j.step k.s k.c W.w).2,(k.adv W.w).tell.2,0):=if_pos hb
   rw[es]
   obtain⟨f1,f2,f3⟩:=h.ef ek c0 hb
   intro a b
   left
   cases f1 with
   | a f=>rw[f.mw.st e e0 e1]at a b;exact⟨a,b⟩
   | b d d0 d1 y f r=>rw[f.mw.st e e0 e1]at a b;exact⟨a,b⟩
   |c d d0 d1 y f=>
    rw[f,st_st hm e0 e1 d0 d1]at a b
    split at a
    ·rename_i g
     subst g
     have:W.w.ws e.toNat≠0∧W.w.ws e.toNat≠1:=by rcases y with y |⟨b',-,-,y,-⟩<;>omega
     exact this
    ·rename_i g
     rw[if_neg g]at b;exact⟨a,b⟩
   |d d d0 d1 y n f=>
    rw[f,st_st hm e0 e1 d0 d1]at a b
    split at a
    ·rename_i g
     subst g
     omega
    ·rename_i g
     rw[if_neg g]at b;exact⟨a,b⟩
  rw[if_neg z3]
  by_cases z2:x.k=2
  ·rw[if_pos z2]
   exact fun a b=>.inl ⟨a,b⟩
  rw[if_neg z2]
  unfold Wo.kill
  dsimp only
  rw[mk]
  split
  ·rename_i g
   exact fun _ _=>.inr ⟨g,by omega,rfl⟩
  ·exact fun a b=>.inl ⟨a,b⟩
end Ti
end Go.Ma
namespace Go.Ma
open Go.Pl
open Ow
inductive Wr (s:Sh) (c:Int) (ws:Nat→Int) (w':Wd):Prop
 | no (h:w'.kd=0)
 | pg (q:Int) (q0:0≤q) (q1:q<s.p) (e:w'.pl=page s.p s.c s.m q) (h:w'.kd=1→w'.pt=1+16*c→∃ k,Sup s k (pgAt s ws q))
 | sl (q i:Int) (q0:0≤q) (q1:q<s.p) (i0:0≤i) (i1:i<16) (e:w'.pl=slot s.p s.c s.m q i) (h:w'.kd=1→w'.pt=2+16*c→pgAt s ws q=1+16*c)
 | mg (j:Int) (j0:0≤j) (j1:j<s.m) (e:w'.pl=mag s.p s.c s.m c j)
theorem n2_sl {k a c:Int} (h:k≠2):putSl k a≠2+16*c:=by unfold putSl;split<;>omega
section
variable {s:Sh} {c:Int} {w:Wd}
inductive Mb (s:Sh) (c:Int) (ws:Nat→Int) (w':Wd):Prop
 | no (h:w'.kd=0∨w'.ok=false∨w'.pt=w'.was)
 | st (d:Int) (d0:0≤d) (d1:d<s.c) (e:w'.pl=d) (h:w'.was=2∨∃ b,0≤b∧b<s.c∧w'.was=3+16*b)
 | pgH (q:Int) (q0:0≤q) (q1:q<s.p) (e:w'.pl=page s.p s.c s.m q) (o:Int) (o0:0≤o) (o1:o<s.c) (own:o=c∨ws o.toNat=3+16*c) (h:w'.was=1+16*o) (y:okPg s q w'.pt=true)
 | pgB (q:Int) (q0:0≤q) (q1:q<s.p) (e:w'.pl=page s.p s.c s.m q) (x:Int) (x0:0≤x) (x1:x<q) (x8:q<x+8) (o:Int) (o0:0≤o) (o1:o<s.c) (own:o=c∨ws o.toNat=3+16*c) (h:w'.was=4+16*x) (hx:pgAt s ws x=1+16*o) (y:w'.pt=0)
 | pgC (q:Int) (q0:0≤q) (q1:q<s.p) (e:w'.pl=page s.p s.c s.m q) (k:w'.kd=2) (y:w'.pt=1+16*c) (h:w'.was=0∨∃ n,1≤n∧n≤8∧q+n≤s.p∧w'.was=3+16*n)
 | pgS (q:Int) (q0:0≤q) (q1:q<s.p) (e:w'.pl=page s.p s.c s.m q) (y:w'.pt=1+16*c) (k:Int) (h:Sup s k w'.was) (a:∀ i,0≤i→i<slots k→slAt s ws q i=2+16*c)
 | slH (q i:Int) (q0:0≤q) (q1:q<s.p) (i0:0≤i) (i1:i<16) (e:w'.pl=slot s.p s.c s.m q i) (o:Int) (o0:0≤o) (o1:o<s.c) (own:o=c∨ws o.toNat=3+16*c) (h:pgAt s ws q=1+16*o)
 | slW (q i:Int) (q0:0≤q) (q1:q<s.p) (i0:0≤i) (i1:i<16) (e:w'.pl=slot s.p s.c s.m q i) (k:Int) (hk:Sup s k (pgAt s ws q)) (o:Int) (o0:0≤o) (o1:o<s.c) (own:o=c∨ws o.toNat=3+16*c) (h:w'.was=2+16*o) (y:w'.pt=1+16*k∨w'.pt=3+16*k)
 | slC (q i:Int) (q0:0≤q) (q1:q<s.p) (i0:0≤i) (i1:i<16) (e:w'.pl=slot s.p s.c s.m q i) (k:Int) (hk:Sup s k (pgAt s ws q)) (kd:w'.kd=2) (h:w'.was=1+16*k∨w'.was=3+16*k) (y:w'.pt=2+16*c)
 | mg (o j:Int) (o0:0≤o) (o1:o<s.c) (j0:0≤j) (j1:j<s.m) (e:w'.pl=mag s.p s.c s.m o j) (own:o=c∨ws o.toNat=3+16*c)
theorem One.wr' {w':Wd} (h:One c w w'):w'.kd=0∨w'.ok=false∨((w'.kd=1∨w'.kd=2)∧w'.was=w.get w'.pl∧w'.ws=upW w.ws w'.pl w'.pt):=by
 cases h with
 | ld a=>exact .inl rfl
 | st a y=>exact .inr (.inr ⟨.inl rfl,rfl,store_ws ..⟩)
 |sw a x y=>
  by_cases e:w.get a=x
  ·exact .inr (.inr ⟨.inr rfl,rfl,swap_yes e⟩)
  ·refine .inr (.inl ?_)
   show(w.get a == x)=false
   exact beq_eq_false_iff_ne.2 e
theorem word_ok (hm:may s.p s.c s.m=true) {ws:Nat→Int} (hB:Bs s ws) {q:Int} (q0:0≤q) (q1:q<s.p):okPg s q (pgAt s ws q)=true:=(Pg.rd hm q0 q1 (hB.pg q q0 q1)).1
theorem Ad.wr {t:Ad} {ws:Nat→Int} (hm:may s.p s.c s.m=true) (es:t.s=s) (wf:t.wf) (hd:t.dn=false) (h3:3≤t.nx) (h13:t.nx≠13):Wr s t.d ws (t.step w).2:=by
 obtain⟨-,-,-,ar⟩:=wf.of hd
 unfold Ad.Ar at ar
 rw[es]at ar
 have sb:=slots_bd t.pA
 have a0:0≤t.at':=by omega
 have a1:t.at'<s.p:=by omega
 have hpat:t.pat=page s.p s.c s.m t.at':=by unfold Ad.pat;rw[es]
 have hsat:t.sat=Go.Pl.slot s.p s.c s.m t.at' t.i:=by unfold Ad.sat;rw[es]
 have d0:0≤t.d:=by omega
 have z1:(0:Int)≠1+16*t.d:=by omega
 have z2:(0:Int)≠2+16*t.d:=by omega
 rcases Ad.step_cases t w with⟨g,-⟩|⟨-,⟨n,e⟩|⟨n,e⟩|⟨n,e⟩|⟨n,e⟩|⟨n,e⟩|⟨n,e⟩|⟨n,e⟩|⟨n,e⟩|⟨n,e⟩|⟨n,e⟩|⟨n,e⟩|⟨n,e⟩|⟨n,e⟩|⟨n,e⟩⟩
 ·rw[hd]at g;cases g
 ·omega
 ·omega
 ·omega
 all_goals rw[e]
 ·exact .no rfl
 ·exact .no rfl
 ·exact .pg t.at' a0 a1 hpat fun _ g=>absurd g z1
 ·exact .no rfl
 ·exact .sl t.at' t.i a0 a1 (by omega) (by omega) hsat fun _ g=>absurd g z2
 ·exact .pg t.at' a0 a1 hpat fun _ g=>absurd g z1
 ·exact .mg t.i (by omega) (by omega) (by show t.mat=_;unfold Ad.mat;rw[es])
 ·exact .no rfl
 ·exact .no rfl
 ·exact .sl t.at' t.i a0 a1 (by omega) (by omega) hsat fun _ g=>absurd g (n2_sl (by decide))
 ·omega
end
end Go.Ma
namespace Go.Ma
open Go.Pl
namespace Wo
variable {W:Wo} {c:Int} {o:Op} {k:Cl}
theorem sat_yes (h:W.wf) (c0:0≤c) (c1:c<W.s.c):W.sat c=c:=by
 unfold sat status
 have e:within c 0 (W.s.c - 1)=true:=by unfold within;simp;omega
 rw[h.m,e];rfl
theorem act3 (h:W.wf) (c0:0≤c) (c1:c<W.s.c) (e:W.k c.toNat=some k):W.act ⟨3,c,o,0⟩ = W.step c k:=by
 unfold act
 rw[if_neg,if_neg (by decide:¬ (3:Int)=1)]
 ·dsimp only;rw[e];dsimp only;rw[if_pos rfl]
 ·rw[sat_yes h c0 c1];dsimp only;omega
theorem act2 (h:W.wf) (c0:0≤c) (c1:c<W.s.c) (e:W.k c.toNat=some k):W.act ⟨2,c,o,0⟩ = W.ask c k o:=by
 unfold act
 rw[if_neg,if_neg (by decide:¬ (2:Int)=1)]
 ·dsimp only;rw[e];dsimp only;rw[if_neg (by decide),if_pos rfl]
 ·rw[sat_yes h c0 c1];dsimp only;omega
theorem go_idle:∀ N,W.busy c=false→W.go c N=W
 | 0,_=>rfl
 | N+1,h=>by unfold go;rw[if_neg (by rw[h];decide)]
structure Ran (W W':Wo) (c:Int) (k:Cl) (j:Job):Prop where
 s:W'.s=W.s
 k':∃ k',W'.k c.toNat=some k'∧k'.busy=false∧k'.s=k.s∧k'.c=k.c∧k'.f=k.f
 o:∀ d,d≠c.toNat→W'.k d=W.k d
 dn:j.dn=true
 ev:W'.tr≠[]∧W'.lastE.k=5∧W'.lastE.c=c∧W'.lastE.e=j.err
theorem go_run {s:Sh} {I:Job→Wd→Prop} (hI:∀ j w,I j w→j.dn=false→I (j.step s c w).1 (j.step s c w).2) :
  ∀ (N:Nat) {W:Wo} {k:Cl},W.wf→W.s=s→0≤c→c<s.c→W.k c.toNat=some k→k.busy=true→I k.j W.w→110*s.p+4*s.m+60≤(N:Int)+k.st→∃ j,I j (W.go c N).w∧Ran W (W.go c N) c k j
 | 0,W,k,h,hs,c0,c1,e,hb,hj,hN=>by
  exfalso
  obtain⟨k1,k2,k3⟩:=h.k _ _ e
  obtain⟨b1,b2,b3,b4,b5⟩:=k1.jb hb
  rw[k2,hs]at b4
  have:=Job.left_dn k1.jw b1 (by omega)
  rw[b2]at this;cases this
 |N+1,W,k,h,hs,c0,c1,e,hb,hj,hN=>by
  have c1':c<W.s.c:=by rw[hs];exact c1
  obtain⟨k1,k2,k3⟩:=h.k _ _ e
  obtain⟨b1,b2,b3,b4,b5⟩:=k1.jb hb
  have hbu:W.busy c=true:=by unfold busy;rw[e];exact hb
  have ego:W.go c (N+1)=(W.act ⟨3,c,Op.zero,0⟩).1.go c N:=by
   show(if W.busy c=true then _ else _)=_
   rw[if_pos hbu]
  have w1:=act_wf (x:=⟨3,c,Op.zero,0⟩) h (fit0 h)
  have s1:=act_s (W:=W) (x:=⟨3,c,Op.zero,0⟩)
  rw[ego]
  rw[act3 h c0 c1' e]at w1 s1 ⊢
  have es:k.step W.w=((k.adv W.w).tell.1,(k.j.step k.s k.c W.w).2,(k.adv W.w).tell.2,0):=if_pos hb
  have hkc:k.c=c:=by rw[k3];omega
  have hks:k.s=s:=k2.trans hs
  have hj':=hI _ _ hj b2
  rw[← hks,← hkc]at hj'
  have eW:(W.step c k).1=⟨W.s,(k.j.step k.s k.c W.w).2,W.put c (some (k.adv W.w).tell.1),W.tr ++ (k.adv W.w).tell.2,(W.step c k).1.sp⟩:=by
   unfold step;rw[es]
  have eK:(W.step c k).1.k c.toNat=some (k.adv W.w).tell.1:=by rw[eW];exact if_pos rfl
  have eO:∀ d,d≠c.toNat→(W.step c k).1.k d=W.k d:=fun d hd=>by rw[eW];exact if_neg hd
  have eT:(W.step c k).1.tr=W.tr ++ (k.adv W.w).tell.2:=by rw[eW]
  have eWd:(W.step c k).1.w=(k.j.step k.s k.c W.w).2:=by rw[eW]
  have tk:=Cl.tell_k (k:=k.adv W.w)
  cases hd:(k.adv W.w).j.dn
  ·have et:(k.adv W.w).tell=((k.adv W.w).told1,(k.adv W.w).gvE):=if_neg (by rw[hd];decide)
   have hb2:(k.adv W.w).tell.1.busy=true:=by rw[et];exact hb
   have hj2:(k.adv W.w).tell.1.j=(k.j.step k.s k.c W.w).1:=by rw[et];rfl
   obtain⟨j,q1,q2⟩:=go_run hI N w1 (s1.trans hs) c0 c1 eK hb2 (by rw[hj2,eWd];exact hj') (by rw[tk.2.2.2.2];show _≤(N:Int)+(k.st+1);omega)
   refine⟨j,q1,⟨q2.s.trans s1,?_,fun d hd=>(q2.o d hd).trans (eO d hd),q2.dn,q2.ev⟩⟩
   obtain⟨k',r1,r2,r3,r4,r5⟩:=q2.k'
   exact⟨k',r1,r2,r3.trans tk.1,r4.trans tk.2.1,r5.trans tk.2.2.1⟩
  ·have et:(k.adv W.w).tell=((k.adv W.w).told1.rest,(k.adv W.w).gvE ++ (k.adv W.w).tkE ++ [(k.adv W.w).ans (k.adv W.w).j.err (k.adv W.w).tkA]):=if_pos hd
   have hb2:(k.adv W.w).tell.1.busy=false:=by rw[et];rfl
   have hid:(W.step c k).1.busy c=false:=by unfold busy;rw[eK];exact hb2
   rw[go_idle N hid]
   refine⟨(k.adv W.w).j,by rw[eWd];exact hj',⟨s1,⟨_,eK,hb2,tk.1,tk.2.1,tk.2.2.1⟩,eO,hd,?_⟩⟩
   have el:(W.step c k).1.lastE=(k.adv W.w).ans (k.adv W.w).j.err (k.adv W.w).tkA:=by
    unfold lastE
    rw[eT,et,← List.append_assoc]
    simp [List.getLastD_eq_getLast?]
   refine⟨by rw[eT,et];simp,?_⟩
   rw[el]
   exact⟨rfl,hkc,rfl⟩
theorem ended_run {s:Sh} {I:Job→Wd→Prop} (hI:∀ j w,I j w→j.dn=false→I (j.step s c w).1 (j.step s c w).2)
  {W:Wo} {k:Cl} (h:W.wf) (hs:W.s=s) (c0:0≤c) (c1:c<s.c) (e:W.k c.toNat=some k) (hb:k.busy=false) (o1:1≤o.k) (o4:o.k≤4) (hn:o.once s c=false) (h0:I (Cl.start s c k.f o) W.w) :
  W.okd c o=true∧∃ j,I j (W.ended c o).w∧Ran W (W.ended c o) c k j∧W.answ c o=j.err:=by
 have c1':c<W.s.c:=by rw[hs];exact c1
 obtain⟨k1,k2,k3⟩:=h.k _ _ e
 have hkc:k.c=c:=by rw[k3];omega
 have hks:k.s=s:=k2.trans hs
 have w1:=act_wf (x:=⟨2,c,o,0⟩) h (fit0 h)
 have s1:=act_s (W:=W) (x:=⟨2,c,o,0⟩)
 have ei:k.invoke o=({ k.ask o with j:=Cl.start k.s k.c k.f o,busy:=true },[⟨2,k.c,o,0,0,0⟩],0):=by
  unfold Cl.invoke
  rw[if_neg (by rw[hb];decide),if_neg (by omega),if_neg (by rw[hks,hkc,hn];decide)]
 have ea:W.act ⟨2,c,o,0⟩ = W.ask c k o:=act2 h c0 c1' e
 have er:(W.act ⟨2,c,o,0⟩).2=0:=by rw[ea];unfold ask;rw[ei]
 have eK:(W.act ⟨2,c,o,0⟩).1.k c.toNat=some (k.invoke o).1:=by rw[ea];exact if_pos rfl
 have eO:∀ d,d≠c.toNat→(W.act ⟨2,c,o,0⟩).1.k d=W.k d:=fun d hd=>by rw[ea];exact if_neg hd
 have eW:(W.act ⟨2,c,o,0⟩).1.w=W.w:=by rw[ea];rfl
 have hb0:=(may_iff _ _ _).1 h.m
 rw[hs]at hb0
 have een:W.ended c o=(W.act ⟨2,c,o,0⟩).1.go c (110*s.p+4*s.m+60).toNat:=by
  unfold ended askd
  rw[if_neg (by rw[er];decide),eK,hs]
 obtain⟨j,q1,q2⟩:=go_run hI (110*s.p+4*s.m+60).toNat w1 (s1.trans hs) c0 c1 eK (by rw[ei]) (by rw[ei,eW];show I (Cl.start k.s k.c k.f o) _;rw[hks,hkc];exact h0) (by rw[ei];show _≤_+(0:Int);omega)
 rw[← een]at q1 q2
 have ho:W.okd c o=true:=by
  obtain⟨r0,r1,r2,r3⟩:=q2.ev
  obtain⟨k',t1,t2,-⟩:=q2.k'
  unfold okd heard
  rw[er]
  unfold askd
  rw[eK,r1,r2]
  have hbz:(W.ended c o).busy c=false:=by unfold busy;rw[t1];exact t2
  have hne:(W.ended c o).tr.isEmpty=false:=by
   rw[Bool.eq_false_iff];intro g;rw[List.isEmpty_iff]at g;exact r0 g
  rw[hbz,hne]
  simp
 refine⟨ho,j,q1,⟨q2.s.trans s1,?_,fun d hd=>(q2.o d hd).trans (eO d hd),q2.dn,q2.ev⟩,?_⟩
 ·obtain⟨k',r1,r2,r3,r4,r5⟩:=q2.k'
  rw[ei]at r3 r4 r5
  exact⟨k',r1,r2,r3,r4,r5⟩
 ·unfold answ;rw[if_pos ho];exact q2.ev.2.2.2
end Wo
end Go.Ma
namespace Go.Ma
open Go.Pl
open Ow
theorem One.same {c:Int} {w w':Wd} (h:One c w w') (g:w'.kd=0∨w'.ok=false):w'.ws=w.ws:=by
 cases h with
 | ld a=>rfl
 | st a y=>rcases g with g | g<;>cases g
 |sw a x y=>
  rcases g with g | g
  ·cases g
  ·exact swap_no (beq_eq_false_iff_ne.1 (show(w.get a == x)=false from g))
theorem Wr.st' {s:Sh} {c o:Int} {w w':Wd} (hm:may s.p s.c s.m=true) (o0:0≤o) (o1:o<s.c) (one:One c w w') (wr:Wr s o w.ws w'):∀ e,0≤e→e<s.c→w'.ws e.toNat=w.ws e.toNat:=fun e e0 e1=>by
 have hb:=(may_iff _ _ _).1 hm
 rcases one.wr' with g | g |⟨kd,-,ew⟩
 ·rw[one.same (.inl g)]
 ·rw[one.same (.inr g)]
 ·rw[ew]
  unfold upW
  cases wr with
  | no g=>omega
  | pg q q0 q1 e' h=>rw[e',page_yes hm q0 q1,if_neg (by omega)]
  | sl q i q0 q1 i0 i1 e' h=>rw[e',slot_yes hm q0 q1 i0 i1,if_neg (by omega)]
  |mg j j0 j1 e'=>
   have:=Int.mul_nonneg o0 (by omega:0≤s.m)
   rw[e',mag_yes hm o0 o1 j0 j1,if_neg (by omega)]
structure AdP (s:Sh) (c d x:Int) (ws0:Nat→Int) (t:Ad) (w:Wd):Prop where
 ed:t.d=d
 jw:(Job.hr t).wf s c
 i:Ad.In s c t w.ws
 by':(Job.hr t).By s c w.ws
 ho:w.of s
 bs:Bs s w.ws
 sx:∀ e,0≤e→e<s.c→Sx s w.ws e
 lc:w.ws c.toNat=1
 st:∀ e,0≤e→e<s.c→e≠d→w.ws e.toNat=ws0 e.toNat
 dn:t.dn=true→w.ws d.toNat=4
 n0:t.dn=false→t.nx=0→w.ws d.toNat=x
 n1:t.dn=false→t.nx=1→w.ws d.toNat=x∧t.was=x
 n2:t.dn=false→t.nx=2→w.ws d.toNat=x∧t.was=x
theorem AdP.step {s:Sh} {c d x:Int} {ws0:Nat→Int} {t:Ad} {w:Wd} (hx:x=2∨x=4∨∃ b,0≤b∧b<s.c∧x=3+16*b∧ws0 b.toNat≠1) (d0:0≤d) (d1:d<s.c) (dc:d≠c) (h:AdP s c d x ws0 t w) (hd:t.dn=false):AdP s c d x ws0 (t.step w).1 (t.step w).2:=by
 obtain⟨ef,in',by'⟩:=Job.In.step (j:=.hr t) h.i h.jw h.by' hd h.ho h.bs h.sx h.lc
 have ef:Ef s c w.ws (t.step w).2.ws:=ef
 have in':Ad.In s c (t.step w).1 (t.step w).2.ws:=in'
 have by':(Job.hr (t.step w).1).By s c (t.step w).2.ws:=by'
 have hm:=h.i.m
 have hb:=(may_iff _ _ _).1 hm
 have c0:=h.i.c0
 have c1:=h.i.c1
 have fx:=ef.fx hm h.bs h.sx c0 c1 h.lc
 have jw:=Job.step_wf h.jw h.ho
 have ho:=Job.step_of h.jw h.ho
 have lc:=(fx.lv c c0 c1).2 h.lc
 have hk:=Ad.step_k t w
 have es:=h.i.es
 have ec:=h.i.ec
 have hdat:t.dat=d:=by unfold Ad.dat;rw[es,h.ed,status_yes hm d0 d1]
 have td:(t.step w).1.d=t.d:=hk.2.2
 -- what is left to show
 have fin:(∀ e,0≤e→e<s.c→e≠d→(t.step w).2.ws e.toNat=w.ws e.toNat)→((t.step w).1.dn=true→(t.step w).2.ws d.toNat=4)→((t.step w).1.dn=false→(t.step w).1.nx=0→(t.step w).2.ws d.toNat=x) →
   ((t.step w).1.dn=false→(t.step w).1.nx=1→(t.step w).2.ws d.toNat=x∧(t.step w).1.was=x)→((t.step w).1.dn=false→(t.step w).1.nx=2→(t.step w).2.ws d.toNat=x∧(t.step w).1.was=x)→AdP s c d x ws0 (t.step w).1 (t.step w).2:=
  fun a1 a2 a3 a4 a5=>⟨td.trans h.ed,jw,in',by',ho,fx.bs,fx.sx,lc,fun e e0 e1 ne=>(a1 e e0 e1 ne).trans (h.st e e0 e1 ne),a2,a3,a4,a5⟩
 -- it is claimed: all follows
 have own:(t.step w).2.ws d.toNat=3+16*c→(∀ e,0≤e→e<s.c→e≠d→(t.step w).2.ws e.toNat=w.ws e.toNat)→AdP s c d x ws0 (t.step w).1 (t.step w).2:=fun g a1=>by
  obtain⟨t',e',g1,g2,-⟩:=by' d d0 d1 g
  injection e' with e'
  subst e'
  exact fin a1 (fun g=>by rw[g1]at g;cases g) (fun _ g=>by omega) (fun _ g=>by omega) fun _ g=>by omega
 obtain⟨-,-,-,ar⟩:=h.i.wf.of hd
 unfold Ad.Ar at ar
 rcases (by omega:t.nx=0∨t.nx=1∨t.nx=2∨(3≤t.nx∧t.nx≠13)∨t.nx=13) with n | n | n |⟨n,n13⟩| n
 ·have hw:=h.n0 hd n
  have e:=Ad.s0 (w:=w) hd n
  have hg:w.get t.dat=x:=by rw[hdat];exact hw
  rw[hg]at e
  have rd:=Ad.st_rd hm (h.sx d d0 d1)
  have e1:(t.step w).2.ws=w.ws:=by rw[e];rfl
  rw[hw]at rd
  rcases hx with rfl | rfl |⟨b,b0,b1,rfl,hb1⟩
  rotate_left
  ·have e2:(t.step w).1 = { t with was:=4,err:=5,dn:=true }:=by
    rw[e];show t.ask 4=_
    unfold Ad.ask;rw[if_neg (by decide),if_neg (by decide)]
   have e3:(t.step w).1.dn=true:=by rw[e2]
   exact fin (fun e _ _ _=>by rw[e1]) (fun _=>by rw[e1];exact hw) (fun g=>by rw[e3]at g;cases g) (fun g=>by rw[e3]at g;cases g) fun g=>by rw[e3]at g;cases g
  rotate_left
  ·have e2:(t.step w).1 = { t with was:=2,nx:=2 }:=by
    rw[e];show t.ask 2=_
    unfold Ad.ask;rw[if_pos (by decide)]
   refine fin (fun e _ _ _=>by rw[e1]) (fun g=>?_) (fun _ g=>?_) (fun _ g=>?_) fun _ g=>?_
   ·rw[e2]at g;have g:t.dn=true:=g;rw[hd]at g;cases g
   ·rw[e2]at g;have g:(2:Int)=0:=g;omega
   ·rw[e2]at g;have g:(2:Int)=1:=g;omega
   ·rw[e1,e2];exact⟨hw,rfl⟩
  ·have h1:pt (3+16*b) 16=b:=by unfold pt;omega
   have h2:(3+16*b) % 16=3:=by omega
   have h3:putSt 3 b=3+16*b:=by unfold putSt;rw[if_pos (by omega)]
   have h4:stK (3+16*b)=3:=by unfold stK;rw[h1,h2,h3,if_pos rfl]
   have h5:stB (3+16*b)=b:=by unfold stB;rw[h1,h2,h3,if_pos rfl]
   have e2:(t.step w).1 = { t with was:=3+16*b,by':=b,nx:=1,di:=b }:=by
    rw[e];show t.ask (3+16*b)=_
    unfold Ad.ask;rw[h4,h5,if_neg (by decide),if_pos rfl,if_neg (by rw[es,status_yes hm b0 b1];omega)]
   refine fin (fun e _ _ _=>by rw[e1]) (fun g=>?_) (fun _ g=>?_) (fun _ g=>?_) fun _ g=>?_
   ·rw[e2]at g;have g:t.dn=true:=g;rw[hd]at g;cases g
   ·rw[e2]at g;have g:(1:Int)=0:=g;omega
   ·rw[e1,e2];exact⟨hw,rfl⟩
   ·rw[e2]at g;have g:(1:Int)=2:=g;omega
 ·obtain⟨hw,hwas⟩:=h.n1 hd n
  obtain⟨f1,-⟩:=h.i.f1 hd n
  have e:=Ad.s1 (w:=w) hd n
  have e1:(t.step w).2.ws=w.ws:=by rw[e];rfl
  have bb:0≤t.by'∧t.by'<s.c:=by rw[es]at ar;omega
  have hbat:t.bat=t.by':=by unfold Ad.bat;rw[es,status_yes hm bb.1 bb.2]
  have nl:w.ws t.by'.toNat≠1:=by
   rcases hx with rfl | rfl |⟨b,b0,b1,rfl,hb1⟩
   ·omega
   ·omega
   ·have eb:t.by'=b:=by omega
    rw[eb]
    by_cases k:b=d
    ·rw[k,hw];omega
    ·rw[h.st b b0 b1 k];exact hb1
  have e2:(t.step w).1 = { t with nx:=2 }:=by
   rw[e];show t.other (w.get t.bat)=_
   unfold Ad.other;rw[if_neg]
   rw[hbat]
   exact fun g=>nl ((Ad.st_rd hm (h.sx _ bb.1 bb.2)).2.1.1 g)
  refine fin (fun e _ _ _=>by rw[e1]) (fun g=>?_) (fun _ g=>?_) (fun _ g=>?_) fun _ g=>?_
  ·rw[e2]at g;have g:t.dn=true:=g;rw[hd]at g;cases g
  ·rw[e2]at g;have g:(2:Int)=0:=g;omega
  ·rw[e2]at g;have g:(2:Int)=1:=g;omega
  ·rw[e1,e2];exact⟨hw,hwas⟩
 ·obtain⟨hw,hwas⟩:=h.n2 hd n
  have e:=Ad.s2 (w:=w) hd n
  have e1:(t.step w).2.ws=upW w.ws (status s.p s.c s.m d) (3+16*c):=by
   rw[e]
   show(w.swap t.c t.dat t.was (putSt 3 t.c)).ws=_
   rw[swap_yes (by rw[hdat,hwas];exact hw),hdat,ec,status_yes hm d0 d1]
   congr 1
   unfold putSt;rw[if_pos (by omega)]
  have st:∀ e,0≤e→e<s.c→(t.step w).2.ws e.toNat=if e=d then 3+16*c else w.ws e.toNat:=fun e a b=>by rw[e1];exact st_st hm a b d0 d1
  exact own (by rw[st d d0 d1,if_pos rfl]) fun e a b ne=>by rw[st e a b,if_neg ne]
 ·obtain⟨f3,-⟩:=h.i.f3 hd n
  rw[h.ed]at f3
  have one:=Ad.one (w:=w) hd
  have wr:=Ad.wr (ws:=w.ws) hm es h.i.wf hd n n13 (w:=w)
  rw[h.ed]at wr
  have st:=Wr.st' hm d0 d1 one wr
  exact own (by rw[st d d0 d1];exact f3) fun e a b _=>st e a b
 ·have e:t.step w=(t.fin 0,w.store t.c t.dat (putSt 4 0)):=by
   rcases Ad.step_cases t w with⟨g,-⟩|⟨-,⟨m,-⟩|⟨m,-⟩|⟨m,-⟩|⟨m,-⟩|⟨m,-⟩|⟨m,-⟩|⟨m,-⟩|⟨m,-⟩|⟨m,-⟩|⟨m,-⟩|⟨m,-⟩|⟨m,-⟩|⟨m,-⟩|⟨m,e⟩⟩
   ·rw[hd]at g;cases g
   all_goals first | omega | exact e
  have e1:(t.step w).2.ws=upW w.ws (status s.p s.c s.m d) 4:=by
   rw[e]
   show(w.store t.c t.dat (putSt 4 0)).ws=_
   rw[store_ws,hdat,status_yes hm d0 d1];rfl
  have st:∀ e,0≤e→e<s.c→(t.step w).2.ws e.toNat=if e=d then 4 else w.ws e.toNat:=fun e a b=>by rw[e1];exact st_st hm a b d0 d1
  have e2:(t.step w).1.dn=true:=by rw[e];rfl
  exact fin (fun e a b ne=>by rw[st e a b,if_neg ne]) (fun _=>by rw[st d d0 d1,if_pos rfl]) (fun g=>by rw[e2]at g;cases g) (fun g=>by rw[e2]at g;cases g) fun g=>by rw[e2]at g;cases g
namespace Ti
variable {W:Wo} {c d:Int} {k:Cl}
theorem go (c:Int):∀ (n:Nat) {W:Wo},Ti W→Ti (W.go c n)
 | 0,_,h=>h
 |n+1,_,h=>by
  unfold Wo.go
  split
  ·exact go c n (h.act (Wo.fit0 h.wf))
  ·exact h
theorem ended (h:Ti W) (c:Int) (o:Op):Ti (W.ended c o):=by
 have h1:Ti (W.askd c o):=h.act (Wo.fit0 h.wf)
 unfold Wo.ended
 split
 ·exact h1
 ·split
  ·exact h1
  ·exact go c _ h1
def Idle (W:Wo):Prop:=∀ (d:Nat) k,W.k d=some k→k.busy=false
theorem adopt (h:Ti W) (hi:Idle W) (e:W.k c.toNat=some k) (c0:0≤c) (d0:0≤d) (d1:d<W.s.c) (dc:d≠c) (hd:W.w.ws d.toNat≠0) (hl:W.w.ws d.toNat≠1) :
  Ti (W.ended c ⟨4,d,0⟩)∧Idle (W.ended c ⟨4,d,0⟩)∧(W.ended c ⟨4,d,0⟩).s=W.s∧(∃ k',(W.ended c ⟨4,d,0⟩).k c.toNat=some k')∧(W.ended c ⟨4,d,0⟩).w.ws d.toNat=4∧∀ e,0≤e→e<W.s.c→e≠d→(W.ended c ⟨4,d,0⟩).w.ws e.toNat=W.w.ws e.toNat:=by
 have hm:=h.wf.m
 have hb:=(may_iff _ _ _).1 hm
 obtain⟨k1,k2,k3⟩:=h.wf.k _ _ e
 have k3:k.c=c:=by omega
 have c1:c<W.s.c:=by rw[← k2,← k3];exact k1.c1
 have ec:((c.toNat:Nat):Int)=c:=by omega
 have kb:=hi _ _ e
 have jn:=k1.jn kb
 obtain⟨l1,l2,l3⟩:=h.lv _ _ e
 rw[ec]at l2 l3
 rw[jn]at l2 l3
 have hon:Op.once W.s c ⟨4,d,0⟩ = false:=by
  unfold Op.once Op.bad Op.nom
  rw[status_yes hm d0 d1]
  have a1:decide (d<0)=false:=decide_eq_false (by omega)
  have a2:(d == c)=false:=beq_eq_false_iff_ne.2 dc
  simp [a1,a2]
 have nb:∀ e,0≤e→e<W.s.c→W.w.ws e.toNat≠3+16*c:=fun e e0 e1 g=>by
  obtain⟨t,t1,-⟩:=l3 e e0 e1 g
  cases t1
 have hx:W.w.ws d.toNat=2∨W.w.ws d.toNat=4∨∃ b,0≤b∧b<W.s.c∧W.w.ws d.toNat=3+16*b∧W.w.ws b.toNat≠1:=by
  rcases h.sx d d0 d1 with g | g | g | g |⟨b,b0,b1,g,z⟩
  ·exact absurd g hd
  ·exact absurd g hl
  ·exact .inl g
  ·exact .inr (.inl g)
  ·refine .inr (.inr ⟨b,b0,b1,g,fun z1=>?_⟩)
   cases eb:W.k b.toNat with
   | none=>exact(h.no b.toNat (by omega) eb).1 z1
   |some kb'=>
    have jn':=(h.wf.k _ _ eb).1.jn (hi _ _ eb)
    obtain⟨-,-,l3'⟩:=h.lv _ _ eb
    rw[jn',show((b.toNat:Nat):Int)=b by omega]at l3'
    obtain⟨t,t1,-⟩:=l3' d d0 d1 g
    cases t1
 obtain⟨x,hxw⟩:∃ x,W.w.ws d.toNat=x:=⟨_,rfl⟩
 rw[hxw]at hx
 have bad:Ad.bad W.s c d=false:=by
  unfold Ad.bad
  rw[status_yes hm d0 d1,status_yes hm c0 c1]
  simp;omega
 have h0:∃ t,Cl.start W.s c k.f ⟨4,d,0⟩ = .hr t∧AdP W.s c d x W.w.ws t W.w:=by
  refine⟨Ad.new W.s c d,rfl,rfl,⟨Ad.new_wf ..,rfl,rfl⟩,Ad.In.new hm c0 c1 d l2,fun e e0 e1 g=>absurd g (nb e e0 e1),h.wf.w,h.bs,h.sx,l1,fun _ _ _ _=>rfl,fun g=>?_,fun _ _=>hxw,fun _ g=>(by cases g),fun _ g=>(by cases g)⟩
  have g:Ad.bad W.s c d=true:=g
  rw[bad]at g;cases g
 obtain⟨-,j,⟨t,ej,hP⟩,ran,-⟩:=Wo.ended_run (s:=W.s) (I:=fun j w=>∃ t,j=.hr t∧AdP W.s c d x W.w.ws t w) (fun j w ⟨t,ej,hP⟩ hd=>by
  subst ej
  exact⟨_,rfl,hP.step hx d0 d1 dc hd⟩) h.wf rfl c0 c1 e kb (by show(1:Int)≤4;decide) (by show(4:Int)≤4;decide) hon h0
 subst ej
 obtain⟨k',e',b',-⟩:=ran.k'
 refine⟨h.ended c _,fun d' z ez=>?_,ran.s,⟨k',e'⟩,hP.dn ran.dn,hP.st⟩
 by_cases g:d'=c.toNat
 ·rw[g,e']at ez
  injection ez with ez;subst ez;exact b'
 ·rw[ran.o d' g]at ez;exact hi _ _ ez
def lot (W:Wo):Nat:=(110*W.s.p+4*W.s.m+60).toNat
theorem rest1 (h:Ti W) (e:W.k c.toNat=some k) (c0:0≤c):Ti (W.go c (lot W))∧(W.go c (lot W)).s=W.s∧(∃ k',(W.go c (lot W)).k c.toNat=some k'∧k'.busy=false)∧∀ d,d≠c.toNat→(W.go c (lot W)).k d=W.k d:=by
 have T:=go c (lot W) h
 obtain⟨k1,k2,k3⟩:=h.wf.k _ _ e
 cases hb:k.busy
 ·have eb:W.busy c=false:=by unfold Wo.busy;rw[e];exact hb
  rw[Wo.go_idle _ eb]
  exact⟨h,rfl,⟨k,e,hb⟩,fun _ _=>rfl⟩
 ·obtain⟨j,-,r⟩:=Wo.go_run (s:=W.s) (I:=fun _ _=>True) (c:=c) (fun _ _ _ _=>trivial) (lot W) h.wf rfl c0 (by rw[← k2,show c=k.c by omega];exact k1.c1) e hb trivial (by
   have:=(k1.jb hb).2.2.1
   unfold lot
   have hb:=(may_iff _ _ _).1 h.wf.m
   omega)
  obtain⟨k',e',b',-⟩:=r.k'
  exact⟨T,r.s,⟨k',e',b'⟩,r.o⟩
def restN (W:Wo):List Nat→Wo:=List.foldl (fun V c=>V.go c (lot V)) W
theorem restN_ok:∀ (l:List Nat) {W:Wo},Ti W→(∀ c,c∈l→∃ k,W.k c=some k)→Ti (restN W l)∧(restN W l).s=W.s∧(∀ d,((restN W l).k d).isSome=(W.k d).isSome)∧∀ d k,(restN W l).k d=some k→(d∈l∨∃ k0,W.k d=some k0∧k0.busy=false)→k.busy=false
 | [],W,h,_=>⟨h,rfl,fun _=>rfl,fun d k e g=>by
  rcases g with g |⟨k0,g,b⟩
  ·cases g
  ·have e:W.k d=some k:=e
   rw[g]at e;injection e with e;subst e;exact b⟩
 |c :: l,W,h,hl=>by
  obtain⟨k,e⟩:=hl c List.mem_cons_self
  obtain⟨h1,h2,⟨k',h3,h4⟩,h5⟩:=h.rest1 (c:=c) (k:=k) (by rw[Int.toNat_natCast];exact e) (by omega)
  rw[Int.toNat_natCast]at h3 h5
  obtain⟨g1,g2,g3,g4⟩:=restN_ok l (W:=W.go c (lot W)) h1 (fun d hd=>by
   by_cases z:d=c
   ·subst z;exact⟨k',h3⟩
   ·rw[h5 d z];exact hl d (List.mem_cons_of_mem _ hd))
  refine⟨g1,g2.trans h2,fun d=>?_,fun d y ey g=>?_⟩
  ·rw[show restN W (c :: l)=restN (W.go c (lot W)) l from rfl,g3 d]
   by_cases z:d=c
   ·subst z;rw[h3,e];rfl
   ·rw[h5 d z]
  ·refine g4 d y ey ?_
   by_cases z:d=c
   ·subst z;exact .inr ⟨k',h3,h4⟩
   ·rcases g with g |⟨k0,g,b⟩
    ·rcases List.mem_cons.1 g with g | g
     ·exact absurd g z
     ·exact .inl g
    ·exact .inr ⟨k0,by rw[h5 d z];exact g,b⟩
def adN (c:Int) (W:Wo):Nat→Wo
 | 0=>W
 | n+1=>if(n:Int)≠c∧1<(adN c W n).stk n then(adN c W n).ended c ⟨4,n,0⟩ else adN c W n
theorem adN_ok (h:Ti W) (hi:Idle W) (e:W.k c.toNat=some k) (c0:0≤c):∀ n:Nat,(n:Int)≤W.s.c→Ti (adN c W n)∧Idle (adN c W n)∧(adN c W n).s=W.s∧(∃ k',(adN c W n).k c.toNat=some k')∧∀ d:Int,0≤d→d<n→d≠c→(adN c W n).w.ws d.toNat=0∨(adN c W n).w.ws d.toNat=1∨(adN c W n).w.ws d.toNat=4
 | 0,_=>⟨h,hi,rfl,⟨k,e⟩,fun d d0 d1=>by omega⟩
 |n+1,hn=>by
  obtain⟨h1,h2,h3,⟨k',h4⟩,h5⟩:=adN_ok h hi e c0 n (by omega)
  have st:((adN c W n).stk n≤1∧((adN c W n).w.ws (n:Int).toNat=0∨(adN c W n).w.ws (n:Int).toNat=1))∨(1<(adN c W n).stk n∧(adN c W n).w.ws (n:Int).toNat≠0∧(adN c W n).w.ws (n:Int).toNat≠1):=by
   rcases h1.stk_eq (c:=n) (by omega) (by rw[h3];omega) with⟨a,b⟩|⟨a,b⟩|⟨a,b⟩|⟨a,b⟩|⟨a,x,x0,-,b,-⟩<;>omega
  unfold adN
  by_cases g:(n:Int)≠c∧1<(adN c W n).stk n
  ·rw[if_pos g]
   obtain⟨a1,a2,a3,a4,a5,a6⟩:=h1.adopt h2 h4 c0 (d:=n) (by omega) (by rw[h3];omega) g.1 (by omega) (by omega)
   refine⟨a1,a2,a3.trans h3,a4,fun d d0 d1 dc=>?_⟩
   by_cases z:d=n
   ·rw[z];exact .inr (.inr a5)
   ·rw[a6 d d0 (by rw[h3];omega) z];exact h5 d d0 (by omega) dc
  ·rw[if_neg g]
   refine⟨h1,h2,h3,⟨k',h4⟩,fun d d0 d1 dc=>?_⟩
   by_cases z:d=n
   ·rw[z]
    have:¬ 1<(adN c W n).stk n:=fun k=>g ⟨by rw[← z];exact dc,k⟩
    omega
   ·exact h5 d d0 (by omega) dc
structure Qz (W:Wo):Prop where
 ti:Ti W
 id:Idle W
 st:∀ d,0≤d→d<W.s.c→W.w.ws d.toNat=0∨W.w.ws d.toNat=1∨W.w.ws d.toNat=4
theorem Qz.own (h:Qz W) (d0:0≤d) (d1:d<W.s.c):Own W.s W.w.ws d nil:=by
 have ed:((d.toNat:Nat):Int)=d:=by omega
 rcases h.st d d0 d1 with g | g | g
 ·exact(h.ti.nl d d0 d1 (.inl g)).own h.ti.wf.m h.ti.bs d0 d1
 ·cases e:W.k d.toNat with
  | none=>exact absurd g (h.ti.no d.toNat (by omega) e).1
  |some k=>
   obtain⟨-,l2,-⟩:=h.ti.lv _ _ e
   rw[(h.ti.wf.k _ _ e).1.jn (h.id _ _ e),ed]at l2
   exact l2
 ·exact(h.ti.nl d d0 d1 (.inr g)).own h.ti.wf.m h.ti.bs d0 d1
theorem Qz.page (h:Qz W) {q:Int} (q0:0≤q) (q1:q<W.s.p):okPg W.s q (pgAt W.s W.w.ws q)=true∧pgK W.s q (pgAt W.s W.w.ws q)≠1:=by
 have hm:=h.ti.wf.m
 have hb:=(may_iff _ _ _).1 hm
 refine⟨word_ok hm h.ti.bs q0 q1,?_⟩
 rcases (h.ti.bs.pg q q0 q1).word (by omega) with z |⟨c',a,b,z⟩|⟨k,z⟩|⟨n,n1,n8,nq,z⟩|⟨y,y0,y1,y2,z⟩
 ·rw[z,(rd_0 hm q0 q1).2.1];decide
 ·exact(((h.own a b).pg q q0 q1).1 z).elim
 ·rw[(rd_s hm q0 q1 z).2.1];decide
 ·rw[z,(rd_l hm q0 q1 n1 n8 nq).2.1];decide
 ·rw[z,(rd_b hm q1 y0 y1 y2).2.1];decide
end Ti
end Go.Ma
namespace Go.Ma
open Go.Pl
open Ow
namespace Kt
section
variable {s:Sh} {ws:Nat→Int} {d:Int}
def ent (s:Sh) (ws:Nat→Int) (d:Int) (j:Nat):Int:=if okEn s (mgAt s ws d j) then size (enK s (mgAt s ws d j)) else 0
def eq' (s:Sh) (ws:Nat→Int) (d:Int) (j:Nat):Int:=(mgAt s ws d j / 16) % 256
def ei (s:Sh) (ws:Nat→Int) (d:Int) (j:Nat):Int:=(mgAt s ws d j / 4096) % 256
theorem ent_cs (hm:may s.p s.c s.m=true) (hB:Bs s ws) (d0:0≤d) (d1:d<s.c) {j:Nat} (j1:(j:Int)<s.m):ent s ws d j=0∨∃ k,0≤eq' s ws d j∧eq' s ws d j<s.p∧0≤ei s ws d j∧ei s ws d j<slots k ∧
  mgAt s ws d j=1+16*eq' s ws d j+4096*ei s ws d j+1048576*k∧Sup s k (pgAt s ws (eq' s ws d j))∧slAt s ws (eq' s ws d j) (ei s ws d j)=2+16*d∧ent s ws d j=size k:=by
 have hb:=(may_iff _ _ _).1 hm
 by_cases hz:mgAt s ws d j=0
 ·left
  unfold ent
  rw[hz,if_neg]
  intro g
  unfold okEn at g
  simp [pt,putEn]at g
 ·right
  obtain⟨p,i,k,p0,p1,i0,i1,e,sp,sl⟩:=hB.mg d j d0 d1 (by omega) j1 hz
  have kb:=sp.bd
  have sb:=slots_bd k
  have e1:eq' s ws d j=p:=by unfold eq';rw[e];omega
  have e2:ei s ws d j=i:=by unfold ei;rw[e];omega
  rw[e1,e2]
  have hp:putEn p i k=1+16*p+4096*i+1048576*k:=by
   unfold putEn;rw[if_pos (by omega)]
  obtain⟨o1,-,-,o4,-⟩:=en_put hm p0 p1 i0 i1 kb.1 kb.2
  rw[hp,← e]at o1 o4
  refine⟨k,p0,p1,i0,i1,e,sp,sl,?_⟩
  unfold ent
  rw[if_pos o1,o4]
theorem ent_at (hm:may s.p s.c s.m=true) (hB:Bs s ws) (d0:0≤d) (d1:d<s.c) (ow:Own s ws d nil) {q k i:Int} (q0:0≤q) (q1:q<s.p) (hk:Sup s k (pgAt s ws q)) (i0:0≤i) (i1:i<slots k) :
  sm (fun j=>if eq' s ws d j=q∧ei s ws d j=i then ent s ws d j else 0) s.m.toNat=if slAt s ws q i=2+16*d then size k else 0:=by
 have hb:=(may_iff _ _ _).1 hm
 have sb:=slots_bd k
 by_cases g:slAt s ws q i=2+16*d
 ·rw[if_pos g]
  obtain⟨j0,k',a0,a1,b0,b1,e⟩:=((ow.sl q i q0 q1 i0 (by omega)).1 ⟨⟨k,hk⟩,g⟩).resolve_left fun z=>z
  have ej:((j0.toNat:Nat):Int)=j0:=by omega
  have h1:=sm_one j0.toNat (size k) s.m.toNat
  rw[if_pos (by omega)]at h1
  rw[← h1]
  refine sm_eq fun j hj=>?_
  (try dsimp only)
  by_cases z:j=j0.toNat
  ·subst z
   have nz:mgAt s ws d (j0.toNat:Nat)≠0:=by rw[ej,e];omega
   have e1:eq' s ws d j0.toNat=q:=by unfold eq';rw[ej,e];omega
   have e2:ei s ws d j0.toNat=i:=by unfold ei;rw[ej,e];omega
   rw[if_pos ⟨e1,e2⟩,if_pos rfl]
   rcases ent_cs hm hB d0 d1 (j:=j0.toNat) (by omega) with h |⟨k2,-,-,-,-,-,h6,-,h8⟩
   ·exfalso
    obtain⟨p,i',k3,p0,p1,x0,x1,e',sp,sl⟩:=hB.mg d j0 d0 d1 a0 a1 (by rw[← ej];exact nz)
    have kb:=sp.bd
    have hp:putEn p i' k3=1+16*p+4096*i'+1048576*k3:=by
     have:=slots_bd k3
     unfold putEn;rw[if_pos (by omega)]
    obtain⟨o1,-,-,o4,-⟩:=en_put hm p0 p1 x0 x1 kb.1 kb.2
    rw[hp,← e']at o1 o4
    unfold ent at h
    rw[ej,if_pos o1,o4]at h
    have:=sup_size sp
    omega
   ·rw[e1]at h6
    have:=Sup.inj hb.2.2.2.1 h6 hk
    rw[h8,this]
  ·rw[if_neg z]
   by_cases y:eq' s ws d j=q∧ei s ws d j=i
   ·rw[if_pos y]
    rcases ent_cs hm hB d0 d1 (j:=j) (by omega) with h |⟨k2,-,-,-,-,h5,h6,-,h8⟩
    ·exact h
    ·exfalso
     rw[y.1,y.2]at h5
     rw[y.1]at h6
     have k2k:=Sup.inj hb.2.2.2.1 h6 hk
     obtain⟨p,i',k3,p0,p1,x0,x1,e',sp,sl⟩:=hB.mg d j0 d0 d1 a0 a1 (by rw[e];omega)
     have s3:=slots_bd k3
     have kb3:=sp.bd
     have pq:p=q:=by omega
     rw[pq]at sp
     have k3k:=Sup.inj hb.2.2.2.1 sp hk
     have:=hB.uq d j j0 d0 d1 (by omega) (by omega) a0 a1 (by rw[h5];have:=h6.bd;omega) (by rw[h5,e'];omega)
     omega
   ·rw[if_neg y]
 ·rw[if_neg g]
  refine(sm_eq (g:=fun _=>0) fun j hj=>?_).trans (sm_0 _)
  (try dsimp only)
  by_cases y:eq' s ws d j=q∧ei s ws d j=i
  ·rw[if_pos y]
   rcases ent_cs hm hB d0 d1 (j:=j) (by omega) with h |⟨k2,-,-,-,-,-,-,h7,-⟩
   ·exact h
   ·rw[y.1,y.2]at h7;exact absurd h7 g
  ·rw[if_neg y]
theorem ent_way (hm:may s.p s.c s.m=true) (hB:Bs s ws) (d0:0≤d) (d1:d<s.c) (ow:Own s ws d nil) {q k:Int} (q0:0≤q) (q1:q<s.p) (hk:Sup s k (pgAt s ws q)):∀ i:Nat,(i:Int)≤slots k →
  wayS d s ws q k i=sm (fun j=>if eq' s ws d j=q∧ei s ws d j<i then ent s ws d j else 0) s.m.toNat
 | 0,_=>by
  rw[sm_eq (g:=fun _=>0) fun j _=>?_]
  ·rw[sm_0];rfl
  ·(try dsimp only)
   rw[if_neg]
   rintro⟨-,z⟩
   have:0≤ei s ws d j:=by unfold ei;omega
   omega
 |i+1,hi=>by
  have h1:=ent_way hm hB d0 d1 ow q0 q1 hk i (by omega)
  have h2:=ent_at hm hB d0 d1 ow q0 q1 hk (i:=i) (by omega) (by omega)
  have sw:=sl_way (d:=d) hm hB q0 q1 hk (i:=i) (by omega) (by omega) d0 d1
  show wayS d s ws q k i+(if slK (slAt s ws q i)=2∧slA (slAt s ws q i)=d then size k else 0)=_
  have e:(if slK (slAt s ws q i)=2∧slA (slAt s ws q i)=d then size k else 0)=if slAt s ws q i=2+16*d then size k else 0:=by
   by_cases z:slAt s ws q i=2+16*d
   ·rw[if_pos z,if_pos (sw.2 ⟨⟨k,hk⟩,z⟩)]
   ·rw[if_neg z,if_neg fun y=>z (sw.1 y).2]
  rw[e,h1,← h2,← sm_add]
  refine sm_eq fun j _=>?_
  (try dsimp only)
  by_cases a:eq' s ws d j=q
  ·rcases (by omega:ei s ws d j<i∨ei s ws d j=i∨(i:Int)<ei s ws d j) with b | b | b
   ·rw[if_pos ⟨a,b⟩,if_neg (fun z=>by have:=z.2;omega),if_pos ⟨a,by omega⟩];omega
   ·rw[if_neg (fun z=>by have:=z.2;omega),if_pos ⟨a,b⟩,if_pos ⟨a,by omega⟩];omega
   ·rw[if_neg (fun z=>by have:=z.2;omega),if_neg (fun z=>by have:=z.2;omega),if_neg (fun z=>by have:=z.2;omega)];rfl
  ·rw[if_neg (fun z=>a z.1),if_neg (fun z=>a z.1),if_neg (fun z=>a z.1)];rfl
theorem ent_page (hm:may s.p s.c s.m=true) (hB:Bs s ws) (d0:0≤d) (d1:d<s.c) (ow:Own s ws d nil) {q:Int} (q0:0≤q) (q1:q<s.p):mineP d s ws q=sm (fun j=>if eq' s ws d j=q then ent s ws d j else 0) s.m.toNat:=by
 have hb:=(may_iff _ _ _).1 hm
 have none:¬ (∃ k,Sup s k (pgAt s ws q))→sm (fun j=>if eq' s ws d j=q then ent s ws d j else 0) s.m.toNat=0:=fun g=>by
  refine(sm_eq (g:=fun _=>0) fun j hj=>?_).trans (sm_0 _)
  (try dsimp only)
  by_cases y:eq' s ws d j=q
  ·rw[if_pos y]
   rcases ent_cs hm hB d0 d1 (j:=j) (by omega) with h |⟨k2,-,-,-,-,-,h6,-,-⟩
   ·exact h
   ·rw[y]at h6;exact absurd ⟨k2,h6⟩ g
  ·rw[if_neg y]
 obtain⟨ok,⟨g,gk,c,c0,c1,g2,g3⟩|⟨g,g2⟩|⟨g,k,g1,g2,g3⟩⟩:=pg_cn hm hB q0 q1
 ·rw[none (fun ⟨k,z⟩=>by
   have:=z.mod
   rcases g3 with g3 |⟨h',-,-,g3,-⟩<;>omega)]
  unfold mineP
  rw[if_pos g,g2,if_neg]
  rintro rfl
  rcases g3 with g3 |⟨h',h0,h1,g3⟩
  ·exact((ow.pg q q0 q1).1 g3).elim
  ·exact((ow.pg h' h0 h1).1 g3.2).elim
 ·rw[none (fun ⟨k,z⟩=>by have:=(rd_s hm q0 q1 z).2.1;omega)]
  unfold mineP
  rw[if_neg (by rw[g];decide),if_neg (by omega)]
 ·have z:=sup_size g3
  have h1:=ent_way hm hB d0 d1 ow q0 q1 g3 (slots k).toNat (by omega)
  have pc:mineP d s ws q=wayS d s ws q k (slots k).toNat:=by
   unfold mineP;rw[if_neg (by rw[g];decide),if_pos g1,g2]
  rw[pc,h1]
  refine sm_eq fun j hj=>?_
  (try dsimp only)
  by_cases y:eq' s ws d j=q
  ·rw[if_pos y]
   rcases ent_cs hm hB d0 d1 (j:=j) (by omega) with h |⟨k2,-,-,-,h4,-,h6,-,-⟩
   ·rw[h];split<;>rfl
   ·rw[y]at h6
    have:=Sup.inj hb.2.2.2.1 h6 g3
    rw[if_pos ⟨y,by rw[this]at h4;omega⟩]
  ·rw[if_neg y,if_neg fun z=>y z.1]
theorem ent_all (hm:may s.p s.c s.m=true) (hB:Bs s ws) (d0:0≤d) (d1:d<s.c) (ow:Own s ws d nil):∀ n:Nat,(n:Int)≤s.p→mineN d s ws n=sm (fun j=>if eq' s ws d j<n then ent s ws d j else 0) s.m.toNat
 | 0,_=>by
  rw[sm_eq (g:=fun _=>0) fun j _=>?_]
  ·rw[sm_0];rfl
  ·(try dsimp only)
   rw[if_neg]
   have:0≤eq' s ws d j:=by unfold eq';omega
   omega
 |n+1,hn=>by
  have h1:=ent_all hm hB d0 d1 ow n (by omega)
  have h2:=ent_page hm hB d0 d1 ow (q:=n) (by omega) (by omega)
  show mineN d s ws n+mineP d s ws n=_
  rw[h1,h2,← sm_add]
  refine sm_eq fun j _=>?_
  (try dsimp only)
  rcases (by omega:eq' s ws d j<n∨eq' s ws d j=n∨(n:Int)<eq' s ws d j) with b | b | b
  ·rw[if_pos b,if_neg (by omega),if_pos (by omega)];omega
  ·rw[if_neg (by omega),if_pos b,if_pos (by omega)];omega
  ·rw[if_neg (by omega),if_neg (by omega),if_neg (by omega)];rfl
theorem ent_mine (hm:may s.p s.c s.m=true) (hB:Bs s ws) (d0:0≤d) (d1:d<s.c) (ow:Own s ws d nil):mineN d s ws s.p.toNat=sm (ent s ws d) s.m.toNat:=by
 have hb:=(may_iff _ _ _).1 hm
 rw[ent_all hm hB d0 d1 ow s.p.toNat (by omega)]
 refine sm_eq fun j hj=>?_
 (try dsimp only)
 rcases ent_cs hm hB d0 d1 (j:=j) (by omega) with h |⟨k2,-,h2,-⟩
 ·rw[h];split<;>rfl
 ·rw[if_pos (by omega)]
end
end Kt
namespace Ti
variable {W:Wo}
theorem Qz.count (h:Qz W) {liv:Int→Bool} (hl:∀ c,0≤c→c<W.s.c→(liv c=true↔W.w.ws c.toNat=1)):(Cn.all liv W.s W.w.ws W.s.p.toNat).lo=0 ∧
  (Cn.all liv W.s W.w.ws W.s.p.toNat).li=Kt.sm (fun d=>Kt.sm (Kt.ent W.s W.w.ws d) W.s.m.toNat) W.s.c.toNat ∧
  (Cn.all liv W.s W.w.ws W.s.p.toNat).fr+(Cn.all liv W.s W.w.ws W.s.p.toNat).ta+(Cn.all liv W.s W.w.ws W.s.p.toNat).li=W.s.p*64:=by
 have hm:=h.ti.wf.m
 have hb:=(may_iff _ _ _).1 hm
 obtain⟨h1,h2,h3⟩:=Kt.cn_all liv hm h.ti.bs W.s.p.toNat (by omega)
 have z0:∀ c:Nat,(c:Int)<W.s.c→liv c=false→Kt.mineN c W.s W.w.ws W.s.p.toNat=0:=fun c c1 hv=>by
  have ec:((c:Int)).toNat=c:=by omega
  have:=h.st c (by omega) c1
  rw[ec]at this
  refine h.ti.held0 (c:=c) (by omega) c1 ?_
  rw[ec]
  rcases this with g | g | g
  ·exact .inl g
  ·have:=(hl c (by omega) c1).2 (by rw[ec];exact g)
   rw[hv]at this;cases this
  ·exact .inr g
 have lo:(Cn.all liv W.s W.w.ws W.s.p.toNat).lo=0:=by
  rw[h1]
  unfold Kt.mineA
  refine(Kt.sm_eq (g:=fun _=>0) fun c hc=>?_).trans (Kt.sm_0 _)
  (try dsimp only)
  by_cases hv:liv c=true
  ·rw[if_neg (by rw[hv];decide)]
  ·have hv:liv c=false:=by simpa using hv
   rw[if_pos (by rw[hv];decide)];exact z0 c (by omega) hv
 refine⟨lo,?_,by omega⟩
 rw[h2]
 unfold Kt.mineA
 refine Kt.sm_eq fun c hc=>?_
 (try dsimp only)
 have e:=Kt.ent_mine hm h.ti.bs (d:=c) (by omega) (by omega) (h.own (d:=c) (by omega) (by omega))
 by_cases hv:liv c=true
 ·rw[if_pos hv,e]
 ·have hv:liv c=false:=by simpa using hv
  rw[if_neg (by rw[hv];decide),← e,z0 c (by omega) hv]
end Ti
end Go.Ma
namespace Go.Ma
open Go.Pl
open Ow
namespace Ti
variable {W:Wo} {x:Ch} {c:Int} {k:Cl}
theorem k_other {d:Nat} (h:W.wf) (ne:x.c≠(d:Int)):(W.act x).1.k d=W.k d:=by
 unfold Wo.act
 by_cases g0:x.k<1∨4<x.k∨W.sat x.c<0
 ·rw[if_pos g0]
 rw[if_neg g0]
 obtain⟨c0,c1,c2⟩:=Wo.sat_bd (c:=x.c) h (by omega)
 have nd:d≠x.c.toNat:=by omega
 have pt:∀ o,W.put x.c o d=W.k d:=fun o=>by unfold Wo.put;rw[if_neg nd]
 by_cases g1:x.k=1
 ·rw[if_pos g1]
  unfold Wo.start
  split
  ·rfl
  ·exact pt _
 rw[if_neg g1]
 cases e:W.k x.c.toNat with
 | none=>rfl
 |some k=>
  dsimp only
  split
  ·exact pt _
  ·split
   ·exact pt _
   ·exact pt _
theorem stay0 (h:Ti W) (hx:W.fit x) (c0:0≤c) (c1:c<W.s.c) (ne:x.c≠c) (z:W.w.ws c.toNat=0):(W.act x).1.w.ws c.toNat=0:=by
 refine Classical.byContradiction fun g0=>?_
 have T:=h.act hx
 have s1:=Wo.act_s (W:=W) (x:=x)
 have ek:=k_other (W:=W) (x:=x) (d:=c.toNat) h.wf (by omega)
 by_cases g1:(W.act x).1.w.ws c.toNat=1
 ·cases e:(W.act x).1.k c.toNat with
  | none=>exact(T.no c.toNat (by rw[s1];omega) e).1 g1
  |some k=>
   rw[ek]at e
   have:=(h.lv _ _ e).1
   omega
 ·have:=h.dead hx c0 c1 g0 g1
  omega
theorem begins (h:Ti W) (c0:0≤c) (c1:c<W.s.c) (z:W.w.ws c.toNat=0) {b:Int} (hb:0≤b∧b<W.s.p) (o:Op):Ti (W.act ⟨1,c,o,b⟩).1∧∃ k,(W.act ⟨1,c,o,b⟩).1.k c.toNat=some k:=by
 have T:=h.act (x:=⟨1,c,o,b⟩) ⟨hb.1,hb.2⟩
 refine⟨T,?_⟩
 have hs:W.stk c=0:=by
  rcases h.stk_eq c0 c1 with⟨a,-⟩|⟨-,b⟩|⟨-,b⟩|⟨-,b⟩|⟨-,y,y0,-,b,-⟩
  ·exact a
  all_goals omega
 have ht:=status_yes h.wf.m c0 c1
 unfold Wo.act
 rw[if_neg (by show ¬ ((1:Int)<1∨(4:Int)<1∨W.sat c<0);unfold Wo.sat;rw[ht];omega),if_pos rfl]
 unfold Wo.start
 dsimp only
 rw[if_neg (by rw[hs];decide)]
 exact⟨_,by show(if c.toNat=c.toNat then _ else _)=_;rw[if_pos rfl]⟩
theorem quiet (h:Ti W) (e:W.k c.toNat=some k) (c0:0≤c) {A:List Nat} (hA:∀ d,d∈A↔(d:Int)<W.s.c∧(W.k d).isSome=true):Qz (adN c (restN W A) W.s.c.toNat)∧(adN c (restN W A) W.s.c.toNat).s=W.s:=by
 obtain⟨g1,g2,g3,g4⟩:=restN_ok A h fun d hd=>Option.isSome_iff_exists.1 ((hA d).1 hd).2
 have hb:=(may_iff _ _ _).1 h.wf.m
 have idl:Idle (restN W A):=fun d kd ed=>by
  refine g4 d kd ed (.inl ((hA d).2 ⟨?_,?_⟩))
  ·obtain⟨w1,w2,w3⟩:=g1.wf.k d kd ed
   have:=w1.c1
   rw[w2,g2,w3]at this;exact this
  ·rw[← g3 d,ed];rfl
 obtain⟨kv,hkv⟩:∃ kv,(restN W A).k c.toNat=some kv:=Option.isSome_iff_exists.1 (by rw[g3,e];rfl)
 obtain⟨t1,t2,t3,⟨k',t4⟩,t5⟩:=adN_ok g1 idl hkv c0 W.s.c.toNat (by rw[g2];omega)
 refine⟨⟨t1,t2,fun d d0 d1=>?_⟩,t3.trans g2⟩
 rw[t3,g2]at d1
 by_cases z:d=c
 ·rw[z];exact .inr (.inl (t1.lv _ _ t4).1)
 ·exact t5 d d0 (by omega) z
end Ti
end Go.Ma
