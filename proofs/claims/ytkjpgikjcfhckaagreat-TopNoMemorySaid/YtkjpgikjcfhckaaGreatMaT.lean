/-
What each machine of a client has, among many, and what a step of it does. Conditions: none.
-/
import Derived.Test.YtkjpgikjcfhckaaGreatMaO
import Derived.Test.YtkjpgikjcfhckaaGreatMaW
import Derived.Test.YtkjpgikjcfhckaaGreatMaHeap
set_option linter.unusedVariables false
set_option linter.unusedSectionVars false
set_option linter.unusedSimpArgs false
namespace Go.Ma
open Go.Pl
open Ow
namespace Ow
structure Sq (s:Sh) (c:Int) (ws ws':Nat→Int):Prop where
 bs:Bs s ws'
 re:∀ c',0≤c'→c'<s.c→c'≠c→Rel s c' ws ws'
 mw:Mw s c ws ws'
theorem Nx.sq {s:Sh} {c:Int} {ws ws':Nat→Int} {o:Ho} (h:Nx s c ws ws' o):Sq s c ws ws':=⟨h.bs,h.re,h.mw⟩
theorem Sq.refl {s:Sh} {ws:Nat→Int} (c:Int) (h:Bs s ws):Sq s c ws ws:=⟨h,fun c' _ _ _=>Rel.refl s c' ws,Mw.refl s c ws⟩
def Nr (a:Int) (o:Ho):Prop:=(∀ q,o.hp q→a≤q∧q<a+8)∧(∀ q h,o.hb q h→a≤q∧q<a+8)∧∀ q i,o.hs q i→a≤q∧q<a+8
theorem Nr.nil (a:Int):Nr a nil:=⟨fun _ e=>e.elim,fun _ _ e=>e.elim,fun _ _ e=>e.elim⟩
theorem Nr.one (p i:Int):Nr p (one p i):=⟨fun _ e=>e.elim,fun _ _ e=>e.elim,fun q _ e=>by have:q=p:=e.1;omega⟩
theorem Nr.rw6 {p i n:Int} (h:n≤8) (i0:0≤i):Nr p (rw6 p i n):=⟨fun q e=>by have:q=p:=e;omega,fun q h' e=>by have:h'=p∧p+i<q∧q<p+n:=e;omega,fun _ _ e=>e.elim⟩
theorem Nr.ofB {s:Sh} {c:Int} {b:Bk} (h:b.Fit s c):Nr b.p (ofB b):=by
 unfold Ow.ofB
 split
 ·rename_i e;exact Nr.rw6 (h.l e).2.1 (Int.le_refl _)
 ·exact Nr.one ..
theorem ofB_cl {b:Bk}:∀ q h,(ofB b).hb q h→(ofB b).hp h:=by
 unfold ofB
 split
 ·intro q h e;exact e.1
 ·intro q h e;exact e.elim
theorem ofB_rg {s:Sh} {c:Int} {b:Bk} (h:b.Fit s c):∀ q,(ofB b).hp q→0≤q∧q<s.p:=by
 unfold ofB
 split
 ·intro q e;have:q=b.p:=e;have:=h.p0;have:=h.p1;omega
 ·intro q e;exact e.elim
end Ow
namespace Sk
theorem In.near {s:Sh} {c:Int} {t:Sk} {ws:Nat→Int} (h:In s c t ws):∃ a,Nr a t.ho:=by
 unfold ho
 split
 ·split
  ·exact⟨_,Nr.one ..⟩
  ·exact⟨0,Nr.nil 0⟩
 ·split
  ·rename_i m e
   exact⟨m.p,fun q e=>by have:q=m.p:=e.2;omega,fun _ _ e=>e.elim,fun q i e=>by have:q=m.p:=e.2.1;omega⟩
  ·rename_i m e
   exact⟨m.p,fun q e=>by have:q=m.p:=e.2;omega,fun _ _ e=>e.elim,fun q i e=>by have:q=m.p:=e.2.1;omega⟩
  ·exact⟨0,Nr.nil 0⟩
end Sk
namespace Rn
theorem In.near {s:Sh} {c:Int} {t:Rn} {ws:Nat→Int} (h:In s c t ws):∃ a,Nr a t.ho:=by
 cases hd:t.dn
 ·obtain⟨-,-,ar⟩:=h.wf.of hd
  unfold Ar at ar
  refine⟨t.hd,?_⟩
  unfold ho
  rw[if_neg (by rw[hd];decide)]
  split
  ·exact⟨fun q e=>by have:t.hd≤q∧q<t.at':=e;omega,fun _ _ e=>e.elim,fun _ _ e=>e.elim⟩
  split
  ·rename_i e2
   obtain⟨q',e,-,-,-,-,p1,-⟩:=h.wf.q hd e2
   rw[e]
   refine⟨fun q e=>by have:t.hd≤q∧q<t.at':=e;omega,fun _ _ e=>e.elim,fun q i e=>?_⟩
   have:q'.hd=false∧q=q'.p∧0≤i∧i<q'.i:=e
   omega
  split
  ·exact⟨fun q e=>by have:t.hd≤q∧q<t.at'+1:=e;omega,fun _ _ e=>e.elim,fun _ _ e=>e.elim⟩
  split
  ·exact⟨fun q e=>by have:t.hd≤q∧q<t.i:=e;omega,fun _ _ e=>e.elim,fun _ _ e=>e.elim⟩
  ·exact⟨fun q e=>by have:q=t.hd∨(t.i≤q∧q<t.hd+t.n):=e;omega,fun q h e=>by have:h=t.hd∧t.hd<q∧q<t.i:=e;omega,fun _ _ e=>e.elim⟩
 ·unfold ho
  rw[if_pos hd]
  split
  ·rename_i hf
   have:=h.fb hf
   exact⟨t.hd,fun q e=>by have:q=t.hd∨(t.hd+t.n≤q∧q<t.hd+t.n):=e;omega,fun q h e=>by have:h=t.hd∧t.hd<q∧q<t.hd+t.n:=e;omega,fun _ _ e=>e.elim⟩
  ·exact⟨0,Nr.nil 0⟩
end Rn
namespace Rv
def ho:Rv→Ho
 | .sk t=>t.ho
 | .rn t=>t.ho
 | .no=>nil
def In (s:Sh) (c:Int) (t:Rv) (ws:Nat→Int):Prop:=match t with
 | .sk t=>Sk.In s c t ws
 | .rn t=>Rn.In s c t ws
 | .no=>Own s ws c nil
section
variable {s:Sh} {c:Int} {t:Rv} {w:Wd} {ws ws':Nat→Int}
theorem In.own (h:In s c t ws):Own s ws c t.ho:=by
 cases t with
 | sk t=>exact Sk.In.ow h
 | rn t=>exact Rn.In.ow h
 | no=>exact h
theorem In.near (h:In s c t ws):∃ a,Nr a t.ho:=by
 cases t with
 | sk t=>exact Sk.In.near h
 | rn t=>exact Rn.In.near h
 | no=>exact⟨0,Nr.nil 0⟩
theorem In.step (h:In s c t w.ws) (hB:Bs s w.ws):Nx s c w.ws (t.step w).2.ws (t.step w).1.ho∧In s c (t.step w).1 (t.step w).2.ws:=by
 cases t with
 | sk t=>exact Sk.In.step h hB
 | rn t=>exact Rn.In.step h hB
 | no=>exact⟨Nx.id hB h,h⟩
theorem In.rel (h:In s c t ws) (r:Rel s c ws ws'):In s c t ws':=by
 cases t with
 | sk t=>exact Sk.In.rel h r
 | rn t=>exact Rn.In.rel h r
 | no=>exact Own.rel h r
theorem In.new (hm:may s.p s.c s.m=true) (c0:0≤c) (c1:c<s.c) (n f:Int) (ow:Own s ws c nil):In s c (Rv.new s c n f) ws:=by
 unfold Rv.new
 split
 ·exact Sk.In.new hm c0 c1 _ _ ow
 ·split
  ·exact Rn.In.new hm c0 c1 _ ow
  ·exact ow
theorem In.found (h:In s c t ws) (hd:t.dn=true) (hf:t.fd=true):t.bk.Fit s c∧FtB s t.bk ws∧Own s ws c (ofB t.bk):=by
 cases t with
 | no=>cases hf
 |sk q=>
  have h:Sk.In s c q ws:=h
  have hf:q.fd=true:=hf
  have hd:q.dn=true:=hd
  have e:(Rv.sk q).bk=⟨false,q.pg,q.sl,q.k,0⟩:=by unfold Rv.bk;simp only[hf,if_true]
  rw[e]
  obtain⟨p0,p1,s0,s1,hs,hw⟩:=h.fin hd hf
  have ow:=h.ow
  rw[Sk.ho_bk hd hf]at ow
  exact⟨⟨h.m,h.c0,h.c1,p0,p1,fun g=>(by cases g),fun _=>⟨s0,s1⟩⟩,⟨fun g=>(by cases g),fun _=>hs⟩,ow⟩
 |rn q=>
  have h:Rn.In s c q ws:=h
  have hf:q.fd=true:=hf
  have hd:q.dn=true:=hd
  have e:(Rv.rn q).bk=⟨true,q.hd,0,0,q.n⟩:=by unfold Rv.bk;simp only[hf,if_true]
  rw[e]
  obtain⟨h0,n1,n8,hn⟩:=h.fb hf
  have hbk:=Rn.ho_bk hd hf
  have ow:=h.ow.congr hbk.p hbk.b hbk.s
  have hp:q.ho.hp q.hd:=by rw[Rn.ho_f hd hf];exact .inl rfl
  exact⟨⟨h.m,h.c0,h.c1,h0,by show q.hd<s.p;omega,fun _=>⟨n1,n8,hn⟩,fun g=>(by cases g)⟩,⟨fun _ i i0 i1=>h.ft.z q.hd i i0 i1 hp fun g=>(by rw[hd]at g;cases g),fun g=>(by cases g)⟩,ow⟩
theorem In.none (h:In s c t ws) (hd:t.dn=true) (hf:t.fd=false):Own s ws c nil:=by
 cases t with
 | no=>exact h
 |sk q=>
  have ow:=Sk.In.ow h
  have e:q.ho=nil:=by unfold Sk.ho;rw[show q.dn=true from hd,show q.fd=false from hf];rfl
  rw[e]at ow;exact ow
 |rn q=>
  have ow:=Rn.In.ow h
  rw[Rn.ho_n hd hf]at ow;exact ow
end
end Rv
theorem Uo.In.of {s:Sh} {c:Int} {ws:Nat→Int} {b:Bk} (b1:b.Fit s c) (ft:FtB s b ws) (ow:Own s ws c (ofB b)):Uo.In s c (Uo.new s c b) ws:=by
 have hd:(Uo.new s c b).dn=false:=by show(!b.fits s c)=false;rw[Bk.of_fits b1];rfl
 refine⟨Uo.new_wf _ _ _,rfl,rfl,?_,fun _=>ft⟩
 have e:(Uo.new s c b).ho=ofB b:=by unfold Uo.ho ofB;rw[hd];rfl
 rw[e];exact ow
theorem Cm.In.of {s:Sh} {c:Int} {ws:Nat→Int} {b:Bk} (b1:b.Fit s c) (ft:FtB s b ws) (ow:Own s ws c (ofB b)):Cm.In s c (Cm.new s c b) ws∧(Cm.new s c b).dn=false:=by
 have hd:(Cm.new s c b).dn=false:=by show(!b.fits s c)=false;rw[Bk.of_fits b1];rfl
 refine⟨⟨Cm.new_wf _ _ _,rfl,rfl,?_,fun _=>ft⟩,hd⟩
 have e:(Cm.new s c b).ho=ofB b:=by unfold Cm.ho;rw[hd];rfl
 rw[e];exact ow
theorem Uo.In.near {s:Sh} {c:Int} {t:Uo} {ws:Nat→Int} (h:Uo.In s c t ws):∃ a,Nr a t.ho:=by
 unfold Uo.ho
 cases hd:t.dn
 ·rw[if_neg (by decide)]
  obtain⟨h1,h2⟩:=h.wf hd
  split
  ·rename_i e;exact⟨_,Nr.rw6 (h1.l e).2.1 (h2 e).1⟩
  ·exact⟨_,Nr.one ..⟩
 ·exact⟨0,Nr.nil 0⟩
theorem Cm.In.near {s:Sh} {c:Int} {t:Cm} {ws:Nat→Int} (h:Cm.In s c t ws):∃ a,Nr a t.ho:=by
 unfold Cm.ho
 cases hd:t.dn
 ·rw[if_neg (by decide)]
  exact⟨_,Nr.ofB (h.wf hd)⟩
 ·exact⟨0,Nr.nil 0⟩
theorem Gv.near {s:Sh} {t:Gv} (h:t.wf):∃ a,Nr a t.ho:=by
 unfold Gv.ho
 cases hd:t.dn
 ·rw[if_neg (by decide)]
  split
  ·exact⟨0,Nr.nil 0⟩
  split
  ·exact⟨_,Nr.one ..⟩
  ·rename_i n1 n3
   have hx:=h.of hd
   have n4:t.nx=4:=by omega
   obtain⟨hk,i0,i1⟩:=h.n4 hd n4
   have hbl:=(h.bl hd (by omega)).2.1
   refine⟨_,Nr.rw6 ?_ i0⟩
   rcases hbl with g | g<;>omega
 ·exact⟨0,Nr.nil 0⟩
namespace Re
inductive Ph (s:Sh) (c:Int) (t:Re) (ws:Nat→Int):Prop
 | rv (hd:t.dn=false) (e:t.md=.no) (hr:t.rv.dn=false) (h:Rv.In s c t.rv ws) (a:Int) (g:t.gv=Gv.new s c a)
 | gv (hd:t.dn=false) (e:t.md=.no) (hr:t.rv.dn=true) (hf:t.rv.fd=true) (b:t.rv.bk.Fit s c) (ft:FtB s t.rv.bk ws) (h:Gv.InX s c (ofB t.rv.bk) t.gv ws)
 | uo (u:Uo) (hd:t.dn=false) (e:t.md=.uo u) (h:Uo.In s c u ws)
 | cm (u:Cm) (hd:t.dn=false) (e:t.md=.cm u) (h:Cm.In s c u ws)
 | fn (hd:t.dn=true) (ow:Own s ws c nil)
structure In (s:Sh) (c:Int) (t:Re) (ws:Nat→Int):Prop where
 m:may s.p s.c s.m=true
 c0:0≤c
 c1:c<s.c
 wf:t.wf
 es:t.s=s
 ec:t.c=c
 ph:Ph s c t ws
section
variable {s:Sh} {c:Int} {t:Re} {w:Wd} {ws ws':Nat→Int}
theorem ft_rel {b:Bk} {o:Ho} (hb:b.Fit s c) (ow:Own s ws c o) (h1:b.lg=true→o.hp b.p) (h2:b.lg=false→o.hs b.p b.i) (r:Rel s c ws ws') (h:FtB s b ws):FtB s b ws':=by
 have hsl:=slots_bd b.k
 refine⟨fun g i i0 i1=>?_,fun g=>?_⟩
 ·rw[r.hs b.p i hb.p0 hb.p1 i0 i1 ((ow.pg b.p hb.p0 hb.p1).2 (h1 g))];exact h.1 g i i0 i1
 ·obtain⟨i0,i1⟩:=hb.s g
  obtain⟨g1,g2⟩:=(ow.sl b.p b.i hb.p0 hb.p1 i0 (by omega)).2 (.inl (h2 g))
  rw[r.sp b.p b.i hb.p0 hb.p1 i0 (by omega) g1 g2];exact h.2 g
theorem ofB_h {b:Bk}:(b.lg=true→(ofB b).hp b.p)∧(b.lg=false→(ofB b).hs b.p b.i):=by
 unfold ofB
 refine⟨fun g=>?_,fun g=>?_⟩
 ·rw[if_pos g];rfl
 ·rw[if_neg (by rw[g];decide)];exact⟨rfl,rfl⟩
theorem In.rel (h:In s c t ws) (r:Rel s c ws ws'):In s c t ws':=by
 refine⟨h.m,h.c0,h.c1,h.wf,h.es,h.ec,?_⟩
 cases h.ph with
 | rv hd e hr hi a g=>exact .rv hd e hr (hi.rel r) a g
 | gv hd e hr hf b ft hi=>exact .gv hd e hr hf b (ft_rel b hi.ow (fun g=>.inr (ofB_h.1 g)) (fun g=>.inr (ofB_h.2 g)) r ft) (hi.rel r)
 | uo u hd e hi=>exact .uo u hd e (hi.rel r)
 | cm u hd e hi=>exact .cm u hd e (hi.rel r)
 | fn hd ow=>exact .fn hd (ow.rel r)
theorem add_nil {x:Ho} (ow:Own s ws c (add x nil)):Own s ws c x:=ow.congr (fun q=>⟨.inr,fun g=>g.resolve_left id⟩) (fun q h=>⟨.inr,fun g=>g.resolve_left id⟩) fun q i=>⟨.inr,fun g=>g.resolve_left id⟩
theorem go_ph {t:Re} (es:t.s=s) (ec:t.c=c) (hd:t.dn=false) (e:t.md=.no) (h:(t.rv.dn=false∧Rv.In s c t.rv ws∧∃ a,t.gv=Gv.new s c a) ∨
  (t.rv.dn=true∧t.rv.fd=false∧Own s ws c nil)∨(t.rv.dn=true∧t.rv.fd=true∧t.rv.bk.Fit s c∧FtB s t.rv.bk ws∧Gv.InX s c (ofB t.rv.bk) t.gv ws)):Ph s c t.go ws:=by
 have eg:t.go=if t.rv.dn then(if t.rv.fd then(if t.gv.dn then(if t.gv.gv then { t with md:=.cm (Cm.new t.s t.c t.rv.bk) } else { t with md:=.uo (Uo.new t.s t.c t.rv.bk) }) else t) else t.fin 3) else t:=by unfold go;rw[e]
 rcases h with⟨h1,h2,a,h3⟩|⟨h1,h2,h3⟩|⟨h1,h2,h3,h4,h5⟩
 ·rw[eg,if_neg (by rw[h1];decide)];exact .rv hd e h1 h2 a h3
 ·rw[eg,if_pos h1,if_neg (by rw[h2];decide)];exact .fn rfl h3
 ·rw[eg,if_pos h1,if_pos h2]
  cases gd:t.gv.dn
  ·rw[if_neg (by decide)];exact .gv hd e h1 h2 h3 h4 h5
  ·rw[if_pos rfl]
   have ow:=h5.ow
   rw[Gv.ho_d gd]at ow
   have ow:=add_nil ow
   cases gg:t.gv.gv
   ·rw[if_neg (by decide)]
    refine .uo _ hd rfl ?_
    rw[es,ec];exact Uo.In.of h3 h4 ow
   ·rw[if_pos rfl]
    refine .cm _ hd rfl ?_
    rw[es,ec];exact(Cm.In.of h3 h4 ow).1
theorem In.step (h:In s c t w.ws) (ho:w.of s) (hB:Bs s w.ws):Sq s c w.ws (t.step w).2.ws∧In s c (t.step w).1 (t.step w).2.ws:=by
 have wf2:(t.step w).1.wf:=Re.step_wf h.wf fun _=>by rw[h.es];exact ho
 have sk:=Re.step_k (t:=t) (w:=w)
 have key:Sq s c w.ws (t.step w).2.ws∧Ph s c (t.step w).1 (t.step w).2.ws:=by
  have es:=h.es
  have ec:=h.ec
  have estep:t.dn=false→∀ (t1:Re) (w1:Wd),t.acc w=(t1,w1)→t.step w=(t1.go,w1):=fun hd t1 w1 e=>by unfold Re.step;rw[hd,e];rfl
  cases h.ph with
  |rv hd e hr hi a g=>
   have ea:t.acc w=({ t with rv:=(t.rv.step w).1 },(t.rv.step w).2):=by unfold acc;rw[if_neg (by rw[hr];decide)]
   rw[estep hd _ _ ea]
   obtain⟨n,i⟩:=hi.step hB
   refine⟨n.sq,go_ph (t:={ t with rv:=(t.rv.step w).1 }) es ec hd e ?_⟩
   show((t.rv.step w).1.dn=false∧Rv.In s c (t.rv.step w).1 (t.rv.step w).2.ws∧∃ a,t.gv=Gv.new s c a)∨_
   cases hd2:(t.rv.step w).1.dn
   ·exact .inl ⟨rfl,i,a,g⟩
   ·cases hf2:(t.rv.step w).1.fd
    ·exact .inr (.inl ⟨rfl,rfl,i.none hd2 hf2⟩)
    ·obtain⟨b1,b2,b3⟩:=i.found hd2 hf2
     refine .inr (.inr ⟨rfl,rfl,b1,b2,?_⟩)
     show Gv.InX s c _ t.gv _
     rw[g];exact Gv.InX.new h.m h.c0 h.c1 a ofB_cl (ofB_rg b1) b3
  |gv hd e hr hf b ft hi=>
   cases gd:t.gv.dn
   ·have ea:t.acc w=({ t with gv:=(t.gv.step w).1 },(t.gv.step w).2):=by unfold acc;rw[if_pos hr,if_neg (by rw[gd];decide)]
    rw[estep hd _ _ ea]
    obtain⟨n,i⟩:=hi.step ho hB
    have fb:FtB s t.rv.bk (t.gv.step w).2.ws:=hi.ftb ho hB b ft
    exact⟨n.sq,go_ph (t:={ t with gv:=(t.gv.step w).1 }) es ec hd e (.inr (.inr ⟨hr,hf,b,fb,i⟩))⟩
   ·exact absurd gd (by have:=(h.wf.nx hd e hr).2;rw[this];decide)
  |uo u hd e hi=>
   obtain⟨-,-,-,h4,h5,h6,-⟩:=h.wf.uo u e
   have ea:t.acc w=({ t with md:=.uo (u.step w).1 },(u.step w).2):=by unfold acc;rw[if_pos h4,if_pos h6,e]
   rw[estep hd _ _ ea]
   obtain⟨n,i⟩:=hi.step hB
   refine⟨n.sq,?_⟩
   have eg:({ t with md:=.uo (u.step w).1 }:Re).go=if(u.step w).1.dn then({ t with md:=.uo (u.step w).1 }:Re).fin 1 else { t with md:=.uo (u.step w).1 }:=rfl
   rw[eg]
   cases ud:(u.step w).1.dn
   ·rw[if_neg (by decide)];exact .uo _ hd rfl i
   ·rw[if_pos rfl]
    refine .fn rfl ?_
    have ow:=i.ow
    have:(u.step w).1.ho=nil:=by unfold Uo.ho;rw[if_pos ud]
    rw[this]at ow;exact ow
  |cm u hd e hi=>
   obtain⟨-,-,-,h4,h5,h6,-⟩:=h.wf.cm u e
   have ea:t.acc w=({ t with md:=.cm (u.step w).1 },(u.step w).2):=by unfold acc;rw[if_pos h4,if_pos h6,e]
   rw[estep hd _ _ ea]
   obtain⟨n,i,ud⟩:=hi.step hB
   refine⟨n.sq,?_⟩
   have eg:({ t with md:=.cm (u.step w).1 }:Re).go=if(u.step w).1.dn then({ t with md:=.cm (u.step w).1 }:Re).fin 0 else { t with md:=.cm (u.step w).1 }:=rfl
   rw[eg,if_pos ud]
   refine .fn rfl ?_
   have ow:=i.ow
   have:(u.step w).1.ho=nil:=by unfold Cm.ho;rw[if_pos ud]
   rw[this]at ow;exact ow
  | fn hd ow=>rw[Re.step_dn hd];exact⟨Sq.refl c hB,.fn hd ow⟩
 exact⟨key.1,h.m,h.c0,h.c1,wf2,sk.1.trans h.es,sk.2.1.trans h.ec,key.2⟩
end
end Re
end Go.Ma
namespace Go.Ma
open Go.Pl
open Ow
namespace Ow
section
variable (s:Sh) (ws:Nat→Int) (d:Int)
def Wy (q i:Int):Prop:=(∃ k,Sup s k (pgAt s ws q))∧slAt s ws q i=2+16*d
def Bd (q h:Int):Prop:=pgAt s ws q=4+16*h∧pgAt s ws h=1+16*d
def NB (n:Int):Prop:=∀ q h,0≤q→q<n→0≤h→h<s.p→¬ Bd s ws d q h
def NH (n:Int):Prop:=∀ q,0≤q→q<n→pgAt s ws q≠1+16*d
def NM (n:Int):Prop:=∀ j,0≤j→j<n→mgAt s ws d j=0
def NW (n:Int):Prop:=∀ q i,0≤q→q<n→0≤i→i<16→¬ Wy s ws d q i
end
structure Shr (s:Sh) (d:Int) (ws ws':Nat→Int):Prop where
 pg:∀ q,0≤q→q<s.p→pgAt s ws' q=1+16*d→pgAt s ws q=1+16*d
 bd:∀ q h,0≤q→q<s.p→0≤h→h<s.p→Bd s ws' d q h→Bd s ws d q h
 sl:∀ q i,0≤q→q<s.p→0≤i→i<16→Wy s ws' d q i→Wy s ws d q i
section
variable {s:Sh} {ws ws':Nat→Int} {d q i y n:Int}
theorem Shr.refl (s:Sh) (d:Int) (ws:Nat→Int):Shr s d ws ws:=⟨fun _ _ _ g=>g,fun _ _ _ _ _ _ g=>g,fun _ _ _ _ _ _ g=>g⟩
theorem Rel.shr (r:Rel s d ws ws'):Shr s d ws ws':=⟨fun q a b g=>(r.pg q a b).1 g,fun q h a b a' b' g=>by
  have h1:=(r.pg h a' b').1 g.2
  exact⟨(r.bd q h a b a' b' h1).1 g.1,h1⟩,fun q i a b i0 i1 g=>(r.sl q i a b i0 i1).1 g⟩
theorem Shr.page (hm:may s.p s.c s.m=true) (q0:0≤q) (q1:q<s.p) (d0:0≤d):Shr s d ws (upW ws (page s.p s.c s.m q) 0):=by
 refine⟨fun x a b g=>?_,fun x h a b a' b' g=>?_,fun x j a b j0 j1 g=>?_⟩
 ·rw[pg_pg hm q0 q1 a b]at g
  by_cases e:x=q
  ·rw[if_pos e]at g;omega
  ·rw[if_neg e]at g;exact g
 ·unfold Bd at g ⊢
  rw[pg_pg hm q0 q1 a b,pg_pg hm q0 q1 a' b']at g
  by_cases e:x=q
  ·rw[if_pos e]at g;omega
  ·rw[if_neg e]at g
   by_cases e2:h=q
   ·rw[if_pos e2]at g;omega
   ·rw[if_neg e2]at g;exact g
 ·unfold Wy at g ⊢
  rw[pg_pg hm q0 q1 a b,sl_pg hm q0 q1 a j0]at g
  by_cases e:x=q
  ·rw[if_pos e]at g;obtain⟨⟨k,g⟩,-⟩:=g;have:=g.mod;omega
  ·rw[if_neg e]at g;exact g
theorem Shr.slot (hm:may s.p s.c s.m=true) (q0:0≤q) (q1:q<s.p) (i0:0≤i) (i1:i<16) (hy:y≠2+16*d):Shr s d ws (upW ws (slot s.p s.c s.m q i) y):=by
 refine⟨fun x a b g=>?_,fun x h a b a' b' g=>?_,fun x j a b j0 j1 g=>?_⟩
 ·rw[pg_sl hm q0 q1 i0 i1 a b]at g;exact g
 ·unfold Bd at g ⊢
  rw[pg_sl hm q0 q1 i0 i1 a b,pg_sl hm q0 q1 i0 i1 a' b']at g;exact g
 ·unfold Wy at g ⊢
  rw[pg_sl hm q0 q1 i0 i1 a b,sl_sl hm q0 q1 i0 i1 a j0 j1]at g
  by_cases e:x=q∧j=i
  ·rw[if_pos e]at g;exact absurd g.2 hy
  ·rw[if_neg e]at g;exact g
theorem Shr.mag (hm:may s.p s.c s.m=true) {c j:Int} (c0:0≤c) (c1:c<s.c) (j0:0≤j) (j1:j<s.m):Shr s d ws (upW ws (mag s.p s.c s.m c j) y):=by
 refine⟨fun x a b g=>?_,fun x h a b a' b' g=>?_,fun x i a b i0 i1 g=>?_⟩
 ·rw[pg_mg hm c0 c1 j0 j1 a b]at g;exact g
 ·unfold Bd at g ⊢
  rw[pg_mg hm c0 c1 j0 j1 a b,pg_mg hm c0 c1 j0 j1 a' b']at g;exact g
 ·unfold Wy at g ⊢
  rw[pg_mg hm c0 c1 j0 j1 a b,sl_mg hm c0 c1 j0 j1 a b i0 i1]at g;exact g
theorem Shr.st (hm:may s.p s.c s.m=true) {c:Int} (c0:0≤c) (c1:c<s.c):Shr s d ws (upW ws (status s.p s.c s.m c) y):=by
 refine⟨fun x a b g=>?_,fun x h a b a' b' g=>?_,fun x i a b i0 i1 g=>?_⟩
 ·rw[pg_st hm c0 c1 a b]at g;exact g
 ·unfold Bd at g ⊢
  rw[pg_st hm c0 c1 a b,pg_st hm c0 c1 a' b']at g;exact g
 ·unfold Wy at g ⊢
  rw[pg_st hm c0 c1 a b,sl_st hm c0 c1 a i0]at g;exact g
theorem NB.shr (r:Shr s d ws ws') (hn:n≤s.p) (h:NB s ws d n):NB s ws' d n:=fun q x a b a' b' g=>h q x a b a' b' (r.bd q x a (by omega) a' b' g)
theorem NH.shr (r:Shr s d ws ws') (hn:n≤s.p) (h:NH s ws d n):NH s ws' d n:=fun q a b g=>h q a b (r.pg q a (by omega) g)
theorem NW.shr (r:Shr s d ws ws') (hn:n≤s.p) (h:NW s ws d n):NW s ws' d n:=fun q i a b i0 i1 g=>h q i a b i0 i1 (r.sl q i a (by omega) i0 i1 g)
theorem NM.rel (r:Rel s d ws ws') (hn:n≤s.m) (h:NM s ws d n):NM s ws' d n:=fun j a b=>by rw[r.mg j a (by omega)];exact h j a b
theorem inm_wy (hm:may s.p s.c s.m=true) (h:Bs s ws) (d0:0≤d) (d1:d<s.c) (q0:0≤q) (q1:q<s.p) (i0:0≤i) (i1:i<16) (g:InM s ws d q i):Wy s ws d q i:=by
 have hb:=(may_iff _ _ _).1 hm
 obtain⟨j,k,j0,j1,k0,k1,e⟩:=g
 obtain⟨p,i',k',g1,g2,g3,g4,g5,g6,g7⟩:=h.mg d j d0 d1 j0 j1 (by omega)
 have:=slots_bd k'
 have:=g6.bd
 have e1:p=q:=by omega
 have e2:i'=i:=by omega
 subst e1;subst e2
 exact⟨⟨k',g6⟩,g7⟩
def hoOf (s:Sh) (ws:Nat→Int) (d:Int):Ho:=⟨fun q=>pgAt s ws q=1+16*d,fun q h=>Bd s ws d q h,fun q i=>Wy s ws d q i∧¬ InM s ws d q i⟩
theorem Bs.own (hm:may s.p s.c s.m=true) (h:Bs s ws) (d0:0≤d) (d1:d<s.c):Own s ws d (hoOf s ws d):=
 ⟨fun _ _ _=>Iff.rfl,fun _ _ _ _ _ _=>Iff.rfl,fun q i a b i0 i1=>⟨fun g=>by
   by_cases e:InM s ws d q i
   ·exact .inr e
   ·exact .inl ⟨g,e⟩,fun g=>by
   rcases g with g | g
   ·exact g.1
   ·exact inm_wy hm h d0 d1 a b i0 i1 g⟩,fun _ _ _ _ _ _ g=>g.2⟩
theorem Pg.rd (hm:may s.p s.c s.m=true) (q0:0≤q) (q1:q<s.p) (h:Pg s ws q):okPg s q (pgAt s ws q)=true∧pgK s q (pgAt s ws q)=pgAt s ws q % 16 ∧
  (pgAt s ws q % 16=4→pgAt s ws q=4+16*pgA s q (pgAt s ws q)∧0≤pgA s q (pgAt s ws q)∧pgA s q (pgAt s ws q)<q) ∧
  (pgAt s ws q % 16=1→pgAt s ws q=1+16*pgA s q (pgAt s ws q)∧0≤pgA s q (pgAt s ws q)∧pgA s q (pgAt s ws q)<s.c)∧(pgAt s ws q % 16=2→Sup s (pgA s q (pgAt s ws q)) (pgAt s ws q)):=by
 have hb:=(may_iff _ _ _).1 hm
 rcases h.word (by omega) with e |⟨c,c0,c1,e⟩|⟨k,e⟩|⟨n,n1,n8,nq,e⟩|⟨x,h0,h1,h2,e⟩
 ·obtain⟨g1,g2,g3⟩:=rd_0 (s:=s) hm q0 q1
  rw[e];exact⟨g1,by rw[g2];rfl,fun g=>by omega,fun g=>by omega,fun g=>by omega⟩
 ·obtain⟨g1,g2,g3⟩:=rd_h (s:=s) hm q0 q1 c0 c1
  rw[e];exact⟨g1,by rw[g2];omega,fun g=>by omega,fun g=>by rw[g3];exact⟨rfl,c0,c1⟩,fun g=>by omega⟩
 ·obtain⟨g1,g2,g3⟩:=rd_s (s:=s) hm q0 q1 e
  have:=e.mod
  exact⟨g1,by rw[g2];omega,fun g=>by omega,fun g=>by omega,fun g=>by rw[g3];exact e⟩
 ·obtain⟨g1,g2,g3⟩:=rd_l (s:=s) hm q0 q1 n1 n8 nq
  rw[e];exact⟨g1,by rw[g2];omega,fun g=>by omega,fun g=>by omega,fun g=>by omega⟩
 ·obtain⟨g1,g2,g3⟩:=rd_b (s:=s) hm q1 h0 h1 h2
  rw[e];exact⟨g1,by rw[g2];omega,fun g=>by rw[g3];exact⟨rfl,h0,h1⟩,fun g=>by omega,fun g=>by omega⟩
end
end Ow
namespace Ad
inductive Ph (s:Sh) (t:Ad) (ws:Nat→Int):Prop
 | b3 (n:t.nx=3) (nb:NB s ws t.d t.at')
 | b4 (n:t.nx=4) (nb:NB s ws t.d t.at') (k:pgAt s ws t.pA=1+16*t.d→pgAt s ws t.at'=4+16*t.pA) (u:∀ h,0≤h→h<s.p→Bd s ws t.d t.at' h→h=t.pA)
 | b5 (n:t.nx=5) (nb:NB s ws t.d t.at') (p0:0≤t.pA) (p1:t.pA<s.p) (k:Bd s ws t.d t.at' t.pA)
 | b6 (n:t.nx=6) (nb:NB s ws t.d s.p) (nh:NH s ws t.d t.at')
 | b7 (n:t.nx=7) (nb:NB s ws t.d s.p) (nh:NH s ws t.d t.at') (h:pgAt s ws t.at'=1+16*t.d) (z:∀ j,0≤j→j<t.i→slAt s ws t.at' j=0)
 | b8 (n:t.nx=8) (nb:NB s ws t.d s.p) (nh:NH s ws t.d t.at') (h:pgAt s ws t.at'=1+16*t.d) (z:∀ j,0≤j→j<16→slAt s ws t.at' j=0)
 | b9 (n:t.nx=9) (a:t.at'=0) (nh:NH s ws t.d s.p) (nm:NM s ws t.d t.i)
 | b10 (n:t.nx=10) (nh:NH s ws t.d s.p) (nm:NM s ws t.d s.m) (nw:NW s ws t.d t.at')
 | b11 (n:t.nx=11) (nh:NH s ws t.d s.p) (nm:NM s ws t.d s.m) (nw:NW s ws t.d t.at') (k:∀ j,0≤j→j<16→Wy s ws t.d t.at' j→Sup s t.pA (pgAt s ws t.at')) (z:∀ j,0≤j→j<t.i→¬ Wy s ws t.d t.at' j)
 | b12 (n:t.nx=12) (nh:NH s ws t.d s.p) (nm:NM s ws t.d s.m) (nw:NW s ws t.d t.at') (k:Sup s t.pA (pgAt s ws t.at')) (x:slAt s ws t.at' t.i=2+16*t.d) (z:∀ j,0≤j→j<t.i→¬ Wy s ws t.d t.at' j)
 | b13 (n:t.nx=13) (nh:NH s ws t.d s.p) (nm:NM s ws t.d s.m) (nw:NW s ws t.d s.p)
section
variable {s:Sh} {t:Ad} {w:Wd} {ws ws':Nat→Int}
theorem Ph.t3 (es:t.s=s) (nb:NB s ws t.d (t.at'+1)):Ph s (t.turn 3 6) ws:=by
 unfold turn
 rw[es]
 by_cases e:t.at'+1=s.p
 ·rw[if_pos e]
  refine .b6 ?_ (by rw[← e];exact nb) (fun q a b=>?_)
  ·show(if(6:Int)=9∧s.m=0 then 10 else 6:Int)=6
   rw[if_neg (by omega)]
  ·have b:q<0:=b
   omega
 ·rw[if_neg e];exact .b3 rfl nb
theorem Ph.t6 (es:t.s=s) (nb:NB s ws t.d s.p) (nh:NH s ws t.d (t.at'+1)):Ph s (t.turn 6 9) ws:=by
 unfold turn
 rw[es]
 by_cases e:t.at'+1=s.p
 ·rw[if_pos e]
  rw[e]at nh
  by_cases e2:s.m=0
  ·refine .b10 ?_ nh (fun j a b=>by omega) (fun q i a b=>?_)
   ·show(if(9:Int)=9∧s.m=0 then 10 else 9:Int)=10
    rw[if_pos ⟨rfl,e2⟩]
   ·have b:q<0:=b
    omega
  ·refine .b9 ?_ rfl nh (fun j a b=>?_)
   ·show(if(9:Int)=9∧s.m=0 then 10 else 9:Int)=9
    rw[if_neg (by omega)]
   ·have b:j<0:=b
    omega
 ·rw[if_neg e];exact .b6 rfl nb nh
theorem Ph.t10 (es:t.s=s) (nh:NH s ws t.d s.p) (nm:NM s ws t.d s.m) (nw:NW s ws t.d (t.at'+1)):Ph s (t.turn 10 13) ws:=by
 unfold turn
 rw[es]
 by_cases e:t.at'+1=s.p
 ·rw[if_pos e]
  refine .b13 ?_ nh nm (by rw[← e];exact nw)
  show(if(13:Int)=9∧s.m=0 then 10 else 13:Int)=13
  rw[if_neg (by omega)]
 ·rw[if_neg e];exact .b10 rfl nh nm nw
theorem Ph.rel (hm:may s.p s.c s.m=true) (es:t.s=s) (wf:t.wf) (hd:t.dn=false) (h:Ph s t ws) (r:Rel s t.d ws ws'):Ph s t ws':=by
 obtain⟨-,-,-,ar⟩:=wf.of hd
 unfold Ar at ar
 rw[es]at ar
 have sh:=r.shr
 have sb:=slots_bd t.pA
 have hb:=(may_iff _ _ _).1 hm
 cases h with
 | b3 n nb=>exact .b3 n (nb.shr sh (by omega))
 |b4 n nb k u=>
  refine .b4 n (nb.shr sh (by omega)) (fun g=>?_) fun h a b g=>u h a b (sh.bd _ _ (by omega) (by omega) a b g)
  have g1:=(r.pg t.pA (by omega) (by omega)).1 g
  exact(r.bd t.at' t.pA (by omega) (by omega) (by omega) (by omega) g1).2 (k g1)
 | b5 n nb p0 p1 k=>exact .b5 n (nb.shr sh (by omega)) p0 p1 ⟨(r.bd t.at' t.pA (by omega) (by omega) p0 p1 k.2).2 k.1,(r.pg t.pA p0 p1).2 k.2⟩
 | b6 n nb nh=>exact .b6 n (nb.shr sh (by omega)) (nh.shr sh (by omega))
 | b7 n nb nh h z=>exact .b7 n (nb.shr sh (by omega)) (nh.shr sh (by omega)) ((r.pg _ (by omega) (by omega)).2 h) fun j a b=>by rw[r.hs t.at' j (by omega) (by omega) a (by omega) h];exact z j a b
 | b8 n nb nh h z=>exact .b8 n (nb.shr sh (by omega)) (nh.shr sh (by omega)) ((r.pg _ (by omega) (by omega)).2 h) fun j a b=>by rw[r.hs t.at' j (by omega) (by omega) a (by omega) h];exact z j a b
 | b9 n a nh nm=>exact .b9 n a (nh.shr sh (by omega)) (nm.rel r (by omega))
 | b10 n nh nm nw=>exact .b10 n (nh.shr sh (by omega)) (nm.rel r (by omega)) (nw.shr sh (by omega))
 |b11 n nh nm nw k z=>
  refine .b11 n (nh.shr sh (by omega)) (nm.rel r (by omega)) (nw.shr sh (by omega)) (fun j a b g=>?_) fun j a b g=>z j a b (sh.sl _ _ (by omega) (by omega) a (by omega) g)
  have g1:=sh.sl _ _ (by omega) (by omega) a b g
  rw[r.sp t.at' j (by omega) (by omega) a b g1.1 g1.2];exact k j a b g1
 |b12 n nh nm nw k x z=>
  have hk:=r.sp t.at' t.i (by omega) (by omega) (by omega) (by omega) ⟨_,k⟩ x
  refine .b12 n (nh.shr sh (by omega)) (nm.rel r (by omega)) (nw.shr sh (by omega)) (by rw[hk];exact k) ?_ fun j a b g=>z j a b (sh.sl _ _ (by omega) (by omega) a (by omega) g)
  exact((r.sl t.at' t.i (by omega) (by omega) (by omega) (by omega)).2 ⟨⟨_,k⟩,x⟩).2
 | b13 n nh nm nw=>exact .b13 n (nh.shr sh (by omega)) (nm.rel r (by omega)) (nw.shr sh (by omega))
theorem Ph.sl (hm:may s.p s.c s.m=true) (es:t.s=s) (hB:Bs s ws) (a0:0≤t.at') (a1:t.at'<s.p) (nh:NH s ws t.d s.p) (nm:NM s ws t.d s.m) (nw:NW s ws t.d t.at')
  (k:∀ j,0≤j→j<16→Wy s ws t.d t.at' j→Sup s t.pA (pgAt s ws t.at')) (z:∀ j,0≤j→j<t.i+1→¬ Wy s ws t.d t.at' j):Ph s t.slot ws:=by
 have hb:=(may_iff _ _ _).1 hm
 unfold Ad.slot
 by_cases e:t.i+1=slots t.pA
 ·rw[if_pos e]
  refine Ph.t10 (t:={ t with i:=0,di:=t.di+1,nx:=11 }) es nh nm fun q j b0 b1 j0 j1 g=>?_
  have b1:q<t.at'+1:=b1
  by_cases e2:q=t.at'
  ·subst e2
   have hk:=k j j0 j1 g
   rcases (hB.pg _ a0 a1).sup (by omega) hk j j0 j1 with⟨g1,-⟩|⟨-,g1⟩
   ·exact z j j0 (by omega) g
   ·have g2:slAt s ws t.at' j=2+16*t.d:=g.2
    have:(0:Int)=2+16*t.d:=by rw[← g1];exact g2
    omega
  ·exact nw q j b0 (by omega) j0 j1 g
 ·rw[if_neg e];exact .b11 rfl nh nm nw k z
theorem Ph.step (hm:may s.p s.c s.m=true) (es:t.s=s) (wf:t.wf) (hd:t.dn=false) (hB:Bs s w.ws) (h:Ph s t w.ws) (hn:t.nx≠13) :
    Sq s t.d w.ws (t.step w).2.ws∧Shr s t.d w.ws (t.step w).2.ws∧Ph s (t.step w).1 (t.step w).2.ws∧(t.step w).1.dn=false:=by
  obtain⟨-,-,-,ar⟩:=wf.of hd
  unfold Ar at ar
  rw[es]at ar
  have sb:=slots_bd t.pA
  have hb:=(may_iff _ _ _).1 hm
  have d0:0≤t.d:=by omega
  have d1:t.d<s.c:=by omega
  have a0:0≤t.at':=by omega
  have a1:t.at'<s.p:=by omega
  have hpat:t.pat=page s.p s.c s.m t.at':=by unfold pat;rw[es]
  have hhat:t.hat=page s.p s.c s.m t.pA:=by unfold hat;rw[es]
  have hsat:t.sat=Go.Pl.slot s.p s.c s.m t.at' t.i:=by unfold sat;rw[es]
  have gp:w.get t.pat=pgAt s w.ws t.at':=by rw[hpat];rfl
  have gh:w.get t.hat=pgAt s w.ws t.pA:=by rw[hhat];rfl
  have ow:=hB.own hm d0 d1
  have rd:=Pg.rd hm a0 a1 (hB.pg _ a0 a1)
  have same:Sq s t.d w.ws w.ws∧Shr s t.d w.ws w.ws:=⟨Sq.refl _ hB,Shr.refl ..⟩
  have isown:∀ q,0≤q→q<s.p→(t.own q (pgAt s w.ws q)=true↔pgAt s w.ws q=1+16*t.d):=fun q q0 q1=>by
    obtain⟨r1,r2,-,r4,-⟩:=Pg.rd hm q0 q1 (hB.pg _ q0 q1)
    unfold own
    rw[es,r1,r2]
    simp only[Bool.true_and,Bool.and_eq_true,decide_eq_true_eq]
    constructor
    · rintro⟨g1,g2⟩;rw[← g2];exact(r4 g1).1
    · intro g
      have g1:pgAt s w.ws q % 16=1:=by omega
      have:=(r4 g1).1
      exact⟨g1,by omega⟩
  cases h with
  | b3 n nb=>
    rw[s3 hd n,gp]
    refine⟨same.1,same.2,?_⟩
    show Ph s (t.bodies _) w.ws∧(t.bodies _).dn=false
    unfold bodies
    by_cases hx:t.isB (pgAt s w.ws t.at')=true
    · rw[if_pos hx]
      unfold isB at hx
      rw[es,rd.1,rd.2.1]at hx
      simp only[Bool.true_and,decide_eq_true_eq]at hx
      have hr:=rd.2.2.1 hx
      refine⟨.b4 rfl nb (fun _=>?_) (fun h h0 h1 g=>?_),hd⟩
      · show pgAt s w.ws t.at'=4+16*pgA t.s t.at' _
        rw[es];exact hr.1
      · show h=pgA t.s t.at' _
        rw[es];have g1:pgAt s w.ws t.at'=4+16*h:=g.1;omega
    · rw[if_neg hx]
      refine⟨Ph.t3 (t:=t.read _) es fun q h q0 q1 h0 h1 g=>?_,(turn_k _ _ _).2.2.2.1.trans hd⟩
      have q1:q<t.at'+1:=q1
      by_cases e:q=t.at'
      · subst e
        refine hx ?_
        unfold isB
        rw[es,rd.1,rd.2.1]
        have:=g.1
        simp only[Bool.true_and,decide_eq_true_eq];omega
      · exact nb q h q0 (by omega) h0 h1 g
  | b4 n nb k u=>
    rw[s4 hd n,gh]
    refine⟨same.1,same.2,?_⟩
    show Ph s (t.head _) w.ws∧(t.head _).dn=false
    unfold head
    have ho:=isown t.pA (by omega) (by omega)
    by_cases hx:t.own t.pA (pgAt s w.ws t.pA)=true
    · rw[if_pos hx]
      have hx:=ho.1 hx
      exact⟨.b5 rfl nb (by show 0≤t.pA;omega) (by show t.pA<s.p;omega) ⟨k hx,hx⟩,hd⟩
    · rw[if_neg hx]
      refine⟨Ph.t3 es fun q h q0 q1 h0 h1 g=>?_,(turn_k _ _ _).2.2.2.1.trans hd⟩
      by_cases e:q=t.at'
      · subst e
        have:=u h h0 h1 g
        subst this
        exact hx (ho.2 g.2)
      · exact nb q h q0 (by omega) h0 h1 g
  | b5 n nb p0 p1 k=>
    have ew:(w.store t.c t.pat 0).ws=upW w.ws (page s.p s.c s.m t.at') 0:=by rw[store_ws,hpat]
    rw[s5 hd n]
    show Sq s t.d w.ws (w.store t.c t.pat 0).ws∧Shr s t.d w.ws (w.store t.c t.pat 0).ws∧Ph s (t.turn 3 6) (w.store t.c t.pat 0).ws∧(t.turn 3 6).dn=false
    rw[ew]
    have sh:=Shr.page (ws:=w.ws) (d:=t.d) hm a0 a1 d0
    have nx:=unbody (o':=⟨(hoOf s w.ws t.d).hp,fun x h'=>(hoOf s w.ws t.d).hb x h'∧x≠t.at',(hoOf s w.ws t.d).hs⟩) hm hB ow d0 d1 a0 a1 (d:=t.pA) k p0 p1 rfl (fun _ _=>Iff.rfl) rfl
    refine⟨nx.sq,sh,Ph.t3 es fun q h q0 q1 h0 h1 g=>?_,(turn_k _ _ _).2.2.2.1.trans hd⟩
    by_cases e:q=t.at'
    · subst e
      have g1:=g.1
      rw[pg_pg hm a0 a1 a0 a1,if_pos rfl]at g1
      omega
    · exact nb q h q0 (by omega) h0 h1 (sh.bd q h q0 (by omega) h0 h1 g)
  | b6 n nb nh=>
    rw[s6 hd n,gp]
    refine⟨same.1,same.2,?_⟩
    show Ph s (t.pages _) w.ws∧(t.pages _).dn=false
    unfold Ad.pages
    have ho:=isown t.at' a0 a1
    by_cases hx:t.own t.at' (pgAt s w.ws t.at')=true
    · rw[if_pos hx]
      exact⟨.b7 rfl nb nh (ho.1 hx) fun j j0 j1=>by have j1:j<0:=j1;omega,hd⟩
    · rw[if_neg hx]
      refine⟨Ph.t6 es nb fun q q0 q1 g=>?_,(turn_k _ _ _).2.2.2.1.trans hd⟩
      by_cases e:q=t.at'
      · subst e;exact hx (ho.2 g)
      · exact nh q q0 (by omega) g
  | b7 n nb nh hh z=>
    have i1:t.i<16:=by omega
    have i0:0≤t.i:=by omega
    have ew:(w.store t.c t.sat 0).ws=upW w.ws (Go.Pl.slot s.p s.c s.m t.at' t.i) 0:=by rw[store_ws,hsat]
    rw[s7 hd n]
    show Sq s t.d w.ws (w.store t.c t.sat 0).ws∧Shr s t.d w.ws (w.store t.c t.sat 0).ws∧Ph s t.clear (w.store t.c t.sat 0).ws∧t.clear.dn=false
    rw[ew]
    have sh:=Shr.slot (ws:=w.ws) (d:=t.d) (y:=0) hm a0 a1 i0 i1 (by omega)
    have nx:=hslot hm hB ow d0 d1 a0 a1 i0 i1 (y:=0) hh (.inl rfl)
    have hz:∀ j,0≤j→j<t.i+1→slAt s (upW w.ws (Go.Pl.slot s.p s.c s.m t.at' t.i) 0) t.at' j=0:=fun j j0 j1=>by
      rw[sl_sl hm a0 a1 i0 i1 a0 j0 (by omega)]
      split
      · rfl
      · rename_i e; exact z j j0 (by have : j ≠ t.i := fun e2 => e ⟨rfl, e2⟩
                                     omega)
    have hh2:pgAt s (upW w.ws (Go.Pl.slot s.p s.c s.m t.at' t.i) 0) t.at'=1+16*t.d:=by rw[pg_sl hm a0 a1 i0 i1 a0 a1];exact hh
    refine⟨nx.sq,sh,?_,hd⟩
    by_cases e:t.i+1=16
    · refine .b8 ?_ (nb.shr sh (Int.le_refl _)) (nh.shr sh (by show t.at'≤s.p;omega)) hh2 fun j j0 j1=>hz j j0 (by omega)
      show(if t.i+1=16 then 8 else 7:Int)=8;rw[if_pos e]
    · refine .b7 ?_ (nb.shr sh (Int.le_refl _)) (nh.shr sh (by show t.at'≤s.p;omega)) hh2 hz
      show(if t.i+1=16 then 8 else 7:Int)=7;rw[if_neg e]
  | b8 n nb nh hh z=>
    have ew:(w.store t.c t.pat 0).ws=upW w.ws (page s.p s.c s.m t.at') 0:=by rw[store_ws,hpat]
    rw[s8 hd n]
    show Sq s t.d w.ws (w.store t.c t.pat 0).ws∧Shr s t.d w.ws (w.store t.c t.pat 0).ws∧Ph s (t.turn 6 9) (w.store t.c t.pat 0).ws∧(t.turn 6 9).dn=false
    rw[ew]
    have sh:=Shr.page (ws:=w.ws) (d:=t.d) hm a0 a1 d0
    have nx:=Ow.free (o':=⟨fun x=>(hoOf s w.ws t.d).hp x∧x≠t.at',(hoOf s w.ws t.d).hb,(hoOf s w.ws t.d).hs⟩) hm hB ow d0 d1 a0 a1 hh z (fun x b0 b1 g=>nb x t.at' b0 b1 a0 a1 g) (fun _=>Iff.rfl) rfl rfl
    refine⟨nx.sq,sh,Ph.t6 es (nb.shr sh (Int.le_refl _)) fun q q0 q1 g=>?_,(turn_k _ _ _).2.2.2.1.trans hd⟩
    by_cases e:q=t.at'
    · subst e
      rw[pg_pg hm a0 a1 a0 a1,if_pos rfl]at g
      omega
    · exact nh q q0 (by omega) (sh.pg q q0 (by omega) g)
  | b9 n a nh nm=>
    have i1:t.i<s.m:=by omega
    have i0:0≤t.i:=by omega
    have ew:(w.store t.c t.mat 0).ws=upW w.ws (mag s.p s.c s.m t.d t.i) 0:=by rw[store_ws];unfold mat;rw[es]
    rw[s9 hd n]
    show Sq s t.d w.ws (w.store t.c t.mat 0).ws∧Shr s t.d w.ws (w.store t.c t.mat 0).ws∧Ph s t.entry (w.store t.c t.mat 0).ws∧t.entry.dn=false
    rw[ew]
    have sh:=Shr.mag (ws:=w.ws) (d:=t.d) (y:=0) hm d0 d1 i0 i1
    have hz:NM s (upW w.ws (mag s.p s.c s.m t.d t.i) 0) t.d (t.i+1):=fun j j0 j1=>by
      rw[mg_mg hm d0 d1 i0 i1 d0 j0 (by omega)]
      split
      · rfl
      · rename_i e; exact nm j j0 (by have : j ≠ t.i := fun e2 => e ⟨rfl, e2⟩
                                      omega)
    refine⟨⟨hB.mag hm d0 d1 i0 i1 (.inl rfl),fun c' b0 b1 hne=>Rel.mag hm d0 d1 i0 i1 b0 hne,Mw.mag hm d0 d1 i0 i1⟩,sh,?_⟩
    unfold entry
    rw[es]
    by_cases e:t.i+1=s.m
    · rw[if_pos e]
      rw[e]at hz
      exact⟨.b10 rfl (nh.shr sh (Int.le_refl _)) hz fun q i b0 b1=>by have b1:q<t.at':=b1;omega,hd⟩
    · rw[if_neg e];exact⟨.b9 n a (nh.shr sh (Int.le_refl _)) hz,hd⟩
  | b10 n nh nm nw=>
    rw[s10 hd n,gp]
    refine⟨same.1,same.2,?_⟩
    show Ph s (t.supers _) w.ws∧(t.supers _).dn=false
    unfold supers
    by_cases hx:t.isS (pgAt s w.ws t.at')=true
    · rw[if_pos hx]
      unfold isS at hx
      rw[es,rd.1,rd.2.1]at hx
      simp only[Bool.true_and,decide_eq_true_eq]at hx
      refine⟨.b11 rfl nh nm nw (fun j j0 j1 g=>?_) (fun j j0 j1=>by have j1:j<0:=j1;omega),hd⟩
      show Sup s (pgA t.s t.at' _) _
      rw[es];exact rd.2.2.2.2 hx
    · rw[if_neg hx]
      refine⟨Ph.t10 (t:=t.read _) es nh nm fun q j q0 q1 j0 j1 g=>?_,(turn_k _ _ _).2.2.2.1.trans hd⟩
      have q1:q<t.at'+1:=q1
      by_cases e:q=t.at'
      · subst e
        obtain⟨⟨k,g⟩,-⟩:=g
        refine hx ?_
        unfold isS
        rw[es,rd.1,rd.2.1]
        have:=g.mod
        simp only[Bool.true_and,decide_eq_true_eq];exact this
      · exact nw q j q0 (by omega) j0 j1 g
  | b11 n nh nm nw k z=>
    have i0:0≤t.i:=by omega
    have i1:t.i<16:=by omega
    have gs:w.get t.sat=slAt s w.ws t.at' t.i:=by rw[hsat,slot_at hm a0 a1 i0 i1]
    rw[s11 hd n,gs]
    refine⟨same.1,same.2,?_⟩
    show Ph s (t.slots' _) w.ws∧(t.slots' _).dn=false
    unfold slots'
    rw[way_v d0 (by omega)]
    by_cases hx:slAt s w.ws t.at' t.i=2+16*t.d
    · rw[if_pos hx]
      have hk:Sup s t.pA (pgAt s w.ws t.at'):=by
        cases hB.pg t.at' a0 a1 with
        | e h z=>have:=z t.i i0 i1;omega
        | h c c0 c1 h z=>
          have:=z t.i i0 i1
          have:c=t.d:=by omega
          subst this;exact absurd h (nh _ a0 a1)
        | s k' h z=>exact k t.i i0 i1 ⟨⟨k',h⟩,hx⟩
        | l n n1 n8 nq h z b=>have:=z t.i i0 i1;omega
        | b h h0 h1 h2 e z w=>have:=z t.i i0 i1;omega
      exact⟨.b12 rfl nh nm nw hk hx z,hd⟩
    · rw[if_neg hx]
      refine⟨Ph.sl hm es hB a0 a1 nh nm nw k fun j j0 j1 g=>?_,(slot_k _).2.2.2.1.trans hd⟩
      by_cases e:j=t.i
      · subst e;exact hx g.2
      · exact z j j0 (by omega) g
  | b12 n nh nm nw k x z=>
    have i0:0≤t.i:=by omega
    have i1:t.i<16:=by omega
    have kb:=k.bd
    have ew:(w.store t.c t.sat (opn t.pA)).ws=upW w.ws (Go.Pl.slot s.p s.c s.m t.at' t.i) (1+16*t.pA):=by rw[store_ws,hsat,opn_v kb.1 (by omega)]
    rw[s12 hd n]
    show Sq s t.d w.ws (w.store t.c t.sat (opn t.pA)).ws∧Shr s t.d w.ws (w.store t.c t.sat (opn t.pA)).ws∧Ph s t.slot (w.store t.c t.sat (opn t.pA)).ws∧t.slot.dn=false
    rw[ew]
    have sh:=Shr.slot (ws:=w.ws) (d:=t.d) (y:=1+16*t.pA) hm a0 a1 i0 i1 (by omega)
    have ni:¬ InM s w.ws t.d t.at' t.i:=by
      rintro⟨j,k',j0,j1,k0,k1,e⟩
      have:=nm j j0 j1
      omega
    have nx:=freeO (o':=⟨(hoOf s w.ws t.d).hp,(hoOf s w.ws t.d).hb,fun q j=>(hoOf s w.ws t.d).hs q j∧¬ (q=t.at'∧j=t.i)⟩) hm hB ow d0 d1 a0 a1 i0 i1 k ⟨⟨⟨_,k⟩,x⟩,ni⟩ (y:=1+16*t.pA) (.inl rfl) rfl rfl fun _ _=>Iff.rfl
    refine⟨nx.sq,sh,Ph.sl hm es nx.bs a0 a1 (nh.shr sh (Int.le_refl _)) (fun j j0 j1=>?_) (nw.shr sh (by omega)) (fun j j0 j1 _=>?_) fun j j0 j1 g=>?_,(slot_k _).2.2.2.1.trans hd⟩
    · rw[mg_sl hm a0 a1 i0 i1 d0 j0];exact nm j j0 j1
    · rw[pg_sl hm a0 a1 i0 i1 a0 a1];exact k
    · by_cases e:j=t.i
      · subst e
        have g2:=g.2
        rw[sl_sl hm a0 a1 i0 i1 a0 i0 i1,if_pos ⟨rfl,rfl⟩]at g2
        omega
      · exact z j j0 (by omega) (sh.sl _ _ a0 a1 j0 (by omega) g)
  | b13 n _ _ _=>exact absurd n hn
end
end Ad
end Go.Ma
namespace Go.Ma
open Go.Pl
open Ow
namespace Ow
section
variable (s:Sh) (ws:Nat→Int)
def Sx (d:Int):Prop:=ws d.toNat=0∨ws d.toNat=1∨ws d.toNat=2∨ws d.toNat=4∨∃ b,0≤b∧b<s.c∧ws d.toNat=3+16*b∧ws b.toNat≠0
structure Nl (d:Int):Prop where
 h:NH s ws d s.p
 w:NW s ws d s.p
def Lk (d:Int):Prop:=∃ a b:Int,∃ E:Int→Int×Int,(∀ q,0≤q→q<s.p→pgAt s ws q=1+16*d→(a≤q∧q<a+8)∨(b≤q∧q<b+8)) ∧
 (∀ q h,0≤q→q<s.p→0≤h→h<s.p→Bd s ws d q h→(a≤q∧q<a+8)∨(b≤q∧q<b+8)) ∧
 ∀ q i,0≤q→q<s.p→0≤i→i<16→Wy s ws d q i→((a≤q∧q<a+8)∨(b≤q∧q<b+8))∨∃ j,0≤j∧j<s.m∧E j=(q,i)
end
section
variable {s:Sh} {ws ws':Nat→Int} {c d e:Int}
theorem Nl.shr (r:Shr s d ws ws') (h:Nl s ws d):Nl s ws' d:=⟨h.h.shr r (Int.le_refl _),h.w.shr r (Int.le_refl _)⟩
theorem Lk.shr (r:Shr s d ws ws') (h:Lk s ws d):Lk s ws' d:=by
 obtain⟨a,b,E,h1,h2,h3⟩:=h
 exact⟨a,b,E,fun q x y g=>h1 q x y (r.pg q x y g),fun q h x y x' y' g=>h2 q h x y x' y' (r.bd q h x y x' y' g),fun q i x y i0 i1 g=>h3 q i x y i0 i1 (r.sl q i x y i0 i1 g)⟩
theorem Lk.of (hm:may s.p s.c s.m=true) {o:Ho} (h:Own s ws c o) {a b:Int} (h1:∀ q,o.hp q→(a≤q∧q<a+8)∨(b≤q∧q<b+8)) (h2:∀ q h,o.hb q h→(a≤q∧q<a+8)∨(b≤q∧q<b+8))
  (h3:∀ q i,o.hs q i→(a≤q∧q<a+8)∨(b≤q∧q<b+8)):Lk s ws c:=by
 have hb:=(may_iff _ _ _).1 hm
 refine⟨a,b,fun j=>((mgAt s ws c j / 16) % 256,(mgAt s ws c j / 4096) % 256),fun q x y g=>h1 q ((h.pg q x y).1 g),fun q h' x y x' y' g=>h2 q h' ((h.bd q h' x y x' y').1 g),fun q i x y i0 i1 g=>?_⟩
 rcases (h.sl q i x y i0 i1).1 g with g |⟨j,k,j0,j1,k0,k1,g⟩
 ·exact .inl (h3 q i g)
 ·refine .inr ⟨j,j0,j1,?_⟩
  show((mgAt s ws c j / 16) % 256,(mgAt s ws c j / 4096) % 256)=(q,i)
  rw[g]
  exact Prod.ext (by show(1+16*q+4096*i+1048576*k) / 16 % 256=q;omega) (by show(1+16*q+4096*i+1048576*k) / 4096 % 256=i;omega)
theorem Lk.of1 (hm:may s.p s.c s.m=true) {o:Ho} (h:Own s ws c o) (n:∃ a,Nr a o):Lk s ws c:=by
 obtain⟨a,n1,n2,n3⟩:=n
 exact Lk.of hm h (a:=a) (b:=a) (fun q g=>.inl (n1 q g)) (fun q h g=>.inl (n2 q h g)) fun q i g=>.inl (n3 q i g)
theorem Nl.own (hm:may s.p s.c s.m=true) (hB:Bs s ws) (c0:0≤c) (c1:c<s.c) (h:Nl s ws c):Own s ws c nil:=
 ⟨fun q a b=>⟨fun g=>h.h q a b g,fun g=>g.elim⟩,fun q h' a b a' b'=>⟨fun g=>h.h h' a' b' g.2,fun g=>g.elim⟩,
  fun q i a b i0 i1=>⟨fun g=>absurd g (h.w q i a b i0 i1),fun g=>by
  rcases g with g | g
  ·exact g.elim
  ·exact absurd (inm_wy hm hB c0 c1 a b i0 i1 g) (h.w q i a b i0 i1)⟩,fun q i _ _ _ _ g=>g.elim⟩
theorem Rel.st (hm:may s.p s.c s.m=true) {x y:Int} (x0:0≤x) (x1:x<s.c) (e0:0≤e):Rel s e ws (upW ws (status s.p s.c s.m x) y):=by
 have hP:∀ q,0≤q→q<s.p→pgAt s (upW ws (status s.p s.c s.m x) y) q=pgAt s ws q:=fun q a b=>pg_st hm x0 x1 a b
 have hS:∀ q i,0≤q→0≤i→slAt s (upW ws (status s.p s.c s.m x) y) q i=slAt s ws q i:=fun q i a b=>sl_st hm x0 x1 a b
 exact⟨fun q a b=>by rw[hP q a b],fun q i a b i0 i1 _=>hS q i a i0,fun q h a b a' b' _=>by rw[hP q a b],fun q i a b i0 i1=>by rw[hP q a b,hS q i a i0],fun q i a b i0 i1 _ _=>hP q a b,fun j j0 j1=>mg_st hm x0 x1 e0 j0⟩
theorem Bs.st (hm:may s.p s.c s.m=true) (h:Bs s ws) {x y:Int} (x0:0≤x) (x1:x<s.c):Bs s (upW ws (status s.p s.c s.m x) y):=by
 have hP:∀ q,0≤q→q<s.p→pgAt s (upW ws (status s.p s.c s.m x) y) q=pgAt s ws q:=fun q a b=>pg_st hm x0 x1 a b
 have hS:∀ q i,0≤q→0≤i→slAt s (upW ws (status s.p s.c s.m x) y) q i=slAt s ws q i:=fun q i a b=>sl_st hm x0 x1 a b
 have hM:∀ c j,0≤c→0≤j→mgAt s (upW ws (status s.p s.c s.m x) y) c j=mgAt s ws c j:=fun c j a b=>mg_st hm x0 x1 a b
 refine⟨fun q a b=>(h.pg q a b).tr (hP q a b) (fun i i0 i1=>hS q i a i0) (fun n j n1 n8 nq hw j1 jn=>hP _ (by omega) (by omega)) fun h' h0 h1 h2 hw=>.inl (hP h' h0 (by omega)),fun c j c0 c1 j0 j1 hx=>?_,fun c j j' c0 c1 j0 j1 j0' j1' hx he=>?_⟩
 ·rw[hM c j c0 j0]at hx ⊢
  obtain⟨p,i,k,g1,g2,g3,g4,g5,g6,g7⟩:=h.mg c j c0 c1 j0 j1 hx
  exact⟨p,i,k,g1,g2,g3,g4,g5,by rw[hP p g1 g2];exact g6,by rw[hS p i g1 g3];exact g7⟩
 ·rw[hM c j c0 j0]at hx he
  rw[hM c j' c0 j0']at he
  exact h.uq c j j' c0 c1 j0 j1 j0' j1' hx he
structure See (s:Sh) (e:Int) (ws ws':Nat→Int):Prop where
 re:Rel s e ws ws'
 s0:∀ b,0≤b→b<s.c→ws b.toNat≠0→ws' b.toNat≠0
 s1:∀ b,0≤b→b<s.c→ws b.toNat≠0→ws b.toNat≠1→ws' b.toNat≠1
 ad:∀ d,0≤d→d<s.c→ws d.toNat=3+16*e→ws' d.toNat=3+16*e∧Rel s d ws ws'
 bk:∀ d,0≤d→d<s.c→ws' d.toNat=3+16*e→ws d.toNat=3+16*e
inductive Ef (s:Sh) (c:Int) (ws ws':Nat→Int):Prop
 | a (h:Sq s c ws ws')
 | b (d:Int) (d0:0≤d) (d1:d<s.c) (x:ws d.toNat=3+16*c) (h:Sq s d ws ws') (r:Shr s d ws ws')
 | c (d:Int) (d0:0≤d) (d1:d<s.c) (x:ws d.toNat=2∨∃ b,0≤b∧b<s.c∧ws d.toNat=3+16*b∧ws b.toNat≠0∧ws b.toNat≠1) (e:ws'=upW ws (status s.p s.c s.m d) (3+16*c))
 | d (d:Int) (d0:0≤d) (d1:d<s.c) (x:ws d.toNat=3+16*c) (n:Nl s ws d) (e:ws'=upW ws (status s.p s.c s.m d) 4)
theorem Ef.see (hm:may s.p s.c s.m=true) (h:Ef s c ws ws') (c0:0≤c) (c1:c<s.c) (lc:ws c.toNat=1) (e0:0≤e) (e1:e<s.c) (le:ws e.toNat=1) (hne:e≠c):See s e ws ws':=by
 cases h with
 |a h=>
  have st:=h.mw.st
  exact⟨h.re e e0 e1 hne,fun b a b' g=>by rw[st b a b'];exact g,fun b a b' g g2=>by rw[st b a b'];exact g2,fun d d0 d1 x=>⟨by rw[st d d0 d1];exact x,h.re d d0 d1 fun g=>by rw[g]at x;omega⟩,fun d d0 d1 x=>by rw[← st d d0 d1];exact x⟩
 |b d d0 d1 x h r=>
  have st:=h.mw.st
  exact⟨h.re e e0 e1 fun g=>by rw[g]at le;omega,fun b a b' g=>by rw[st b a b'];exact g,fun b a b' g g2=>by rw[st b a b'];exact g2,
   fun d' d0 d1 x'=>⟨by rw[st d' d0 d1];exact x',h.re d' d0 d1 fun g=>by rw[g]at x';omega⟩,fun d d0 d1 x=>by rw[← st d d0 d1];exact x⟩
 |c d d0 d1 x e'=>
  subst e'
  have st:∀ b,0≤b→b<s.c→upW ws (status s.p s.c s.m d) (3+16*c) b.toNat=if b=d then 3+16*c else ws b.toNat:=fun b a b'=>st_st hm a b' d0 d1
  refine⟨Rel.st hm d0 d1 e0,fun b a b' g=>?_,fun b a b' g g2=>?_,fun d' b0 b1 x'=>⟨?_,Rel.st hm d0 d1 b0⟩,fun d' b0 b1 x'=>?_⟩
  ·rw[st b a b'];clear x;split<;>omega
  ·rw[st b a b'];clear x;split<;>omega
  ·rw[st d' b0 b1,if_neg]
   ·exact x'
   ·rintro rfl
    rcases x with x |⟨b,b0',b1',x,y,z⟩
    ·omega
    ·have:b=e:=by omega
     subst this;exact z le
  ·rw[st d' b0 b1]at x'
   clear x
   split at x'
   ·omega
   ·exact x'
 |d d d0 d1 x n e'=>
  subst e'
  have st:∀ b,0≤b→b<s.c→upW ws (status s.p s.c s.m d) 4 b.toNat=if b=d then 4 else ws b.toNat:=fun b a b'=>st_st hm a b' d0 d1
  refine⟨Rel.st hm d0 d1 e0,fun b a b' g=>?_,fun b a b' g g2=>?_,fun d' b0 b1 x'=>⟨?_,Rel.st hm d0 d1 b0⟩,fun d' b0 b1 x'=>?_⟩
  ·rw[st b a b'];split<;>omega
  ·rw[st b a b'];split<;>omega
  ·rw[st d' b0 b1,if_neg]
   ·exact x'
   ·rintro rfl;omega
  ·rw[st d' b0 b1]at x'
   split at x'
   ·omega
   ·exact x'
end
end Ow

/-! ### A job -/
namespace Ad
structure In (s:Sh) (c:Int) (t:Ad) (ws:Nat→Int):Prop where
 m:may s.p s.c s.m=true
 c0:0≤c
 c1:c<s.c
 wf:t.wf
 es:t.s=s
 ec:t.c=c
 ow:Own s ws c nil
 f1:t.dn=false→t.nx=1→t.was=3+16*t.by'∧ws t.by'.toNat≠0
 f2:t.dn=false→t.nx=2→t.was=2∨∃ b,0≤b∧b<s.c∧t.was=3+16*b∧ws b.toNat≠0∧ws b.toNat≠1
 f3:t.dn=false→3≤t.nx→ws t.d.toNat=3+16*c∧Ph s t ws
section
variable {s:Sh} {c:Int} {t:Ad} {w:Wd} {ws ws':Nat→Int}
theorem In.see (h:In s c t ws) (r:See s c ws ws'):In s c t ws':=by
 refine⟨h.m,h.c0,h.c1,h.wf,h.es,h.ec,h.ow.rel r.re,fun hd hn=>?_,fun hd hn=>?_,fun hd hn=>?_⟩
 ·have ar:=(h.wf.of hd).2.2.2
  unfold Ar at ar
  rw[h.es]at ar
  obtain⟨g1,g2⟩:=h.f1 hd hn
  exact⟨g1,r.s0 _ (by omega) (by omega) g2⟩
 ·rcases h.f2 hd hn with g |⟨b,b0,b1,g1,g2,g3⟩
  ·exact .inl g
  ·exact .inr ⟨b,b0,b1,g1,r.s0 b b0 b1 g2,r.s1 b b0 b1 g2 g3⟩
 ·have ar:=(h.wf.of hd).2.2.2
  unfold Ar at ar
  rw[h.es]at ar
  obtain⟨g1,g2⟩:=h.f3 hd hn
  obtain⟨r1,r2⟩:=r.ad t.d (by omega) (by omega) g1
  exact⟨r1,g2.rel h.m h.es h.wf hd r2⟩
theorem In.new (hm:may s.p s.c s.m=true) (c0:0≤c) (c1:c<s.c) (d:Int) (ow:Own s ws c nil):In s c (Ad.new s c d) ws:=
 ⟨hm,c0,c1,Ad.new_wf ..,rfl,rfl,ow,fun _ g=>(by cases g),fun _ g=>(by cases g),fun _ g=>(by have g:(3:Int)≤0:=g;omega)⟩
theorem st_rd (hm:may s.p s.c s.m=true) {d:Int} (h:Sx s ws d):(stK (ws d.toNat)=2→ws d.toNat=2)∧(stK (ws d.toNat)=1↔ws d.toNat=1)∧(stK (ws d.toNat)=3→∃ b,0≤b∧b<s.c∧ws d.toNat=3+16*b∧ws b.toNat≠0∧stB (ws d.toNat)=b):=by
 have hb:=(may_iff _ _ _).1 hm
 rcases h with e | e | e | e |⟨b,b0,b1,e,z⟩
 ·rw[e];refine⟨fun g=>absurd g (by decide),⟨fun g=>absurd g (by decide),fun g=>absurd g (by decide)⟩,fun g=>absurd g (by decide)⟩
 ·rw[e];refine⟨fun g=>absurd g (by decide),⟨fun g=>rfl,fun g=>by decide⟩,fun g=>absurd g (by decide)⟩
 ·rw[e];refine⟨fun g=>rfl,⟨fun g=>absurd g (by decide),fun g=>absurd g (by decide)⟩,fun g=>absurd g (by decide)⟩
 ·rw[e];refine⟨fun g=>absurd g (by decide),⟨fun g=>absurd g (by decide),fun g=>absurd g (by decide)⟩,fun g=>absurd g (by decide)⟩
 ·have h1:pt (3+16*b) 16=b:=by unfold pt;omega
  have h2:(3+16*b) % 16=3:=by omega
  have h3:putSt 3 b=3+16*b:=by unfold putSt;rw[if_pos (by omega)]
  have h4:stK (3+16*b)=3:=by unfold stK;rw[h1,h2,h3,if_pos rfl]
  have h5:stB (3+16*b)=b:=by unfold stB;rw[h1,h2,h3,if_pos rfl]
  rw[e,h4,h5]
  exact⟨fun g=>absurd g (by decide),⟨fun g=>absurd g (by decide),fun g=>by omega⟩,fun _=>⟨b,b0,b1,rfl,z,rfl⟩⟩
theorem Ph.nx (h:Ph s t ws):3≤t.nx∧t.nx≤13:=by cases h<;>omega
theorem In.dn (h:In s c t ws) {t':Ad} (wf:t'.wf) (es:t'.s=s) (ec:t'.c=c) (r:Rel s c ws ws') (hd:t'.dn=true):In s c t' ws':=
 ⟨h.m,h.c0,h.c1,wf,es,ec,h.ow.rel r,fun g=>(by rw[hd]at g;cases g),fun g=>(by rw[hd]at g;cases g),fun g=>(by rw[hd]at g;cases g)⟩
theorem In.step (h:In s c t w.ws) (ho:w.of s) (hB:Bs s w.ws) (hd:t.dn=false) (hx:∀ d,0≤d→d<s.c→Sx s w.ws d) (lc:w.ws c.toNat=1) (by':∀ d,0≤d→d<s.c→w.ws d.toNat=3+16*c→3≤t.nx∧t.d=d) :
  Ef s c w.ws (t.step w).2.ws∧In s c (t.step w).1 (t.step w).2.ws∧∀ d,0≤d→d<s.c→(t.step w).2.ws d.toNat=3+16*c→(t.step w).1.dn=false∧3≤(t.step w).1.nx∧(t.step w).1.d=d:=by
 have hm:=h.m
 have hb:=(may_iff _ _ _).1 hm
 have c0:=h.c0
 have c1:=h.c1
 obtain⟨-,-,cd,ar⟩:=h.wf.of hd
 unfold Ar at ar
 rw[h.es,h.ec]at ar
 rw[h.ec]at cd
 have d0:0≤t.d:=by omega
 have d1:t.d<s.c:=by omega
 have wf2:=Ad.step_wf (w:=w) h.wf ho.u
 have sk:=step_k t w
 have es2:=sk.1.trans h.es
 have ec2:=sk.2.1.trans h.ec
 have hdat:t.dat=status s.p s.c s.m t.d:=by unfold dat;rw[h.es]
 have gd:w.get t.dat=w.ws t.d.toNat:=by rw[hdat,st_place hm d0 d1];rfl
 have rd:=st_rd hm (hx t.d d0 d1)
 have ld:∀ (t':Ad),t.step w=(t',(t.step w).2)→(t.step w).2.ws=w.ws→(t'.dn=false→t'.nx=1→t'.was=3+16*t'.by'∧w.ws t'.by'.toNat≠0)→(t'.dn=false→t'.nx=2→t'.was=2∨∃ b,0≤b∧b<s.c∧t'.was=3+16*b∧w.ws b.toNat≠0∧w.ws b.toNat≠1)→(t'.dn=false→t'.nx≤2)→t.nx≤2 →
   Ef s c w.ws (t.step w).2.ws∧In s c (t.step w).1 (t.step w).2.ws∧∀ d,0≤d→d<s.c→(t.step w).2.ws d.toNat=3+16*c→(t.step w).1.dn=false∧3≤(t.step w).1.nx∧(t.step w).1.d=d:=fun t' e1 e2 k1 k2 k3 k4=>by
  have e3:(t.step w).1=t':=by rw[e1]
  rw[e3]at wf2 es2 ec2 ⊢
  rw[e2]
  refine⟨.a (Sq.refl c hB),⟨hm,c0,c1,wf2,es2,ec2,h.ow,k1,k2,fun g1 g2=>absurd (k3 g1) (by omega)⟩,fun d a b x=>?_⟩
  have:=(by' d a b x).1
  omega
 rcases (by omega:t.nx=0∨t.nx=1∨t.nx=2∨(3≤t.nx∧t.nx≠13)∨t.nx=13) with n | n | n |⟨n,n13⟩| n
 ·have e:=s0 (w:=w) hd n
  refine ld (t.ask (w.get t.dat)) (by rw[e]) (by rw[e];rfl) ?_ ?_ ?_ (by omega)
  all_goals
   rw[gd]
   unfold ask
   by_cases k2:stK (w.ws t.d.toNat)=2
   ·simp only[if_pos k2]
    first
     | exact fun _ g=>absurd g (by decide)
     | exact fun _ _=>.inl (rd.1 k2)
     | exact fun _=>Int.le_refl _
   ·simp only[if_neg k2]
    by_cases k3:stK (w.ws t.d.toNat)=3
    ·obtain⟨b,b0,b1,e1,e2,e3⟩:=rd.2.2 k3
     have nb:¬ b<0:=by clear rd;omega
     simp only[if_pos k3,h.es,e3,status_yes hm b0 b1,if_neg nb]
     first
      | exact fun _ _=>⟨e1,e2⟩
      | exact fun _ g=>absurd g (by decide)
      | exact fun _=>by decide
    ·simp only[if_neg k3]
     exact fun g=>by cases g
 ·have e:=s1 (w:=w) hd n
  clear rd
  obtain⟨g1,g2⟩:=h.f1 hd n
  have b0:0≤t.by':=by omega
  have b1:t.by'<s.c:=by omega
  have gb:w.get t.bat=w.ws t.by'.toNat:=by unfold bat;rw[h.es,st_place hm b0 b1];rfl
  have rb:=st_rd hm (hx t.by' b0 b1)
  refine ld (t.other (w.get t.bat)) (by rw[e]) (by rw[e];rfl) ?_ ?_ ?_ (by omega)
  all_goals
   rw[gb]
   unfold other
   by_cases k1:stK (w.ws t.by'.toNat)=1
   ·simp only[if_pos k1]
    exact fun g=>by cases g
   ·simp only[if_neg k1]
    first
     | exact fun _ g=>absurd g (by decide)
     | exact fun _ _=>.inr ⟨t.by',b0,b1,g1,g2,fun g=>k1 (rb.2.1.2 g)⟩
     | exact fun _=>Int.le_refl _
 ·have e:=s2 (w:=w) hd n
  have pv:putSt 3 t.c=3+16*c:=by rw[h.ec];unfold putSt;rw[if_pos (by omega)]
  by_cases hw:w.get t.dat=t.was
  ·have ew:(w.swap t.c t.dat t.was (putSt 3 t.c)).ws=upW w.ws (status s.p s.c s.m t.d) (3+16*c):=by rw[swap_yes hw,hdat,pv]
   have et:(t.step w).1 = { t with nx:=3,di:=0 }:=by rw[e];show t.claim _=_;unfold claim;rw[if_pos hw]
   have es':(t.step w).2.ws=upW w.ws (status s.p s.c s.m t.d) (3+16*c):=by rw[e];exact ew
   rw[et]at wf2 ⊢
   rw[es']
   refine⟨.c t.d d0 d1 ?_ rfl,⟨hm,c0,c1,wf2,h.es,h.ec,h.ow.rel (Rel.st hm d0 d1 c0),fun _ g=>(by cases g),fun _ g=>(by cases g),fun _ _=>⟨?_,.b3 rfl fun q x a b=>?_⟩⟩,fun d a b x=>⟨hd,Int.le_refl _,?_⟩⟩
   ·rw[gd]at hw
    rw[hw];exact h.f2 hd n
   ·show upW w.ws _ _ t.d.toNat=_
    rw[st_st hm d0 d1 d0 d1,if_pos rfl]
   ·have b:q<t.at':=b
    omega
   ·show t.d=d
    rw[st_st hm a b d0 d1]at x
    split at x
    ·rename_i g;exact g.symm
    ·have:=(by' d a b x).1;omega
  ·refine ld { t with nx:=3,di:=0,err:=4,dn:=true } ?_ (by rw[e];exact swap_no hw) (fun g=>by cases g) (fun g=>by cases g) (fun g=>by cases g) (by omega)
   rw[e]
   show(t.claim _,_)=_
   unfold claim;rw[if_neg hw]
 ·obtain⟨g1,g2⟩:=h.f3 hd n
  obtain⟨k1,k2,k3,k4⟩:=g2.step hm h.es h.wf hd hB n13
  have st:=k1.mw.st
  refine⟨.b t.d d0 d1 g1 k1 k2,⟨hm,c0,c1,wf2,es2,ec2,h.ow.rel (k1.re c c0 c1 cd),fun _ g=>(by have:=k3.nx;omega),fun _ g=>(by have:=k3.nx;omega),fun _ _=>⟨?_,k3⟩⟩,fun d a b x=>⟨k4,k3.nx.1,?_⟩⟩
  ·rw[sk.2.2,st t.d d0 d1];exact g1
  ·rw[sk.2.2]
   rw[st d a b]at x
   exact(by' d a b x).2
 ·have e:=s13 (w:=w) hd n
  obtain⟨g1,g2⟩:=h.f3 hd (by omega)
  have nl:Nl s w.ws t.d:=by
   cases g2 with
   | b13 n nh nm nw=>exact⟨nh,nw⟩
   | b3 | b4 | b5 | b6 | b7 | b8 | b9 | b10 | b11 | b12=>omega
  have es':(t.step w).2.ws=upW w.ws (status s.p s.c s.m t.d) 4:=by rw[e];show(w.store t.c t.dat (putSt 4 0)).ws=_;rw[store_ws,hdat];rfl
  have et:(t.step w).1.dn=true:=by rw[e];rfl
  refine⟨.d t.d d0 d1 g1 nl es',h.dn wf2 es2 ec2 (by rw[es'];exact Rel.st hm d0 d1 c0) et,fun d a b x=>?_⟩
  rw[es',st_st hm a b d0 d1]at x
  split at x
  ·omega
  ·rename_i g
   exact absurd (by' d a b x).2.symm g
end
end Ad
namespace Job
def In (s:Sh) (c:Int) (j:Job) (ws:Nat→Int):Prop:=match j with
 | .no=>Own s ws c nil
 | .ml v none=>Rv.In s c v ws
 | .ml _ (some m)=>Cm.In s c m ws
 | .fr t=>Gv.In s c t ws
 | .ag t=>Re.In s c t ws
 | .hr t=>Ad.In s c t ws
def By (s:Sh) (c:Int) (j:Job) (ws:Nat→Int):Prop:=∀ d,0≤d→d<s.c→ws d.toNat=3+16*c→∃ t,j=.hr t∧t.dn=false∧3≤t.nx∧t.d=d
section
variable {s:Sh} {c:Int} {j:Job} {w:Wd} {ws ws':Nat→Int}
theorem In.see (h:j.In s c ws) (r:See s c ws ws'):j.In s c ws':=by
 cases j with
 | no=>exact Own.rel h r.re
 |ml v m=>
  cases m with
  | none=>exact Rv.In.rel h r.re
  | some m=>exact Cm.In.rel h r.re
 | fr t=>exact Gv.In.rel h r.re
 | ag t=>exact Re.In.rel h r.re
 | hr t=>exact Ad.In.see h r
theorem By.see (h:j.By s c ws) (r:See s c ws ws'):j.By s c ws':=fun d a b x=>h d a b (r.bk d a b x)
theorem In.lk (hm:may s.p s.c s.m=true) (h:j.In s c ws):Lk s ws c:=by
 cases j with
 | no=>exact Lk.of1 hm h ⟨0,Nr.nil 0⟩
 |ml v m=>
  cases m with
  | none=>exact Lk.of1 hm (Rv.In.own h) (Rv.In.near h)
  | some m=>exact Lk.of1 hm (Cm.In.ow h) (Cm.In.near h)
 | fr t=>exact Lk.of1 hm (Gv.In.ow h) (Gv.near (s:=s) (Gv.In.wf h))
 |ag t=>
  cases Re.In.ph h with
  | rv hd e hr hi a g=>exact Lk.of1 hm hi.own hi.near
  |gv hd e hr hf b ft hi=>
   obtain⟨a,n1,n2,n3⟩:=Gv.near (s:=s) hi.wf
   obtain⟨m1,m2,m3⟩:=Nr.ofB b
   exact Lk.of hm hi.ow (a:=a) (b:=t.rv.bk.p) (fun q g=>g.elim (fun g=>.inl (n1 q g)) fun g=>.inr (m1 q g)) (fun q h g=>g.elim (fun g=>.inl (n2 q h g)) fun g=>.inr (m2 q h g)) fun q i g=>g.elim (fun g=>.inl (n3 q i g)) fun g=>.inr (m3 q i g)
  | uo u hd e hi=>exact Lk.of1 hm hi.ow hi.near
  | cm u hd e hi=>exact Lk.of1 hm hi.ow hi.near
  | fn hd ow=>exact Lk.of1 hm ow ⟨0,Nr.nil 0⟩
 | hr t=>exact Lk.of1 hm (Ad.In.ow h) ⟨0,Nr.nil 0⟩
theorem In.fin (hw:j.wf s c) (h:j.In s c ws) (hd:j.dn=true):Own s ws c nil:=by
 cases j with
 | no=>cases hd
 |ml v m=>
  have hd:(v.dn && (!v.fd || odn m))=true:=hd
  rw[Bool.and_eq_true]at hd
  cases m with
  |none=>
   have:v.fd=false:=by
    have h2:=hd.2
    rw[show odn none=false from rfl]at h2;simpa using h2
   exact Rv.In.none h hd.1 this
  |some m=>
   have h2:v.fd=true:=(hw.2.2 m rfl).2.2.2.2
   have:m.dn=true:=by have h3:=hd.2;rw[h2]at h3;exact h3
   have ow:=Cm.In.ow h
   rw[show m.ho=nil by unfold Cm.ho;rw[if_pos this]]at ow;exact ow
 |fr t=>
  have ow:=Gv.In.ow h
  rw[Gv.ho_d hd]at ow;exact ow
 |ag t=>
  have hd:t.dn=true:=hd
  cases Re.In.ph h with
  | fn hd ow=>exact ow
  | rv g | gv g | uo u g | cm u g=>rw[hd]at g;cases g
 | hr t=>exact Ad.In.ow h
theorem In.new (k:Cl) {o:Op} (hm:may s.p s.c s.m=true) (c0:0≤c) (c1:c<s.c) (f:Int) (ow:Own s ws c nil):(Cl.start s c f o).In s c ws:=by
 unfold Cl.start
 split
 ·exact Rv.In.new hm c0 c1 _ _ ow
 split
 ·exact Gv.In.new hm c0 c1 _ ow
 split
 ·show Re.In s c (Re.new s c o.a o.n f) ws
  have wf:=Re.new_wf s c o.a o.n f
  unfold Re.new at wf ⊢
  by_cases e:Re.ok s c o.a o.n=true
  ·rw[if_pos e]at wf ⊢
   have gk:=Re.go_k (t:=Re.raw s c o.a o.n f)
   refine⟨hm,c0,c1,wf,gk.1,gk.2.1,Re.go_ph (t:=Re.raw s c o.a o.n f) rfl rfl rfl rfl ?_⟩
   show((Rv.new s c o.n f).dn=false∧Rv.In s c (Rv.new s c o.n f) ws∧∃ a,Gv.new s c o.a=Gv.new s c a)∨((Rv.new s c o.n f).dn=true∧(Rv.new s c o.n f).fd=false∧Own s ws c nil) ∨
    ((Rv.new s c o.n f).dn=true∧(Rv.new s c o.n f).fd=true∧(Rv.new s c o.n f).bk.Fit s c∧FtB s (Rv.new s c o.n f).bk ws∧Gv.InX s c (ofB (Rv.new s c o.n f).bk) (Gv.new s c o.a) ws)
   have i:=Rv.In.new (n:=o.n) (f:=f) hm c0 c1 ow
   cases hd:(Rv.new s c o.n f).dn
   ·exact .inl ⟨rfl,i,_,rfl⟩
   ·cases hf:(Rv.new s c o.n f).fd
    ·exact .inr (.inl ⟨rfl,rfl,ow⟩)
    ·obtain⟨b1,b2,b3⟩:=i.found hd hf
     exact .inr (.inr ⟨rfl,rfl,b1,b2,Gv.InX.new hm c0 c1 _ ofB_cl (ofB_rg b1) b3⟩)
  ·rw[if_neg e]at wf ⊢
   exact⟨hm,c0,c1,wf,rfl,rfl,.fn rfl ow⟩
 ·exact Ad.In.new hm c0 c1 _ ow
theorem In.step (h:j.In s c w.ws) (hw:j.wf s c) (by':j.By s c w.ws) (hd:j.dn=false) (ho:w.of s) (hB:Bs s w.ws) (hx:∀ d,0≤d→d<s.c→Sx s w.ws d) (lc:w.ws c.toNat=1) :
  Ef s c w.ws (j.step s c w).2.ws∧(j.step s c w).1.In s c (j.step s c w).2.ws∧(j.step s c w).1.By s c (j.step s c w).2.ws:=by
 have nb:∀ {j':Job} {ws':Nat→Int},Sq s c w.ws ws'→(∀ t,j≠.hr t)→j'.By s c ws':=fun sq hj d a b x=>by
  rw[sq.mw.st d a b]at x
  obtain⟨t,e,-⟩:=by' d a b x
  exact absurd e (hj t)
 cases j with
 | no=>exact⟨.a (Sq.refl c hB),h,by'⟩
 |ml v m=>
  obtain⟨h1,h2,h3⟩:=hw
  rcases ml_cases (s:=s) (c:=c) (w:=w) v m with⟨hv,e⟩|⟨hv,rfl,hf,e⟩|⟨hv,rfl,hf,e⟩|⟨hv,x,rfl,e⟩<;>rw[e]
  ·cases m with
   |none=>
    obtain⟨n,i⟩:=Rv.In.step h hB
    exact⟨.a n.sq,i,nb n.sq fun t g=>by cases g⟩
   | some m=>rw[(h3 m rfl).2.2.2.1]at hv;cases hv
  ·exact⟨.a (Sq.refl c hB),h,by'⟩
  ·obtain⟨b1,b2,b3⟩:=Rv.In.found h hv hf
   obtain⟨n,i,-⟩:=(Cm.In.of b1 b2 b3).1.step hB
   exact⟨.a n.sq,i,nb n.sq fun t g=>by cases g⟩
  ·obtain⟨n,i,-⟩:=Cm.In.step h hB
   exact⟨.a n.sq,i,nb n.sq fun t g=>by cases g⟩
 |fr t=>
  obtain⟨n,i⟩:=Gv.In.step h ho hB
  exact⟨.a n.sq,i,nb n.sq fun t g=>by cases g⟩
 |ag t=>
  obtain⟨n,i⟩:=Re.In.step h ho hB
  exact⟨.a n,i,nb n fun t g=>by cases g⟩
 |hr t=>
  obtain⟨n,i,b⟩:=Ad.In.step h ho hB hd hx lc fun d a b x=>by
   obtain⟨t',e,g1,g2,g3⟩:=by' d a b x
   injection e with e;subst e
   exact⟨g2,g3⟩
  refine⟨n,i,fun d a b' x=>?_⟩
  obtain⟨g1,g2,g3⟩:=b d a b' x
  exact⟨_,rfl,g1,g2,g3⟩
end
end Job
end Go.Ma
namespace Go.Ma
open Go.Pl
open Ow
namespace Ow
section
variable {s:Sh} {ws ws':Nat→Int} {c d e:Int}
theorem See.refl (s:Sh) (e:Int) (ws:Nat→Int):See s e ws ws:=⟨Rel.refl s e ws,fun _ _ _ g=>g,fun _ _ _ _ g=>g,fun d _ _ g=>⟨g,Rel.refl s d ws⟩,fun _ _ _ g=>g⟩
theorem Sx.st (h:Sx s ws d) (h0:∀ b,0≤b→b<s.c→ws b.toNat≠0→ws' b.toNat≠0) (e:ws' d.toNat=ws d.toNat):Sx s ws' d:=by
 unfold Sx at h ⊢
 rw[e]
 rcases h with h | h | h | h |⟨b,b0,b1,h,z⟩
 ·exact .inl h
 ·exact .inr (.inl h)
 ·exact .inr (.inr (.inl h))
 ·exact .inr (.inr (.inr (.inl h)))
 ·exact .inr (.inr (.inr (.inr ⟨b,b0,b1,h,h0 b b0 b1 z⟩)))
structure Fx (s:Sh) (c:Int) (ws ws':Nat→Int):Prop where
 bs:Bs s ws'
 sx:∀ d,0≤d→d<s.c→Sx s ws' d
 sh:∀ e,0≤e→e<s.c→e≠c→Shr s e ws ws'
 lv:∀ e,0≤e→e<s.c→(ws' e.toNat=1↔ws e.toNat=1)
 nl:(∀ e,0≤e→e<s.c→ws e.toNat=0∨ws e.toNat=4→Nl s ws e)→∀ e,0≤e→e<s.c→ws' e.toNat=0∨ws' e.toNat=4→Nl s ws' e
theorem Ef.fx (hm:may s.p s.c s.m=true) (hB:Bs s ws) (hx:∀ d,0≤d→d<s.c→Sx s ws d) (h:Ef s c ws ws') (c0:0≤c) (c1:c<s.c) (lc:ws c.toNat=1):Fx s c ws ws':=by
 cases h with
 |a h=>
  have st:=h.mw.st
  refine⟨h.bs,fun d d0 d1=>(hx d d0 d1).st (fun b b0 b1 g=>by rw[st b b0 b1];exact g) (st d d0 d1),fun e e0 e1 ne=>(h.re e e0 e1 ne).shr,fun e e0 e1=>by rw[st e e0 e1],fun hn e e0 e1 g=>?_⟩
  rw[st e e0 e1]at g
  exact(hn e e0 e1 g).shr (h.re e e0 e1 fun g2=>by rw[g2]at g;omega).shr
 |b d d0 d1 x h r=>
  have st:=h.mw.st
  have sh:∀ e,0≤e→e<s.c→Shr s e ws ws':=fun e e0 e1=>by
   by_cases g:e=d
   ·rw[g];exact r
   ·exact(h.re e e0 e1 g).shr
  refine⟨h.bs,fun d d0 d1=>(hx d d0 d1).st (fun b b0 b1 g=>by rw[st b b0 b1];exact g) (st d d0 d1),fun e e0 e1 _=>sh e e0 e1,fun e e0 e1=>by rw[st e e0 e1],fun hn e e0 e1 g=>?_⟩
  rw[st e e0 e1]at g
  exact(hn e e0 e1 g).shr (sh e e0 e1)
 |c d d0 d1 x e'=>
  subst e'
  have dc:d≠c:=by
   rintro rfl
   rcases x with x |⟨b,-,-,x,-⟩<;>omega
  have d1':ws d.toNat≠1:=by rcases x with x |⟨b,-,-,x,-⟩<;>omega
  clear x
  have st:∀ b,0≤b→b<s.c→upW ws (status s.p s.c s.m d) (3+16*c) b.toNat=if b=d then 3+16*c else ws b.toNat:=fun b a b'=>st_st hm a b' d0 d1
  have h0:∀ b,0≤b→b<s.c→ws b.toNat≠0→upW ws (status s.p s.c s.m d) (3+16*c) b.toNat≠0:=fun b b0 b1 g=>by rw[st b b0 b1];split<;>omega
  refine⟨hB.st hm d0 d1,fun e e0 e1=>?_,fun e e0 e1 _=>Shr.st hm d0 d1,fun e e0 e1=>?_,fun hn e e0 e1 g=>?_⟩
  ·by_cases g:e=d
   ·refine .inr (.inr (.inr (.inr ⟨c,c0,c1,?_,?_⟩)))
    ·rw[st e e0 e1,if_pos g]
    ·exact h0 c c0 c1 (by omega)
   ·exact(hx e e0 e1).st h0 (by rw[st e e0 e1,if_neg g])
  ·rw[st e e0 e1]
   by_cases g:e=d
   ·rw[if_pos g,g];omega
   ·rw[if_neg g]
  ·rw[st e e0 e1]at g
   by_cases g2:e=d
   ·rw[if_pos g2]at g;omega
   ·rw[if_neg g2]at g;exact(hn e e0 e1 g).shr (Shr.st hm d0 d1)
 |d d d0 d1 x n e'=>
  subst e'
  have st:∀ b,0≤b→b<s.c→upW ws (status s.p s.c s.m d) 4 b.toNat=if b=d then 4 else ws b.toNat:=fun b a b'=>st_st hm a b' d0 d1
  have h0:∀ b,0≤b→b<s.c→ws b.toNat≠0→upW ws (status s.p s.c s.m d) 4 b.toNat≠0:=fun b b0 b1 g=>by rw[st b b0 b1];split<;>omega
  refine⟨hB.st hm d0 d1,fun e e0 e1=>?_,fun e e0 e1 _=>Shr.st hm d0 d1,fun e e0 e1=>?_,fun hn e e0 e1 g=>?_⟩
  ·by_cases g:e=d
   ·exact .inr (.inr (.inr (.inl (by rw[st e e0 e1,if_pos g]))))
   ·exact(hx e e0 e1).st h0 (by rw[st e e0 e1,if_neg g])
  ·rw[st e e0 e1]
   by_cases g:e=d
   ·rw[if_pos g,g];omega
   ·rw[if_neg g]
  ·rw[st e e0 e1]at g
   by_cases g2:e=d
   ·rw[g2];exact n.shr (Shr.st hm d0 d1)
   ·rw[if_neg g2]at g;exact(hn e e0 e1 g).shr (Shr.st hm d0 d1)
end
end Ow
structure Ti (W:Wo):Prop where
 wf:W.wf
 bs:Bs W.s W.w.ws
 sx:∀ d,0≤d→d<W.s.c→Sx W.s W.w.ws d
 lv:∀ (c:Nat) k,W.k c=some k→W.w.ws c=1∧k.j.In W.s c W.w.ws∧k.j.By W.s c W.w.ws
 no:∀ c:Nat,(c:Int)<W.s.c→W.k c=none→W.w.ws c≠1∧Lk W.s W.w.ws c
 nl:∀ c,0≤c→c<W.s.c→W.w.ws c.toNat=0∨W.w.ws c.toNat=4→Nl W.s W.w.ws c
namespace Ti
variable {W:Wo} {x:Ch} {c:Int} {k:Cl}
theorem ev (h:Ti W) (c0:0≤c) (c1:c<W.s.c) {w':Wd} {o:Option Cl} {tr:List Evt} {sp:List Acs} (wf':(⟨W.s,w',W.put c o,tr,sp⟩:Wo).wf) (bs':Bs W.s w'.ws) (sx':∀ d,0≤d→d<W.s.c→Sx W.s w'.ws d)
  (see:∀ e,0≤e→e<W.s.c→e≠c→W.w.ws e.toNat=1→w'.ws e.toNat=1∧See W.s e W.w.ws w'.ws) (own:∀ k,o=some k→w'.ws c.toNat=1∧k.j.In W.s c w'.ws∧k.j.By W.s c w'.ws)
  (dead:o=none→w'.ws c.toNat≠1∧Lk W.s w'.ws c) (oth:∀ e,0≤e→e<W.s.c→e≠c→W.w.ws e.toNat≠1→w'.ws e.toNat≠1∧Shr W.s e W.w.ws w'.ws)
  (nl':∀ e,0≤e→e<W.s.c→w'.ws e.toNat=0∨w'.ws e.toNat=4→Nl W.s w'.ws e):Ti ⟨W.s,w',W.put c o,tr,sp⟩:=by
 refine⟨wf',bs',sx',fun d z e=>?_,fun d d1 e=>?_,nl'⟩
 ·have e:(if d=c.toNat then o else W.k d)=some z:=e
  by_cases g:d=c.toNat
  ·rw[if_pos g]at e
   obtain⟨g1,g2,g3⟩:=own z e
   have:(d:Int)=c:=by omega
   rw[this,g];exact⟨g1,g2,g3⟩
  ·rw[if_neg g]at e
   obtain⟨k1,k2,k3⟩:=h.wf.k d z e
   have d1:(d:Int)<W.s.c:=by rw[← k3,← k2];exact k1.c1
   obtain⟨g1,g2,g3⟩:=h.lv d z e
   obtain⟨s1,s2⟩:=see d (by omega) d1 (by omega) g1
   exact⟨s1,g2.see s2,g3.see s2⟩
 ·have e:(if d=c.toNat then o else W.k d)=none:=e
  by_cases g:d=c.toNat
  ·rw[if_pos g]at e
   obtain⟨g1,g2⟩:=dead e
   have:(d:Int)=c:=by omega
   rw[this,g];exact⟨g1,g2⟩
  ·rw[if_neg g]at e
   obtain⟨g1,g2⟩:=h.no d d1 e
   obtain⟨o1,o2⟩:=oth d (by omega) d1 (by omega) g1
   exact⟨o1,g2.shr o2⟩
theorem ev0 (h:Ti W) (c0:0≤c) (c1:c<W.s.c) {k:Cl} {tr:List Evt} {sp:List Acs} (wf':(⟨W.s,W.w,W.put c (some k),tr,sp⟩:Wo).wf) (lc:W.w.ws c.toNat=1) (i:k.j.In W.s c W.w.ws) (b:k.j.By W.s c W.w.ws):Ti ⟨W.s,W.w,W.put c (some k),tr,sp⟩:=
 h.ev c0 c1 wf' h.bs h.sx (fun e _ _ _ g=>⟨g,See.refl ..⟩) (fun z e=>by injection e with e;subst e;exact⟨lc,i,b⟩) (fun e=>by cases e) (fun e _ _ _ g=>⟨g,Shr.refl ..⟩) h.nl
theorem ef (h:Ti W) (e:W.k c.toNat=some k) (c0:0≤c) (hb:k.busy=true):Ef W.s c W.w.ws (k.j.step k.s k.c W.w).2.ws∧(k.j.step k.s k.c W.w).1.In W.s c (k.j.step k.s k.c W.w).2.ws∧(k.j.step k.s k.c W.w).1.By W.s c (k.j.step k.s k.c W.w).2.ws:=by
 obtain⟨k1,k2,k3⟩:=h.wf.k _ _ e
 have k3:k.c=c:=by omega
 obtain⟨l1,l2,l3⟩:=h.lv _ _ e
 have ec:((c.toNat:Nat):Int)=c:=by omega
 rw[ec]at l2 l3
 have jw:=k1.jw
 rw[k2,k3]at jw ⊢
 exact l2.step jw l3 (k1.jb hb).2.1 h.wf.w h.bs h.sx l1
theorem act (h:Ti W) (hx:W.fit x):Ti (W.act x).1:=by
 have wf2:=Wo.act_wf h.wf hx
 have hm:=h.wf.m
 revert wf2
 unfold Wo.act
 by_cases g0:x.k<1∨4<x.k∨W.sat x.c<0
 ·rw[if_pos g0];exact fun _=>h
 rw[if_neg g0]
 obtain⟨c0,c1,c2⟩:=Wo.sat_bd (c:=x.c) h.wf (by omega)
 have ec:((x.c.toNat:Nat):Int)=x.c:=by omega
 have mk:∀ y,(W.mark x.c y).ws=upW W.w.ws (status W.s.p W.s.c W.s.m x.c) y:=fun y=>put_ws ..
 have st:∀ y b,0≤b→b<W.s.c→upW W.w.ws (status W.s.p W.s.c W.s.m x.c) y b.toNat=if b=x.c then y else W.w.ws b.toNat:=fun y b a b'=>st_st hm a b' c0 c1
 -- a status is marked
 have mark:∀ (y:Int) (o:Option Cl) (tr:List Evt),y=1∨y=2→W.w.ws x.c.toNat≠3→(y=1→W.w.ws x.c.toNat=0)→(y=2→W.w.ws x.c.toNat=1)→(⟨W.s,W.mark x.c y,W.put x.c o,tr,W.sp⟩:Wo).wf →
   (∀ k,o=some k→y=1∧k.j=.no)→(o=none→y=2)→(y=2→Lk W.s W.w.ws x.c)→Ti ⟨W.s,W.mark x.c y,W.put x.c o,tr,W.sp⟩:=fun y o tr hy _ y1 y2 wf' own dead lk=>by
  have h0:∀ b,0≤b→b<W.s.c→W.w.ws b.toNat≠0→upW W.w.ws (status W.s.p W.s.c W.s.m x.c) y b.toNat≠0:=fun b b0 b1 g=>by rw[st y b b0 b1];split<;>omega
  have nb:∀ d e,0≤d→d<W.s.c→0≤e→W.w.ws d.toNat=3+16*e→d≠x.c:=fun d e d0 d1 e0 g g2=>by
   subst g2
   rcases hy with hy | hy
   ·have:=y1 hy;omega
   ·have:=y2 hy;omega
  have hx0:∀ e,0≤e→e<W.s.c→y=1→W.w.ws e.toNat≠3+16*x.c:=fun e e0 e1 hy g=>by
   rcases h.sx e e0 e1 with g1 | g1 | g1 | g1 |⟨b,b0,b1,g1,z⟩
   ·omega
   ·omega
   ·omega
   ·omega
   ·have:b=x.c:=by omega
    subst this;exact z (y1 hy)
  refine h.ev c0 c1 wf' ?_ (fun d d0 d1=>?_) (fun e e0 e1 ne g=>⟨?_,?_⟩) (fun k e=>?_) (fun e=>?_) (fun e e0 e1 ne g=>?_) fun e e0 e1 g=>?_
  ·rw[mk];exact h.bs.st hm c0 c1
  ·rw[mk]
   by_cases g:d=x.c
   ·unfold Sx
    rw[st y d d0 d1,if_pos g]
    rcases hy with hy | hy
    ·exact .inr (.inl hy)
    ·exact .inr (.inr (.inl hy))
   ·exact(h.sx d d0 d1).st h0 (by rw[st y d d0 d1,if_neg g])
  ·rw[mk,st y e e0 e1,if_neg ne];exact g
  ·rw[mk]
   refine⟨Rel.st hm c0 c1 e0,h0,fun b b0 b1 g1 g2=>?_,fun d d0 d1 g1=>⟨?_,Rel.st hm c0 c1 d0⟩,fun d d0 d1 g1=>?_⟩
   ·rw[st y b b0 b1]
    split
    ·rename_i g3
     subst g3
     rcases hy with hy | hy
     ·exact absurd (y1 hy) g1
     ·omega
    ·exact g2
   ·rw[st y d d0 d1,if_neg (nb d e d0 d1 e0 g1)];exact g1
   ·rw[st y d d0 d1]at g1
    split at g1
    ·omega
    ·exact g1
  ·obtain⟨o1,o2⟩:=own k e
   rw[mk,o2]
   refine⟨by rw[st y x.c c0 c1,if_pos rfl];exact o1,?_,fun d d0 d1 g=>?_⟩
   ·have nl:=h.nl x.c c0 c1 (.inl (y1 o1))
    exact(nl.own hm h.bs c0 c1).rel (Rel.st hm c0 c1 c0)
   ·rw[st y d d0 d1]at g
    split at g
    ·omega
    ·exact absurd g (hx0 d d0 d1 o1)
  ·have y2':=dead e
   rw[mk]
   exact⟨by rw[st y x.c c0 c1,if_pos rfl];omega,(lk y2').shr (Shr.st hm c0 c1)⟩
  ·rw[mk,st y e e0 e1,if_neg ne]
   exact⟨g,Shr.st hm c0 c1⟩
  ·rw[mk]at g ⊢
   rw[st y e e0 e1]at g
   split at g
   ·omega
   ·exact(h.nl e e0 e1 g).shr (Shr.st hm c0 c1)
 by_cases g1:x.k=1
 ·rw[if_pos g1]
  unfold Wo.start
  by_cases g2:W.stk x.c≠0
  ·rw[if_pos g2];exact fun _=>h
  ·rw[if_neg g2]
   intro wf2
   have hz:W.w.ws x.c.toNat=0:=by
    have g2:W.stk x.c=0:=Classical.not_not.1 g2
    unfold Wo.stk at g2
    rw[if_neg (by omega),c2]at g2
    have g2:stK (W.w.ws x.c.toNat)=0:=g2
    rcases h.sx x.c c0 c1 with e | e | e | e |⟨b,b0,b1,e,z⟩
    ·exact e
    ·rw[e]at g2;exact absurd g2 (by decide)
    ·rw[e]at g2;exact absurd g2 (by decide)
    ·rw[e]at g2;exact absurd g2 (by decide)
    ·have hb:=(may_iff _ _ _).1 hm
     have h1:pt (3+16*b) 16=b:=by unfold pt;omega
     have h2:(3+16*b) % 16=3:=by omega
     have h3:putSt 3 b=3+16*b:=by unfold putSt;rw[if_pos (by omega)]
     have h4:stK (3+16*b)=3:=by unfold stK;rw[h1,h2,h3,if_pos rfl]
     rw[e,h4]at g2;exact absurd g2 (by decide)
   have e1:putSt 1 0=1:=by decide
   dsimp only at wf2 ⊢
   rw[e1]at wf2 ⊢
   refine mark 1 _ _ (.inl rfl) (by omega) (fun _=>hz) (fun g=>absurd g (by decide)) wf2 (fun k e=>?_) (fun e=>by cases e) fun g=>absurd g (by decide)
   injection e with e;subst e;exact⟨rfl,rfl⟩
 rw[if_neg g1]
 cases e:W.k x.c.toNat with
 | none=>exact fun _=>h
 |some k=>
  obtain⟨k1,k2,k3⟩:=h.wf.k _ _ e
  have k3:k.c=x.c:=by rw[k3];omega
  obtain⟨l1,l2,l3⟩:=h.lv _ _ e
  rw[ec]at l2 l3
  dsimp only
  by_cases g3:x.k=3
  ·rw[if_pos g3]
   unfold Wo.step
   by_cases hb:k.busy=true
   rotate_left
   ·have es:k.step W.w=(k,W.w,[],2):=if_neg hb
    rw[es]
    exact fun wf2=>h.ev0 c0 c1 wf2 l1 l2 l3
   have es:k.step W.w=((k.adv W.w).tell.1,(k.j.step k.s k.c W.w).2,(k.adv W.w).tell.2,0):=if_pos hb
   have hw:W.w.of k.s:=by rw[k2];exact h.wf.w
   obtain⟨f1,f2,f3⟩:=h.ef e c0 hb
   have fx:=f1.fx hm h.bs h.sx c0 c1 l1
   have mid:=Cl.adv_mid k1 hb hw
   rw[es]
   intro wf2
   refine h.ev c0 c1 wf2 fx.bs fx.sx (fun e e0 e1 ne g=>⟨(fx.lv e e0 e1).2 g,f1.see hm c0 c1 l1 e0 e1 g ne⟩) (fun z e=>?_) (fun e=>by cases e) (fun e e0 e1 ne g=>⟨fun g2=>g ((fx.lv e e0 e1).1 g2),fx.sh e e0 e1 ne⟩) (fx.nl h.nl)
   injection e with e;subst e
   refine⟨(fx.lv x.c c0 c1).2 l1,?_⟩
   show((k.adv W.w).tell.1.j).In W.s x.c (k.j.step k.s k.c W.w).2.ws∧((k.adv W.w).tell.1.j).By W.s x.c (k.j.step k.s k.c W.w).2.ws
   unfold Cl.tell
   cases hd:(k.adv W.w).j.dn
   ·exact⟨f2,f3⟩
   ·have jw:=mid.jw
    have jw:(k.adv W.w).j.wf W.s x.c:=by rw[show(k.adv W.w).s=W.s from k2,show(k.adv W.w).c=x.c from k3]at jw;exact jw
    refine⟨Job.In.fin jw f2 hd,fun d d0 d1 g=>?_⟩
    obtain⟨t,t1,t2,-⟩:=f3 d d0 d1 g
    have:(k.adv W.w).j.dn=false:=by rw[show(k.adv W.w).j=.hr t from t1];exact t2
    rw[hd]at this;cases this
  rw[if_neg g3]
  by_cases g2:x.k=2
  ·rw[if_pos g2]
   unfold Wo.ask Cl.invoke
   by_cases hb:k.busy=true
   ·rw[if_pos hb];exact fun wf2=>h.ev0 c0 c1 wf2 l1 l2 l3
   rw[if_neg hb]
   by_cases hk:x.o.k<1∨4<x.o.k
   ·rw[if_pos hk];exact fun wf2=>h.ev0 c0 c1 wf2 l1 l2 l3
   rw[if_neg hk]
   have jn:=k1.jn (by simpa using hb)
   rw[jn]at l2 l3
   have nb:∀ d,0≤d→d<W.s.c→W.w.ws d.toNat≠3+16*x.c:=fun d d0 d1 g=>by
    obtain⟨t,t1,-⟩:=l3 d d0 d1 g
    cases t1
   by_cases hn:x.o.once k.s k.c=true
   ·rw[if_pos hn];exact fun wf2=>h.ev0 c0 c1 wf2 l1 l2 fun d d0 d1 g=>absurd g (nb d d0 d1)
   ·rw[if_neg hn]
    refine fun wf2=>h.ev0 c0 c1 wf2 l1 ?_ fun d d0 d1 g=>absurd g (nb d d0 d1)
    show(Cl.start k.s k.c k.f x.o).In W.s x.c W.w.ws
    rw[k2,k3];exact Job.In.new k hm c0 c1 _ l2
  rw[if_neg g2]
  unfold Wo.kill
  intro wf2
  have e1:putSt 2 0=2:=by decide
  dsimp only at wf2 ⊢
  rw[e1]at wf2 ⊢
  exact mark 2 _ _ (.inr rfl) (by omega) (fun g=>absurd g (by decide)) (fun _=>l1) wf2 (fun k e=>by cases e) (fun _=>rfl) fun _=>l2.lk hm
theorem new {s:Sh} {w:Wd} (hm:may s.p s.c s.m=true) (hw:w.of s) (hz:∀ j,w.ws j=0):Ti (Wo.new s w):=by
 have nl:∀ c,0≤c→Nl s w.ws c:=fun c c0=>by
  refine⟨fun q a b g=>?_,fun q i a b i0 i1 g=>?_⟩
  ·have h1:pgAt s w.ws q=0:=hz _
   omega
  ·have h1:slAt s w.ws q i=0:=hz _
   have:=g.2
   omega
 refine⟨⟨hm,hw,fun d x e=>(by cases e)⟩,Bs.zero hz,fun d _ _=>.inl (hz _),fun c k e=>(by cases e),fun c c1 _=>⟨by show w.ws c≠1;rw[hz];decide,?_⟩,fun c c0 c1 _=>nl c c0⟩
 exact Lk.of1 hm ((nl c (by omega)).own hm (Bs.zero hz) (by omega) c1) ⟨0,Nr.nil 0⟩
end Ti
end Go.Ma
namespace Go.Ma
open Go.Pl
namespace Kt
def sm (f:Nat→Int):Nat→Int
 | 0=>0
 | n+1=>sm f n+f n
def hl (s:Sh) (ws:Nat→Int) (ad:Int):Int×Bool:=
 if Cn.held s ws (ad / 64)=true then(Cn.who s ws (ad / 64),true)
 else if pgK s (ad / 64) (pgAt s ws (ad / 64))=2 then
  if slK (slAt s ws (ad / 64) (ad % 64 / size (pgA s (ad / 64) (pgAt s ws (ad / 64)))))=2 then(slA (slAt s ws (ad / 64) (ad % 64 / size (pgA s (ad / 64) (pgAt s ws (ad / 64))))),true) else(0,false)
 else(0,false)
def one (d:Int) (s:Sh) (ws:Nat→Int) (x:Nat):Int:=if(hl s ws x).2=true∧(hl s ws x).1=d then 1 else 0
def wayS (d:Int) (s:Sh) (ws:Nat→Int) (q A:Int):Nat→Int
 | 0=>0
 | i+1=>wayS d s ws q A i+if slK (slAt s ws q i)=2∧slA (slAt s ws q i)=d then size A else 0
def mineP (d:Int) (s:Sh) (ws:Nat→Int) (q:Int):Int:=
 if Cn.held s ws q=true then(if Cn.who s ws q=d then 64 else 0)
 else if pgK s q (pgAt s ws q)=2 then wayS d s ws q (pgA s q (pgAt s ws q)) (slots (pgA s q (pgAt s ws q))).toNat else 0
section
variable {s:Sh} {ws ws0:Nat→Int} {d:Int}
def mineN (d:Int) (s:Sh) (ws:Nat→Int):Nat→Int
 | 0=>0
 | q+1=>mineN d s ws q+mineP d s ws q
end
end Kt
end Go.Ma
namespace Go.Ma
open Go.Pl
open Ow
namespace Kt
section
variable {f g:Nat→Int} {n:Nat}
end
def nr (a:Int) (n:Nat):Int:=sm (fun q=>if a≤(q:Int)∧(q:Int)<a+8 then 1 else 0) n
section
variable {s:Sh} {ws:Nat→Int} {d:Int}
def cE (E:Int→Int×Int) (m:Nat) (q:Int) (i:Nat):Int:=sm (fun j=>if(E j).1=q∧0≤(E j).2∧(E j).2<i then 1 else 0) m
def tE (E:Int→Int×Int) (m:Nat) (n:Nat):Int:=sm (fun j=>if 0≤(E j).1∧(E j).1<n then 1 else 0) m
/-! ### The count of all -/
def mineA (w:Int→Bool) (s:Sh) (ws:Nat→Int) (n:Nat):Int:=sm (fun c=>if w c then mineN c s ws n else 0) s.c.toNat
end
end Kt
end Go.Ma
namespace Go.Ma
open Go.Pl
open Ow
open Kt
namespace Ti
variable {W:Wo} {x:Ch} {c:Int}
def dn (W:Wo):Int:=sm (fun c=>if W.w.ws c≠0∧W.w.ws c≠1 then 1 else 0) W.s.c.toNat
end Ti
end Go.Ma
namespace Go.Ma
open Go.Pl
open Ow
inductive Wr (s:Sh) (c:Int) (ws:Nat→Int) (w':Wd):Prop
 | no (h:w'.kd=0)
 | pg (q:Int) (q0:0≤q) (q1:q<s.p) (e:w'.pl=page s.p s.c s.m q) (h:w'.kd=1→w'.pt=1+16*c→∃ k,Sup s k (pgAt s ws q))
 | sl (q i:Int) (q0:0≤q) (q1:q<s.p) (i0:0≤i) (i1:i<16) (e:w'.pl=slot s.p s.c s.m q i) (h:w'.kd=1→w'.pt=2+16*c→pgAt s ws q=1+16*c)
 | mg (j:Int) (j0:0≤j) (j1:j<s.m) (e:w'.pl=mag s.p s.c s.m c j)
theorem n1_pg {k a b c:Int} (h:k≠1):putPg k a b≠1+16*c:=by unfold putPg;split<;>omega
theorem n2_sl {k a c:Int} (h:k≠2):putSl k a≠2+16*c:=by unfold putSl;split<;>omega
section
variable {s:Sh} {c:Int} {w:Wd}
theorem Tk.wr {t:Tk} (ht:t.wf) (hs:t.s=s) (hc:t.c=c) (hd:t.dn=false):Wr s c w.ws (t.step w).2:=by
 obtain⟨hm,c0,c1,i0,i1⟩:=ht.of hd
 rw[hs]at hm c1 i1
 unfold Tk.step
 rw[if_neg (by rw[hd];decide)]
 split
 ·exact .mg t.i i0 i1 (by show t.at'=_;unfold Tk.at';rw[hs,hc])
 ·split<;>exact .no rfl
theorem Pu.wr {t:Pu} (ht:t.wf) (hs:t.s=s) (hc:t.c=c) (hd:t.dn=false):Wr s c w.ws (t.step w).2:=by
 obtain⟨hm,c0,c1,i0,i1⟩:=ht.of hd
 rw[hs]at hm c1 i1
 unfold Pu.step
 rw[if_neg (by rw[hd];decide)]
 split
 ·exact .mg t.i i0 i1 (by show t.at'=_;unfold Pu.at';rw[hs,hc])
 ·split<;>exact .no rfl
theorem Sc.wr {t:Sc} (ht:t.wf) (hs:t.s=s) (hd:t.dn=false):Wr s c w.ws (t.step w).2:=by
 obtain⟨hm,c0,c1,k0,f0,f1,m0,m1,x0,x1⟩:=ht.of hd
 unfold Sc.step
 rw[if_neg (by rw[hd];decide)]
 split
 ·exact .no rfl
 ·split
  ·exact .no rfl
  ·have hp:=(may_iff _ _ _).1 hm
   have hb:=mod_bd (a:=t.f+t.many) (p:=t.s.p) (by omega)
   have hsl:=slots_bd t.k
   refine .sl ((t.f+t.many) % t.s.p) t.i hb.1 (by rw[← hs];exact hb.2) (by omega) (by omega) ?_ fun g=>by cases g
   show t.at'=_
   rw[← hs];rfl
theorem Pc.wr {t:Pc} (ht:t.wf) (hs:t.s=s) (hd:t.dn=false):Wr s c w.ws (t.step w).2:=by
 obtain⟨hm,c0,c1,f0,f1,m0,m1⟩:=ht.of hd
 unfold Pc.step
 rw[if_neg (by rw[hd];decide)]
 split
 ·have hp:=(may_iff _ _ _).1 hm
  have hb:=mod_bd (a:=t.f+t.many) (p:=t.s.p) (by omega)
  refine .pg ((t.f+t.many) % t.s.p) hb.1 (by rw[← hs];exact hb.2) ?_ fun g=>by cases g
  show t.at'=_
  rw[← hs];rfl
 ·exact .no rfl
theorem St.wr {t:St} (ht:t.wf) (hs:t.s=s) (hd:t.dn=false) (hk:0<t.i→Sup s t.k (pgAt s w.ws t.p)):Wr s c w.ws (t.step w).2:=by
 obtain⟨hm,c0,c1,p0,p1,k0,i0,i1,hb⟩:=ht.of hd
 rw[hs]at hm p1
 have hsl:=slots_bd t.k
 unfold St.step
 rw[if_neg (by rw[hd];decide)]
 split
 ·rename_i e
  have:=hb e
  refine .sl t.p (t.i - 1) p0 p1 (by omega) (by omega) (by show t.at' (t.i - 1)=_;unfold St.at';rw[hs]) fun _ g=>absurd g ?_
  exact n2_sl (by decide)
 ·split
  ·rename_i e
   exact .pg t.p p0 p1 (by show t.pat=_;unfold St.pat;rw[hs]) fun _ _=>⟨_,hk (by omega)⟩
  ·rename_i e
   exact .sl t.p t.i p0 p1 i0 (by omega) (by show t.at' t.i=_;unfold St.at';rw[hs]) fun g=>by cases g
theorem Bi.wr {t:Bi} (ht:t.wf) (hs:t.s=s) (hd:t.dn=false) (hp:t.bd=false→pgAt s w.ws t.p=1+16*c):Wr s c w.ws (t.step w).2:=by
 obtain⟨hm,c0,c1,p0,p1,k0,i0,i1,hb⟩:=ht.of hd
 rw[hs]at hm p1
 have hsl:=slots_bd t.k
 have he:t.at'=slot s.p s.c s.m t.p t.i:=by unfold Bi.at';rw[hs]
 unfold Bi.step
 rw[if_neg (by rw[hd];decide)]
 split
 ·rename_i e
  have:=hb e
  exact .sl t.p t.i p0 p1 i0 (by omega) he fun _ g=>absurd g (n2_sl (by decide))
 ·rename_i e
  split
  ·exact .pg t.p p0 p1 (by show t.pat=_;unfold Bi.pat;rw[hs]) fun _ g=>absurd g (n1_pg (by decide))
  ·exact .sl t.p t.i p0 p1 i0 (by omega) he fun _ _=>hp (by simpa using e)
theorem Sk.In.wr {t:Sk} (h:Sk.In s c t w.ws) (hd:t.dn=false):Wr s c w.ws (t.step w).2:=by
 obtain⟨ok,nd⟩:=h.wf.nw hd
 have ft:=h.ft
 have ow:=h.ow
 have ec:=h.ec
 rcases Sk.step_cases t w with⟨g,-⟩|⟨-,⟨m,en,e⟩|⟨m,en,e⟩|⟨m,en,e⟩|⟨en,e⟩|⟨m,en,e⟩|⟨m,en,e⟩⟩
 ·rw[hd]at g;cases g
 all_goals
  rw[e]
  rw[en]at ok nd
 ·exact Tk.wr ok.1 (ok.2.1.trans h.es) (ok.2.2.1.trans ec) nd
 ·exact Sc.wr ok.1 (ok.2.1.trans h.es) nd
 ·exact Pc.wr ok.1 (ok.2.1.trans h.es) nd
 ·exact .no rfl
 ·rw[Sk.Ft_of hd en]at ft
  have ft:m.hd=false∧(0<m.i→Sup s m.k (pgAt s w.ws m.p)):=ft
  exact St.wr ok.1 (ok.2.1.trans h.es) nd ft.2
 ·rw[Sk.ho_bi hd en]at ow
  refine Bi.wr ok.1 (ok.2.1.trans h.es) nd fun g=>?_
  obtain⟨-,-,-,p0,p1,-⟩:=ok.1.of nd
  rw[ok.2.1,h.es]at p1
  exact(ow.pg m.p p0 p1).2 ⟨g,rfl⟩
theorem Rn.In.wr {t:Rn} (h:Rn.In s c t w.ws) (hd:t.dn=false):Wr s c w.ws (t.step w).2:=by
 obtain⟨hm,hfd,ar⟩:=h.wf.of hd
 have hs:=h.es
 unfold Rn.Ar at ar
 rw[hs]at ar hm
 obtain⟨-,-,n1,n8,h0,h1,a0,x0,x5,ar4,ar3,ar4',ar5⟩:=ar
 rcases Rn.step_cases h.wf w with⟨g,-⟩|⟨-,⟨hn,e⟩|⟨hn,e⟩|⟨hn,q,hq,hqw,hqd,hqs,hqc,hqp,e⟩|⟨hn,e⟩|⟨hn,e⟩|⟨hn,e⟩⟩
 ·rw[hd]at g;cases g
 all_goals rw[e]
 ·exact .no rfl
 ·have a1:=ar4 (by omega)
  exact .pg t.at' (by omega) (by omega) (by show t.pat=_;unfold Rn.pat;rw[hs]) fun g=>by cases g
 ·exact St.wr hqw (hqs.trans hs) hqd (h.ft.st hd hn q hq)
 ·have a1:=ar4 (by omega)
  obtain⟨i0,i1⟩:=ar3 hn
  exact .sl t.at' t.i (by omega) (by omega) i0 i1 (by show t.sat=_;unfold Rn.sat;rw[hs]) fun _ g=>by have g:(0:Int)=2+16*c:=g;omega
 ·have a1:=ar4 (by omega)
  obtain⟨i0,i1,-⟩:=ar4' hn
  exact .pg (t.i - 1) (by omega) (by omega) (by show t.bat=_;unfold Rn.bat;rw[hs]) fun _ g=>by have g:(0:Int)=1+16*c:=g;omega
 ·obtain⟨e5,i0,i1⟩:=ar5 hn
  exact .pg t.i (by omega) (by omega) (by show t.iat=_;unfold Rn.iat;rw[hs]) fun _ g=>absurd g (n1_pg (by decide))
theorem Rv.In.wr {t:Rv} (h:Rv.In s c t w.ws) (hd:t.dn=false):Wr s c w.ws (t.step w).2:=by
 cases t with
 | sk t=>exact Sk.In.wr h hd
 | rn t=>exact Rn.In.wr h hd
 | no=>cases hd
theorem Cm.wr {t:Cm} (ht:t.wf) (hs:t.s=s):Wr s c w.ws (t.step w).2∨(t.step w).2=w:=by
 unfold Cm.step
 cases hd:t.dn
 ·rw[if_neg (by decide)]
  have hf:=ht hd
  have p1:=hf.p1
  rw[hs]at p1
  left
  split
  ·exact .pg t.b.p hf.p0 p1 (by show t.pat=_;unfold Cm.pat;rw[hs]) fun _ g=>absurd g (n1_pg (by decide))
  ·rename_i e
   have hi:=hf.s (by simpa using e)
   have hsl:=slots_bd t.b.k
   exact .sl t.b.p t.b.i hf.p0 p1 hi.1 (by omega) (by show t.sat=_;unfold Cm.sat;rw[hs]) fun _ g=>absurd g (n2_sl (by decide))
 ·right;rfl
theorem Uo.wr {t:Uo} (ht:t.wf) (hs:t.s=s):Wr s c w.ws (t.step w).2∨(t.step w).2=w:=by
 unfold Uo.step
 cases hd:t.dn
 ·rw[if_neg (by decide)]
  obtain⟨hf,hi⟩:=ht hd
  have p1:=hf.p1
  have p0:=hf.p0
  have hl:=hf.l
  rw[hs]at p1 hl
  left
  split
  ·rename_i e
   have:=hi e
   have:=hl e
   split
   ·exact .pg t.b.p p0 p1 (by show t.pat=_;unfold Uo.pat;rw[hs]) fun _ g=>by have g:(0:Int)=1+16*c:=g;omega
   ·exact .pg (t.b.p+t.i+1) (by omega) (by omega) (by show t.iat=_;unfold Uo.iat;rw[hs]) fun _ g=>by have g:(0:Int)=1+16*c:=g;omega
  ·rename_i e
   have hi:=hf.s (by simpa using e)
   have hsl:=slots_bd t.b.k
   exact .sl t.b.p t.b.i p0 p1 hi.1 (by omega) (by show t.sat=_;unfold Uo.sat;rw[hs]) fun _ g=>absurd g (n2_sl (by decide))
 ·right;rfl
theorem Gv.wr {t:Gv} (ht:t.wf) (hs:t.s=s) (hc:t.c=c) (hd:t.dn=false):Wr s c w.ws (t.step w).2:=by
 rcases Gv.step_cases ht w with⟨g,-⟩|⟨-,hcs⟩
 ·rw[hd]at g;cases g
 obtain⟨hm,c0,c1,p0,p1,-⟩:=ht.of hd
 rw[hs]at hm c1 p1
 have hbl:t.nx≠0→t.blk:=fun g=>(ht.bl hd g).2.1
 have hsg:t.pK=2→t.nx≠0→0≤t.sl∧t.sl<16:=fun g1 g2=>by
  have hb:=slots_bd t.pA
  rcases hbl g2 with⟨g,-⟩|⟨-,s0,s1,-⟩<;>omega
 have ep:t.pat=page s.p s.c s.m t.pg:=by unfold Gv.pat;rw[hs]
 have es:t.sat=slot s.p s.c s.m t.pg t.sl:=by unfold Gv.sat;rw[hs]
 rcases hcs with⟨-,e⟩|⟨hn,hk,e⟩|⟨hn,hk,e⟩|⟨hn,p,hp,pw,pd,-,ps,pc,e⟩|⟨hn,e⟩|⟨hn,hi,e⟩|⟨hn,hi,e⟩<;>rw[e]
 ·exact .no rfl
 ·exact .pg t.pg p0 p1 ep fun g=>by cases g
 ·obtain⟨s0,s1⟩:=hsg hk (by omega)
  exact .sl t.pg t.sl p0 p1 s0 s1 es fun g=>by cases g
 ·exact Pu.wr pw (ps.trans hs) (pc.trans hc) pd
 ·obtain⟨s0,s1⟩:=hsg (ht.n3 hd hn) (by omega)
  exact .sl t.pg t.sl p0 p1 s0 s1 es fun _ g=>absurd g (n2_sl (by decide))
 ·exact .pg t.pg p0 p1 ep fun _ g=>by have g:(0:Int)=1+16*c:=g;omega
 ·obtain⟨k3,i0,i1⟩:=ht.n4 hd hn
  rcases hbl (by omega) with⟨-,a1,a8,aq,-⟩|⟨g,-⟩
  ·rw[hs]at aq
   exact .pg (t.pg+t.i+1) (by omega) (by omega) (by show page t.s.p t.s.c t.s.m _=_;rw[hs]) fun _ g=>by have g:(0:Int)=1+16*c:=g;omega
  ·omega
theorem Re.In.wr {t:Re} (h:Re.In s c t w.ws):Wr s c w.ws (t.step w).2∨(t.step w).2=w:=by
 have ea:t.dn=false→(t.step w).2=(t.acc w).2:=fun hd=>by unfold Re.step;rw[if_neg (by rw[hd];decide)]
 have wf:=h.wf
 cases h.ph with
 |rv hd e hr hi a g=>
  rw[ea hd]
  unfold Re.acc;rw[if_neg (by rw[hr];decide)]
  exact .inl (hi.wr hr)
 |gv hd e hr hf b ft hi=>
  have gd:=(wf.nx hd e hr).2
  rw[ea hd]
  unfold Re.acc;rw[if_pos hr,if_neg (by rw[gd];decide)]
  exact .inl (Gv.wr wf.gw (wf.gs.1.trans h.es) (wf.gs.2.trans h.ec) gd)
 |uo u hd e hi=>
  obtain⟨u1,u2,-,h4,h5,h6,-⟩:=wf.uo u e
  rw[ea hd]
  unfold Re.acc;rw[if_pos h4,if_pos h6,e]
  exact Uo.wr u1 (u2.trans h.es)
 |cm u hd e hi=>
  obtain⟨u1,u2,-,h4,h5,h6,-⟩:=wf.cm u e
  rw[ea hd]
  unfold Re.acc;rw[if_pos h4,if_pos h6,e]
  exact Cm.wr u1 (u2.trans h.es)
 | fn hd ow=>rw[Re.step_dn hd];exact .inr rfl
theorem Job.In.wr {j:Job} (h:j.In s c w.ws) (hw:j.wf s c) (hd:j.dn=false) (hh:∀ t,j≠.hr t):Wr s c w.ws (j.step s c w).2∨(j.step s c w).2=w:=by
 cases j with
 | no=>exact .inr rfl
 |ml v m=>
  obtain⟨h1,h2,h3⟩:=hw
  rcases Job.ml_cases (s:=s) (c:=c) (w:=w) v m with⟨hv,e⟩|⟨hv,rfl,hf,e⟩|⟨hv,rfl,hf,e⟩|⟨hv,x,rfl,e⟩<;>rw[e]
  ·cases m with
   | none=>exact .inl (Rv.In.wr h hv)
   | some m=>rw[(h3 m rfl).2.2.2.1]at hv;cases hv
  ·exact .inr rfl
  ·exact Cm.wr (t:=Cm.new s c v.bk) (Cm.new_wf s c v.bk) rfl
  ·exact Cm.wr (h3 x rfl).1 (h3 x rfl).2.1
 | fr t=>exact .inl (Gv.wr hw.1 hw.2.1 hw.2.2 hd)
 | ag t=>exact Re.In.wr h
 | hr t=>exact absurd rfl (hh t)
inductive Mb (s:Sh) (c:Int) (ws:Nat→Int) (w':Wd):Prop
 | no (h:w'.kd=0∨w'.ok=false∨w'.pt=w'.was)
 | st (d:Int) (d0:0≤d) (d1:d<s.c) (e:w'.pl=d) (h:w'.was=2∨∃ b,0≤b∧b<s.c∧w'.was=3+16*b)
 | pgH (q:Int) (q0:0≤q) (q1:q<s.p) (e:w'.pl=page s.p s.c s.m q) (o:Int) (o0:0≤o) (o1:o<s.c) (own:o=c∨ws o.toNat=3+16*c) (h:w'.was=1+16*o) (y:okPg s q w'.pt=true)
 | pgB (q:Int) (q0:0≤q) (q1:q<s.p) (e:w'.pl=page s.p s.c s.m q) (x:Int) (x0:0≤x) (x1:x<q) (x8:q<x+8) (o:Int) (o0:0≤o) (o1:o<s.c) (own:o=c∨ws o.toNat=3+16*c) (h:w'.was=4+16*x) (hx:pgAt s ws x=1+16*o) (y:w'.pt=0)
 | pgC (q:Int) (q0:0≤q) (q1:q<s.p) (e:w'.pl=page s.p s.c s.m q) (k:w'.kd=2) (y:w'.pt=1+16*c) (h:w'.was=0∨∃ n,1≤n∧n≤8∧q+n≤s.p∧w'.was=3+16*n)
 | pgS (q:Int) (q0:0≤q) (q1:q<s.p) (e:w'.pl=page s.p s.c s.m q) (y:w'.pt=1+16*c) (k:Int) (h:Sup s k w'.was) (a:∀ i,0≤i→i<slots k→slAt s ws q i=2+16*c)
 | slH (q i:Int) (q0:0≤q) (q1:q<s.p) (i0:0≤i) (i1:i<16) (e:w'.pl=slot s.p s.c s.m q i) (o:Int) (o0:0≤o) (o1:o<s.c) (own:o=c∨ws o.toNat=3+16*c) (h:pgAt s ws q=1+16*o)
 | slW (q i:Int) (q0:0≤q) (q1:q<s.p) (i0:0≤i) (i1:i<16) (e:w'.pl=slot s.p s.c s.m q i) (k:Int) (hk:Sup s k (pgAt s ws q)) (o:Int) (o0:0≤o) (o1:o<s.c) (own:o=c∨ws o.toNat=3+16*c) (h:w'.was=2+16*o) (y:w'.pt=1+16*k∨w'.pt=3+16*k)
 | slC (q i:Int) (q0:0≤q) (q1:q<s.p) (i0:0≤i) (i1:i<16) (e:w'.pl=slot s.p s.c s.m q i) (k:Int) (hk:Sup s k (pgAt s ws q)) (kd:w'.kd=2) (h:w'.was=1+16*k∨w'.was=3+16*k) (y:w'.pt=2+16*c)
 | mg (o j:Int) (o0:0≤o) (o1:o<s.c) (j0:0≤j) (j1:j<s.m) (e:w'.pl=mag s.p s.c s.m o j) (own:o=c∨ws o.toNat=3+16*c)
theorem One.wr' {w':Wd} (h:One c w w'):w'.kd=0∨w'.ok=false∨((w'.kd=1∨w'.kd=2)∧w'.was=w.get w'.pl∧w'.ws=upW w.ws w'.pl w'.pt):=by
 cases h with
 | ld a=>exact .inl rfl
 | st a y=>exact .inr (.inr ⟨.inl rfl,rfl,store_ws ..⟩)
 |sw a x y=>
  by_cases e:w.get a=x
  ·exact .inr (.inr ⟨.inr rfl,rfl,swap_yes e⟩)
  ·refine .inr (.inl ?_)
   show(w.get a == x)=false
   exact beq_eq_false_iff_ne.2 e
theorem word_ok (hm:may s.p s.c s.m=true) {ws:Nat→Int} (hB:Bs s ws) {q:Int} (q0:0≤q) (q1:q<s.p):okPg s q (pgAt s ws q)=true:=(Pg.rd hm q0 q1 (hB.pg q q0 q1)).1
theorem Mb.of {w':Wd} {o:Int} (hm:may s.p s.c s.m=true) (hB:Bs s w.ws) (o0:0≤o) (o1:o<s.c) (own:o=c∨w.ws o.toNat=3+16*c) (h:Sq s o w.ws w'.ws) (one:One c w w')
  (wr:Wr s o w.ws w') (hs:o=c∨Shr s o w.ws w'.ws):Mb s c w.ws w':=by
 have hb:=(may_iff _ _ _).1 hm
 rcases one.wr' with g | g |⟨kd,was,ew⟩
 ·exact .no (.inl g)
 ·exact .no (.inr (.inl g))
 by_cases ne:w'.pt=w'.was
 ·exact .no (.inr (.inr ne))
 cases wr with
 | no g=>exact .no (.inl g)
 |pg q q0 q1 e hk=>
  have e1:w'.was=pgAt s w.ws q:=by rw[was,e];rfl
  have e2:pgAt s w'.ws q=w'.pt:=by rw[ew,e,pg_pg hm q0 q1 q0 q1,if_pos rfl]
  rcases h.mw.pg q q0 q1 (by rw[e2,← e1];exact ne) with g |⟨g,x,x0,x1,g2,g3⟩|⟨g,g2⟩
  ·refine .pgH q q0 q1 e o o0 o1 own (by rw[e1];exact g) ?_
   rw[← e2];exact word_ok hm h.bs q0 q1
  ·have hx:x<q∧q<x+8:=by
    rcases (hB.pg q q0 q1).word (by omega) with z |⟨c',-,-,z⟩|⟨k,z⟩|⟨n,-,-,-,z⟩|⟨y,y0,y1,y2,z⟩
    ·omega
    ·omega
    ·have:=z.mod;omega
    ·omega
    ·omega
   exact .pgB q q0 q1 e x x0 hx.1 hx.2 o o0 o1 own (by rw[e1];exact g2) g3 (by rw[← e2];exact g)
  ·rw[e2]at g
   have oc:o=c:=by
    rcases hs with hs | hs
    ·exact hs
    ·have:=hs.pg q q0 q1 (by rw[e2];exact g)
     exact absurd (by rw[g,e1,this]) ne
   subst oc
   rcases g2 with g2 |⟨n,g2⟩|⟨k,g2,g3⟩
   ·have k2:w'.kd=2:=by
     rcases kd with kd | kd
     ·obtain⟨k,z⟩:=hk kd g
      have:=z.mod;omega
     ·exact kd
    exact .pgC q q0 q1 e k2 g (.inl (by rw[e1];exact g2))
   ·have k2:w'.kd=2:=by
     rcases kd with kd | kd
     ·obtain⟨k,z⟩:=hk kd g
      have:=z.mod;omega
     ·exact kd
    refine .pgC q q0 q1 e k2 g (.inr ?_)
    rcases (hB.pg q q0 q1).word (by omega) with z |⟨c',-,-,z⟩|⟨k,z⟩|⟨n',n1,n8,nq,z⟩|⟨y,y0,y1,y2,z⟩
    ·omega
    ·omega
    ·have:=z.mod;omega
    ·exact⟨n',n1,n8,nq,by rw[e1];exact z⟩
    ·omega
   ·exact .pgS q q0 q1 e g k (by rw[e1];exact g2) g3
 |sl q i q0 q1 i0 i1 e hk=>
  have e1:w'.was=slAt s w.ws q i:=by rw[was,e,slot_at hm q0 q1 i0 i1]
  have e2:slAt s w'.ws q i=w'.pt:=by rw[ew,e,sl_sl hm q0 q1 i0 i1 q0 i0 i1,if_pos ⟨rfl,rfl⟩]
  rcases h.mw.sl q i q0 q1 i0 i1 (by rw[e2,← e1];exact ne) with g |⟨k,g,⟨g2,g3⟩|⟨g2,g3⟩⟩
  ·exact .slH q i q0 q1 i0 i1 e o o0 o1 own g
  ·exact .slW q i q0 q1 i0 i1 e k g o o0 o1 own (by rw[e1];exact g2) (by rw[← e2];exact g3)
  ·rw[e2]at g2
   have oc:o=c:=by
    rcases hs with hs | hs
    ·exact hs
    ·have hy:=hs.sl q i q0 q1 i0 i1 ⟨⟨k,by rw[ew,e,pg_sl hm q0 q1 i0 i1 q0 q1];exact g⟩,by rw[e2];exact g2⟩
     exact absurd (by rw[g2,e1,hy.2]) ne
   subst oc
   have k2:w'.kd=2:=by
    rcases kd with kd | kd
    ·have:=hk kd g2
     have:=g.mod;omega
    ·exact kd
   exact .slC q i q0 q1 i0 i1 e k g k2 (by rw[e1];exact g3) g2
 | mg j j0 j1 e=>exact .mg o j o0 o1 j0 j1 e own
theorem Ad.wr {t:Ad} {ws:Nat→Int} (hm:may s.p s.c s.m=true) (es:t.s=s) (wf:t.wf) (hd:t.dn=false) (h3:3≤t.nx) (h13:t.nx≠13):Wr s t.d ws (t.step w).2:=by
 obtain⟨-,-,-,ar⟩:=wf.of hd
 unfold Ad.Ar at ar
 rw[es]at ar
 have sb:=slots_bd t.pA
 have a0:0≤t.at':=by omega
 have a1:t.at'<s.p:=by omega
 have hpat:t.pat=page s.p s.c s.m t.at':=by unfold Ad.pat;rw[es]
 have hsat:t.sat=Go.Pl.slot s.p s.c s.m t.at' t.i:=by unfold Ad.sat;rw[es]
 have d0:0≤t.d:=by omega
 have z1:(0:Int)≠1+16*t.d:=by omega
 have z2:(0:Int)≠2+16*t.d:=by omega
 rcases Ad.step_cases t w with⟨g,-⟩|⟨-,⟨n,e⟩|⟨n,e⟩|⟨n,e⟩|⟨n,e⟩|⟨n,e⟩|⟨n,e⟩|⟨n,e⟩|⟨n,e⟩|⟨n,e⟩|⟨n,e⟩|⟨n,e⟩|⟨n,e⟩|⟨n,e⟩|⟨n,e⟩⟩
 ·rw[hd]at g;cases g
 ·omega
 ·omega
 ·omega
 all_goals rw[e]
 ·exact .no rfl
 ·exact .no rfl
 ·exact .pg t.at' a0 a1 hpat fun _ g=>absurd g z1
 ·exact .no rfl
 ·exact .sl t.at' t.i a0 a1 (by omega) (by omega) hsat fun _ g=>absurd g z2
 ·exact .pg t.at' a0 a1 hpat fun _ g=>absurd g z1
 ·exact .mg t.i (by omega) (by omega) (by show t.mat=_;unfold Ad.mat;rw[es])
 ·exact .no rfl
 ·exact .no rfl
 ·exact .sl t.at' t.i a0 a1 (by omega) (by omega) hsat fun _ g=>absurd g (n2_sl (by decide))
 ·omega
theorem Job.In.mb {j:Job} (h:j.In s c w.ws) (hw:j.wf s c) (by':j.By s c w.ws) (hd:j.dn=false) (c0:0≤c) (c1:c<s.c) (ho:w.of s) (hm:may s.p s.c s.m=true) (hB:Bs s w.ws) (hx:∀ d,0≤d→d<s.c→Sx s w.ws d) (lc:w.ws c.toNat=1)
  (one:One c w (j.step s c w).2):Mb s c w.ws (j.step s c w).2:=by
 have hb:=(may_iff _ _ _).1 hm
 by_cases hj:∃ t,j=.hr t
 ·obtain⟨t,rfl⟩:=hj
  have hd:t.dn=false:=hd
  have h:Ad.In s c t w.ws:=h
  have one:One c w (t.step w).2:=one
  show Mb s c w.ws (t.step w).2
  obtain⟨-,-,cd,ar⟩:=h.wf.of hd
  unfold Ad.Ar at ar
  rw[h.es,h.ec]at ar
  have d0:0≤t.d:=by omega
  have d1:t.d<s.c:=by omega
  have hdat:t.dat=t.d:=by unfold Ad.dat;rw[h.es,status_yes hm d0 d1]
  rcases (by omega:t.nx=0∨t.nx=1∨t.nx=2∨(3≤t.nx∧t.nx≠13)∨t.nx=13) with n | n | n |⟨n,n13⟩| n
  ·rw[Ad.s0 hd n];exact .no (.inl rfl)
  ·rw[Ad.s1 hd n];exact .no (.inl rfl)
  ·rw[Ad.s2 hd n]
   by_cases e:w.get t.dat=t.was
   ·refine .st t.d d0 d1 hdat ?_
    show w.get t.dat=2∨∃ b,0≤b∧b<s.c∧w.get t.dat=3+16*b
    rw[e]
    rcases h.f2 hd n with g |⟨b,b0,b1,g,-⟩
    ·exact .inl g
    ·exact .inr ⟨b,b0,b1,g⟩
   ·refine .no (.inr (.inl ?_))
    show(w.get t.dat == t.was)=false
    exact beq_eq_false_iff_ne.2 e
  ·obtain⟨g1,g2⟩:=h.f3 hd n
   obtain⟨k1,k2,-⟩:=g2.step hm h.es h.wf hd hB n13
   exact Mb.of hm hB d0 d1 (.inr g1) k1 one (Ad.wr hm h.es h.wf hd n n13) (.inr k2)
  ·obtain⟨g1,-⟩:=h.f3 hd (by omega)
   rw[Ad.s13 hd n]
   refine .st t.d d0 d1 hdat (.inr ⟨c,c0,c1,?_⟩)
   show w.get t.dat=_
   rw[hdat];exact g1
 ·obtain⟨ef,-⟩:=h.step hw by' hd ho hB hx lc
  have nh:∀ t,j≠.hr t:=fun t e=>hj ⟨t,e⟩
  have hsq:Sq s c w.ws (j.step s c w).2.ws:=by
   have nd:∀ d,0≤d→d<s.c→w.ws d.toNat≠3+16*c:=fun d d0 d1 g=>by
    obtain⟨t,e,-⟩:=by' d d0 d1 g
    exact nh t e
   cases j with
   | no=>exact Sq.refl c hB
   |ml v m=>
    obtain⟨h1,h2,h3⟩:=hw
    rcases Job.ml_cases (s:=s) (c:=c) (w:=w) v m with⟨hv,e⟩|⟨hv,rfl,hf,e⟩|⟨hv,rfl,hf,e⟩|⟨hv,x,rfl,e⟩<;>rw[e]
    ·cases m with
     | none=>exact(Rv.In.step h hB).1.sq
     | some m=>rw[(h3 m rfl).2.2.2.1]at hv;cases hv
    ·exact Sq.refl c hB
    ·obtain⟨b1,b2,b3⟩:=Rv.In.found h hv hf
     exact((Cm.In.of b1 b2 b3).1.step hB).1.sq
    ·exact(Cm.In.step h hB).1.sq
   | fr t=>exact(Gv.In.step h ho hB).1.sq
   | ag t=>exact(Re.In.step h ho hB).1
   | hr t=>exact absurd rfl (nh t)
  rcases h.wr hw hd nh with wr | wr
  ·exact Mb.of hm hB c0 c1 (.inl rfl) hsq one wr (.inl rfl)
  ·rcases one.wr' with g | g |⟨-,g,g2⟩
   ·exact .no (.inl g)
   ·exact .no (.inr (.inl g))
   ·rw[wr]at g g2 ⊢
    refine .no (.inr (.inr ?_))
    rw[g]
    have h9:=congrFun g2 w.pl.toNat
    unfold upW at h9
    rw[if_pos rfl]at h9
    exact h9.symm
end
theorem Ti.acc {W:Wo} {x:Ch} (h:Ti W):(W.act x).1.sp=W.sp∨∃ w':Wd,(W.act x).1.sp=W.sp ++ [w'.last]∧One x.c W.w w'∧Mb W.s x.c W.w.ws w'∧w'.cl=x.c∧0≤x.c∧x.c<W.s.c∧∀ i,U (w'.ws i):=by
 unfold Wo.act
 by_cases g0:x.k<1∨4<x.k∨W.sat x.c<0
 ·rw[if_pos g0];exact .inl rfl
 rw[if_neg g0]
 obtain⟨c0,c1,c2⟩:=Wo.sat_bd (c:=x.c) h.wf (by omega)
 by_cases g1:x.k=1
 ·rw[if_pos g1]
  unfold Wo.start
  split<;>exact .inl rfl
 rw[if_neg g1]
 cases e:W.k x.c.toNat with
 | none=>exact .inl rfl
 |some k=>
  dsimp only
  by_cases g3:x.k=3
  rotate_left
  ·rw[if_neg g3]
   split<;>exact .inl rfl
  rw[if_pos g3]
  unfold Wo.step
  dsimp only
  by_cases hb:k.busy=true
  rotate_left
  ·have es:k.step W.w=(k,W.w,[],2):=if_neg hb
   rw[es]
   dsimp only
   rw[if_neg (by omega)];exact .inl rfl
  have es:k.step W.w=((k.adv W.w).tell.1,(k.j.step k.s k.c W.w).2,(k.adv W.w).tell.2,0):=if_pos hb
  rw[es]
  dsimp only
  obtain⟨k1,k2,k3⟩:=h.wf.k _ _ e
  have k3:k.c=x.c:=by omega
  obtain⟨l1,l2,l3⟩:=h.lv _ _ e
  have ec:((x.c.toNat:Nat):Int)=x.c:=by omega
  rw[ec]at l2 l3
  have jw:=k1.jw
  rw[k2,k3]at jw ⊢
  by_cases hst:W.w.st<(k.j.step W.s x.c W.w).2.st
  rotate_left
  ·rw[if_neg hst];exact .inl rfl
  rw[if_pos hst]
  rcases Job.step_one (w:=W.w) jw with one | one
  ·exact .inr ⟨_,rfl,one,l2.mb jw l3 (k1.jb hb).2.1 c0 c1 h.wf.w h.wf.m h.bs h.sx l1 one,one.cl,c0,c1,(Job.step_of jw h.wf.w).u⟩
  ·rw[one]at hst;omega
end Go.Ma
namespace Go.Ma
open Go.Pl
open Ow
section
variable (s:Sh) (c k:Int) (ws0 ws:Nat→Int)
structure Fm:Prop where
 e:∀ q,0≤q→q<s.p→pgAt s ws0 q=0→pgAt s ws q=0
 o:∀ q i,0≤q→q<s.p→0≤i→i<16→slAt s ws0 q i=1+16*k→slAt s ws q i=1+16*k
 m:∀ j,0≤j→j<s.m→mgAt s ws c j=mgAt s ws0 c j
def NoE:Prop:=∀ q,0≤q→q<s.p→pgAt s ws0 q≠0
def NoO:Prop:=∀ q i,0≤q→q<s.p→0≤i→i<16→slAt s ws0 q i≠1+16*k
def NoM (n:Int):Prop:=∀ j,0≤j→j<n→¬ (okEn s (mgAt s ws0 c j)=true∧enK s (mgAt s ws0 c j)=k)
def NoS:Prop:=NoM s c k ws0 s.m∧NoO s k ws0∧NoE s ws0
def NmN:Nw→Prop
 | .tk m=>m.hit=true∨(Fm s c k ws0 ws∧NoM s c k ws0 m.i)
 | .sc m=>Fm s c k ws0 ws∧NoM s c k ws0 s.m∧(∀ x,0≤x→x<m.many→∀ i,0≤i→i<16→slAt s ws0 ((m.f+x) % s.p) i≠1+16*k)∧(m.nx=0→m.i=0)∧∀ i,0≤i→i<m.i→slAt s ws0 ((m.f+m.many) % s.p) i≠1+16*k
 | .pc m=>Fm s c k ws0 ws∧NoM s c k ws0 s.m∧NoO s k ws0∧∀ x,0≤x→x<m.many→pgAt s ws0 ((m.f+x) % s.p)≠0
 | .no=>NoS s c k ws0
 | .st _=>NoS s c k ws0
 | .bi _=>True
end
def Sk.Nm (s:Sh) (c:Int) (ws0 ws:Nat→Int) (t:Sk):Prop:=if t.dn then t.fd=true∨NoS s c t.k ws0 else NmN s c t.k ws0 ws t.nw
section
variable {s:Sh} {c k:Int} {ws0 ws ws':Nat→Int}
structure Kq (s:Sh) (c k:Int) (ws ws':Nat→Int):Prop where
 e:∀ q,0≤q→q<s.p→pgAt s ws q=0→pgAt s ws' q=0
 o:∀ q i,0≤q→q<s.p→0≤i→i<16→slAt s ws q i=1+16*k→slAt s ws' q i=1+16*k
 m:∀ j,0≤j→j<s.m→mgAt s ws' c j=mgAt s ws c j
theorem Fm.refl:Fm s c k ws ws:=⟨fun _ _ _ g=>g,fun _ _ _ _ _ _ g=>g,fun _ _ _=>rfl⟩
theorem Fm.kp (h:Fm s c k ws0 ws) (r:Kq s c k ws ws'):Fm s c k ws0 ws':=⟨fun q a b g=>r.e q a b (h.e q a b g),fun q i a b i0 i1 g=>r.o q i a b i0 i1 (h.o q i a b i0 i1 g),fun j a b=>(r.m j a b).trans (h.m j a b)⟩
theorem NmN.kp {n:Nw} (h:NmN s c k ws0 ws n) (r:Kq s c k ws ws'):NmN s c k ws0 ws' n:=by
 cases n with
 | tk m=>exact h.imp id fun g=>⟨g.1.kp r,g.2⟩
 | sc m=>exact⟨h.1.kp r,h.2⟩
 | pc m=>exact⟨h.1.kp r,h.2⟩
 | no=>exact h
 | st m=>exact h
 | bi m=>trivial
theorem Sk.Nm.kp {t:Sk} (h:Sk.Nm s c ws0 ws t) (r:Kq s c t.k ws ws'):Sk.Nm s c ws0 ws' t:=by
 unfold Sk.Nm at h ⊢
 split at h
 ·rename_i e;rw[if_pos e];exact h
 ·rename_i e;rw[if_neg e];exact h.kp r
theorem cover {f p q:Int} (f0:0≤f) (f1:f<p) (q0:0≤q) (q1:q<p):∃ x,0≤x∧x<p∧(f+x) % p=q:=by
 by_cases h:f≤q
 ·refine⟨q - f,by omega,by omega,?_⟩
  rw[show f+(q - f)=q by omega];exact Int.emod_eq_of_lt q0 q1
 ·refine⟨q - f+p,by omega,by omega,?_⟩
  rw[show f+(q - f+p)=q+p by omega,Int.add_emod_right];exact Int.emod_eq_of_lt q0 q1
theorem Sk.Nm.step {t:Sk} {w:Wd} (hi:Sk.In s c t w.ws) (hB:Bs s w.ws) (h:Sk.Nm s c ws0 w.ws t):Sk.Nm s c ws0 (t.step w).2.ws (t.step w).1:=by
 cases hd:t.dn
 rotate_left
 ·rw[Sk.step_dn hd];exact h
 have hm:=hi.m
 have hb:=(may_iff _ _ _).1 hm
 have c0:=hi.c0
 have c1:=hi.c1
 have hes:=hi.es
 have hec:=hi.ec
 have hfd:=hi.wf.fd hd
 obtain⟨ok,nd⟩:=hi.wf.nw hd
 have of:=hi.wf.of hd
 unfold Sk.Nm at h
 rw[if_neg (by rw[hd];decide)]at h
 have f0:0≤t.f:=of.2.2.2.2.1
 have f1:t.f<s.p:=by have:=of.2.2.2.2.2.1;rw[hes]at this;exact this
 -- where one goes on, and where one ends
 have go:∀ (n:Nw) (ws1:Nat→Int),n.dn=false→NmN s c t.k ws0 ws1 n→Sk.Nm s c ws0 ws1 (t.set n):=fun n ws1 e g=>by
  rw[Sa.set_go _ e]
  unfold Sk.Nm
  rw[if_neg (by show ¬ t.dn=true;rw[hd];decide)];exact g
 have fin:∀ (u:Sk) (ws1:Nat→Int),u.dn=true→u.fd=true→Sk.Nm s c ws0 ws1 u:=fun u ws1 e g=>by
  unfold Sk.Nm
  rw[if_pos e];exact .inl g
 have nx:∀ (u:Sk) (ws1:Nat→Int),u.dn=false→u.k=t.k→NmN s c t.k ws0 ws1 u.nw→Sk.Nm s c ws0 ws1 u:=fun u ws1 e e2 g=>by
  unfold Sk.Nm
  rw[if_neg (by rw[e];decide),e2];exact g
 have trn:∀ (u:Sk) (ws1:Nat→Int),u.k=t.k→u.dn=false→NoS s c t.k ws0→Sk.Nm s c ws0 ws1 u.turn:=fun u ws1 e e2 g=>by
  unfold Sk.Nm
  split
  ·right;show NoS s c u.k ws0;rw[e];exact g
  ·show NoS s c u.k ws0;rw[e];exact g
 cases en:t.nw with
 |tk m=>
  rw[Sk.step_tk hd en]
  rw[en]at h ok nd
  have nd:m.dn=false:=nd
  obtain⟨o1,o2,o3,o4,o5,o6⟩:=ok
  obtain⟨-,-,-,i0,i1⟩:=o1.of nd
  rw[o2,hes]at i1
  have mfd:=o6 nd
  cases hh:m.hit
  ·have h:Fm s c t.k ws0 w.ws∧NoM s c t.k ws0 m.i:=h.resolve_left (by rw[hh];decide)
   cases hx:m.hits w
   ·have es:m.step w=({ m with i:=m.i+1,dn:=decide (m.i+1=m.s.m) },w.load m.c m.at'):=by unfold Tk.step;rw[if_neg (by rw[nd];decide),if_neg (by rw[hh];decide),if_neg (by rw[hx];decide)]
    rw[es]
    show Sk.Nm s c ws0 w.ws (t.set (.tk { m with i:=m.i+1,dn:=decide (m.i+1=m.s.m) }))
    have hat:m.at'=mag s.p s.c s.m c m.i:=by unfold Tk.at';rw[o2,hes,o3,hec]
    have hg:w.get m.at'=mgAt s ws0 c m.i:=by rw[hat,mag_at hm c0 c1 i0 i1,h.1.m m.i i0 i1]
    have nm:NoM s c t.k ws0 (m.i+1):=fun j j0 j1=>by
     by_cases e:j=m.i
     ·subst e
      unfold Tk.hits at hx
      rw[hg,o2,hes,o4]at hx
      rintro⟨g1,g2⟩
      rw[g1,g2]at hx
      simp at hx
     ·exact h.2 j j0 (by omega)
    cases hl:decide (m.i+1=m.s.m)
    ·exact go _ _ rfl (.inr ⟨h.1,nm⟩)
    ·have hl:=of_decide_eq_true hl
     rw[o2,hes]at hl
     rw[Sa.set_af _ rfl]
     show Sk.Nm s c ws0 w.ws (if m.fd then _ else _)
     rw[if_neg (by rw[mfd];decide)]
     refine nx _ _ hd rfl ⟨h.1,by rw[← hl];exact nm,fun x x0 x1=>?_,fun _=>rfl,fun i a b=>?_⟩
     ·have x1:x<0:=x1
      omega
     ·have b:i<0:=b
      omega
   ·have es:m.step w=({ m with ep:=enP m.s (w.get m.at'),es:=enS m.s (w.get m.at'),ek:=enK m.s (w.get m.at'),hit:=true },w.load m.c m.at'):=by unfold Tk.step;rw[if_neg (by rw[nd];decide),if_neg (by rw[hh];decide),if_pos hx]
    rw[es]
    exact go _ _ nd (.inl rfl)
  ·have es:m.step w=({ m with fd:=true,dn:=true },w.store m.c m.at' 0):=by unfold Tk.step;rw[if_neg (by rw[nd];decide),if_pos hh]
   rw[es]
   show Sk.Nm s c ws0 _ (t.set (.tk { m with fd:=true,dn:=true }))
   rw[Sa.set_af _ rfl]
   exact fin _ _ rfl rfl
 |sc m=>
  rw[Sk.step_sc hd en]
  rw[en]at h ok nd
  have nd:m.dn=false:=nd
  obtain⟨o1,o2,o3,o4,o5,o6,o7,o8,o9⟩:=ok
  obtain⟨-,-,-,-,-,m0,m1,i0,i1,x0,x2⟩:=o1.of nd
  have mfd:=o7 nd
  rw[o2,hes]at m1
  obtain⟨h1,h2,h3,h4,h5⟩:=h
  have sb:=slots_bd m.k
  have kk:=slots_k (k:=m.k) (by omega)
  have hpg:m.pg=(m.f+m.many) % s.p:=by unfold Sc.pg;rw[o2,hes]
  have hbd:=mod_bd (a:=m.f+m.many) (p:=s.p) (by omega)
  have hpat:m.pat=page s.p s.c s.m m.pg:=by unfold Sc.pat;rw[o2,hes]
  have hat:m.at'=slot s.p s.c s.m m.pg m.i:=by unfold Sc.at';rw[o2,hes]
  rw[← hpg]at h5 hbd
  have hgp:w.get m.pat=pgAt s w.ws m.pg:=by rw[hpat];rfl
  have hgs:w.get m.at'=slAt s w.ws m.pg m.i:=by rw[hat,slot_at hm hbd.1 hbd.2 i0 (by omega)]
  have ov:opn m.k=1+16*t.k:=by rw[opn_v kk.1 (by omega),o4]
  -- on to the next page
  have turn:∀ (u:Sc),u.s=m.s→u.k=m.k→u.f=m.f→u.many=m.many→u.fd=false→(∀ i,0≤i→i<16→slAt s ws0 m.pg i≠1+16*t.k)→Sk.Nm s c ws0 w.ws (t.set (.sc u.turn)):=fun u u1 u2 u3 u4 u5 hno=>by
   have all:∀ x,0≤x→x<m.many+1→∀ i,0≤i→i<16→slAt s ws0 ((m.f+x) % s.p) i≠1+16*t.k:=fun x a b i i0 i1=>by
    by_cases e:x=m.many
    ·rw[e,← hpg];exact hno i i0 i1
    ·exact h3 x a (by omega) i i0 i1
   cases hl:u.turn.dn
   ·refine go _ _ hl ⟨h1,h2,?_,fun _=>rfl,fun i a b=>?_⟩
    ·show ∀ x,0≤x→x<u.many+1→∀ i,0≤i→i<16→slAt s ws0 ((u.f+x) % s.p) i≠1+16*t.k
     rw[u4,u3];exact all
    ·have b:i<0:=b
     omega
   ·have hl:=of_decide_eq_true (show decide (u.many+1=u.s.p)=true from hl)
    rw[u4,u1,o2,hes]at hl
    rw[Sa.set_af _ (by rw[show Nw.dn (.sc u.turn)=u.turn.dn from rfl];unfold Sc.turn;show decide (u.many+1=u.s.p)=true;rw[u4,u1,o2,hes];exact decide_eq_true hl)]
    show Sk.Nm s c ws0 w.ws (if u.fd then _ else _)
    rw[if_neg (by rw[u5];decide)]
    refine nx _ _ hd rfl ⟨h1,h2,fun q i a b i0 i1=>?_,fun x a b=>?_⟩
    ·obtain⟨x,a0,a1,e⟩:=cover (f:=m.f) (p:=s.p) (q:=q) (by rw[o5];exact f0) (by rw[o5];exact f1) a b
     rw[← e];exact all x a0 (by omega) i i0 i1
    ·have b:x<0:=b
     omega
  -- on to the next slot
  have miss:slAt s ws0 m.pg m.i≠1+16*t.k→(∀ i,slots m.k≤i→i<16→slAt s ws0 m.pg i≠1+16*t.k)→Sk.Nm s c ws0 w.ws (t.set (.sc m.miss)):=fun hno hz=>by
   have upto:∀ i,0≤i→i<m.i+1→slAt s ws0 m.pg i≠1+16*t.k:=fun i a b=>by
    by_cases e:i=m.i
    ·rw[e];exact hno
    ·exact h5 i a (by omega)
   unfold Sc.miss
   by_cases e:m.i+1=slots m.k
   ·rw[if_pos e]
    refine turn { m with i:=m.i+1,nx:=1 } rfl rfl rfl rfl mfd fun i a b=>?_
    by_cases e2:i<m.i+1
    ·exact upto i a e2
    ·exact hz i (by omega) b
   ·rw[if_neg e]
    refine go _ _ nd ⟨h1,h2,h3,fun g=>(by cases g),?_⟩
    show ∀ i,0≤i→i<m.i+1→slAt s ws0 ((m.f+m.many) % s.p) i≠1+16*t.k
    rw[← hpg];exact upto
  have big:∀ i,slots m.k≤i→i<16→slAt s ws0 m.pg i≠1+16*t.k:=fun i a b g=>by
   have g2:=h1.o m.pg i hbd.1 hbd.2 (by omega) b g
   have:=((hB.pg _ hbd.1 hbd.2).open (by omega) (k:=t.k) (by rw[← o4];exact kk.1) (by rw[← o4];exact kk.2) (by omega) b (.inl g2)).2
   rw[← o4]at this;omega
  rcases (by omega:m.nx=0∨m.nx=1∨m.nx=2) with n | n | n
  ·have es:m.step w=(if m.mine w then { m with nx:=1 } else m.turn,w.load m.c m.pat):=by unfold Sc.step;rw[if_neg (by rw[nd];decide),if_pos n]
   rw[es]
   show Sk.Nm s c ws0 w.ws (t.set (.sc (if m.mine w then { m with nx:=1 } else m.turn)))
   by_cases hx:m.mine w=true
   ·rw[if_pos hx]
    refine go _ _ nd ⟨h1,h2,h3,fun g=>(by cases g),?_⟩
    show ∀ i,0≤i→i<m.i→slAt s ws0 ((m.f+m.many) % s.p) i≠1+16*t.k
    rw[← hpg];exact h5
   ·rw[if_neg hx]
    refine turn m rfl rfl rfl rfl mfd fun i a b g=>hx ?_
    have g2:=h1.o m.pg i hbd.1 hbd.2 a b g
    have hs:=((hB.pg _ hbd.1 hbd.2).open (by omega) (k:=t.k) (by rw[← o4];exact kk.1) (by rw[← o4];exact kk.2) a b (.inl g2)).1
    obtain⟨r1,r2,r3⟩:=rd_s (s:=s) hm hbd.1 hbd.2 hs
    unfold Sc.mine
    rw[hgp,o2,hes,r1,r2,r3,o4]
    simp
  ·have es:m.step w=(if w.get m.at'=opn m.k then { m with nx:=2 } else m.miss,w.load m.c m.at'):=by unfold Sc.step;rw[if_neg (by rw[nd];decide),if_neg (by omega),if_pos n]
   rw[es]
   show Sk.Nm s c ws0 w.ws (t.set (.sc (if w.get m.at'=opn m.k then { m with nx:=2 } else m.miss)))
   by_cases hx:w.get m.at'=opn m.k
   ·rw[if_pos hx]
    refine go _ _ nd ⟨h1,h2,h3,fun g=>(by cases g),?_⟩
    show ∀ i,0≤i→i<m.i→slAt s ws0 ((m.f+m.many) % s.p) i≠1+16*t.k
    rw[← hpg];exact h5
   ·rw[if_neg hx]
    refine miss (fun g=>hx ?_) big
    rw[hgs,ov];exact h1.o m.pg m.i hbd.1 hbd.2 i0 (by omega) g
  ·have es:m.step w=(if w.get m.at'=opn m.k then { m with fd:=true,dn:=true } else m.miss,w.swap m.c m.at' (opn m.k) (way m.c)):=by unfold Sc.step;rw[if_neg (by rw[nd];decide),if_neg (by omega),if_neg (by omega)]
   rw[es]
   show Sk.Nm s c ws0 (w.swap m.c m.at' (opn m.k) (way m.c)).ws (t.set (.sc (if w.get m.at'=opn m.k then { m with fd:=true,dn:=true } else m.miss)))
   by_cases hx:w.get m.at'=opn m.k
   ·rw[if_pos hx,Sa.set_af _ rfl]
    exact fin _ _ rfl rfl
   ·rw[if_neg hx,swap_no hx]
    refine miss (fun g=>hx ?_) big
    rw[hgs,ov];exact h1.o m.pg m.i hbd.1 hbd.2 i0 (by omega) g
 |pc m=>
  rw[Sk.step_pc hd en]
  rw[en]at h ok nd
  have nd:m.dn=false:=nd
  obtain⟨o1,o2,o3,o5,o6,o7,o8,o9⟩:=ok
  obtain⟨-,-,-,-,-,m0,m1⟩:=o1.of nd
  have mfd:=o7 nd
  rw[o2,hes]at m1
  obtain⟨h1,h2,h3,h4⟩:=h
  have hpg:m.pg=(m.f+m.many) % s.p:=by unfold Pc.pg;rw[o2,hes]
  have hbd:=mod_bd (a:=m.f+m.many) (p:=s.p) (by omega)
  have hat:m.at'=page s.p s.c s.m m.pg:=by unfold Pc.at';rw[o2,hes]
  rw[← hpg]at hbd
  have hgp:w.get m.at'=pgAt s w.ws m.pg:=by rw[hat];rfl
  have next:w.get m.at'≠0→Sk.Nm s c ws0 w.ws (t.set (.pc m.next)):=fun hno=>by
   have all:∀ x,0≤x→x<m.many+1→pgAt s ws0 ((m.f+x) % s.p)≠0:=fun x a b=>by
    by_cases e:x=m.many
    ·rw[e,← hpg];exact fun g=>hno (by rw[hgp];exact h1.e m.pg hbd.1 hbd.2 g)
    ·exact h4 x a (by omega)
   cases hl:m.next.dn
   ·exact go _ _ hl ⟨h1,h2,h3,all⟩
   ·have hl':=of_decide_eq_true (show decide (m.many+1=m.s.p)=true from hl)
    rw[o2,hes]at hl'
    rw[Sa.set_af _ (m:=.pc m.next) hl]
    show Sk.Nm s c ws0 w.ws (if m.fd then _ else _)
    rw[if_neg (by rw[mfd];decide)]
    refine nx _ _ hd rfl ⟨h2,h3,fun q a b=>?_⟩
    obtain⟨x,a0,a1,e⟩:=cover (f:=m.f) (p:=s.p) (q:=q) (by rw[o5];exact f0) (by rw[o5];exact f1) a b
    rw[← e];exact all x a0 (by omega)
  cases he:m.em
  ·have es:m.step w=(if w.get m.at'=0 then { m with em:=true } else m.next,w.load m.c m.at'):=by unfold Pc.step;rw[if_neg (by rw[nd];decide),if_neg (by rw[he];decide)]
   rw[es]
   show Sk.Nm s c ws0 w.ws (t.set (.pc (if w.get m.at'=0 then { m with em:=true } else m.next)))
   by_cases hx:w.get m.at'=0
   ·rw[if_pos hx];exact go _ _ nd ⟨h1,h2,h3,h4⟩
   ·rw[if_neg hx];exact next hx
  ·have es:m.step w=(if w.get m.at'=0 then { m with fd:=true,dn:=true } else m.next,w.swap m.c m.at' 0 (held m.c)):=by unfold Pc.step;rw[if_neg (by rw[nd];decide),if_pos he]
   rw[es]
   show Sk.Nm s c ws0 (w.swap m.c m.at' 0 (held m.c)).ws (t.set (.pc (if w.get m.at'=0 then { m with fd:=true,dn:=true } else m.next)))
   by_cases hx:w.get m.at'=0
   ·rw[if_pos hx,Sa.set_af _ rfl]
    exact nx _ _ hd rfl trivial
   ·rw[if_neg hx,swap_no hx];exact next hx
 |no=>
  rw[Sk.step_no hd en]
  rw[en]at h
  have h:NoS s c t.k ws0:=h
  show Sk.Nm s c ws0 w.ws (t.look w)
  unfold Sk.look
  split
  ·exact nx _ _ hd rfl h
  ·exact trn t _ rfl hd h
 |st m=>
  rw[Sk.step_st' hd en]
  rw[en]at h
  have h:NoS s c t.k ws0:=h
  cases hl:(m.step w).1.dn
  ·exact go _ _ hl h
  ·rw[Sa.set_af _ (m:=.st (m.step w).1) hl]
   show Sk.Nm s c ws0 _ (if(m.step w).1.hd then _ else _)
   split
   ·exact nx _ _ hd rfl trivial
   ·exact trn _ _ rfl hd h
 |bi m=>
  rw[Sk.step_bi hd en]
  cases hl:(m.step w).1.dn
  ·exact go _ _ hl trivial
  ·rw[Sa.set_af _ (m:=.bi (m.step w).1) hl]
   exact fin _ _ rfl rfl
theorem Sk.Nm.new (hm:may s.p s.c s.m=true) (c0:0≤c) (c1:c<s.c) (kf:0<slots k) (f:Int) (f0:0≤f) (f1:f<s.p):Sk.Nm s c ws ws (Sk.new s c k f):=by
 have hb:=(may_iff _ _ _).1 hm
 have hg:good s c k=true:=by unfold good;rw[status_yes hm c0 c1,decide_eq_true c0,decide_eq_true kf];rfl
 have hp:decide (0≤page s.p s.c s.m f)=true:=by rw[page_yes hm f0 f1];exact decide_eq_true (by omega)
 unfold Sk.new
 rw[hg,hp,if_pos (by rfl:(true && true)=true)]
 cases hd:(Tk.new s c k).dn
 ·rw[Sa.set_go _ (m:=.tk (Tk.new s c k)) hd]
  refine .inr ⟨Fm.refl,fun j j0 j1=>?_⟩
  have j1:j<0:=j1
  omega
 ·rw[Sa.set_af _ (m:=.tk (Tk.new s c k)) hd]
  have m0:s.m=0:=by
   have:(!good s c k || decide (s.m=0))=true:=hd
   rw[hg]at this
   simpa using this
  refine⟨Fm.refl,fun j j0 j1=>by omega,fun x a b=>?_,fun _=>rfl,fun i a b=>?_⟩
  ·have b:x<0:=b
   omega
  ·have b:i<0:=b
   omega
end
end Go.Ma
namespace Go.Ma
open Go.Pl
open Ow
def NoR (s:Sh) (n:Int) (ws0:Nat→Int):Prop:=∀ a,0≤a→a+n≤s.p→¬ ∀ q,a≤q→q<a+n→pgAt s ws0 q=0
structure Nq (s:Sh) (n hd u:Int) (ws0 ws:Nat→Int):Prop where
 e:∀ q,0≤q→q<s.p→pgAt s ws0 q=0→pgAt s ws q=0∨(hd≤q∧q<u)
 r:∀ a,0≤a→a<hd→¬ ∀ q,a≤q→q<a+n→pgAt s ws0 q=0
namespace Rn
def up (t:Rn):Int:=if t.nx≤2 then t.at' else if t.nx=3 then t.at'+1 else t.i
def Nm (s:Sh) (ws0 ws:Nat→Int) (t:Rn):Prop:=if t.dn then t.fd=true∨NoR s t.n ws0 else t.nx=5∨(Nq s t.n t.hd t.up ws0 ws∧(t.nx=4∨t.nx=2→pgAt s ws0 t.at'≠0))
section
variable {s:Sh} {c:Int} {t:Rn} {w:Wd} {ws0 ws ws':Nat→Int}
theorem Nm.of (hd:t.dn=false) (h:Nq s t.n t.hd t.up ws0 ws) (x:t.nx=4∨t.nx=2→pgAt s ws0 t.at'≠0):Nm s ws0 ws t:=by
 unfold Nm;rw[if_neg (by rw[hd];decide)];exact .inr ⟨h,x⟩
theorem Nm.n5 (h:t.dn=true→t.fd=true) (h5:t.dn=false→t.nx=5):Nm s ws0 ws t:=by
 unfold Nm
 cases hd:t.dn
 ·rw[if_neg (by decide)];exact .inl (h5 hd)
 ·rw[if_pos rfl];exact .inl (h hd)
theorem Nm.kp (h:Nm s ws0 ws t) (r:∀ q,0≤q→q<s.p→pgAt s ws q=0→pgAt s ws' q=0):Nm s ws0 ws' t:=by
 unfold Nm at h ⊢
 split at h
 ·rename_i e;rw[if_pos e];exact h
 ·rename_i e;rw[if_neg e]
  rcases h with h |⟨h,x⟩
  ·exact .inl h
  ·exact .inr ⟨⟨fun q a b g=>(h.e q a b g).imp (r q a b) id,h.r⟩,x⟩
theorem Nm.gone {u:Rn} (es:u.s=s) (hd:u.dn=false) (hf:u.fd=false) (hx:u.nx=4) (a0:u.hd≤u.at') (a1:u.at'<u.hd+u.n) (h0:0≤u.hd) (h:Nq s u.n u.hd u.i ws0 ws) (x:pgAt s ws0 u.at'≠0):Nm s ws0 ws u.gone:=by
 have up:∀ a,0≤a→a<u.at'+1→¬ ∀ q,a≤q→q<a+u.n→pgAt s ws0 q=0:=fun a b e g=>by
  by_cases k:a<u.hd
  ·exact h.r a b k g
  ·exact x (g u.at' (by omega) (by omega))
 unfold Rn.gone
 split
 ·refine .of hd ?_ fun _=>x
  rw[show u.up=u.i by unfold Rn.up;rw[if_neg (by omega),if_neg (by omega)]];exact h
 ·rename_i e
  cases hz:decide (u.s.p - u.n<u.at'+1)
  ·refine .of rfl ⟨fun q a b g=>?_,up⟩ fun g=>?_
   ·rcases h.e q a b g with g | g
    ·exact .inl g
    ·omega
   ·have g:(0:Int)=4∨(0:Int)=2:=g
    omega
  ·have hz:=of_decide_eq_true hz
   rw[es]at hz
   unfold Nm
   rw[if_pos rfl]
   exact .inr fun a b e g=>up a b (by have e:a+u.n≤s.p:=e;omega) g
theorem Nm.own {u:Rn} (hd:u.dn=false) (h:Nq s u.n u.hd (u.at'+1) ws0 ws):Nm s ws0 ws u.own:=by
 unfold Rn.own
 split
 ·unfold Rn.written
  split
  ·exact .n5 (fun _=>rfl) fun g=>by cases g
  ·exact .n5 (fun g=>by have g:u.dn=true:=g;rw[hd]at g;cases g) fun _=>rfl
 ·refine .of hd ?_ fun g=>?_
  ·exact h
  ·have g:(0:Int)=4∨(0:Int)=2:=g
   omega
theorem Nm.step (hi:In s c t w.ws) (hB:Bs s w.ws) (h:Nm s ws0 w.ws t):Nm s ws0 (t.step w).2.ws (t.step w).1:=by
 have hm:=hi.m
 have hb:=(may_iff _ _ _).1 hm
 have es:=hi.es
 rcases step_cases hi.wf w with⟨hd,e⟩|⟨hd,hc⟩
 ·rw[e];exact h
 unfold Nm at h
 rw[if_neg (by rw[hd];decide)]at h
 obtain⟨-,hfd,ar⟩:=hi.wf.of hd
 unfold Ar at ar
 rw[es]at ar
 obtain⟨-,-,n1,n8,h0,h1,a0,x0,x5,ar4,ar3,ar4',ar5⟩:=ar
 have hpat:t.pat=page s.p s.c s.m t.at':=by unfold pat;rw[es]
 have hgp:w.get t.pat=pgAt s w.ws t.at':=by rw[hpat];rfl
 rcases hc with⟨hn,e⟩|⟨hn,e⟩|⟨hn,q,hq,hqw,hqd,hqs,hqc,hqp,e⟩|⟨hn,e⟩|⟨hn,e⟩|⟨hn,e⟩
 rotate_right
 ·rw[e]
  show Nm s ws0 (w.store t.c t.iat (putPg 4 t.hd 0)).ws t.written
  unfold Rn.written
  split
  ·exact .n5 (fun _=>rfl) fun g=>by cases g
  ·exact .n5 (fun g=>by have g:t.dn=true:=g;rw[hd]at g;cases g) fun _=>hn
 all_goals
  obtain⟨h,hx⟩:=h.resolve_left (by omega)
  have hlt:=ar4 (by omega)
  rw[e]
 ·
  rw[show t.up=t.at' by unfold Rn.up;rw[if_pos (by omega)]]at h
  show Nm s ws0 w.ws (t.look (w.get t.pat))
  have no:t.isE (w.get t.pat)≠true→pgAt s ws0 t.at'≠0:=fun g g2=>by
   rcases h.e t.at' (by omega) (by omega) g2 with g3 | g3
   ·apply g
    obtain⟨r1,r2⟩:=rd_0 (s:=s) hm (by omega:0≤t.at') (by omega:t.at'<s.p)
    unfold isE
    rw[hgp,g3,es,r1,r2.1];rfl
   ·omega
  unfold Rn.look
  split
  ·refine .of hd ?_ fun g=>?_
   ·exact h
   ·have g:(1:Int)=4∨(1:Int)=2:=g
    omega
  ·rename_i g
   split
   ·exact .of hd h fun _=>no g
   ·exact .gone (u:={ t with nx:=4,i:=t.at',gx:=t.at'+1 }) es hd hfd rfl a0 hlt h0 h (no g)
 ·
  rw[show t.up=t.at' by unfold Rn.up;rw[if_pos (by omega)]]at h
  show Nm s ws0 (w.swap t.c t.pat 0 (held t.c)).ws (t.claim (w.get t.pat))
  unfold Rn.claim
  by_cases g:w.get t.pat=0
  ·rw[if_pos g,swap_yes g]
   refine .own hd ⟨fun q a b g2=>?_,h.r⟩
   rw[hpat,pg_pg hm (by omega) (by omega) a b]
   by_cases k:q=t.at'
   ·exact .inr (by omega)
   ·rw[if_neg k]
    rcases h.e q a b g2 with g3 | g3
    ·exact .inl g3
    ·exact .inr (by omega)
  ·rw[if_neg g,swap_no g]
   refine .gone (u:={ t with nx:=4,i:=t.at',gx:=t.at'+1 }) es hd hfd rfl a0 hlt h0 h fun g2=>?_
   rcases h.e t.at' (by omega) (by omega) g2 with g3 | g3
   ·exact g (by rw[hgp];exact g3)
   ·omega
 ·
  rw[show t.up=t.at' by unfold Rn.up;rw[if_pos (by omega)]]at h
  have hx:=hx (.inr hn)
  have hk:Nq s t.n t.hd t.at' ws0 (q.step w).2.ws:=⟨fun x a b g2=>by
   rcases h.e x a b g2 with g3 | g3
   ·left
    rcases St.step_words hqw w with g |⟨y,g⟩|⟨j,j0,j1,y,g⟩
    ·rw[g];exact g3
    ·rw[g,hqs,es,hqp,pg_pg hm (by omega) (by omega) a b,if_neg (fun k=>hx (by rw[← k];exact g2))];exact g3
    ·rw[g,hqs,es,hqp,pg_sl hm (by omega) (by omega) j0 j1 a b];exact g3
   ·exact .inr g3,h.r⟩
  show Nm s ws0 (q.step w).2.ws (t.outs (q.step w).1)
  unfold Rn.outs
  split
  ·refine .of hd ⟨fun x a b g2=>?_,h.r⟩ fun g=>?_
   ·show pgAt s (q.step w).2.ws x=0∨(t.hd≤x∧x<t.at'+1)
    rcases hk.e x a b g2 with g3 | g3
    ·exact .inl g3
    ·exact .inr (by omega)
   ·have g:(3:Int)=4∨(3:Int)=2:=g
    omega
  ·split
   ·exact .gone (u:={ t with st:=some (q.step w).1,nx:=4,i:=t.at',gx:=t.at'+1 }) es hd hfd rfl a0 hlt h0 hk hx
   ·refine .of hd ?_ fun _=>hx
    rw[show({ t with st:=some (q.step w).1 }:Rn).up=t.at' by unfold Rn.up;exact if_pos (by show t.nx≤2;omega)];exact hk
 ·
  rw[show t.up=t.at'+1 by unfold Rn.up;rw[if_neg (by omega),if_pos hn]]at h
  obtain⟨i0,i1⟩:=ar3 hn
  have hk:Nq s t.n t.hd (t.at'+1) ws0 (w.store t.c t.sat 0).ws:=⟨fun x a b g2=>by
   rw[store_ws,show t.sat=slot s.p s.c s.m t.at' t.i by unfold sat;rw[es],pg_sl hm (by omega) (by omega) i0 i1 a b];exact h.e x a b g2,h.r⟩
  show Nm s ws0 (w.store t.c t.sat 0).ws t.clear
  unfold Rn.clear
  split
  ·exact .own (u:={ t with i:=t.i+1 }) hd hk
  ·refine .of hd ?_ fun g=>?_
   ·rw[show({ t with i:=t.i+1 }:Rn).up=t.at'+1 by unfold Rn.up;rw[if_neg (by show ¬ t.nx≤2;omega)];exact if_pos hn];exact hk
   ·have g:t.nx=4∨t.nx=2:=g
    omega
 ·
  rw[show t.up=t.i by unfold Rn.up;rw[if_neg (by omega),if_neg (by omega)]]at h
  have hx:=hx (.inl hn)
  obtain⟨i0,i1,-⟩:=ar4' hn
  show Nm s ws0 (w.store t.c t.bat 0).ws ({ t with i:=t.i - 1 }:Rn).gone
  refine .gone (u:={ t with i:=t.i - 1 }) es hd hfd hn a0 hlt h0 ⟨fun x a b g2=>?_,h.r⟩ hx
  rw[store_ws,show t.bat=page s.p s.c s.m (t.i - 1) by unfold bat;rw[es],pg_pg hm (by omega) (by omega) a b]
  by_cases k:x=t.i - 1
  ·rw[if_pos k];exact .inl rfl
  ·rw[if_neg k]
   rcases h.e x a b g2 with g3 | g3
   ·exact .inl g3
   ·exact .inr ⟨g3.1,by show x<t.i - 1;omega⟩
theorem Nm.new (n:Int) (hd:(Rn.new s c n).dn=false):Nm s ws ws (Rn.new s c n):=by
 refine .of hd ⟨fun q a b g=>.inl g,fun a a0 a1=>?_⟩ fun g=>?_
 ·have a1:a<0:=a1
  omega
 ·have g:(0:Int)=4∨(0:Int)=2:=g
  omega
end
end Rn
end Go.Ma
namespace Go.Ma
open Go.Pl
open Ow
theorem Sk.step_k' {t:Sk} {w:Wd}:(t.step w).1.k=t.k:=by
 have af:∀ u:Sk,u.after.k=u.k:=fun u=>by
  unfold Sk.after
  split
  ·split<;>rfl
  ·split<;>rfl
  ·split<;>rfl
  ·rfl
  ·split<;>rfl
  ·rfl
 have st:∀ n,(t.set n).k=t.k:=fun n=>by
  unfold Sk.set
  split
  ·exact af _
  ·rfl
 unfold Sk.step
 split
 ·rfl
 ·split
  ·exact st _
  ·exact st _
  ·exact st _
  ·show(t.look w).k=t.k
   unfold Sk.look
   split<;>rfl
  ·exact st _
  ·exact st _
theorem Ad.err_step {t:Ad} {w:Wd} (h:t.err≠3):(t.step w).1.err≠3:=by
 have hn:∀ (u:Ad) a b,u.err≠3→(u.turn a b).err≠3:=fun u a b g=>by
  unfold Ad.turn;split<;>exact g
 rcases Ad.step_cases t w with⟨g,e⟩|⟨-,⟨n,e⟩|⟨n,e⟩|⟨n,e⟩|⟨n,e⟩|⟨n,e⟩|⟨n,e⟩|⟨n,e⟩|⟨n,e⟩|⟨n,e⟩|⟨n,e⟩|⟨n,e⟩|⟨n,e⟩|⟨n,e⟩|⟨n,e⟩⟩<;>rw[e]
 ·exact h
 ·show(Ad.ask t _).err≠3
  unfold Ad.ask
  split
  ·exact h
  ·split
   ·split
    ·show(4:Int)≠3;decide
    ·exact h
   ·show(5:Int)≠3;decide
 ·show(Ad.other t _).err≠3
  unfold Ad.other
  split
  ·show(4:Int)≠3;decide
  ·exact h
 ·show(Ad.claim t _).err≠3
  unfold Ad.claim
  split
  ·exact h
  ·show(4:Int)≠3;decide
 ·show(Ad.bodies t _).err≠3
  unfold Ad.bodies
  split
  ·exact h
  ·exact hn _ _ _ h
 ·show(Ad.head t _).err≠3
  unfold Ad.head
  split
  ·exact h
  ·exact hn _ _ _ h
 ·exact hn _ _ _ h
 ·show(Ad.pages t _).err≠3
  unfold Ad.pages
  split
  ·exact h
  ·exact hn _ _ _ h
 ·exact h
 ·exact hn _ _ _ h
 ·show(Ad.entry t).err≠3
  unfold Ad.entry
  split<;>exact h
 ·show(Ad.supers t _).err≠3
  unfold Ad.supers
  split
  ·exact h
  ·exact hn _ _ _ h
 ·show(Ad.slots' t _).err≠3
  unfold Ad.slots'
  split
  ·exact h
  ·unfold Ad.slot
   split
   ·exact hn _ _ _ h
   ·exact h
 ·show(Ad.slot t).err≠3
  unfold Ad.slot
  split
  ·exact hn _ _ _ h
  ·exact h
 ·first
  | exact h
  | (show(Ad.fin t _).err≠3;show(0:Int)≠3;decide)
def Non (s:Sh) (c n:Int) (ws0:Nat→Int):Prop:=if small n=true then NoS s c (cls n) ws0 else NoR s (pages n) ws0
namespace Rv
def Nm (s:Sh) (c n:Int) (ws0 ws:Nat→Int):Rv→Prop
 | .sk t=>small n=true∧t.k=cls n∧Sk.Nm s c ws0 ws t
 | .rn t=>¬ small n=true∧t.n=pages n∧Rn.Nm s ws0 ws t
 | .no=>False
section
variable {s:Sh} {c n:Int} {t:Rv} {w:Wd} {ws0 ws ws':Nat→Int}
theorem Nm.step (hi:In s c t w.ws) (hB:Bs s w.ws) (h:t.Nm s c n ws0 w.ws):(t.step w).1.Nm s c n ws0 (t.step w).2.ws:=by
 cases t with
 | sk t=>exact⟨h.1,Sk.step_k'.trans h.2.1,Sk.Nm.step hi hB h.2.2⟩
 | rn t=>exact⟨h.1,(Rn.step_k (Rn.In.wf hi) w).2.2.trans h.2.1,Rn.Nm.step hi hB h.2.2⟩
 | no=>exact h
theorem Nm.kp (h:t.Nm s c n ws0 ws) (e:∀ q,0≤q→q<s.p→pgAt s ws q=0→pgAt s ws' q=0) (o:small n=true→Kq s c (cls n) ws ws'):t.Nm s c n ws0 ws':=by
 cases t with
 | sk t=>exact⟨h.1,h.2.1,h.2.2.kp (by rw[h.2.1];exact o h.1)⟩
 | rn t=>exact⟨h.1,h.2.1,h.2.2.kp e⟩
 | no=>exact h
theorem Nm.dn (h:t.Nm s c n ws0 ws) (hd:t.dn=true):t.Nm s c n ws0 ws':=by
 cases t with
 |sk t=>
  have hd:t.dn=true:=hd
  refine⟨h.1,h.2.1,?_⟩
  have:=h.2.2
  unfold Sk.Nm at this ⊢
  rw[if_pos hd]at this ⊢;exact this
 |rn t=>
  have hd:t.dn=true:=hd
  refine⟨h.1,h.2.1,?_⟩
  have:=h.2.2
  unfold Rn.Nm at this ⊢
  rw[if_pos hd]at this ⊢;exact this
 | no=>exact h
theorem Nm.non (h:t.Nm s c n ws0 ws) (hd:t.dn=true) (hf:t.fd=false):Non s c n ws0:=by
 unfold Non
 cases t with
 |sk t=>
  have hd:t.dn=true:=hd
  have hf:t.fd=false:=hf
  rw[if_pos h.1]
  have:=h.2.2
  unfold Sk.Nm at this
  rw[if_pos hd,h.2.1]at this
  exact this.resolve_left (by rw[hf];decide)
 |rn t=>
  have hd:t.dn=true:=hd
  have hf:t.fd=false:=hf
  rw[if_neg h.1]
  have:=h.2.2
  unfold Rn.Nm at this
  rw[if_pos hd,h.2.1]at this
  exact this.resolve_left (by rw[hf];decide)
 | no=>exact h.elim
theorem Nm.new (hm:may s.p s.c s.m=true) (c0:0≤c) (c1:c<s.c) {f:Int} (f0:0≤f) (f1:f<s.p) (hd:(Rv.new s c n f).dn=false):(Rv.new s c n f).Nm s c n ws ws:=by
 unfold Rv.new at hd ⊢
 split at hd
 ·rename_i e
  rw[if_pos e]
  have kf:0<slots (cls n):=by
   have hd:(Sk.new s c (cls n) f).dn=false:=hd
   unfold Sk.new at hd
   split at hd
   ·rename_i g
    unfold good at g
    simp only[Bool.and_eq_true,decide_eq_true_eq]at g
    exact g.1.2
   ·cases hd
  refine⟨e,?_,Sk.Nm.new hm c0 c1 kf f f0 f1⟩
  unfold Sk.new Sk.set Sk.after
  repeat' split
  all_goals rfl
 ·rename_i e
  rw[if_neg e]
  split at hd
  ·rename_i e2
   rw[if_pos e2]
   exact⟨e,rfl,Rn.Nm.new _ hd⟩
  ·cases hd
end
end Rv
namespace Job
def Nm (s:Sh) (c n:Int) (ws0 ws:Nat→Int):Job→Prop
 | .ml v none=>v.Nm s c n ws0 ws
 | .ag t=>t.rv.Nm s c n ws0 ws∧(t.dn=false→t.er≠3)∧(t.er=3→t.rv.dn=true∧t.rv.fd=false)
 | .hr t=>t.err≠3
 | _=>True
section
variable {s:Sh} {c n:Int} {j:Job} {w:Wd} {ws0 ws ws':Nat→Int}
theorem Nm.kp (h:j.Nm s c n ws0 ws) (e:∀ q,0≤q→q<s.p→pgAt s ws q=0→pgAt s ws' q=0) (o:small n=true→Kq s c (cls n) ws ws'):j.Nm s c n ws0 ws':=by
 cases j with
 | no=>trivial
 |ml v m=>
  cases m with
  | none=>exact Rv.Nm.kp h e o
  | some m=>trivial
 | fr t=>trivial
 | ag t=>exact⟨h.1.kp e o,h.2⟩
 | hr t=>exact h
theorem go_er (t:Re) (h:t.er≠3):(t.go.dn=false→t.go.er≠3)∧(t.go.er=3→t.go.rv.dn=true∧t.go.rv.fd=false):=by
 have hr:=(Re.go_k (t:=t)).2.2.2.1
 rw[hr]
 unfold Re.go
 split
 ·split
  ·exact⟨fun g=>(by cases g),fun g=>by have g:(1:Int)=3:=g;omega⟩
  ·exact⟨fun _=>h,fun g=>absurd g h⟩
 ·split
  ·exact⟨fun g=>(by cases g),fun g=>by have g:(0:Int)=3:=g;omega⟩
  ·exact⟨fun _=>h,fun g=>absurd g h⟩
 ·split
  ·rename_i hd
   split
   ·split
    ·split
     ·exact⟨fun _=>h,fun g=>absurd g h⟩
     ·exact⟨fun _=>h,fun g=>absurd g h⟩
    ·exact⟨fun _=>h,fun g=>absurd g h⟩
   ·rename_i hf
    exact⟨fun g=>(by cases g),fun _=>⟨hd,by simpa using hf⟩⟩
  ·exact⟨fun _=>h,fun g=>absurd g h⟩
theorem Nm.step (hi:j.In s c w.ws) (hw:j.wf s c) (hB:Bs s w.ws) (hd:j.dn=false) (h:j.Nm s c n ws0 w.ws):(j.step s c w).1.Nm s c n ws0 (j.step s c w).2.ws:=by
 cases j with
 | no=>trivial
 |ml v m=>
  rcases Job.ml_cases (s:=s) (c:=c) (w:=w) v m with⟨hv,e⟩|⟨hv,rfl,hf,e⟩|⟨hv,rfl,hf,e⟩|⟨hv,x,rfl,e⟩<;>rw[e]
  ·cases m with
   | none=>exact Rv.Nm.step hi hB h
   | some m=>trivial
  ·exact h
  ·trivial
  ·trivial
 | fr t=>trivial
 |ag t=>
  have hd:t.dn=false:=hd
  obtain⟨h1,h2,h3⟩:=h
  have e:t.step w=((t.acc w).1.go,(t.acc w).2):=by unfold Re.step;rw[if_neg (by rw[hd];decide)]
  show Job.Nm s c n ws0 (t.step w).2.ws (.ag (t.step w).1)
  rw[e]
  have hr:=(Re.go_k (t:=(t.acc w).1)).2.2.2.1
  have her:(t.acc w).1.er=t.er:=by
   unfold Re.acc
   repeat' split
   all_goals rfl
  refine⟨?_,go_er _ (by rw[her];exact h2 hd)⟩
  show((t.acc w).1.go).rv.Nm s c n ws0 (t.acc w).2.ws
  rw[hr]
  cases rd:t.rv.dn
  ·have ea:t.acc w=({ t with rv:=(t.rv.step w).1 },(t.rv.step w).2):=by unfold Re.acc;rw[if_neg (by rw[rd];decide)]
   rw[ea]
   have hi:Re.In s c t w.ws:=hi
   have hv:Rv.In s c t.rv w.ws:=by
    cases hi.ph with
    | rv hd e hr h a g=>exact h
    | gv hd e hr hf b ft h=>rw[rd]at hr;cases hr
    | uo u hd e h=>have:=(hi.wf.uo u e).2.2.2.1;rw[rd]at this;cases this
    | cm u hd e h=>have:=(hi.wf.cm u e).2.2.2.1;rw[rd]at this;cases this
    | fn hd2 ow=>rw[hd]at hd2;cases hd2
   exact Rv.Nm.step hv hB h1
  ·have ea:(t.acc w).1.rv=t.rv:=by
    unfold Re.acc
    rw[if_pos rd]
    repeat' split
    all_goals rfl
   rw[ea];exact h1.dn rd
 | hr t=>exact Ad.err_step h
theorem Nm.non (hw:j.wf s c) (hd:j.dn=true) (h:j.Nm s c n ws0 ws) (e:j.err=3):Non s c n ws0:=by
 cases j with
 | no=>cases e
 |ml v m=>
  have e:(if v.fd then(0:Int) else 3)=3:=e
  have hf:v.fd=false:=by
   cases hf:v.fd
   ·rfl
   ·rw[hf]at e;cases e
  cases m with
  |none=>
   have hd:(v.dn && (!v.fd || odn none))=true:=hd
   rw[hf]at hd
   exact Rv.Nm.non h (by simpa using hd) hf
  |some m=>
   have:=(hw.2.2 m rfl).2.2.2.2
   rw[hf]at this;cases this
 |fr t=>
  have e:(if t.gv then(0:Int) else 1)=3:=e
  split at e<;>omega
 | ag t=>exact h.1.non (h.2.2 e).1 (h.2.2 e).2
 | hr t=>exact absurd e h
theorem Nm.start (hm:may s.p s.c s.m=true) (c0:0≤c) (c1:c<s.c) {f:Int} (f0:0≤f) (f1:f<s.p) (o:Op) (hv:o.k=1∨o.k=3→(Rv.new s c o.n f).dn=false) (hd:(Cl.start s c f o).dn=false):(Cl.start s c f o).Nm s c o.n ws ws:=by
 unfold Cl.start at hd ⊢
 split at hd
 ·rename_i e
  rw[if_pos e]
  exact Rv.Nm.new hm c0 c1 f0 f1 (hv (.inl e))
 ·rename_i e
  rw[if_neg e]
  split at hd
  ·rename_i e2;rw[if_pos e2];trivial
  ·rename_i e2
   rw[if_neg e2]
   split at hd
   ·rename_i e3
    rw[if_pos e3]
    have hd:(Re.new s c o.a o.n f).dn=false:=hd
    show Job.Nm s c o.n ws ws (.ag (Re.new s c o.a o.n f))
    unfold Re.new at hd ⊢
    split at hd
    ·rename_i e4
     rw[if_pos e4]
     have hr:=(Re.go_k (t:=Re.raw s c o.a o.n f)).2.2.2.1
     refine⟨?_,go_er _ (by show(0:Int)≠3;decide)⟩
     rw[hr]
     exact Rv.Nm.new hm c0 c1 f0 f1 (hv (.inr e3))
    ·cases hd
   ·rename_i e3
    rw[if_neg e3]
    show(Ad.new s c o.a).err≠3
    show(if Ad.bad s c o.a then(1:Int) else 0)≠3
    split<;>omega
end
end Job
end Go.Ma
namespace Go.Ma
open Go.Pl
open Ow
def Clm (s:Sh) (c n:Int) (a:Acs):Prop:=a.c≠c∧a.k=2∧a.ok=true∧((page s.p s.c s.m 0≤a.at'∧a.at'<slot s.p s.c s.m 0 0∧a.was=0)∨(¬ (page s.p s.c s.m 0≤a.at'∧a.at'<slot s.p s.c s.m 0 0)∧small n=true∧a.was=opn (cls n)))
structure Lv (s:Sh) (c n:Int) (ws ws':Nat→Int):Prop where
 e:∀ q,0≤q→q<s.p→pgAt s ws q=0→pgAt s ws' q=0
 o:small n=true→Kq s c (cls n) ws ws'
theorem Lv.same {s:Sh} {c n:Int} {ws ws':Nat→Int} (p:∀ q,0≤q→q<s.p→pgAt s ws' q=pgAt s ws q) (l:∀ q i,0≤q→q<s.p→0≤i→i<16→slAt s ws' q i=slAt s ws q i) (m:∀ j,0≤j→j<s.m→mgAt s ws' c j=mgAt s ws c j):Lv s c n ws ws':=
 ⟨fun q a b g=>(p q a b).trans g,fun _=>⟨fun q a b g=>(p q a b).trans g,fun q i a b i0 i1 g=>(l q i a b i0 i1).trans g,m⟩⟩
theorem clsb (n:Int):0≤cls n∧cls n≤3:=by
 unfold cls
 repeat' split
 all_goals omega
theorem Mb.keep {s:Sh} {c e n:Int} {w w':Wd} (hm:may s.p s.c s.m=true) (hB:Bs s w.ws) (h:Mb s e w.ws w') (one:One e w w') (ne:e≠c) (c0:0≤c) (c1:c<s.c) (lc:w.ws c.toNat=1) (k2:w'.cl=e):Clm s c n w'.last∨Lv s c n w.ws w'.ws:=by
 have hb:=(may_iff _ _ _).1 hm
 have rf:w'.ws=w.ws→Lv s c n w.ws w'.ws:=fun g=>by rw[g];exact .same (fun _ _ _=>rfl) (fun _ _ _ _ _ _=>rfl) fun _ _ _=>rfl
 by_cases nw:w'.kd=0∨w'.ok=false
 ·right
  apply rf
  cases one with
  | ld a=>rfl
  | st a y=>rcases nw with g | g<;>cases g
  |sw a x y=>
   rcases nw with g | g
   ·cases g
   ·exact swap_no (beq_eq_false_iff_ne.1 (show(w.get a == x)=false from g))
 obtain⟨kd,was,ew⟩:(w'.kd=1∨w'.kd=2)∧w'.was=w.get w'.pl∧w'.ws=upW w.ws w'.pl w'.pt:=by
  rcases one.wr' with g | g | g
  ·exact absurd (.inl g) nw
  ·exact absurd (.inr g) nw
  ·exact g
 have ok:w'.ok=true:=by
  cases k:w'.ok
  ·exact absurd (.inr k) nw
  ·rfl
 have hp0:page s.p s.c s.m 0=s.c:=by rw[page_yes hm (by omega) (by omega)];omega
 have hs0:slot s.p s.c s.m 0 0=s.c+s.p:=by rw[slot_yes hm (by omega) (by omega) (by omega) (by omega)];omega
 have cb:=clsb n
 have ov:opn (cls n)=1+16*cls n:=opn_v cb.1 (by omega)
 -- a page that was not empty
 have pg:∀ q,0≤q→q<s.p→w'.pl=page s.p s.c s.m q→w'.was≠0→Lv s c n w.ws w'.ws:=fun q q0 q1 e h0=>by
  have e1:w'.was=pgAt s w.ws q:=by rw[was,e];rfl
  have kp:∀ x,0≤x→x<s.p→pgAt s w.ws x=0→pgAt s w'.ws x=0:=fun x a b g=>by
   rw[ew,e,pg_pg hm q0 q1 a b,if_neg (fun k=>h0 (by rw[e1,← k];exact g))];exact g
  exact⟨kp,fun _=>⟨kp,fun x i a b i0 i1 g=>by rw[ew,e,sl_pg hm q0 q1 a i0];exact g,fun j a b=>by rw[ew,e,mg_pg hm q0 q1 c0 a]⟩⟩
 -- a slot that was not open in the class
 have sl:∀ q i,0≤q→q<s.p→0≤i→i<16→w'.pl=slot s.p s.c s.m q i→(small n=true→slAt s w.ws q i≠1+16*cls n)→Lv s c n w.ws w'.ws:=fun q i q0 q1 i0 i1 e h0=>by
  have kp:∀ x,0≤x→x<s.p→pgAt s w.ws x=0→pgAt s w'.ws x=0:=fun x a b g=>by
   rw[ew,e,pg_sl hm q0 q1 i0 i1 a b];exact g
  exact⟨kp,fun sm=>⟨kp,fun x j a b j0 j1 g=>by
   rw[ew,e,sl_sl hm q0 q1 i0 i1 a j0 j1,if_neg]
   ·exact g
   ·rintro⟨rfl,rfl⟩;exact h0 sm g,fun j a b=>by rw[ew,e,mg_sl hm q0 q1 i0 i1 c0 a]⟩⟩
 cases h with
 |no g=>
  rcases g with g | g | g
  ·exact absurd (.inl g) nw
  ·exact absurd (.inr g) nw
  ·right
   apply rf
   rw[ew,g,was]
   funext x
   unfold upW
   split
   ·rename_i k;rw[k];rfl
   ·rfl
 |st d d0 d1 e g=>
  right
  have e:w'.pl=status s.p s.c s.m d:=by rw[status_yes hm d0 d1];exact e
  rw[ew,e]
  exact .same (fun q a b=>pg_st hm d0 d1 a b) (fun q i a b i0 i1=>sl_st hm d0 d1 a i0) fun j a b=>mg_st hm d0 d1 c0 a
 | pgH q q0 q1 e o o0 o1 own g y=>exact .inr (pg q q0 q1 e (by omega))
 | pgB q q0 q1 e x x0 x1 x8 o o0 o1 own g hx y=>exact .inr (pg q q0 q1 e (by omega))
 |pgC q q0 q1 e k y g=>
  rcases g with g |⟨m,-,-,-,g⟩
  ·left
   refine⟨by show w'.cl≠c;rw[k2];exact ne,k,ok,.inl ⟨?_,?_,g⟩⟩
   ·show _≤w'.pl
    rw[hp0,e,page_yes hm q0 q1];omega
   ·show w'.pl<_
    rw[hs0,e,page_yes hm q0 q1];omega
  ·exact .inr (pg q q0 q1 e (by omega))
 |pgS q q0 q1 e y k g a=>
  have:=g.mod
  exact .inr (pg q q0 q1 e (by omega))
 |slH q i q0 q1 i0 i1 e o o0 o1 own g=>
  refine .inr (sl q i q0 q1 i0 i1 e fun _ k=>?_)
  have:=((hB.pg q q0 q1).open hb.2.2.2.1 cb.1 cb.2 i0 i1 (.inl k)).1.mod
  omega
 |slW q i q0 q1 i0 i1 e k hk o o0 o1 own g y=>
  refine .inr (sl q i q0 q1 i0 i1 e fun _ k=>?_)
  have e1:w'.was=slAt s w.ws q i:=by rw[was,e,slot_at hm q0 q1 i0 i1]
  omega
 |slC q i q0 q1 i0 i1 e k hk kd2 g y=>
  have e1:w'.was=slAt s w.ws q i:=by rw[was,e,slot_at hm q0 q1 i0 i1]
  by_cases z:small n=true∧w'.was=1+16*cls n
  ·left
   refine⟨by show w'.cl≠c;rw[k2];exact ne,kd2,ok,.inr ⟨?_,z.1,by rw[ov];exact z.2⟩⟩
   rintro⟨-,z⟩
   have z:w'.pl<_:=z
   rw[hs0,e,slot_yes hm q0 q1 i0 i1]at z
   omega
  ·exact .inr (sl q i q0 q1 i0 i1 e fun sm k=>z ⟨sm,by rw[e1];exact k⟩)
 |mg o j o0 o1 j0 j1 e own=>
  right
  rw[ew,e]
  refine .same (fun q a b=>pg_mg hm o0 o1 j0 j1 a b) (fun q i a b i0 i1=>sl_mg hm o0 o1 j0 j1 a b i0 i1) fun x a b=>?_
  rw[mg_mg hm o0 o1 j0 j1 c0 a b,if_neg]
  rintro⟨z,-⟩
  rcases own with own | own
  ·omega
  ·rw[← z]at own;omega
end Go.Ma
namespace Go.Ma
open Go.Pl
open Ow
structure Bz (s:Sh) (sp:List Acs) (ws:Nat→Int) (c:Int) (k:Cl) (f:Option (Nat→Int)) (m:Nat):Prop where
 i:k.busy=false→f=none
 b:k.busy=true→(f=none∧k.st=0∧∀ ws,k.j.Nm s c k.o.n ws ws)∨∃ ws0,f=some ws0∧((∃ a,a∈sp.drop m∧Clm s c k.o.n a)∨k.j.Nm s c k.o.n ws0 ws)
structure Nv (W:Wo) (F:Nat→Option (Nat→Int)) (R:Nat→Nat):Prop where
 ti:Ti W
 z:∀ c:Nat,(c:Int)<W.s.c→W.w.ws c=0→F c=none
 b:∀ (c:Nat) k,W.k c=some k→Bz W.s W.sp W.w.ws c k (F c) (R c)
 l:∀ c,R c≤W.sp.length
section
variable {s:Sh} {sp:List Acs} {ws ws':Nat→Int} {c:Int} {k:Cl} {f:Option (Nat→Int)} {m:Nat}
theorem Bz.kp (h:Bz s sp ws c k f m) (r:Lv s c k.o.n ws ws'):Bz s sp ws' c k f m:=by
 refine⟨h.i,fun g=>?_⟩
 rcases h.b g with g |⟨ws0,e,g | g⟩
 ·exact .inl g
 ·exact .inr ⟨ws0,e,.inl g⟩
 ·exact .inr ⟨ws0,e,.inr (g.kp r.e r.o)⟩
theorem Bz.ap (h:Bz s sp ws c k f m) (hl:m≤sp.length) {a:Acs} (r:Clm s c k.o.n a∨Lv s c k.o.n ws ws'):Bz s (sp ++ [a]) ws' c k f m:=by
 refine⟨h.i,fun g=>?_⟩
 rcases h.b g with g |⟨ws0,e,⟨x,x1,x2⟩| g⟩
 ·exact .inl g
 ·exact .inr ⟨ws0,e,.inl ⟨x,by rw[List.drop_append_of_le_length hl];exact List.mem_append_left _ x1,x2⟩⟩
 ·rcases r with r | r
  ·exact .inr ⟨ws0,e,.inl ⟨a,by rw[List.drop_append_of_le_length hl];exact List.mem_append_right _ (List.mem_singleton.2 rfl),r⟩⟩
  ·exact .inr ⟨ws0,e,.inr (g.kp r.e r.o)⟩
end
def F1 (W W':Wo) (x:Ch) (F:Nat→Option (Nat→Int)):Nat→Option (Nat→Int):=fun c=>if c=x.c.toNat∧W.sp.length<W'.sp.length∧F c=none then some W.w.ws else F c
def R1 (W W':Wo) (x:Ch) (F:Nat→Option (Nat→Int)) (R:Nat→Nat):Nat→Nat:=fun c=>if c=x.c.toNat∧W.sp.length<W'.sp.length∧F c=none then W.sp.length else R c
def F2 (x:Ch) (evs:List Evt) (F:Nat→Option (Nat→Int)):Nat→Option (Nat→Int):=fun c=>if c=x.c.toNat∧∃ e,e∈evs∧e.k=5 then none else F c
def Eo (W W':Wo) (x:Ch) (F:Nat→Option (Nat→Int)) (R:Nat→Nat) (evs:List Evt):Prop:=∀ e,e∈evs→e.k=5→e.c=x.c∧0≤x.c∧x.c<W.s.c∧(e.e=3→∀ ws0,F1 W W' x F x.c.toNat=some ws0 →
 (∃ a,a∈W'.sp.drop (R1 W W' x F R x.c.toNat)∧Clm W.s x.c e.o.n a)∨Non W.s x.c e.o.n ws0)
theorem Ow.Ef.n0 {s:Sh} {c:Int} {ws ws':Nat→Int} (hm:may s.p s.c s.m=true) (h:Ow.Ef s c ws ws') (c0:0≤c):∀ b,0≤b→b<s.c→ws' b.toNat=0→ws b.toNat=0:=fun b b0 b1 g=>by
 cases h with
 | a h=>rw[← h.mw.st b b0 b1];exact g
 | b d d0 d1 x h r=>rw[← h.mw.st b b0 b1];exact g
 |c d d0 d1 x e=>
  subst e
  rw[st_st hm b0 b1 d0 d1]at g
  split at g
  ·omega
  ·exact g
 |d d d0 d1 x n e=>
  subst e
  rw[st_st hm b0 b1 d0 d1]at g
  split at g
  ·omega
  ·exact g
section
variable {W:Wo} {F:Nat→Option (Nat→Int)} {R:Nat→Nat} {x:Ch} {k:Cl} {c:Int}
theorem F1_same {W':Wo} (h:W'.sp=W.sp):F1 W W' x F=F∧R1 W W' x F R=R:=by
 constructor
 ·funext c;unfold F1;rw[h,if_neg (fun g=>by have:=g.2.1;omega)]
 ·funext c;unfold R1;rw[h,if_neg (fun g=>by have:=g.2.1;omega)]
theorem F2_nil:F2 x [] F=F:=by
 funext c;unfold F2;rw[if_neg]
 rintro⟨-,e,g,-⟩;cases g
theorem F2_no {evs:List Evt} (h:∀ e,e∈evs→e.k≠5):F2 x evs F=F:=by
 funext c;unfold F2;rw[if_neg]
 rintro⟨-,e,g,g2⟩;exact h e g g2
theorem Nv.idle (h:Nv W F R):∃ evs,W.tr=W.tr ++ evs∧Eo W W x F R evs∧Nv W (F2 x evs (F1 W W x F)) (R1 W W x F R):=by
 refine⟨[],(List.append_nil _).symm,fun e g=>(by cases g),?_⟩
 rw[F2_nil,(F1_same (x:=x) (F:=F) (R:=R) rfl).1,(F1_same (x:=x) (F:=F) (R:=R) rfl).2]
 exact h
theorem Nv.mark (h:Nv W F R) {W':Wo} {o:Option Cl} {evs:List Evt} {y:Int} (t:Ti W') (es:W'.s=W.s) (ew:W'.w.ws=upW W.w.ws (status W.s.p W.s.c W.s.m x.c) y) (ek:W'.k=W.put x.c o) (ep:W'.sp=W.sp) (et:W'.tr=W.tr ++ evs) (c0:0≤x.c) (c1:x.c<W.s.c) (hy:y≠0)
  (ev:∀ e,e∈evs→e.k≠5) (hk:∀ z,o=some z→z.busy=false∧W.w.ws x.c.toNat=0):∃ evs,W'.tr=W.tr ++ evs∧Eo W W' x F R evs∧Nv W' (F2 x evs (F1 W W' x F)) (R1 W W' x F R):=by
 have hm:=h.ti.wf.m
 refine⟨evs,et,fun e g g2=>absurd g2 (ev e g),?_⟩
 rw[F2_no ev,(F1_same (x:=x) (F:=F) (R:=R) ep).1,(F1_same (x:=x) (F:=F) (R:=R) ep).2]
 refine⟨t,fun d d1 g=>?_,fun d z e=>?_,fun d=>by rw[ep];exact h.l d⟩
 ·rw[es]at d1
  rw[ew]at g
  have:=st_st (ws:=W.w.ws) (y:=y) hm (by omega:0≤(d:Int)) d1 c0 c1
  rw[Int.toNat_natCast]at this
  rw[this]at g
  split at g
  ·exact absurd g hy
  ·exact h.z d d1 g
 ·rw[ek]at e
  have e:(if d=x.c.toNat then o else W.k d)=some z:=e
  rw[es,ep,ew]
  by_cases g:d=x.c.toNat
  ·rw[if_pos g]at e
   obtain⟨k1,k2⟩:=hk z e
   exact⟨fun _=>h.z d (by omega) (by rw[g];exact k2),fun g=>by rw[k1]at g;cases g⟩
  ·rw[if_neg g]at e
   refine(h.b d z e).kp (.same (fun q a b=>pg_st hm c0 c1 a b) (fun q i a b i0 i1=>sl_st hm c0 c1 a i0) fun j a b=>mg_st hm c0 c1 (by omega) a)
theorem Nv.put (h:Nv W F R) {W':Wo} {z:Cl} {evs:List Evt} (t:Ti W') (es:W'.s=W.s) (ew:W'.w=W.w) (ek:W'.k=W.put x.c (some z)) (ep:W'.sp=W.sp) (et:W'.tr=W.tr ++ evs) (c0:0≤x.c) (c1:x.c<W.s.c)
  (ev:∀ e,e∈evs→e.k=5→e.c=x.c∧F x.c.toNat=none) (hz:Bz W.s W.sp W.w.ws x.c z (F x.c.toNat) (R x.c.toNat)):∃ evs,W'.tr=W.tr ++ evs∧Eo W W' x F R evs∧Nv W' (F2 x evs (F1 W W' x F)) (R1 W W' x F R):=by
 refine⟨evs,et,fun e g g2=>⟨(ev e g g2).1,c0,c1,fun _ ws0 g3=>?_⟩,?_⟩
 ·rw[(F1_same (x:=x) (F:=F) (R:=R) ep).1,(ev e g g2).2]at g3;cases g3
 rw[(F1_same (x:=x) (F:=F) (R:=R) ep).1,(F1_same (x:=x) (F:=F) (R:=R) ep).2]
 have ef:F2 x evs F=F:=by
  funext d;unfold F2
  split
  ·rename_i g
   obtain⟨g1,e,g2,g3⟩:=g
   rw[g1,(ev e g2 g3).2]
  ·rfl
 rw[ef]
 refine⟨t,fun d d1 g=>h.z d (by rw[← es];exact d1) (by rw[← ew];exact g),fun d y e=>?_,fun d=>by rw[ep];exact h.l d⟩
 rw[ek]at e
 have e:(if d=x.c.toNat then some z else W.k d)=some y:=e
 rw[es,ep,ew]
 by_cases g:d=x.c.toNat
 ·rw[if_pos g]at e
  injection e with e;subst e
  rw[g,show((x.c.toNat:Nat):Int)=x.c by omega];exact hz
 ·rw[if_neg g]at e;exact h.b d y e
theorem Nv.act (h:Nv W F R) (hx:W.fit x) (s0:0≤W.w.st) (s1:W.w.st≤1000000000):∃ evs,(W.act x).1.tr=W.tr ++ evs∧Eo W (W.act x).1 x F R evs∧Nv (W.act x).1 (F2 x evs (F1 W (W.act x).1 x F)) (R1 W (W.act x).1 x F R):=by
 have T:=h.ti.act hx
 have hm:=h.ti.wf.m
 revert T
 unfold Wo.act
 by_cases g0:x.k<1∨4<x.k∨W.sat x.c<0
 ·rw[if_pos g0];exact fun _=>h.idle
 rw[if_neg g0]
 obtain⟨c0,c1,c2⟩:=Wo.sat_bd (c:=x.c) h.ti.wf (by omega)
 have ec:((x.c.toNat:Nat):Int)=x.c:=by omega
 have mk:∀ y,(W.mark x.c y).ws=upW W.w.ws (status W.s.p W.s.c W.s.m x.c) y:=fun y=>put_ws ..
 by_cases g1:x.k=1
 ·rw[if_pos g1]
  unfold Wo.start
  by_cases g2:W.stk x.c≠0
  ·rw[if_pos g2];exact fun _=>h.idle
  ·rw[if_neg g2]
   intro T
   have hz:W.w.ws x.c.toNat=0:=by
    have g2:W.stk x.c=0:=Classical.not_not.1 g2
    unfold Wo.stk at g2
    rw[if_neg (by omega),c2]at g2
    have g2:stK (W.w.ws x.c.toNat)=0:=g2
    rcases h.ti.sx x.c c0 c1 with e | e | e | e |⟨b,b0,b1,e,z⟩
    ·exact e
    ·rw[e]at g2;exact absurd g2 (by decide)
    ·rw[e]at g2;exact absurd g2 (by decide)
    ·rw[e]at g2;exact absurd g2 (by decide)
    ·have hb:=(may_iff _ _ _).1 hm
     have h1:pt (3+16*b) 16=b:=by unfold pt;omega
     have h2:(3+16*b) % 16=3:=by omega
     have h3:putSt 3 b=3+16*b:=by unfold putSt;rw[if_pos (by omega)]
     have h4:stK (3+16*b)=3:=by unfold stK;rw[h1,h2,h3,if_pos rfl]
     rw[e,h4]at g2;exact absurd g2 (by decide)
   refine h.mark T rfl (mk _) rfl rfl rfl c0 c1 (by decide) (fun e g=>?_) fun z e=>?_
   ·rw[List.mem_singleton.1 g];show(0:Int)≠5;decide
   ·injection e with e;subst e;exact⟨rfl,hz⟩
 rw[if_neg g1]
 cases e:W.k x.c.toNat with
 | none=>exact fun _=>h.idle
 |some k=>
  obtain⟨k1,k2,k3⟩:=h.ti.wf.k _ _ e
  have k3:k.c=x.c:=by rw[k3];omega
  obtain⟨l1,l2,l3⟩:=h.ti.lv _ _ e
  have bz:=h.b _ _ e
  rw[ec]at l2 l3 bz
  dsimp only
  have same:∀ y,y=k→∀ z,Bz W.s W.sp W.w.ws x.c y z (R x.c.toNat)↔Bz W.s W.sp W.w.ws x.c k z (R x.c.toNat):=fun y g z=>by rw[g]
  by_cases g3:x.k=3
  rotate_left
  ·rw[if_neg g3]
   by_cases g2:x.k=2
   ·rw[if_pos g2]
    unfold Wo.ask Cl.invoke
    by_cases hb:k.busy=true
    ·rw[if_pos hb];exact fun T=>h.put (evs:=[]) T rfl rfl rfl rfl rfl c0 c1 (fun e g=>by cases g) bz
    rw[if_neg hb]
    by_cases hk:x.o.k<1∨4<x.o.k
    ·rw[if_pos hk];exact fun T=>h.put (evs:=[]) T rfl rfl rfl rfl rfl c0 c1 (fun e g=>by cases g) bz
    rw[if_neg hk]
    have hf:=bz.i (by simpa using hb)
    by_cases hn:x.o.once k.s k.c=true
    ·rw[if_pos hn]
     refine fun T=>h.put T rfl rfl rfl rfl rfl c0 c1 (fun e g g5=>⟨?_,hf⟩) ⟨fun _=>hf,fun g=>by cases g⟩
     rcases List.mem_cons.1 g with g | g
     ·rw[g];exact k3
     ·rw[List.mem_singleton.1 g];exact k3
    ·rw[if_neg hn]
     have hn:x.o.once k.s k.c=false:=by simpa using hn
     have sw:=Cl.start_wf k1 (by omega) (by omega) hn
     refine fun T=>h.put T rfl rfl rfl rfl rfl c0 c1 (fun e g g5=>⟨?_,hf⟩) ⟨fun g=>(by cases g),fun _=>.inl ⟨hf,rfl,fun ws=>?_⟩⟩
     ·rw[List.mem_singleton.1 g];exact k3
     ·show(Cl.start k.s k.c k.f x.o).Nm W.s x.c x.o.n ws ws
      have f0:=k1.f0
      have f1:=k1.f1
      have hd:=sw.2.2.2.1
      rw[k2]at f1
      rw[k2,k3]at hd ⊢
      refine Job.Nm.start hm c0 c1 f0 f1 x.o (fun ho=>?_) hd
      unfold Op.once Op.bad Op.nom at hn
      simp only[Bool.or_eq_false_iff,Bool.and_eq_false_imp,Bool.or_eq_true,beq_iff_eq,Bool.not_eq_false',decide_eq_false_iff_not]at hn
      obtain⟨⟨⟨n1,n2⟩,n3⟩,n4⟩:=hn
      exact Cl.rv_act hm c0 c1 f0 f1 (n2 ho) fun g=>by have:=n4 ho g;rw[k2]at this;omega
   ·rw[if_neg g2]
    unfold Wo.kill
    intro T
    refine h.mark T rfl (mk _) rfl rfl rfl c0 c1 (by decide) (fun e g=>?_) fun z e=>by cases e
    rw[List.mem_singleton.1 g];show(1:Int)≠5;decide
  rw[if_pos g3]
  unfold Wo.step
  by_cases hb:k.busy=true
  rotate_left
  ·have es:k.step W.w=(k,W.w,[],2):=if_neg hb
   rw[es]
   dsimp only
   rw[if_neg (by omega)]
   exact fun T=>h.put (evs:=[]) T rfl rfl rfl rfl rfl c0 c1 (fun e g=>by cases g) bz
  have es:k.step W.w=((k.adv W.w).tell.1,(k.j.step k.s k.c W.w).2,(k.adv W.w).tell.2,0):=if_pos hb
  have hw:W.w.of k.s:=by rw[k2];exact h.ti.wf.w
  obtain⟨f1,f2,f3⟩:=h.ti.ef e c0 hb
  have mid:=Cl.adv_mid k1 hb hw
  have jb:=k1.jb hb
  have jw:=k1.jw
  have one:=Job.step_one (w:=W.w) jw
  have act:=fun g=>Job.act_one (w:=W.w) jw (jb.2.2.2.2 g)
  have mb:=fun o=>l2.mb (by rw[← k2,← k3];exact jw) l3 jb.2.1 c0 c1 h.ti.wf.w hm h.ti.bs h.ti.sx l1 o
  have nst:∀ ws0,k.j.Nm W.s x.c k.o.n ws0 W.w.ws→_:=fun ws0 g=>Job.Nm.step (n:=k.o.n) l2 (by rw[← k2,← k3];exact jw) h.ti.bs jb.2.1 g
  have tk:=Cl.tell_k (k:=k.adv W.w)
  rw[es]
  dsimp only
  rw[k2,k3]at one act f1 f2 f3
  have ej:(k.adv W.w).j=(k.j.step W.s x.c W.w).1:=by show(k.j.step k.s k.c W.w).1=_;rw[k2,k3]
  have jw':(k.adv W.w).j.wf W.s x.c:=by
   have:=mid.jw
   rw[show(k.adv W.w).s=W.s from k2,show(k.adv W.w).c=x.c from k3]at this;exact this
  rw[k2,k3]
  generalize hw':(k.j.step W.s x.c W.w).2=w' at *
  -- the events
  have evk:∀ ev,ev∈(k.adv W.w).tell.2→ev.k=5→(k.adv W.w).j.dn=true∧ev.c=x.c∧ev.o=k.o∧ev.e=(k.adv W.w).j.err:=fun ev g g5=>by
   unfold Cl.tell at g
   have gv:ev∈(k.adv W.w).gvE→False:=fun g=>by
    unfold Cl.gvE at g
    split at g
    ·rw[List.mem_singleton.1 g]at g5;cases g5
    ·cases g
   split at g
   ·rename_i hd
    rcases List.mem_append.1 g with g | g
    ·rcases List.mem_append.1 g with g | g
     ·exact(gv g).elim
     ·exfalso
      unfold Cl.tkE at g
      split at g
      ·cases g
      ·rw[List.mem_singleton.1 g]at g5;cases g5
    ·rw[List.mem_singleton.1 g];exact⟨hd,k3,rfl,rfl⟩
   ·exact(gv g).elim
  have evd:(k.adv W.w).j.dn=true→∃ ev,ev∈(k.adv W.w).tell.2∧ev.k=5:=fun hd=>by
   unfold Cl.tell
   rw[if_pos hd]
   exact⟨_,List.mem_append_right _ (List.mem_singleton.2 rfl),rfl⟩
  have tb:(k.adv W.w).tell.1.busy = !(k.adv W.w).j.dn:=by
   unfold Cl.tell
   cases hd:(k.adv W.w).j.dn
   ·exact hb
   ·rfl
  have tj:(k.adv W.w).j.dn=false→(k.adv W.w).tell.1.j=(k.adv W.w).j∧(k.adv W.w).tell.1.o=k.o:=fun hd=>by
   unfold Cl.tell
   rw[if_neg (by rw[hd];decide)];exact⟨rfl,rfl⟩
  intro T
  generalize hsp:(if W.w.st<w'.st then W.sp ++ [w'.last] else W.sp)=sp' at *
  -- what the acting one knows behind the access
  have fr:F x.c.toNat=none→¬ W.w.st<w'.st→False:=fun g g2=>by
   rcases bz.b hb with⟨-,z,-⟩|⟨ws0,z,-⟩
   ·have:=(act z).st'
    rw[w64_eq (by omega) (by omega)]at this;omega
   ·rw[g]at z;cases z
  have len:W.sp.length<sp'.length↔W.w.st<w'.st:=by
   rw[← hsp]
   split
   ·rename_i g;simp [g]
   ·rename_i g;simp [g]
  have key:∃ ws0,F1 W ⟨W.s,w',W.put x.c (some (k.adv W.w).tell.1),W.tr ++ (k.adv W.w).tell.2,sp'⟩ x F x.c.toNat=some ws0 ∧
    ((∃ a,a∈sp'.drop (R1 W ⟨W.s,w',W.put x.c (some (k.adv W.w).tell.1),W.tr ++ (k.adv W.w).tell.2,sp'⟩ x F R x.c.toNat)∧Clm W.s x.c k.o.n a)∨(k.adv W.w).j.Nm W.s x.c k.o.n ws0 w'.ws):=by
   rw[ej]
   unfold F1 R1
   dsimp only
   rcases bz.b hb with⟨z,zs,zn⟩|⟨ws0,z,g⟩
   ·have g:W.w.st<w'.st:=Classical.not_not.1 (fr z)
    have:=nst _ (zn W.w.ws)
    exact⟨W.w.ws,by rw[if_pos ⟨rfl,len.2 g,z⟩],.inr this⟩
   ·have nn:¬ (x.c.toNat=x.c.toNat∧W.sp.length<sp'.length∧F x.c.toNat=none):=fun g=>by rw[z]at g;cases g.2.2
    refine⟨ws0,by rw[if_neg nn];exact z,?_⟩
    rw[if_neg nn]
    rcases g with⟨a,a1,a2⟩| g
    ·left
     refine⟨a,?_,a2⟩
     rw[← hsp]
     split
     ·rw[List.drop_append_of_le_length (h.l _)];exact List.mem_append_left _ a1
     ·exact a1
    ·exact .inr (nst _ g)
  obtain⟨ws0,kf,kn⟩:=key
  refine⟨(k.adv W.w).tell.2,rfl,fun ev g g5=>?_,?_⟩
  ·obtain⟨d1,d2,d3,d4⟩:=evk ev g g5
   refine⟨d2,c0,c1,fun e3 ws1 g=>?_⟩
   rw[kf]at g
   injection g with g;subst g
   rw[d3]
   exact kn.imp id fun g=>g.non jw' d1 (by rw[← d4];exact e3)
  ·refine⟨T,fun d d1 g=>?_,fun d z ez=>?_,fun d=>?_⟩
   ·have d1:(d:Int)<W.s.c:=d1
    have g:=f1.n0 hm c0 d (by omega) d1 g
    have g:W.w.ws d=0:=g
    have dn:d≠x.c.toNat:=fun k=>by rw[k]at g;omega
    show F2 x _ (F1 W _ x F) d=none
    unfold F2 F1
    rw[if_neg (fun g=>dn g.1),if_neg (fun g=>dn g.1)]
    exact h.z d d1 g
   ·have ez:(if d=x.c.toNat then some (k.adv W.w).tell.1 else W.k d)=some z:=ez
    show Bz W.s sp' w'.ws d z (F2 x _ (F1 W _ x F) d) (R1 W _ x F R d)
    by_cases g:d=x.c.toNat
    ·rw[if_pos g]at ez
     injection ez with ez;subst ez
     rw[g,ec]
     cases hd:(k.adv W.w).j.dn
     ·have nf:F2 x (k.adv W.w).tell.2 (F1 W ⟨W.s,w',W.put x.c (some (k.adv W.w).tell.1),W.tr ++ (k.adv W.w).tell.2,sp'⟩ x F) x.c.toNat=some ws0:=by
       rw[F2_no fun ev g g5=>(by have:=(evk ev g g5).1;rw[hd]at this;cases this)];exact kf
      rw[nf]
      refine⟨fun g=>(by rw[tb,hd]at g;cases g),fun _=>.inr ⟨ws0,rfl,?_⟩⟩
      rw[(tj hd).1,(tj hd).2];exact kn
     ·refine⟨fun _=>?_,fun g=>by rw[tb,hd]at g;cases g⟩
      unfold F2
      rw[if_pos ⟨rfl,evd hd⟩]
    ·rw[if_neg g]at ez
     have bd:=h.b d z ez
     have ld:=(h.ti.lv d z ez).1
     obtain⟨zw,zs,zc⟩:=h.ti.wf.k d z ez
     have d1:(d:Int)<W.s.c:=by rw[← zc,← zs];exact zw.c1
     have e1:F2 x (k.adv W.w).tell.2 (F1 W ⟨W.s,w',W.put x.c (some (k.adv W.w).tell.1),W.tr ++ (k.adv W.w).tell.2,sp'⟩ x F) d=F d:=by
      unfold F2 F1
      rw[if_neg (fun k=>g k.1),if_neg (fun k=>g k.1)]
     have e2:R1 W ⟨W.s,w',W.put x.c (some (k.adv W.w).tell.1),W.tr ++ (k.adv W.w).tell.2,sp'⟩ x F R d=R d:=by
      unfold R1;rw[if_neg (fun k=>g k.1)]
     rw[e1,e2,← hsp]
     rcases one with one | one
     ·have lk:=(mb one).keep (n:=z.o.n) hm h.ti.bs one (by omega:x.c≠(d:Int)) (by omega) d1 (by rw[Int.toNat_natCast];exact ld) one.cl
      have st:=one.st'
      rw[w64_eq (by omega) (by omega)]at st
      rw[if_pos (by omega)]
      exact bd.ap (h.l d) lk
     ·rw[one,if_neg (by omega)];exact bd
   ·show R1 W _ x F R d≤sp'.length
    unfold R1
    dsimp only
    have hl:=h.l d
    have ll:W.sp.length≤sp'.length:=by
     rw[← hsp]
     split
     ·simp
     ·exact Nat.le_refl _
    split
    ·exact ll
    ·omega
theorem Nv.new {s:Sh} {w:Wd} (hm:may s.p s.c s.m=true) (hw:w.of s) (hz:∀ j,w.ws j=0):Nv (Wo.new s w) (fun _=>none) (fun _=>0):=
 ⟨Ti.new hm hw hz,fun _ _ _=>rfl,fun _ _ e=>(by cases e),fun _=>Nat.zero_le _⟩
end
theorem Wo.act_st2 {W:Wo} {x:Ch} (h:W.wf) (ht:0≤W.w.st∧W.w.st≤100000):W.w.st≤(W.act x).1.w.st∧(W.act x).1.w.st≤W.w.st+1:=by
 unfold Wo.act
 split
 ·dsimp only;omega
 split
 ·unfold Wo.start;split
  ·dsimp only;omega
  ·show W.w.st≤W.w.st∧W.w.st≤W.w.st+1;omega
 ·cases e:W.k x.c.toNat with
  | none=>dsimp only;omega
  |some k=>
   obtain⟨k1,k2,k3⟩:=h.k _ _ e
   dsimp only
   split
   ·unfold Wo.step
    show W.w.st≤(k.step W.w).2.1.st∧(k.step W.w).2.1.st≤W.w.st+1
    by_cases hb:k.busy=true
    ·have es:k.step W.w=((k.adv W.w).tell.1,(k.j.step k.s k.c W.w).2,(k.adv W.w).tell.2,0):=if_pos hb
     rw[es]
     dsimp only
     rcases Job.step_one (w:=W.w) k1.jw with ho | ho
     ·have hst:=ho.st'
      rw[w64_eq (by omega) (by omega)]at hst
      omega
     ·rw[ho];omega
    ·have es:k.step W.w=(k,W.w,[],2):=if_neg hb
     rw[es];dsimp only;omega
   split
   ·unfold Wo.ask;dsimp only;omega
   ·show W.w.st≤W.w.st∧W.w.st≤W.w.st+1;omega
end Go.Ma
