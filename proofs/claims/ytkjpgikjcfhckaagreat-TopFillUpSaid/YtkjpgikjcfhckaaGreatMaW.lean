/-
Who asks, and all of them: the program's client and its world, as plain functions. Conditions: none.
The program's client and its world, as plain functions. Conditions: none.
Of all of them one asks, alone, to its answer. Conditions: none.
Of all of them one asks, alone, to its answer: what is so at each step of its job is so at the end. Conditions: none.
One alone asks for slots, no magazines: how many pages are empty, how many slots open, says what it gets. Conditions: none.
One alone, idle, no magazines, in a quiet heap: it gives a block back; it asks for blocks of one length. Conditions: none.
One alone fills a heap with blocks of one length, and gives all back. Conditions: none.
TopFillUp's plain law: filled, emptied, filled again. Conditions: none.
TopBias's plain law: two that ask alone for slots, from wherever, are told the same. Conditions: none.
-/
import Derived.Test.YtkjpgikjcfhckaaGreatMaB
import Derived.Test.YtkjpgikjcfhckaaGreatMaHeap
import Derived.Test.YtkjpgikjcfhckaaGreatMaSo
set_option linter.unusedVariables false
set_option linter.unusedSectionVars false
set_option linter.unusedSimpArgs false
namespace Go.Ma
open Go.Pl

structure Op where
 k:Int
 a:Int
 n:Int
structure Evt where
 k:Int
 c:Int
 o:Op
 at':Int
 n:Int
 e:Int
structure Acs where
 c:Int
 k:Int
 at':Int
 was:Int
 pt:Int
 ok:Bool
def Wd.last (w:Wd):Acs:=⟨w.cl,w.kd,w.pl,w.was,w.pt,w.ok⟩

inductive One (c:Int) (w:Wd):Wd→Prop
 | ld (a:Int):One c w (w.load c a)
 | st (a y:Int):One c w (w.store c a y)
 | sw (a x y:Int):One c w (w.swap c a x y)
namespace One
variable {c:Int} {w w':Wd}
end One
section
variable {w:Wd}
end

/-! ### A job -/
inductive Job
 | no
 | ml (v:Rv) (m:Option Cm)
 | fr (t:Gv)
 | ag (t:Re)
 | hr (t:Ad)
def odn:Option Cm→Bool
 | none=>false
 | some m=>m.dn
namespace Job
def dn:Job→Bool
 | .no=>false
 | .ml v m=>v.dn && (!v.fd || odn m)
 | .fr t=>t.dn
 | .ag t=>t.dn
 | .hr t=>t.dn
def step (s:Sh) (c:Int) (j:Job) (w:Wd):Job×Wd:=match j with
 | .no=>(.no,w)
 | .ml v m=>if v.dn then(match m with
   | none=>if v.fd then(.ml v (some ((Cm.new s c v.bk).step w).1),((Cm.new s c v.bk).step w).2) else(.ml v none,w)
   | some m=>(.ml v (some (m.step w).1),(m.step w).2)) else(.ml (v.step w).1 m,(v.step w).2)
 | .fr t=>(.fr (t.step w).1,(t.step w).2)
 | .ag t=>(.ag (t.step w).1,(t.step w).2)
 | .hr t=>(.hr (t.step w).1,(t.step w).2)
def gave:Job→Bool
 | .fr t=>t.gv
 | .ag t=>t.gave
 | _=>false
def took:Job→Option Bk
 | .ml v m=>if v.fd && odn m then some v.bk else none
 | .ag t=>if t.fd then some t.bk else none
 | _=>none
def err:Job→Int
 | .no=>0
 | .ml v _=>if v.fd then 0 else 3
 | .fr t=>if t.gv then 0 else 1
 | .ag t=>t.er
 | .hr t=>t.err
def wf (s:Sh) (c:Int):Job→Prop
 | .no=>True
 | .ml v m=>v.wf∧v.of s c∧∀ x,m=some x→x.wf∧x.s=s∧x.c=c∧v.dn=true∧v.fd=true
 | .fr t=>t.wf∧t.s=s∧t.c=c
 | .ag t=>t.wf∧t.s=s∧t.c=c
 | .hr t=>t.wf∧t.s=s∧t.c=c
def act:Job→Bool
 | .no=>false
 | .ml v _=>!v.dn
 | .fr t=>!t.dn
 | .ag t=>!t.dn && !t.rv.dn
 | .hr t=>!t.dn
def left:Job→Int
 | .no=>0
 | .ml v m=>match m with
  | none=>if v.dn then(if v.fd then 1 else 0) else v.left+1
  | some x=>if x.dn then 0 else 1
 | .fr t=>t.left
 | .ag t=>t.left
 | .hr t=>t.left
section
variable {s:Sh} {c:Int} {j:Job} {w:Wd}
theorem ml_go {v:Rv} {m:Option Cm} (hd:v.dn=false):(Job.ml v m).step s c w=(.ml (v.step w).1 m,(v.step w).2):=if_neg (by rw[hd];decide)
theorem ml_no {v:Rv} (hd:v.dn=true) (hf:v.fd=false):(Job.ml v none).step s c w=(.ml v none,w):=by
 show(if v.dn=true then(if v.fd=true then _ else _) else _)=_
 rw[if_pos hd,if_neg (by rw[hf];decide)]
theorem ml_new {v:Rv} (hd:v.dn=true) (hf:v.fd=true):(Job.ml v none).step s c w=(.ml v (some ((Cm.new s c v.bk).step w).1),((Cm.new s c v.bk).step w).2):=by
 show(if v.dn=true then(if v.fd=true then _ else _) else _)=_
 rw[if_pos hd,if_pos hf]
theorem ml_cm {v:Rv} {m:Cm} (hd:v.dn=true):(Job.ml v (some m)).step s c w=(.ml v (some (m.step w).1),(m.step w).2):=if_pos hd
theorem ml_cases (v:Rv) (m:Option Cm):(v.dn=false∧(Job.ml v m).step s c w=(.ml (v.step w).1 m,(v.step w).2))∨(v.dn=true∧m=none∧v.fd=false∧(Job.ml v m).step s c w=(.ml v none,w)) ∨
  (v.dn=true∧m=none∧v.fd=true∧(Job.ml v m).step s c w=(.ml v (some ((Cm.new s c v.bk).step w).1),((Cm.new s c v.bk).step w).2)) ∨
  (v.dn=true∧∃ x,m=some x∧(Job.ml v m).step s c w=(.ml v (some (x.step w).1),(x.step w).2)):=by
 cases hd:v.dn
 ·exact .inl ⟨rfl,ml_go hd⟩
 ·cases m with
  |none=>
   cases hf:v.fd
   ·exact .inr (.inl ⟨rfl,rfl,rfl,ml_no hd hf⟩)
   ·exact .inr (.inr (.inl ⟨rfl,rfl,rfl,ml_new hd hf⟩))
  | some x=>exact .inr (.inr (.inr ⟨rfl,x,rfl,ml_cm hd⟩))
theorem cm_step_dn (x:Cm):(x.step w).1.dn=true:=by
 unfold Cm.step
 split
 ·assumption
 ·split<;>rfl
theorem cm_keeps (x:Cm):(x.step w).1.s=x.s∧(x.step w).1.c=x.c∧(x.step w).1.b=x.b:=by
 unfold Cm.step
 split
 ·exact⟨rfl,rfl,rfl⟩
 ·split<;>exact⟨rfl,rfl,rfl⟩
theorem cm_wf {x:Cm}:(x.step w).1.wf:=fun h=>by rw[cm_step_dn]at h;cases h
theorem step_wf (h:j.wf s c) (hw:w.of s):(j.step s c w).1.wf s c:=by
 cases j with
 | no=>trivial
 |ml v m=>
  obtain⟨h1,h2,h3⟩:=h
  rcases ml_cases (s:=s) (c:=c) (w:=w) v m with⟨hd,e⟩|⟨hd,rfl,hf,e⟩|⟨hd,rfl,hf,e⟩|⟨hd,x,rfl,e⟩
  ·rw[e]
   refine⟨Rv.step_wf h1,Rv.step_ofs h1 h2,fun x e=>?_⟩
   have:=(h3 x e).2.2.2.1;rw[hd]at this;cases this
  ·rw[e];exact⟨h1,h2,fun x e=>by cases e⟩
  ·rw[e]
   refine⟨h1,h2,fun x e=>?_⟩
   injection e with e;subst e
   have k:=cm_keeps (w:=w) (Cm.new s c v.bk)
   exact⟨cm_wf,k.1,k.2.1,hd,hf⟩
  ·rw[e]
   refine⟨h1,h2,fun y e=>?_⟩
   injection e with e;subst e
   have k:=cm_keeps (w:=w) x
   obtain⟨g1,g2,g3,g4,g5⟩:=h3 x rfl
   exact⟨cm_wf,k.1.trans g2,k.2.1.trans g3,g4,g5⟩
 |fr t=>
  obtain⟨h1,h2,h3⟩:=h
  have k:=Gv.step_keeps (w:=w) h1
  exact⟨Gv.step_wf h1 hw.u,k.1.trans h2,k.2.1.trans h3⟩
 |ag t=>
  obtain⟨h1,h2,h3⟩:=h
  have k:=Re.step_k (t:=t) (w:=w)
  exact⟨Re.step_wf h1 fun _=>by rw[h2];exact hw,k.1.trans h2,k.2.1.trans h3⟩
 |hr t=>
  obtain⟨h1,h2,h3⟩:=h
  have k:=Ad.step_k t w
  exact⟨Ad.step_wf h1 hw.u,k.1.trans h2,k.2.1.trans h3⟩
theorem step_of (h:j.wf s c) (hw:w.of s):(j.step s c w).2.of s:=by
 cases j with
 | no=>exact hw
 |ml v m=>
  obtain⟨h1,h2,h3⟩:=h
  rcases ml_cases (s:=s) (c:=c) (w:=w) v m with⟨hd,e⟩|⟨hd,rfl,hf,e⟩|⟨hd,rfl,hf,e⟩|⟨hd,x,rfl,e⟩<;>rw[e]
  ·exact Rv.step_of h1 hw
  ·exact hw
  ·exact Cm.step_of hw
  ·exact Cm.step_of hw
 | fr t=>exact Gv.step_of h.1 hw
 | ag t=>have:=Re.step_of (w:=w) h.1 (by rw[h.2.1];exact hw);rw[h.2.1]at this;exact this
 | hr t=>exact Ad.step_of hw
theorem left_nn (h:j.wf s c):0≤j.left:=by
 cases j with
 | no=>exact Int.le_refl _
 |ml v m=>
  show 0≤Job.left (.ml v m)
  unfold Job.left
  cases m with
  | none=>have:=Rv.left_nn h.1;dsimp only;split;split<;>omega;omega
  | some x=>dsimp only;split<;>omega
 | fr t=>exact Gv.left_nn h.1
 | ag t=>exact Re.left_nn h.1
 | hr t=>exact Ad.left_nn h.1
theorem left_dn (h:j.wf s c) (hn:j≠.no) (hl:j.left≤0):j.dn=true:=by
 cases j with
 | no=>exact absurd rfl hn
 |ml v m=>
  obtain⟨h1,h2,h3⟩:=h
  show(v.dn && (!v.fd || odn m))=true
  have hl:Job.left (.ml v m)≤0:=hl
  unfold Job.left at hl
  cases m with
  |none=>
   have:=Rv.left_nn h1
   dsimp only at hl
   cases hd:v.dn
   ·rw[hd]at hl;simp at hl;omega
   ·rw[hd]at hl;simp only[if_true]at hl
    cases hf:v.fd
    ·rfl
    ·rw[hf]at hl;simp at hl
  |some x=>
   dsimp only at hl
   cases hx:x.dn
   ·rw[hx]at hl;simp at hl
   ·rw[(h3 x rfl).2.2.2.1];simp [hx,odn]
 | fr t=>exact Gv.left_dn h.1 hl
 | ag t=>exact Re.left_dn h.1 hl
 | hr t=>exact Ad.left_dn h.1 hl
theorem step_left (h:j.wf s c) (hw:w.of s) (hn:j≠.no) (hd:j.dn=false):(j.step s c w).1.left<j.left:=by
 cases j with
 | no=>exact absurd rfl hn
 |ml v m=>
  obtain⟨h1,h2,h3⟩:=h
  have hd:(v.dn && (!v.fd || odn m))=false:=hd
  rcases ml_cases (s:=s) (c:=c) (w:=w) v m with⟨hv,e⟩|⟨hv,rfl,hf,e⟩|⟨hv,rfl,hf,e⟩|⟨hv,x,rfl,e⟩<;>rw[e]
  ·cases m with
   | some x=>have:=(h3 x rfl).2.2.2.1;rw[hv]at this;cases this
   |none=>
    unfold Job.left
    simp only[hv,Bool.false_eq_true,if_false]
    have h4:=Rv.step_left (w:=w) h1 hv
    have h5:=Rv.left_nn (Rv.step_wf (w:=w) h1)
    split
    ·split<;>omega
    ·omega
  ·rw[hv,hf]at hd;cases hd
  ·unfold Job.left
   simp [hv,hf,cm_step_dn]
  ·rw[hv,(h3 x rfl).2.2.2.2]at hd
   have hx:x.dn=false:=hd
   unfold Job.left
   simp [hx,cm_step_dn]
 | fr t=>exact Gv.step_left h.1 hd
 | ag t=>exact Re.step_left h.1 hd (by rw[h.2.1];exact hw)
 | hr t=>exact Ad.step_left h.1 hd
end
end Job

/-! ### What is found lies in the heap -/
def Tk.Fz (t:Tk):Prop:=(t.hit=true→0≤t.ep∧t.ep<t.s.p∧0≤t.es∧t.es<16)∧(t.fd=true→t.hit=true)
theorem Tk.fz_step {t:Tk} {w:Wd} (h:t.Fz):(t.step w).1.Fz:=by
 unfold Tk.step
 split
 ·exact h
 ·split
  ·rename_i hh;exact⟨h.1,fun _=>hh⟩
  ·split
   ·rename_i hh
    unfold Tk.hits at hh
    simp only[Bool.and_eq_true]at hh
    have:=en_bd hh.1
    exact⟨fun _=>this,fun _=>rfl⟩
   ·exact h
def Sk.Fz (t:Sk):Prop:=(t.fd=true→0≤t.pg∧t.pg<t.s.p∧0≤t.sl∧t.sl<16)∧∀ m,t.nw=.tk m→m.Fz∧m.s=t.s
def Sk.Nz (t:Sk):Nw→Prop
 | .tk m=>m.Fz∧m.s=t.s
 | .sc m=>m.fd=true→0≤m.pg∧m.pg<t.s.p∧0≤m.i∧m.i<16
 | .bi _=>0≤t.pg∧t.pg<t.s.p
 | _=>True
theorem Sk.fz_set {t:Sk} {n:Nw} (hf:t.fd=false) (hn:t.Nz n):(t.set n).Fz:=by
 have nf:∀ {P:Prop},t.fd=true→P:=fun e=>by rw[hf]at e;cases e
 cases hd:n.dn
 ·rw[Sa.set_go t hd]
  refine⟨fun e=>nf e,fun m e=>?_⟩
  have e:n=.tk m:=e
  subst e;exact hn
 ·rw[Sa.set_af t hd]
  cases n with
  |tk m=>
   show Sk.Fz (if m.fd then _ else _)
   split
   ·rename_i h
    obtain⟨⟨h1,h2⟩,h3⟩:=hn
    have:=h1 (h2 h)
    rw[h3]at this
    exact⟨fun _=>this,fun x e=>by have e:Nw.tk m=.tk x:=e;injection e with e;subst e;exact⟨⟨h1,h2⟩,h3⟩⟩
   ·exact⟨fun e=>nf e,fun x e=>by cases e⟩
  |sc m=>
   show Sk.Fz (if m.fd then _ else _)
   split
   ·rename_i h;exact⟨fun _=>hn h,fun x e=>by cases e⟩
   ·exact⟨fun e=>nf e,fun x e=>by cases e⟩
  |pc m=>
   show Sk.Fz (if m.fd then _ else _)
   split
   ·exact⟨fun e=>nf e,fun x e=>by cases e⟩
   ·exact⟨fun e=>nf e,fun x e=>by cases e⟩
  | no=>cases hd
  |st m=>
   show Sk.Fz (if m.hd then _ else _)
   split
   ·exact⟨fun e=>nf e,fun x e=>by cases e⟩
   ·exact⟨fun e=>nf e,fun x e=>by cases e⟩
  | bi m=>exact⟨fun _=>⟨hn.1,hn.2,by show(0:Int)≤0∧(0:Int)<16;decide⟩,fun x e=>by cases e⟩
theorem Sk.fz_step {t:Sk} {w:Wd} (ht:t.wf) (h:t.Fz):(t.step w).1.Fz:=by
 cases hd:t.dn
 rotate_left
 ·rw[Sk.step_dn hd];exact h
 obtain⟨h1,h2⟩:=ht.nw hd
 have hf:=ht.fd hd
 have hc:=ht.of hd
 cases e:t.nw with
 | tk m=>rw[Sk.step_tk hd e];exact Sk.fz_set hf ⟨Tk.fz_step (h.2 m e).1,Tk.step_s.trans (h.2 m e).2⟩
 |sc m=>
  rw[Sk.step_sc hd e];rw[e]at h1 h2
  have h2:m.dn=false:=h2
  obtain⟨m1,m2,m3,m4,m5,m6,m7,m8,m9⟩:=h1
  refine Sk.fz_set hf fun hfd=>?_
  have ha:=m1.of h2
  have sb:=slots_bd m.k
  have key:(m.step w).1.fd=true→(m.step w).1.pg=m.pg∧(m.step w).1.i=m.i:=by
   intro hx
   unfold Sc.step at hx ⊢
   rw[if_neg (by rw[h2];decide)]at hx ⊢
   have nf:m.fd=false:=m7 h2
   split at hx
   ·split at hx
    ·have hx:m.fd=true:=hx;rw[nf]at hx;cases hx
    ·have hx:m.fd=true:=hx;rw[nf]at hx;cases hx
   ·rename_i g0
    rw[if_neg g0]
    split at hx
    ·have:∀ b:Bool,(if w.get m.at'=opn m.k then { m with nx:=2 } else m.miss).fd=m.fd:=fun _=>by
      unfold Sc.miss Sc.turn;repeat' split
      all_goals rfl
     have hx:(if w.get m.at'=opn m.k then { m with nx:=2 } else m.miss).fd=true:=hx
     rw[this true,nf]at hx;cases hx
    ·rename_i g1
     rw[if_neg g1]
     by_cases g2:w.get m.at'=opn m.k
     ·rw[if_pos g2];exact⟨rfl,rfl⟩
     ·have hx:(if w.get m.at'=opn m.k then { m with fd:=true,dn:=true } else m.miss).fd=true:=hx
      rw[if_neg g2]at hx
      have:m.miss.fd=m.fd:=by unfold Sc.miss Sc.turn;split<;>rfl
      rw[this,nf]at hx;cases hx
  obtain⟨k1,k2⟩:=key hfd
  rw[k1,k2]
  have hp:=(may_iff _ _ _).1 ha.1
  have hb:=mod_bd (a:=m.f+m.many) (p:=m.s.p) (by omega)
  rw[← m2]
  exact⟨hb.1,hb.2,by omega,by omega⟩
 | pc m=>rw[Sk.step_pc hd e];exact Sk.fz_set hf trivial
 |no=>
  rw[Sk.step_no hd e]
  have:(t.look w).fd=t.fd∧∀ m,(t.look w).nw≠.tk m:=by
   unfold Sk.look Sk.turn
   split<;>exact⟨rfl,fun m e=>by cases e⟩
  exact⟨fun e=>(by rw[this.1,hf]at e;cases e),fun m e=>absurd e (this.2 m)⟩
 | st m=>rw[Sk.step_st' hd e];exact Sk.fz_set hf trivial
 |bi m=>
  rw[Sk.step_bi hd e];rw[e]at h1
  exact Sk.fz_set hf ⟨h1.2.2.2.2.2.1,h1.2.2.2.2.2.2⟩
theorem Sk.fz_new (s:Sh) (c k f:Int):(Sk.new s c k f).Fz:=by
 unfold Sk.new
 split
 ·exact Sk.fz_set rfl ⟨⟨fun e=>(by cases e),fun e=>(by cases e)⟩,rfl⟩
 ·exact⟨fun e=>(by cases e),fun m e=>(by cases e)⟩
def Rn.Fz (t:Rn):Prop:=t.fd=true→0≤t.hd∧t.hd<t.s.p∧1≤t.n∧t.n≤8
theorem Rn.fz_step {t:Rn} {w:Wd} (ht:t.wf) (h:t.Fz) (hp:t.dn=false→t.s.p≤64):(t.step w).1.Fz:=by
 cases hd:t.dn
 rotate_left
 ·rw[Rn.step_dn hd];exact h
 have hk:=Rn.step_k ht w
 obtain⟨-,nf,ar⟩:=ht.of hd
 unfold Rn.Ar at ar
 have key:(t.step w).1.fd=true→(t.step w).1.hd=t.hd:=by
  intro hx
  have kW:∀ u:Rn,u.written.hd=u.hd:=fun u=>by unfold Rn.written;split<;>rfl
  have kO:∀ u:Rn,u.own.hd=u.hd:=fun u=>by unfold Rn.own;split<;>first | exact kW _ | rfl
  have fG:∀ u:Rn,u.gone.fd=u.fd:=fun u=>by unfold Rn.gone;split<;>rfl
  have fM:∀ u:Rn,u.miss.fd=u.fd:=fun u=>fG _
  rcases Rn.step_cases ht w with⟨h,-⟩|⟨-,⟨-,e⟩|⟨-,e⟩|⟨-,q,-,-,-,-,-,-,e⟩|⟨-,e⟩|⟨-,e⟩|⟨-,e⟩⟩
  ·rw[hd]at h;cases h
  ·rw[e]at hx
   have:(t.look (w.get t.pat)).fd=t.fd:=by
    unfold Rn.look;split
    ·rfl
    ·split
     ·rfl
     ·exact fM _
   rw[show(t.look (w.get t.pat),w.load t.c t.pat).1=t.look (w.get t.pat) from rfl,this,nf]at hx;cases hx
  ·rw[e]at hx ⊢
   show(t.claim _).hd=t.hd
   have hx:(t.claim (w.get t.pat)).fd=true:=hx
   unfold Rn.claim at hx ⊢
   split at hx
   ·rename_i g;rw[if_pos g];exact kO _
   ·rw[fM,nf]at hx;cases hx
  ·rw[e]at hx ⊢
   have hx:(t.outs (q.step w).1).fd=true:=hx
   unfold Rn.outs at hx
   split at hx
   ·have hx:t.fd=true:=hx;rw[nf]at hx;cases hx
   ·split at hx
    ·rw[fM]at hx;have hx:t.fd=true:=hx;rw[nf]at hx;cases hx
    ·have hx:t.fd=true:=hx;rw[nf]at hx;cases hx
  ·rw[e]
   show(t.clear).hd=t.hd
   unfold Rn.clear;split
   ·exact kO _
   ·rfl
  ·rw[e]at hx
   have hx:(Rn.gone { t with i:=t.i - 1 }).fd=true:=hx
   rw[fG]at hx;have hx:t.fd=true:=hx;rw[nf]at hx;cases hx
  ·rw[e];exact kW _
 intro hx
 have h1:=key hx
 obtain⟨k1,k2,k3⟩:=hk
 rw[h1,k1,k3]
 omega
def Rv.Fz:Rv→Prop
 | .sk t=>t.Fz
 | .rn t=>t.Fz
 | .no=>True
theorem Rv.fz_step {v:Rv} {w:Wd} (hv:v.wf) (h:v.Fz):(v.step w).1.Fz:=by
 cases v with
 | sk t=>exact Sk.fz_step hv h
 | rn t=>exact Rn.fz_step hv h fun hd=>by have:=((may_iff _ _ _).1 (hv.of hd).1);omega
 | no=>trivial
theorem Rv.fz_new (s:Sh) (c n f:Int):(Rv.new s c n f).Fz:=by
 unfold Rv.new
 split
 ·exact Sk.fz_new ..
 ·split
  ·exact fun e=>by cases e
  ·trivial
def Bk.Sm (b:Bk):Prop:=(0≤b.p∧b.p≤64)∧(0≤b.i∧b.i≤64)∧0≤b.n∧b.n≤64
theorem Rv.sm {s:Sh} {c:Int} {v:Rv} (hm:may s.p s.c s.m=true) (ho:v.of s c) (h:v.Fz):v.bk.Sm:=by
 have hb:=(may_iff _ _ _).1 hm
 have hz:Bk.zero.Sm:=⟨⟨Int.le_refl _,by decide⟩,⟨Int.le_refl _,by decide⟩,Int.le_refl _,by decide⟩
 cases v with
 |sk t=>
  show(if t.fd then _ else _:Bk).Sm
  split
  ·rename_i e;have h2:=h.1 e;rw[ho.1]at h2;exact⟨by show 0≤t.pg∧t.pg≤64;omega,by show 0≤t.sl∧t.sl≤64;omega,by show(0:Int)≤0∧(0:Int)≤64;decide⟩
  ·exact hz
 |rn t=>
  show(if t.fd then _ else _:Bk).Sm
  split
  ·rename_i e;have h2:=h e;rw[ho.1]at h2;exact⟨by show 0≤t.hd∧t.hd≤64;omega,by show(0:Int)≤0∧(0:Int)≤64;decide,by show 0≤t.n∧t.n≤64;omega⟩
  ·exact hz
 | no=>exact hz
def Job.Fz:Job→Prop
 | .ml v _=>v.Fz
 | .ag t=>t.rv.Fz
 | _=>True
theorem Job.fz_step {s:Sh} {c:Int} {j:Job} {w:Wd} (h:j.wf s c) (hz:j.Fz):(j.step s c w).1.Fz:=by
 cases j with
 | no=>trivial
 |ml v m=>
  rcases ml_cases (s:=s) (c:=c) (w:=w) v m with⟨hd,e⟩|⟨hd,rfl,hf,e⟩|⟨hd,rfl,hf,e⟩|⟨hd,x,rfl,e⟩<;>rw[e]
  ·exact Rv.fz_step h.1 hz
  all_goals exact hz
 | fr t=>trivial
 |ag t=>
  show(t.step w).1.rv.Fz
  unfold Re.step
  split
  ·exact hz
  ·show((t.acc w).1.go).rv.Fz
   rw[Re.go_k.2.2.2.1]
   unfold Re.acc
   split
   ·split
    ·split<;>exact hz
    ·exact hz
   ·exact Rv.fz_step h.1.rw hz
 | hr t=>trivial
end Go.Ma
namespace Go.Ma
open Go.Pl
namespace Op
def zero:Op:=⟨0,0,0⟩
def bad (s:Sh) (c:Int) (o:Op):Bool:=(o.k == 4 && (decide (status s.p s.c s.m o.a<0) || o.a == c)) || ((o.k == 1 || o.k == 3) && !fine o.n) || ((o.k == 2 || o.k == 3) && !there s.p s.c s.m o.a)
def nom (s:Sh) (o:Op):Bool:=(o.k == 1 || o.k == 3) && (large o.n && decide (s.p<pages o.n))
def err (s:Sh) (c:Int) (o:Op):Int:=if bad s c o then 1 else if nom s o then 3 else 0
def once (s:Sh) (c:Int) (o:Op):Bool:=bad s c o || nom s o
end Op
structure Cl where
 s:Sh
 c:Int
 f:Int
 o:Op
 j:Job
 busy:Bool
 told:Bool
 st:Int
namespace Cl
def new (s:Sh) (c f:Int):Cl:=⟨s,c,f,Op.zero,.no,false,false,0⟩
def rest (k:Cl):Cl:={ k with j:=.no,busy:=false }
def ans (k:Cl) (e a:Int):Evt:=⟨5,k.c,k.o,a,0,e⟩
def start (s:Sh) (c f:Int) (o:Op):Job:=if o.k=1 then .ml (Rv.new s c o.n f) none else if o.k=2 then .fr (Gv.new s c o.a) else if o.k=3 then .ag (Re.new s c o.a o.n f) else .hr (Ad.new s c o.a)
def ask (k:Cl) (o:Op):Cl:={ k with o:=o,told:=false,st:=0 }
def invoke (k:Cl) (o:Op):Cl×List Evt×Int:=
 if k.busy then(k,[],4) else if o.k<1∨4<o.k then(k,[],1) else
 if o.once k.s k.c then((k.ask o).rest,[⟨2,k.c,o,0,0,0⟩,⟨5,k.c,o,0,0,o.err k.s k.c⟩],0)
 else({ k.ask o with j:=start k.s k.c k.f o,busy:=true },[⟨2,k.c,o,0,0,0⟩],0)
def gvE (k:Cl):List Evt:=if k.j.gave && !k.told then [⟨4,k.c,Op.zero,k.o.a,0,0⟩] else []
def told1 (k:Cl):Cl:={ k with told:=k.told || k.j.gave }
def tkE (k:Cl):List Evt:=match k.j.took with | none=>[] | some b=>[⟨3,k.c,Op.zero,b.ad,b.len,0⟩]
def tkA (k:Cl):Int:=match k.j.took with | none=>0 | some b=>b.ad
def tell (k:Cl):Cl×List Evt:=if k.j.dn then(k.told1.rest,k.gvE ++ k.tkE ++ [k.ans k.j.err k.tkA]) else(k.told1,k.gvE)
def adv (k:Cl) (w:Wd):Cl:={ k with j:=(k.j.step k.s k.c w).1,st:=k.st+1 }
def step (k:Cl) (w:Wd):Cl×Wd×List Evt×Int:=
 if k.busy then((k.adv w).tell.1,(k.j.step k.s k.c w).2,(k.adv w).tell.2,0) else(k,w,[],2)
structure wf (k:Cl):Prop where
 m:may k.s.p k.s.c k.s.m=true
 c0:0≤k.c
 c1:k.c<k.s.c
 f0:0≤k.f
 f1:k.f<k.s.p
 jw:k.j.wf k.s k.c
 jz:k.j.Fz
 jb:k.busy=true→k.j≠.no∧k.j.dn=false∧0≤k.st∧k.st+k.j.left≤110*k.s.p+4*k.s.m+60∧(k.st=0→k.j.act=true)
 jn:k.busy=false→k.j=.no
variable {k:Cl} {w:Wd} {o:Op}
theorem gv_left (s:Sh) (c a:Int) (hm:0≤s.m):(Gv.new s c a).left≤s.m+13:=by
 unfold Gv.left
 split
 ·omega
 ·show(if(0:Int)=0 then _ else _:Int)≤_
  rw[if_pos rfl];exact Int.le_refl _
theorem new_wf {s:Sh} {c f:Int} (hm:may s.p s.c s.m=true) (c0:0≤c) (c1:c<s.c) (f0:0≤f) (f1:f<s.p):(new s c f).wf:=
 ⟨hm,c0,c1,f0,f1,trivial,trivial,fun h=>(by cases h),fun _=>rfl⟩
theorem rv_act {s:Sh} {c n f:Int} (hm:may s.p s.c s.m=true) (c0:0≤c) (c1:c<s.c) (f0:0≤f) (f1:f<s.p) (h:fine n=true) (hl:large n=true→pages n≤s.p):(Rv.new s c n f).dn=false:=by
 unfold Rv.new
 cases e1:small n
 ·rw[if_neg (by decide)]
  have e2:large n=true:=by unfold fine at h;rw[e1]at h;exact h
  have hp:1≤pages n∧pages n≤8:=by
   have e3:33≤n∧n≤512:=by simpa [large,within] using e2
   unfold pages;rw[if_pos e2]
   omega
  have hl':=hl e2
  rw[if_pos e2]
  have hok:Rn.ok s c (pages n)=true:=by
   unfold Rn.ok
   rw[status_yes hm c0 c1,decide_eq_true c0,decide_eq_true hp.1,decide_eq_true hp.2,decide_eq_true hl'];rfl
  show(!Rn.ok s c (pages n))=false
  rw[hok];rfl
 ·simp only[if_true]
  have hk:0≤cls n∧cls n≤3:=by unfold cls;split<;>omega
  have hsl:=slots_four hk.1 hk.2
  have hg:(good s c (cls n) && decide (0≤page s.p s.c s.m f))=true:=by
   have hb:=(may_iff _ _ _).1 hm
   unfold good
   rw[status_yes hm c0 c1,page_yes hm f0 f1,decide_eq_true c0,decide_eq_true (by omega:0<slots (cls n)),decide_eq_true (by omega:0≤s.c+f)];rfl
  show(Sk.new s c (cls n) f).dn=false
  unfold Sk.new
  rw[if_pos hg]
  cases hd:(Tk.new s c (cls n)).dn
  ·rw[Sa.set_go _ (by exact hd)]
  ·rw[Sa.set_af _ (by exact hd)];rfl
theorem start_wf (h:k.wf) (o1:1≤o.k) (o4:o.k≤4) (hn:o.once k.s k.c=false) :
  (start k.s k.c k.f o).wf k.s k.c∧(start k.s k.c k.f o).Fz∧start k.s k.c k.f o≠.no∧(start k.s k.c k.f o).dn=false∧(start k.s k.c k.f o).left≤110*k.s.p+4*k.s.m+60∧(start k.s k.c k.f o).act=true:=by
 have hb:=(may_iff _ _ _).1 h.m
 unfold Op.once Op.bad Op.nom at hn
 simp only[Bool.or_eq_false_iff,Bool.and_eq_false_imp,Bool.or_eq_true,beq_iff_eq,Bool.not_eq_false',decide_eq_false_iff_not]at hn
 obtain⟨⟨⟨n1,n2⟩,n3⟩,n4⟩:=hn
 have hst:=status_yes h.m h.c0 h.c1
 unfold start
 split
 ·rename_i e
  have hf:=n2 (.inl e)
  have hl:=n4 (.inl e)
  have hd:=rv_act (c:=k.c) h.m h.c0 h.c1 h.f0 h.f1 hf (fun g=>by have:=hl g;omega)
  have h1:=Rv.new_left k.s k.c o.n k.f h.m
  refine⟨⟨Rv.new_wf ..,Rv.new_of ..,fun x e=>(by cases e)⟩,Rv.fz_new ..,fun e=>(by cases e),?_,?_,?_⟩
  ·show((Rv.new k.s k.c o.n k.f).dn && _)=false;rw[hd];rfl
  ·show(if(Rv.new k.s k.c o.n k.f).dn=true then _ else _:Int)≤_
   rw[if_neg (by rw[hd];decide)];omega
  ·show(!(Rv.new k.s k.c o.n k.f).dn)=true;rw[hd];rfl
 ·split
  ·rename_i e
   have ht:=n3 (.inl e)
   have hd:(Gv.new k.s k.c o.a).dn=false:=by
    show(!there k.s.p k.s.c k.s.m o.a || decide (status k.s.p k.s.c k.s.m k.c<0))=false
    rw[ht,hst,decide_eq_false (by have:=h.c0;omega)];rfl
   have h1:=gv_left k.s k.c o.a (by omega)
   refine⟨⟨Gv.new_wf ..,rfl,rfl⟩,trivial,fun e=>(by cases e),hd,?_,?_⟩
   ·show(Gv.new k.s k.c o.a).left≤_;omega
   ·show(!(Gv.new k.s k.c o.a).dn)=true;rw[hd];rfl
  ·split
   ·rename_i e
    have ht:=n3 (.inr e)
    have hf:=n2 (.inr e)
    have hl:=n4 (.inr e)
    have hok:Re.ok k.s k.c o.a o.n=true:=by
     unfold Re.ok;rw[ht,hf,hst,decide_eq_true h.c0];rfl
    have rd:=rv_act (c:=k.c) h.m h.c0 h.c1 h.f0 h.f1 hf (fun g=>by have:=hl g;omega)
    have en:Re.new k.s k.c o.a o.n k.f=Re.raw k.s k.c o.a o.n k.f:=by
     have e:Re.new k.s k.c o.a o.n k.f=(Re.raw k.s k.c o.a o.n k.f).go:=if_pos hok
     rw[e]
     unfold Re.go Re.raw
     simp only[rd,Bool.false_eq_true,if_false]
    have h1:=Re.new_left k.s k.c o.a o.n k.f h.m
    refine⟨⟨Re.new_wf ..,by rw[en];rfl,by rw[en];rfl⟩,?_,fun e=>(by cases e),?_,?_,?_⟩
    ·show(Re.new k.s k.c o.a o.n k.f).rv.Fz
     rw[en];exact Rv.fz_new ..
    ·show(Re.new k.s k.c o.a o.n k.f).dn=false
     rw[en];rfl
    ·show(Re.new k.s k.c o.a o.n k.f).left≤_;omega
    ·show(!(Re.new k.s k.c o.a o.n k.f).dn && !(Re.new k.s k.c o.a o.n k.f).rv.dn)=true
     rw[en]
     show(!false && !(Rv.new k.s k.c o.n k.f).dn)=true
     rw[rd];rfl
   ·have e:o.k=4:=by omega
    have ha:=n1 e
    obtain⟨a1,a2⟩:=ha
    have hd:(Ad.new k.s k.c o.a).dn=false:=by
     show Ad.bad k.s k.c o.a=false
     unfold Ad.bad
     rw[hst,decide_eq_false (by have:=h.c0;omega),decide_eq_false a1]
     have:k.c≠o.a:=fun g=>(by rw[g]at a2;simp at a2)
     rw[decide_eq_false this];rfl
    have h1:=Ad.new_left k.s k.c o.a (by omega)
    refine⟨⟨Ad.new_wf ..,rfl,rfl⟩,trivial,fun e=>(by cases e),hd,?_,?_⟩
    ·show(Ad.new k.s k.c o.a).left≤_;omega
    ·show(!(Ad.new k.s k.c o.a).dn)=true;rw[hd];rfl
structure Mid (k:Cl):Prop where
 m:may k.s.p k.s.c k.s.m=true
 c0:0≤k.c
 c1:k.c<k.s.c
 f0:0≤k.f
 f1:k.f<k.s.p
 jw:k.j.wf k.s k.c
 jz:k.j.Fz
 jb:k.busy=true
 jn:k.j≠.no
 j0:1≤k.st
 jl:k.st+k.j.left≤110*k.s.p+4*k.s.m+60
theorem _root_.Go.Ma.Job.step_no {s:Sh} {c:Int} {j:Job} {w:Wd} (h:j≠.no):(j.step s c w).1≠.no:=by
 cases j with
 | no=>exact absurd rfl h
 |ml v m=>
  rcases Job.ml_cases (s:=s) (c:=c) (w:=w) v m with⟨hd,e⟩|⟨hd,rfl,hf,e⟩|⟨hd,rfl,hf,e⟩|⟨hd,x,rfl,e⟩<;>rw[e]<;>intro h<;>cases h
 | fr t=>intro h;cases h
 | ag t=>intro h;cases h
 | hr t=>intro h;cases h
theorem adv_mid (h:k.wf) (hb:k.busy=true) (hw:w.of k.s):(k.adv w).Mid:=by
 obtain⟨b1,b2,b3,b4,b5⟩:=h.jb hb
 have:=Job.step_left (w:=w) h.jw hw b1 b2
 refine⟨h.m,h.c0,h.c1,h.f0,h.f1,Job.step_wf h.jw hw,Job.fz_step h.jw h.jz,hb,Job.step_no b1,?_,?_⟩
 ·show 1≤k.st+1;omega
 ·show k.st+1+(k.j.step k.s k.c w).1.left≤_
  have e:(k.adv w).s=k.s:=rfl
  rw[e];omega
theorem Mid.sm (h:k.Mid) {b:Bk} (hb:k.j.took=some b):b.Sm:=by
 have jw:=h.jw
 have jz:=h.jz
 revert jw jz hb
 cases k.j with
 | no=>intro hb;cases hb
 |ml v m=>
  intro hb jw jz
  have hb:(if v.fd && odn m then some v.bk else none)=some b:=hb
  split at hb
  ·injection hb with hb;rw[← hb];exact Rv.sm h.m jw.2.1 jz
  ·cases hb
 | fr t=>intro hb;cases hb
 |ag t=>
  intro hb jw jz
  have hb:(if t.fd then some t.bk else none)=some b:=hb
  split at hb
  ·injection hb with hb
   rw[← hb]
   unfold Re.bk
   split
   ·have ho:=jw.1.ro
    rw[jw.2.1,jw.2.2]at ho
    exact Rv.sm h.m ho jz
   ·exact⟨⟨Int.le_refl _,by decide⟩,⟨Int.le_refl _,by decide⟩,Int.le_refl _,by decide⟩
  ·cases hb
 | hr t=>intro hb;cases hb
theorem tell_wf (h:k.Mid):k.tell.1.wf:=by
 unfold tell
 split
 ·exact⟨h.m,h.c0,h.c1,h.f0,h.f1,trivial,trivial,fun h=>(by cases h),fun _=>rfl⟩
 ·rename_i hd
  have hd:k.j.dn=false:=by simpa using hd
  have:=h.j0;have:=h.jl
  exact⟨h.m,h.c0,h.c1,h.f0,h.f1,h.jw,h.jz,fun _=>⟨h.jn,hd,by show 0≤k.st;omega,h.jl,fun e=>by have e:k.st=0:=e;omega⟩,fun e=>by have e:k.busy=false:=e;rw[h.jb]at e;cases e⟩
theorem step_wf (h:k.wf) (hw:w.of k.s):(k.step w).1.wf:=by
 unfold step
 split
 ·rename_i hb;exact tell_wf (adv_mid h hb hw)
 ·exact h
theorem step_of (h:k.wf) (hw:w.of k.s):(k.step w).2.1.of k.s:=by
 unfold step
 split
 ·exact Job.step_of h.jw hw
 ·exact hw
theorem tell_k:k.tell.1.s=k.s∧k.tell.1.c=k.c∧k.tell.1.f=k.f∧k.tell.1.o=k.o∧k.tell.1.st=k.st:=by
 unfold tell;split<;>exact⟨rfl,rfl,rfl,rfl,rfl⟩
theorem step_k:(k.step w).1.s=k.s∧(k.step w).1.c=k.c∧(k.step w).1.f=k.f∧(k.step w).1.o=k.o:=by
 unfold step;split
 ·have h:=tell_k (k:=k.adv w)
  exact⟨h.1,h.2.1,h.2.2.1,h.2.2.2.1⟩
 ·exact⟨rfl,rfl,rfl,rfl⟩
theorem step_evs:(k.step w).2.2.1.length≤3:=by
 unfold step
 split
 ·show(k.adv w).tell.2.length≤3
  unfold tell
  have h1:(k.adv w).gvE.length≤1:=by unfold gvE;split<;>simp
  have h2:(k.adv w).tkE.length≤1:=by unfold tkE;split<;>simp
  split
  ·show((k.adv w).gvE ++ (k.adv w).tkE ++ [_]).length≤3
   rw[List.length_append,List.length_append];simp;omega
  ·show(k.adv w).gvE.length≤3;omega
 ·simp
theorem invoke_evs:(k.invoke o).2.1.length≤2:=by
 unfold invoke
 split
 ·simp
 ·split
  ·simp
  ·split<;>simp
theorem invoke_k:(k.invoke o).1.s=k.s∧(k.invoke o).1.c=k.c∧(k.invoke o).1.f=k.f:=by
 unfold invoke
 split
 ·exact⟨rfl,rfl,rfl⟩
 ·split
  ·exact⟨rfl,rfl,rfl⟩
  ·split<;>exact⟨rfl,rfl,rfl⟩
theorem invoke_wf (h:k.wf):(k.invoke o).1.wf:=by
 unfold invoke
 split
 ·exact h
 ·split
  ·exact h
  ·rename_i hk
   split
   ·exact⟨h.m,h.c0,h.c1,h.f0,h.f1,trivial,trivial,fun h=>(by cases h),fun _=>rfl⟩
   ·rename_i hn
    obtain⟨h1,h2,h3,h4,h5,h6⟩:=start_wf h (o:=o) (by omega) (by omega) (by simpa using hn)
    exact⟨h.m,h.c0,h.c1,h.f0,h.f1,h1,h2,fun _=>⟨h3,h4,Int.le_refl _,by show 0+(start k.s k.c k.f o).left≤110*k.s.p+4*k.s.m+60;omega,fun _=>h6⟩,fun e=>by cases e⟩
end Cl
structure Ch where
 k:Int
 c:Int
 o:Op
 b:Int
structure Wo where
 s:Sh
 w:Wd
 k:Nat→Option Cl
 tr:List Evt
 sp:List Acs
namespace Wo
def new (s:Sh) (w:Wd):Wo:=⟨s,w,fun _=>none,[],[]⟩
def sat (W:Wo) (c:Int):Int:=status W.s.p W.s.c W.s.m c
def stk (W:Wo) (c:Int):Int:=if W.sat c<0 then 0 else stK (W.w.get (W.sat c))
def mark (W:Wo) (c x:Int):Wd:=W.w.put (W.sat c) x
def put (W:Wo) (c:Int) (x:Option Cl):Nat→Option Cl:=fun d=>if d=c.toNat then x else W.k d
def start (W:Wo) (x:Ch):Wo×Int:=
 if W.stk x.c≠0 then(W,5) else
 ({ W with w:=W.mark x.c (putSt 1 0),k:=W.put x.c (some (Cl.new W.s x.c x.b)),tr:=W.tr ++ [⟨0,x.c,Op.zero,0,0,0⟩] },0)
def step (W:Wo) (c:Int) (k:Cl):Wo×Int:=
 ({ W with w:=(k.step W.w).2.1,k:=W.put c (some (k.step W.w).1),tr:=W.tr ++ (k.step W.w).2.2.1,sp:=if W.w.st<(k.step W.w).2.1.st then W.sp ++ [(k.step W.w).2.1.last] else W.sp },(k.step W.w).2.2.2)
def ask (W:Wo) (c:Int) (k:Cl) (o:Op):Wo×Int:=
 ({ W with k:=W.put c (some (k.invoke o).1),tr:=W.tr ++ (k.invoke o).2.1 },(k.invoke o).2.2)
def kill (W:Wo) (c:Int):Wo×Int:=
 ({ W with w:=W.mark c (putSt 2 0),k:=W.put c none,tr:=W.tr ++ [⟨1,c,Op.zero,0,0,0⟩] },0)
def act (W:Wo) (x:Ch):Wo×Int:=
 if x.k<1∨4<x.k∨W.sat x.c<0 then(W,1) else
 if x.k=1 then W.start x else
 match W.k x.c.toNat with
 | none=>(W,2)
 | some k=>if x.k=3 then W.step x.c k else if x.k=2 then W.ask x.c k x.o else W.kill x.c
structure wf (W:Wo):Prop where
 m:may W.s.p W.s.c W.s.m=true
 w:W.w.of W.s
 k:∀ d x,W.k d=some x→x.wf∧x.s=W.s∧x.c=d
structure fit (W:Wo) (x:Ch):Prop where
 b0:0≤x.b
 b1:x.b<W.s.p
variable {W:Wo} {x:Ch} {c y:Int} {k:Cl}
theorem mark_of (h:W.wf) (hy:U y):(W.mark c y).of W.s:=by
 refine⟨h.w.n,fun i=>?_⟩
 show U (if i=(W.sat c).toNat then y else W.w.ws i)
 split
 ·exact hy
 ·exact h.w.u i
theorem sat_bd (h:W.wf) (hc:¬ W.sat c<0):0≤c∧c<W.s.c∧W.sat c=c:=by
 unfold sat at hc ⊢
 by_cases g:0≤c∧c<W.s.c
 ·rw[status_yes h.m g.1 g.2];exact⟨g.1,g.2,rfl⟩
 ·rw[status_no fun q=>g ⟨q.2.1,q.2.2⟩]at hc;exact absurd (by decide) hc
theorem sat_in (h:W.wf) (hc:¬ W.sat c<0):0≤c∧c<W.s.c∧W.sat c=c∧c<(W.w.n:Int):=by
 obtain⟨h0,h1,h2⟩:=sat_bd h hc
 have hb:=(may_iff _ _ _).1 h.m
 have hn:=h.w.n
 unfold words at hn
 rw[if_pos h.m]at hn
 have:=Int.mul_nonneg (by omega:0≤W.s.c) (by omega:0≤W.s.m)
 exact⟨h0,h1,h2,by omega⟩
theorem n_le (W:Wo) (h:W.wf):W.w.n≤2000:=by
 have hn:=h.w.n
 have hb:=(may_iff _ _ _).1 h.m
 have hml:=mul_bd W.s.c W.s.m (by omega) hb.2.2.2.1 hb.2.2.2.2.1 hb.2.2.2.2.2
 unfold words at hn
 rw[if_pos h.m]at hn
 omega
theorem put_wf {o:Option Cl} {w:Wd} {tr:List Evt} {sp:List Acs} (h:W.wf) (hc:0≤c) (hw:w.of W.s) (hx:∀ x,o=some x→x.wf∧x.s=W.s∧x.c=c):(⟨W.s,w,W.put c o,tr,sp⟩:Wo).wf:=by
 refine⟨h.m,hw,fun d x e=>?_⟩
 have e:(if d=c.toNat then o else W.k d)=some x:=e
 split at e
 ·rename_i g
  obtain⟨h1,h2,h3⟩:=hx x e
  exact⟨h1,h2,by rw[h3,g];omega⟩
 ·exact h.k d x e
theorem act_wf (h:W.wf) (hx:W.fit x):(W.act x).1.wf:=by
 unfold act
 split
 ·exact h
 rename_i hk
 obtain⟨c0,c1,c2⟩:=sat_bd (c:=x.c) h (by omega)
 split
 ·unfold start
  split
  ·exact h
  ·exact put_wf h c0 (mark_of h (U_putSt ..)) fun z e=>by injection e with e;subst e;exact⟨Cl.new_wf h.m c0 c1 hx.b0 hx.b1,rfl,rfl⟩
 ·cases e:W.k x.c.toNat with
  | none=>exact h
  |some k=>
   obtain⟨h1,h2,h3⟩:=h.k _ _ e
   have h3:k.c=x.c:=by rw[h3];omega
   have hw:W.w.of k.s:=by rw[h2];exact h.w
   have ks:=Cl.step_k (k:=k) (w:=W.w)
   have ki:=Cl.invoke_k (k:=k) (o:=x.o)
   dsimp only
   split
   ·exact put_wf h c0 (by have:=Cl.step_of h1 hw;rw[h2]at this;exact this) fun z e=>by injection e with e;subst e;exact⟨Cl.step_wf h1 hw,ks.1.trans h2,ks.2.1.trans h3⟩
   ·split
    ·exact put_wf h c0 h.w fun z e=>by injection e with e;subst e;exact⟨Cl.invoke_wf h1,ki.1.trans h2,ki.2.1.trans h3⟩
    ·exact put_wf h c0 (mark_of h (U_putSt ..)) fun z e=>by cases e
theorem act_s:(W.act x).1.s=W.s:=by
 unfold act
 split
 ·rfl
 split
 ·unfold start;split<;>rfl
 ·cases W.k x.c.toNat with
  | none=>rfl
  | some k=>dsimp only;split;rfl;split<;>rfl
end Wo
end Go.Ma
namespace Go.Ma
open Go.Pl
namespace Wo
def busy (W:Wo) (c:Int):Bool:=match W.k c.toNat with
 | some k=>k.busy
 | none=>false
def go (c:Int):Nat→Wo→Wo
 | 0,W=>W
 | n+1,W=>if W.busy c then go c n (W.act ⟨3,c,Op.zero,0⟩).1 else W
def lastE (W:Wo):Evt:=W.tr.getLastD ⟨0,0,Op.zero,0,0,0⟩
def heard (W:Wo) (c:Int):Bool:=!W.busy c && (!W.tr.isEmpty && (W.lastE.k == 5 && W.lastE.c == c))
def askd (W:Wo) (c:Int) (o:Op):Wo:=(W.act ⟨2,c,o,0⟩).1
def ended (W:Wo) (c:Int) (o:Op):Wo:=if(W.act ⟨2,c,o,0⟩).2≠0 then W.askd c o else match (W.askd c o).k c.toNat with
 | none=>W.askd c o
 | some _=>(W.askd c o).go c (110*W.s.p+4*W.s.m+60).toNat
def okd (W:Wo) (c:Int) (o:Op):Bool:=((W.act ⟨2,c,o,0⟩).2 == 0 && ((W.askd c o).k c.toNat).isSome) && (W.ended c o).heard c
def answ (W:Wo) (c:Int) (o:Op):Int:=if W.okd c o then(W.ended c o).lastE.e else 0
variable {W:Wo} {c:Int} {o:Op}
theorem fit0 {k c:Int} {o:Op} (h:W.wf):W.fit ⟨k,c,o,0⟩:=⟨Int.le_refl _,by have:=(may_iff _ _ _).1 h.m;show 0<W.s.p;omega⟩
theorem go_wf:∀ (n:Nat) {W:Wo},W.wf→(go c n W).wf
 | 0,W,h=>h
 |n+1,W,h=>by
  unfold go;split
  ·exact go_wf n (act_wf h (fit0 h))
  ·exact h
theorem go_s:∀ (n:Nat) {W:Wo},(go c n W).s=W.s
 | 0,W=>rfl
 |n+1,W=>by
  unfold go;split
  ·exact(go_s n).trans act_s
  ·rfl
theorem askd_wf (h:W.wf):(W.askd c o).wf:=act_wf h (fit0 h)
theorem askd_s:(W.askd c o).s=W.s:=act_s
theorem ended_wf (h:W.wf):(W.ended c o).wf:=by
 unfold ended;split
 ·exact askd_wf h
 ·cases (W.askd c o).k c.toNat with
  | none=>exact askd_wf h
  | some k=>exact go_wf _ (askd_wf h)
theorem ended_s:(W.ended c o).s=W.s:=by
 unfold ended;split
 ·exact askd_s
 ·cases (W.askd c o).k c.toNat with
  | none=>exact askd_s
  | some k=>exact(go_s _).trans askd_s
theorem act_len {x:Ch}:(W.act x).1.tr.length≤W.tr.length+3∧(W.act x).1.sp.length≤W.sp.length+1:=by
 unfold act
 split
 ·exact⟨by dsimp only;omega,by dsimp only;omega⟩
 split
 ·unfold start
  split
  ·exact⟨by dsimp only;omega,by dsimp only;omega⟩
  ·exact⟨by dsimp only;rw[List.length_append];show _+1≤_;omega,by dsimp only;omega⟩
 ·cases W.k x.c.toNat with
  | none=>exact⟨by dsimp only;omega,by dsimp only;omega⟩
  |some k=>
   dsimp only
   have h1:=Cl.step_evs (k:=k) (w:=W.w)
   have h2:=Cl.invoke_evs (k:=k) (o:=x.o)
   split
   ·unfold step
    refine⟨by dsimp only;rw[List.length_append];omega,?_⟩
    dsimp only
    split
    ·rw[List.length_append];show _+1≤_;omega
    ·omega
   split
   ·exact⟨by unfold ask;dsimp only;rw[List.length_append];omega,by unfold ask;dsimp only;omega⟩
   ·exact⟨by unfold kill;dsimp only;rw[List.length_append];show _+1≤_;omega,by unfold kill;dsimp only;omega⟩
theorem go_len:∀ (n:Nat) {W:Wo},(go c n W).tr.length≤W.tr.length+3*n∧(go c n W).sp.length≤W.sp.length+n
 | 0,W=>⟨by show W.tr.length≤_;omega,by show W.sp.length≤_;omega⟩
 |n+1,W=>by
  unfold go;split
  ·have h1:=go_len n (W:=(W.act ⟨3,c,Op.zero,0⟩).1)
   have h2:=act_len (W:=W) (x:=⟨3,c,Op.zero,0⟩)
   omega
  ·omega
theorem act_asked (h:W.wf) (h0:(W.act ⟨2,c,o,0⟩).2=0):0≤c∧c<W.s.c∧∃ k',(W.act ⟨2,c,o,0⟩).1.k c.toNat=some k':=by
 revert h0
 unfold act
 split
 ·intro h0;cases h0
 rename_i g
 obtain⟨c0,c1,-⟩:=sat_bd (c:=c) h fun q=>g (.inr (.inr q))
 split
 ·rename_i g;cases g
 ·cases e:W.k c.toNat with
  | none=>intro h0;cases h0
  | some k=>exact fun _=>⟨c0,c1,_,if_pos rfl⟩
theorem act_lives {k:Cl} (h:W.wf) (e:W.k c.toNat=some k):∃ k',(W.act ⟨3,c,o,0⟩).1.k c.toNat=some k':=by
 unfold act
 split
 ·exact⟨k,e⟩
 split
 ·rename_i g;cases g
 ·dsimp only
  rw[e]
  dsimp only
  rw[if_pos rfl]
  exact⟨_,if_pos rfl⟩
theorem ended_len (hm:W.wf):(W.ended c o).tr.length≤W.tr.length+30000∧(W.ended c o).sp.length≤W.sp.length+10000:=by
 have hb:=(may_iff _ _ _).1 hm.m
 have h1:=act_len (W:=W) (x:=⟨2,c,o,0⟩)
 unfold ended askd
 split
 ·omega
 ·cases (W.act ⟨2,c,o,0⟩).1.k c.toNat with
  | none=>dsimp only;omega
  |some k=>
   dsimp only
   have h2:=go_len (c:=c) (110*W.s.p+4*W.s.m+60).toNat (W:=(W.act ⟨2,c,o,0⟩).1)
   omega
theorem new_wf {n:Nat} {s:Sh} (hm:may s.p s.c s.m=true) (hn:(n:Int)=words s.p s.c s.m):(Wo.new s ⟨n,fun _=>0,0,0,0,0,0,0,false⟩).wf:=
 ⟨hm,⟨hn,fun _=>⟨Int.le_refl _,by show(0:Int)≤18446744073709551615;decide⟩⟩,fun d x e=>by cases e⟩
end Wo
def aw0:Wo:=((Wo.new ⟨2,1,1⟩ ⟨36,fun _=>0,0,0,0,0,0,0,false⟩).act ⟨1,0,Op.zero,0⟩).1
def aw1:Wo:=aw0.ended 0 ⟨1,0,100⟩
def aw2:Wo:=aw1.ended 0 ⟨1,0,1⟩
def aw3:Wo:=aw2.ended 0 ⟨2,0,0⟩
theorem aw0_wf:aw0.wf:=Wo.act_wf (Wo.new_wf (by decide) (by decide)) ⟨by decide,by decide⟩
theorem aw1_wf:aw1.wf:=Wo.ended_wf aw0_wf
theorem aw2_wf:aw2.wf:=Wo.ended_wf aw1_wf
theorem aw3_wf:aw3.wf:=Wo.ended_wf aw2_wf
theorem aw_len:(aw0.tr.length≤3∧aw0.sp.length≤1)∧(aw1.tr.length≤30003∧aw1.sp.length≤10001)∧aw2.tr.length≤60003∧aw2.sp.length≤20001:=by
 have h0:aw0.tr.length≤3∧aw0.sp.length≤1:=Wo.act_len (W:=Wo.new ⟨2,1,1⟩ ⟨36,fun _=>0,0,0,0,0,0,0,false⟩)
 have h1:aw1.tr.length≤_∧aw1.sp.length≤_:=Wo.ended_len aw0_wf (c:=0) (o:=⟨1,0,100⟩)
 have h2:aw2.tr.length≤_∧aw2.sp.length≤_:=Wo.ended_len aw1_wf (c:=0) (o:=⟨1,0,1⟩)
 omega
end Go.Ma
namespace Go.Ma
open Go.Pl
namespace Wo
variable {W:Wo} {c:Int} {o:Op} {k:Cl}
theorem sat_yes (h:W.wf) (c0:0≤c) (c1:c<W.s.c):W.sat c=c:=by
 unfold sat status
 have e:within c 0 (W.s.c - 1)=true:=by unfold within;simp;omega
 rw[h.m,e];rfl
theorem act3 (h:W.wf) (c0:0≤c) (c1:c<W.s.c) (e:W.k c.toNat=some k):W.act ⟨3,c,o,0⟩ = W.step c k:=by
 unfold act
 rw[if_neg,if_neg (by decide:¬ (3:Int)=1)]
 ·dsimp only;rw[e];dsimp only;rw[if_pos rfl]
 ·rw[sat_yes h c0 c1];dsimp only;omega
theorem act2 (h:W.wf) (c0:0≤c) (c1:c<W.s.c) (e:W.k c.toNat=some k):W.act ⟨2,c,o,0⟩ = W.ask c k o:=by
 unfold act
 rw[if_neg,if_neg (by decide:¬ (2:Int)=1)]
 ·dsimp only;rw[e];dsimp only;rw[if_neg (by decide),if_pos rfl]
 ·rw[sat_yes h c0 c1];dsimp only;omega
theorem go_idle:∀ N,W.busy c=false→W.go c N=W
 | 0,_=>rfl
 | N+1,h=>by unfold go;rw[if_neg (by rw[h];decide)]
structure Ran (W W':Wo) (c:Int) (k:Cl) (j:Job):Prop where
 s:W'.s=W.s
 k':∃ k',W'.k c.toNat=some k'∧k'.busy=false∧k'.s=k.s∧k'.c=k.c∧k'.f=k.f
 o:∀ d,d≠c.toNat→W'.k d=W.k d
 dn:j.dn=true
 ev:W'.tr≠[]∧W'.lastE.k=5∧W'.lastE.c=c∧W'.lastE.e=j.err
theorem go_run {s:Sh} {I:Job→Wd→Prop} (hI:∀ j w,I j w→j.dn=false→I (j.step s c w).1 (j.step s c w).2) :
  ∀ (N:Nat) {W:Wo} {k:Cl},W.wf→W.s=s→0≤c→c<s.c→W.k c.toNat=some k→k.busy=true→I k.j W.w→110*s.p+4*s.m+60≤(N:Int)+k.st→∃ j,I j (W.go c N).w∧Ran W (W.go c N) c k j
 | 0,W,k,h,hs,c0,c1,e,hb,hj,hN=>by
  exfalso
  obtain⟨k1,k2,k3⟩:=h.k _ _ e
  obtain⟨b1,b2,b3,b4,b5⟩:=k1.jb hb
  rw[k2,hs]at b4
  have:=Job.left_dn k1.jw b1 (by omega)
  rw[b2]at this;cases this
 |N+1,W,k,h,hs,c0,c1,e,hb,hj,hN=>by
  have c1':c<W.s.c:=by rw[hs];exact c1
  obtain⟨k1,k2,k3⟩:=h.k _ _ e
  obtain⟨b1,b2,b3,b4,b5⟩:=k1.jb hb
  have hbu:W.busy c=true:=by unfold busy;rw[e];exact hb
  have ego:W.go c (N+1)=(W.act ⟨3,c,Op.zero,0⟩).1.go c N:=by
   show(if W.busy c=true then _ else _)=_
   rw[if_pos hbu]
  have w1:=act_wf (x:=⟨3,c,Op.zero,0⟩) h (fit0 h)
  have s1:=act_s (W:=W) (x:=⟨3,c,Op.zero,0⟩)
  rw[ego]
  rw[act3 h c0 c1' e]at w1 s1 ⊢
  have es:k.step W.w=((k.adv W.w).tell.1,(k.j.step k.s k.c W.w).2,(k.adv W.w).tell.2,0):=if_pos hb
  have hkc:k.c=c:=by rw[k3];omega
  have hks:k.s=s:=k2.trans hs
  have hj':=hI _ _ hj b2
  rw[← hks,← hkc]at hj'
  have eW:(W.step c k).1=⟨W.s,(k.j.step k.s k.c W.w).2,W.put c (some (k.adv W.w).tell.1),W.tr ++ (k.adv W.w).tell.2,(W.step c k).1.sp⟩:=by
   unfold step;rw[es]
  have eK:(W.step c k).1.k c.toNat=some (k.adv W.w).tell.1:=by rw[eW];exact if_pos rfl
  have eO:∀ d,d≠c.toNat→(W.step c k).1.k d=W.k d:=fun d hd=>by rw[eW];exact if_neg hd
  have eT:(W.step c k).1.tr=W.tr ++ (k.adv W.w).tell.2:=by rw[eW]
  have eWd:(W.step c k).1.w=(k.j.step k.s k.c W.w).2:=by rw[eW]
  have tk:=Cl.tell_k (k:=k.adv W.w)
  cases hd:(k.adv W.w).j.dn
  ·have et:(k.adv W.w).tell=((k.adv W.w).told1,(k.adv W.w).gvE):=if_neg (by rw[hd];decide)
   have hb2:(k.adv W.w).tell.1.busy=true:=by rw[et];exact hb
   have hj2:(k.adv W.w).tell.1.j=(k.j.step k.s k.c W.w).1:=by rw[et];rfl
   obtain⟨j,q1,q2⟩:=go_run hI N w1 (s1.trans hs) c0 c1 eK hb2 (by rw[hj2,eWd];exact hj') (by rw[tk.2.2.2.2];show _≤(N:Int)+(k.st+1);omega)
   refine⟨j,q1,⟨q2.s.trans s1,?_,fun d hd=>(q2.o d hd).trans (eO d hd),q2.dn,q2.ev⟩⟩
   obtain⟨k',r1,r2,r3,r4,r5⟩:=q2.k'
   exact⟨k',r1,r2,r3.trans tk.1,r4.trans tk.2.1,r5.trans tk.2.2.1⟩
  ·have et:(k.adv W.w).tell=((k.adv W.w).told1.rest,(k.adv W.w).gvE ++ (k.adv W.w).tkE ++ [(k.adv W.w).ans (k.adv W.w).j.err (k.adv W.w).tkA]):=if_pos hd
   have hb2:(k.adv W.w).tell.1.busy=false:=by rw[et];rfl
   have hid:(W.step c k).1.busy c=false:=by unfold busy;rw[eK];exact hb2
   rw[go_idle N hid]
   refine⟨(k.adv W.w).j,by rw[eWd];exact hj',⟨s1,⟨_,eK,hb2,tk.1,tk.2.1,tk.2.2.1⟩,eO,hd,?_⟩⟩
   have el:(W.step c k).1.lastE=(k.adv W.w).ans (k.adv W.w).j.err (k.adv W.w).tkA:=by
    unfold lastE
    rw[eT,et,← List.append_assoc]
    simp [List.getLastD_eq_getLast?]
   refine⟨by rw[eT,et];simp,?_⟩
   rw[el]
   exact⟨rfl,hkc,rfl⟩
theorem ended_run {s:Sh} {I:Job→Wd→Prop} (hI:∀ j w,I j w→j.dn=false→I (j.step s c w).1 (j.step s c w).2)
  {W:Wo} {k:Cl} (h:W.wf) (hs:W.s=s) (c0:0≤c) (c1:c<s.c) (e:W.k c.toNat=some k) (hb:k.busy=false) (o1:1≤o.k) (o4:o.k≤4) (hn:o.once s c=false) (h0:I (Cl.start s c k.f o) W.w) :
  W.okd c o=true∧∃ j,I j (W.ended c o).w∧Ran W (W.ended c o) c k j∧W.answ c o=j.err:=by
 have c1':c<W.s.c:=by rw[hs];exact c1
 obtain⟨k1,k2,k3⟩:=h.k _ _ e
 have hkc:k.c=c:=by rw[k3];omega
 have hks:k.s=s:=k2.trans hs
 have w1:=act_wf (x:=⟨2,c,o,0⟩) h (fit0 h)
 have s1:=act_s (W:=W) (x:=⟨2,c,o,0⟩)
 have ei:k.invoke o=({ k.ask o with j:=Cl.start k.s k.c k.f o,busy:=true },[⟨2,k.c,o,0,0,0⟩],0):=by
  unfold Cl.invoke
  rw[if_neg (by rw[hb];decide),if_neg (by omega),if_neg (by rw[hks,hkc,hn];decide)]
 have ea:W.act ⟨2,c,o,0⟩ = W.ask c k o:=act2 h c0 c1' e
 have er:(W.act ⟨2,c,o,0⟩).2=0:=by rw[ea];unfold ask;rw[ei]
 have eK:(W.act ⟨2,c,o,0⟩).1.k c.toNat=some (k.invoke o).1:=by rw[ea];exact if_pos rfl
 have eO:∀ d,d≠c.toNat→(W.act ⟨2,c,o,0⟩).1.k d=W.k d:=fun d hd=>by rw[ea];exact if_neg hd
 have eW:(W.act ⟨2,c,o,0⟩).1.w=W.w:=by rw[ea];rfl
 have hb0:=(may_iff _ _ _).1 h.m
 rw[hs]at hb0
 have een:W.ended c o=(W.act ⟨2,c,o,0⟩).1.go c (110*s.p+4*s.m+60).toNat:=by
  unfold ended askd
  rw[if_neg (by rw[er];decide),eK,hs]
 obtain⟨j,q1,q2⟩:=go_run hI (110*s.p+4*s.m+60).toNat w1 (s1.trans hs) c0 c1 eK (by rw[ei]) (by rw[ei,eW];show I (Cl.start k.s k.c k.f o) _;rw[hks,hkc];exact h0) (by rw[ei];show _≤_+(0:Int);omega)
 rw[← een]at q1 q2
 have ho:W.okd c o=true:=by
  obtain⟨r0,r1,r2,r3⟩:=q2.ev
  obtain⟨k',t1,t2,-⟩:=q2.k'
  unfold okd heard
  rw[er]
  unfold askd
  rw[eK,r1,r2]
  have hbz:(W.ended c o).busy c=false:=by unfold busy;rw[t1];exact t2
  have hne:(W.ended c o).tr.isEmpty=false:=by
   rw[Bool.eq_false_iff];intro g;rw[List.isEmpty_iff]at g;exact r0 g
  rw[hbz,hne]
  simp
 refine⟨ho,j,q1,⟨q2.s.trans s1,?_,fun d hd=>(q2.o d hd).trans (eO d hd),q2.dn,q2.ev⟩,?_⟩
 ·obtain⟨k',r1,r2,r3,r4,r5⟩:=q2.k'
  rw[ei]at r3 r4 r5
  exact⟨k',r1,r2,r3,r4,r5⟩
 ·unfold answ;rw[if_pos ho];exact q2.ev.2.2.2
end Wo
end Go.Ma
namespace Go.Ma
open Go.Pl
def tot (f:Nat→Int):Nat→Int
 | 0=>0
 | n+1=>tot f n+f n
def Pm (s:Sh) (ws:Nat→Int) (q:Int):Prop:=pgAt s ws q=0∨(pgK s q (pgAt s ws q)=2∧0≤pgA s q (pgAt s ws q)∧pgA s q (pgAt s ws q)≤3∧(∀ i,0≤i→i<slots (pgA s q (pgAt s ws q))→slAt s ws q i=opn (pgA s q (pgAt s ws q))∨slAt s ws q i=taken (pgA s q (pgAt s ws q))) ∧
 ∃ i,0≤i∧i<slots (pgA s q (pgAt s ws q))∧slAt s ws q i=taken (pgA s q (pgAt s ws q)))
inductive Mv (s:Sh) (ws ws':Nat→Int) (k:Int):Prop
 | a (p i:Int) (p0:0≤p) (p1:p<s.p) (h:Sa.Has s ws k p i) (pg:∀ q,0≤q→q<s.p→pgAt s ws' q=pgAt s ws q) (sl:∀ q j,0≤q→q<s.p→0≤j→j<16→slAt s ws' q j=if q=p∧j=i then taken k else slAt s ws q j)
 | b (p:Int) (p0:0≤p) (p1:p<s.p) (no:∀ q i,0≤q→q<s.p→¬ Sa.Has s ws k q i) (e:pgAt s ws p=0) (pk:pgK s p (pgAt s ws' p)=2∧pgA s p (pgAt s ws' p)=k) (z:slAt s ws' p 0=taken k) (o:∀ i,0<i→i<slots k→slAt s ws' p i=opn k)
   (pg:∀ q,0≤q→q<s.p→q≠p→pgAt s ws' q=pgAt s ws q) (sl:∀ q j,0≤q→q<s.p→q≠p→0≤j→j<16→slAt s ws' q j=slAt s ws q j)
section
variable {s:Sh} {ws0 ws ws':Nat→Int} {c k f:Int} {t:Sk} {w:Wd}
def eP (s:Sh) (ws:Nat→Int) (q:Nat):Int:=if pgAt s ws q=0 then 1 else 0
def oP (s:Sh) (ws:Nat→Int) (k:Int) (q:Nat):Int:=if pgK s q (pgAt s ws q)=2∧pgA s q (pgAt s ws q)=k then tot (fun i=>if slAt s ws q i=opn k then 1 else 0) (slots k).toNat else 0
def emp (s:Sh) (ws:Nat→Int):Int:=tot (eP s ws) s.p.toNat
def ops (s:Sh) (ws:Nat→Int) (k:Int):Int:=tot (oP s ws k) s.p.toNat
inductive MI (s:Sh) (ws0:Nat→Int) (c n f:Int):Job→Wd→Prop
 | rv {v:Rv} {w:Wd} (h:v.Al s ws0 c n f w):MI s ws0 c n f (.ml v none) w
 | cm {v:Rv} {x:Cm} {w w1:Wd} (hx:x.dn=true) (hd:v.dn=true) (hf:v.fd=true) (h:v.Al s ws0 c n f w1) (hw:w.ws=cmW s w1.ws v.bk):MI s ws0 c n f (.ml v (some x)) w
theorem MI.step {n:Int} (j:Job) (w:Wd) (h:MI s ws0 c n f j w) (hd:j.dn=false):MI s ws0 c n f (j.step s c w).1 (j.step s c w).2:=by
 cases h with
 | @rv v w h=>
  cases hv:v.dn
  ·rw[Job.ml_go hv];exact .rv h.step
  ·cases hf:v.fd
   ·have:(v.dn && (!v.fd || odn none))=false:=hd
    rw[hv,hf]at this;cases this
   ·obtain⟨g,-⟩:=h.got hv hf
    obtain⟨c1,c2,c3⟩:=Cm.one g.res
    rw[Job.ml_new hv hf]
    exact .cm (by rw[c2]) hv hf h c3
 |cm hx hv hf h hw=>
  have:(_ && (!_ || odn (some _)))=false:=hd
  rw[hv,hf]at this
  have h2:odn (some _)=true:=hx
  rw[h2]at this;cases this
theorem MI.ends {n:Int} {j:Job} {w:Wd} (h:MI s ws0 c n f j w) (hd:j.dn=true) :
  (j.err=0∧∃ (v:Rv) (w1:Wd),v.Al s ws0 c n f w1∧v.dn=true∧v.fd=true∧w.ws=cmW s w1.ws v.bk)∨(j.err=3∧∃ v:Rv,v.Al s ws0 c n f w∧v.dn=true∧v.fd=false):=by
 cases h with
 | @rv v w h=>
  have hd:(v.dn && (!v.fd || odn none))=true:=hd
  cases hv:v.dn
  ·rw[hv]at hd;cases hd
  ·cases hf:v.fd
   ·exact .inr ⟨by show(if v.fd then(0:Int) else 3)=3;rw[hf];rfl,v,h,hv,hf⟩
   ·rw[hv,hf]at hd;cases hd
 | @cm v x w w1 hx hv hf h hw=>exact .inl ⟨by show(if v.fd then(0:Int) else 3)=0;rw[hf];rfl,v,w1,h,hv,hf,hw⟩
end
end Go.Ma
namespace Go.Ma
open Go.Pl
structure Fw (s:Sh) (W:Wo):Prop where
 wf:W.wf
 es:W.s=s
 m:s.m=0
 k:∃ k,W.k 0=some k∧k.busy=false
 snd:Snd s W.w.ws
 qp:∀ q,0≤q→q<s.p→Re.Qp s W.w.ws q
def blL (s:Sh) (W:Wo):List (Int×Int):=blks s W.w.ws s.p.toNat
inductive GI (s:Sh) (ws0:Nat→Int) (c a:Int):Job→Wd→Prop
 | fr {t:Gv} {w:Wd} (h:t.Al s ws0 c a w):GI s ws0 c a (.fr t) w
theorem GI.step {s:Sh} {ws0:Nat→Int} {c a:Int} (j:Job) (w:Wd) (h:GI s ws0 c a j w) (_:j.dn=false):GI s ws0 c a (j.step s c w).1 (j.step s c w).2:=by
 cases h with
 | fr h=>exact .fr h.step
theorem Fw.free {s:Sh} {W:Wo} {a:Int} (h:Fw s W) (ha:∃ z∈blL s W,z.1=a):W.okd 0 ⟨2,a,0⟩ = true∧W.answ 0 ⟨2,a,0⟩ = 0∧Fw s (W.ended 0 ⟨2,a,0⟩)∧Out (blL s W) (blL s (W.ended 0 ⟨2,a,0⟩)) a:=by
 obtain⟨k,hk,hb⟩:=h.k
 have hm:may s.p s.c s.m=true:=by rw[← h.es];exact h.wf.m
 have hbd:=(may_iff _ _ _).1 hm
 obtain⟨z,hz,hza⟩:=ha
 obtain⟨p,hp,hzp⟩:=blks_mem.1 hz
 have hp':=blkPg_pos hm h.snd (by omega) hzp
 have hin:=blkPg_in hzp
 have hth:there s.p s.c s.m a=true:=by
  unfold there within
  rw[hm]
  simp;omega
 have hon:Op.once s 0 ⟨2,a,0⟩ = false:=by
  unfold Op.once Op.bad Op.nom
  dsimp only
  rw[hth];rfl
 have hw:W.w.of s:=by rw[← h.es];exact h.wf.w
 have hst:Cl.start s 0 k.f ⟨2,a,0⟩ = .fr (Gv.new s 0 a):=by
  unfold Cl.start
  rw[if_neg (by show ¬ (2:Int)=1;decide),if_pos rfl]
 have hI:GI s W.w.ws 0 a (Cl.start s 0 k.f ⟨2,a,0⟩) W.w:=by
  rw[hst];exact .fr (Gv.Al.init hm hw (Int.le_refl _) (by omega) h.snd)
 obtain⟨h1,j,h2,h3,h4⟩:=Wo.ended_run (c:=0) (o:=⟨2,a,0⟩) (I:=GI s W.w.ws 0 a) (fun j w=>GI.step j w) h.wf h.es (Int.le_refl _) (by omega) hk hb (by show(1:Int)≤2;decide) (by show(2:Int)≤4;decide) hon hI
 have hwf:=Wo.ended_wf (c:=0) (o:=⟨2,a,0⟩) h.wf
 have hs2:=h3.s.trans h.es
 obtain⟨k',r1,r2,-⟩:=h3.k'
 rw[h4]
 have hdn:=h3.dn
 cases h2 with
 | @fr t w hg=>
  have hd:t.dn=true:=hdn
  cases hg.ph with
  | a hd'=>rw[hd]at hd';cases hd'
  | l1 hd'=>rw[hd]at hd';cases hd'
  | l2 hd'=>rw[hd]at hd';cases hd'
  | s1 hd'=>rw[hd]at hd';cases hd'
  | s2 p hd'=>rw[hd]at hd';cases hd'
  | s3 hd'=>rw[hd]at hd';cases hd'
  | n _ hgv hw hno=>exact absurd hza (hno s.p.toNat (by omega) z hz)
  |e _ hgv hpg hsn ho hf=>
   refine⟨h1,by show(if t.gv then(0:Int) else 1)=0;rw[hgv];rfl,⟨hwf,hs2,h.m,⟨k',r1,r2⟩,hsn,fun q q0 q1=>?_⟩,ho s.p.toNat (by omega) (by omega)⟩
   rcases Re.Fd.qb (b:=⟨true,0,0,0,0⟩) hm h.m h.snd hsn hf (fun q q0 q1=>.inl (h.qp q q0 q1)) q q0 q1 with g |⟨-,g1,g2⟩|⟨g,-⟩
   ·exact g
   ·have g2:q<0+0:=g2;have g1:0≤q:=g1;omega
   ·cases g
theorem quiet_free {s:Sh} {ws:Nat→Int} {q:Int} (hsn:Snd s ws) (hq:∀ q,0≤q→q<s.p→Re.Qp s ws q) (hn:blks s ws s.p.toNat = []) (q0:0≤q) (q1:q<s.p):Rw.Free s ws q:=by
 have key:∀ p:Nat,(p:Int)<s.p→blkPg s ws p = []:=fun p hp=>by
  refine List.eq_nil_iff_forall_not_mem.2 fun z hz=>?_
  have:z∈blks s ws s.p.toNat:=blks_mem.2 ⟨p,by omega,hz⟩
  rw[hn]at this;cases this
 have big:∀ p:Int,0≤p→p<s.p→pgK s p (pgAt s ws p)≠3:=fun p p0 p1 h3=>by
  have:=key p.toNat (by omega)
  unfold blkPg at this
  rw[show((p.toNat:Nat):Int)=p by omega,if_pos h3]at this
  cases this
 rcases hq q q0 q1 with e |⟨e,e2⟩| e |⟨e,a0,a1,e2⟩
 ·exact .inl e
 ·refine .inr ⟨e,fun i i0 i1=>?_⟩
  rcases e2 i i0 i1 with g | g
  ·exact g
  ·have:=key q.toNat (by omega)
   exfalso
   have hmem:((q.toNat:Int)*64+(i.toNat:Int)*size (pgA s q (pgAt s ws q)),size (pgA s q (pgAt s ws q)))∈blkPg s ws q.toNat:=by
    unfold blkPg
    rw[show((q.toNat:Nat):Int)=q by omega,if_neg (by rw[e];decide),if_pos e]
    exact blkSl_mem.2 ⟨i.toNat,by omega,by rw[show((i.toNat:Nat):Int)=i by omega];exact g,rfl⟩
   rw[this]at hmem;cases hmem
 ·exact absurd e (big q q0 q1)
 ·exact absurd e2 (big _ a0 a1)
theorem is_open {x:Int} (hk:slK x=1):x=opn (slA x):=by
 have ho:okSl x=true:=by
  cases e:okSl x
  ·unfold slK at hk;rw[e]at hk;cases hk
  ·rfl
 have h1:x % 16=1:=by unfold slK at hk;rw[if_pos ho]at hk;exact hk
 unfold slA opn
 rw[if_pos ho]
 unfold okSl at ho
 rw[h1]at ho
 exact(of_decide_eq_true ho).symm
def Sm' (s:Sh) (ws:Nat→Int) (k q:Int):Prop:=Rw.Free s ws q∨(pgK s q (pgAt s ws q)=2∧pgA s q (pgAt s ws q)=k)
section
variable {s:Sh} {ws0 ws:Nat→Int} {c k f:Int} {t:Sk} {w:Wd}
theorem free_un {q:Int} (hf:Rw.Free s ws0 q) (e1:pgAt s ws q=pgAt s ws0 q) (e2:∀ i,0≤i→i<16→slAt s ws q i=slAt s ws0 q i):Rw.Free s ws q:=by
 rcases hf with h |⟨h,h2⟩
 ·exact .inl (by rw[e1];exact h)
 ·have hs:=slots_bd (pgA s q (pgAt s ws0 q))
  exact .inr ⟨by rw[e1];exact h,fun i i0 i1=>by rw[e1]at i1;rw[e2 i i0 (by omega)];exact h2 i i0 i1⟩
theorem Sa.Al.sm (h0:s.m=0) (hp:∀ q,0≤q→q<s.p→Sm' s ws0 k q) (h:Sa.Al s ws0 c k f t w) (hd:t.dn=true) (hf:t.fd=true):∀ q,0≤q→q<s.p→Sm' s (cmW s w.ws ⟨false,t.pg,t.sl,t.k,0⟩) k q:=by
 have hm:=h.ok
 have hb:=(may_iff _ _ _).1 hm
 obtain⟨hk,k0,k1⟩:=h.kk
 have hs4:=slots_four k0 k1
 have hs1:=slots_bd k
 have ec:cmW s w.ws ⟨false,t.pg,t.sl,t.k,0⟩ = upW w.ws (slot s.p s.c s.m t.pg t.sl) (taken k):=by unfold cmW;rw[hk];rfl
 rw[ec]
 intro q q0 q1
 cases h.ph with
 | tk m e hd'=>rw[hd]at hd';cases hd'
 | ht m e hd'=>rw[hd]at hd';cases hd'
 | sc m e hd'=>rw[hd]at hd';cases hd'
 | pc m e hd'=>rw[hd]at hd';cases hd'
 | no e hd'=>rw[hd]at hd';cases hd'
 | st m e hd'=>rw[hd]at hd';cases hd'
 | b1 m e hd'=>rw[hd]at hd';cases hd'
 | b2 m e hd'=>rw[hd]at hd';cases hd'
 | n _ hf' hw=>rw[hf]at hf';cases hf'
 | f1 i _ hf' i0 i1=>omega
 |f2 _ hf' p0 p1 hh hw=>
  obtain⟨g1,g2,g3,g4,g5⟩:=hh
  have ep:pgAt s (upW w.ws (slot s.p s.c s.m t.pg t.sl) (taken k)) q=pgAt s ws0 q:=by
   rw[hw,pg_sl hm p0 p1 g3 (by omega) q0 q1,pg_sl hm p0 p1 g3 (by omega) q0 q1]
  by_cases e:q=t.pg
  ·subst e;exact .inr (by rw[ep];exact⟨g1,g2⟩)
  ·rcases hp q q0 q1 with g | g
   ·refine .inl (free_un g ep fun i i0 i1=>?_)
    rw[hw,sl_sl hm p0 p1 g3 (by omega) q0 i0 i1,if_neg fun g=>e g.1,sl_sl hm p0 p1 g3 (by omega) q0 i0 i1,if_neg fun g=>e g.1]
   ·exact .inr (by rw[ep];exact g)
 |f3 _ hf' p0 p1 og hl of pg sl so sz=>
  have hsu:=Sa.super_ok (s:=s) (c:=c) (q:=t.pg) hm p0 p1 k0 k1 h.ec.2.1 h.ec.2.2
  rw[hl]
  by_cases e:q=t.pg
  ·subst e
   exact .inr (by rw[pg_sl hm p0 p1 (by omega) (by omega) p0 p1,pg];exact⟨hsu.2.1,hsu.2.2⟩)
  ·have hun:=of.un hm p0 p1 q0 q1 e
   have ep:pgAt s (upW w.ws (slot s.p s.c s.m t.pg 0) (taken k)) q=pgAt s ws0 q:=by
    rw[pg_sl hm p0 p1 (by omega) (by omega) q0 q1];exact hun.1
   rcases hp q q0 q1 with g | g
   ·refine .inl (free_un g ep fun i i0 i1=>?_)
    rw[sl_sl hm p0 p1 (by omega) (by omega) q0 i0 i1,if_neg fun g=>e g.1];exact hun.2 i i0 i1
   ·exact .inr (by rw[ep];exact g)
end
theorem Fw.small {s:Sh} {W:Wo} {n:Int} (h:Fw s W) (hn:Pl.small n=true) (hp:∀ q,0≤q→q<s.p→Sm' s W.w.ws (cls n) q):W.okd 0 ⟨1,0,n⟩ = true∧Fw s (W.ended 0 ⟨1,0,n⟩)∧(∀ q,0≤q→q<s.p→Sm' s (W.ended 0 ⟨1,0,n⟩).w.ws (cls n) q) ∧
  ((W.answ 0 ⟨1,0,n⟩ = 0∧Sa.Want s W.w.ws 0 (cls n)∧(blL s (W.ended 0 ⟨1,0,n⟩)).length=(blL s W).length+1) ∨
   (W.answ 0 ⟨1,0,n⟩ = 3∧¬ Sa.Want s W.w.ws 0 (cls n)∧(W.ended 0 ⟨1,0,n⟩).w.ws=W.w.ws)):=by
 obtain⟨k,hk,hb⟩:=h.k
 have hm:may s.p s.c s.m=true:=by rw[← h.es];exact h.wf.m
 have hbd:=(may_iff _ _ _).1 hm
 obtain⟨k1,k2,k3⟩:=h.wf.k _ _ hk
 have hks:k.s=s:=k2.trans h.es
 have hfine:fine n=true:=by unfold fine;rw[hn];rfl
 have hlg:large n=false:=by
  unfold Pl.small within at hn
  unfold large within
  simp at hn ⊢;omega
 have hon:Op.once s 0 ⟨1,0,n⟩ = false:=by
  unfold Op.once Op.bad Op.nom
  dsimp only
  rw[hfine,hlg];rfl
 have hw:W.w.of s:=by rw[← h.es];exact h.wf.w
 have hst:Cl.start s 0 k.f ⟨1,0,n⟩ = .ml (Rv.new s 0 n k.f) none:=if_pos rfl
 have f0:=k1.f0
 have f1:=k1.f1
 rw[hks]at f1
 have hI:MI s W.w.ws 0 n k.f (Cl.start s 0 k.f ⟨1,0,n⟩) W.w:=by
  rw[hst];exact .rv (Rv.Al.init hm hw (Int.le_refl _) (by omega) f0 f1 h.snd)
 obtain⟨h1,j,h2,h3,h4⟩:=Wo.ended_run (c:=0) (o:=⟨1,0,n⟩) (I:=MI s W.w.ws 0 n k.f) (fun j w=>MI.step j w) h.wf h.es (Int.le_refl _) (by omega) hk hb (Int.le_refl _) (by show(1:Int)≤4;decide) hon hI
 have hwf:=Wo.ended_wf (c:=0) (o:=⟨1,0,n⟩) h.wf
 have hs2:=h3.s.trans h.es
 obtain⟨k',r1,r2,-⟩:=h3.k'
 rw[h4]
 rcases h2.ends h3.dn with⟨e0,v,w1,hv,hd,hf,hw1⟩|⟨e0,v,hv,hd,hf⟩
 ·have hg:=(hv.got hd hf).1
  have hsn:=hg.res.cm_snd hm hg.snd
  have F:=hg.res.f
  have ho:=hg.res.cm_out hm hg.snd (n:=s.p.toNat) (by have:=F.p1;omega) (by omega)
  have hbl:=hg.blks hm (n:=s.p.toNat) (by omega)
  have hqp:=Re.Res.qp hm hg.res (Re.Got.qb hm hg h.qp)
  cases hv with
  | @sk t w g1 hv=>
   have e:(Rv.sk t).bk=⟨false,t.pg,t.sl,t.k,0⟩:=if_pos hf
   have hsm:=hv.sm h.m hp hd hf
   refine⟨h1,⟨hwf,hs2,h.m,⟨k',r1,r2⟩,by rw[hw1];exact hsn,by rw[hw1];exact hqp⟩,by rw[hw1,e];exact hsm,.inl ⟨e0,(hv.fin hd).1 hf,?_⟩⟩
   unfold blL
   rw[hw1,ho.len,hbl]
  | rn g0=>rw[hn]at g0;cases g0
  | no=>cases hf
 ·cases hv with
  | @sk t w g1 hv=>
   have hd:t.dn=true:=hd
   have hf:t.fd=false:=hf
   have ew:=hv.lost hd hf
   exact⟨h1,⟨hwf,hs2,h.m,⟨k',r1,r2⟩,by rw[ew];exact h.snd,by rw[ew];exact h.qp⟩,by rw[ew];exact hp,.inr ⟨e0,fun g=>(by have:=(hv.fin hd).2 g;rw[hf]at this;cases this),ew⟩⟩
  | rn g0=>rw[hn]at g0;cases g0
  | no g0=>rw[hfine]at g0;cases g0
theorem blkSl_full {s:Sh} {ws:Nat→Int} {p A:Int}:∀ n:Nat,(∀ i:Nat,i<n→slK (slAt s ws p i)=3)→(blkSl s ws p A n).length=n
 | 0,_=>rfl
 |n+1,h=>by
  show(blkSl s ws p A n ++ _).length=_
  rw[if_pos (h n (by omega)),List.length_append,blkSl_full n fun i hi=>h i (by omega)];rfl
theorem blkSl_less {s:Sh} {ws:Nat→Int} {p A:Int}:∀ n:Nat,(∃ i:Nat,i<n∧slK (slAt s ws p i)≠3)→(blkSl s ws p A n).length<n
 | 0,⟨i,hi,_⟩=>by omega
 |n+1,⟨i,hi,h⟩=>by
  show(blkSl s ws p A n ++ _).length<_
  rw[List.length_append]
  by_cases e:i=n
  ·subst e
   have:=blkSl_len (s:=s) (ws:=ws) p A i
   rw[if_neg h];show _+0<_;omega
  ·have:=blkSl_less (s:=s) (ws:=ws) (p:=p) (A:=A) n ⟨i,by omega,h⟩
   split
   ·show _+1<_;omega
   ·show _+0<_;omega
section
variable {s:Sh} {ws:Nat→Int} {k:Int}
theorem free_none {p:Nat} (hf:Rw.Free s ws p):blkPg s ws p = []:=hf.none
theorem sm_len (k0:0≤k) (k1:k≤3) (hp:∀ q,0≤q→q<s.p→Sm' s ws k q):∀ n:Nat,(n:Int)≤s.p→((blks s ws n).length:Int)≤n*slots k∧((∃ p:Nat,p<n∧((blkPg s ws p).length:Int)<slots k)→((blks s ws n).length:Int)<n*slots k)
 | 0,_=>⟨by simp [blks],fun ⟨p,h,_⟩=>by omega⟩
 |n+1,hn=>by
  obtain⟨h1,h2⟩:=sm_len k0 k1 hp n (by omega)
  have hs:=slots_bd k
  have hpg:((blkPg s ws n).length:Int)≤slots k:=by
   rcases hp n (by omega) (by omega) with g |⟨g,g2⟩
   ·rw[free_none g];show((0:Nat):Int)≤_;omega
   ·have e:blkPg s ws n=blkSl s ws n k (slots k).toNat:=by unfold blkPg;rw[if_neg (by rw[g];decide),if_pos g,g2]
    have:=blkSl_len (s:=s) (ws:=ws) n k (slots k).toNat
    rw[e];omega
  have el:((blks s ws (n+1)).length:Int)=(blks s ws n).length+(blkPg s ws n).length:=by
   show((blks s ws n ++ blkPg s ws n).length:Int)=_
   rw[List.length_append];omega
  have em:((n+1:Nat):Int)*slots k=n*slots k+slots k:=by
   rw[show((n+1:Nat):Int)=(n:Int)+1 by omega,Int.add_mul];omega
  rw[el,em]
  refine⟨by omega,?_⟩
  rintro⟨p,hpn,hl⟩
  by_cases e:p=n
  ·subst e;omega
  ·have:=h2 ⟨p,by omega,hl⟩;omega
theorem want_len (hsn:Snd s ws) (k0:0≤k) (k1:k≤3) (h0:s.m=0) (hb:0≤s.p) (hq:∀ q,0≤q→q<s.p→Re.Qp s ws q) (hp:∀ q,0≤q→q<s.p→Sm' s ws k q):Sa.Want s ws 0 k↔((blks s ws s.p.toNat).length:Int)<s.p*slots k:=by
 have hs4:=slots_four k0 k1
 have hs:=slots_bd k
 have es:((s.p.toNat:Nat):Int)=s.p:=by omega
 have hl:=sm_len k0 k1 hp s.p.toNat (by omega)
 rw[es]at hl
 constructor
 ·intro h
  rcases h with⟨i,i0,i1,-⟩|⟨p,i,p0,p1,g1,g2,g3,g4,g5⟩|⟨p,p0,p1,g⟩
  ·omega
  ·refine hl.2 ⟨p.toNat,by omega,?_⟩
   have ep:((p.toNat:Nat):Int)=p:=by omega
   have e:blkPg s ws p.toNat=blkSl s ws p k (slots k).toNat:=by unfold blkPg;rw[ep,if_neg (by rw[g1];decide),if_pos g1,g2]
   have:=blkSl_less (s:=s) (ws:=ws) (p:=p) (A:=k) (slots k).toNat ⟨i.toNat,by omega,by
    rw[show((i.toNat:Nat):Int)=i by omega,g5,(opn_ne k k0 (by omega)).2.1];decide⟩
   rw[e];omega
  ·refine hl.2 ⟨p.toNat,by omega,?_⟩
   have ep:((p.toNat:Nat):Int)=p:=by omega
   rw[free_none (by rw[ep];exact g)]
   show((0:Nat):Int)<_;omega
 ·intro h
  by_cases hw:Sa.Want s ws 0 k
  ·exact hw
  exfalso
  have full:∀ n:Nat,(n:Int)≤s.p→((blks s ws n).length:Int)=n*slots k:=fun n=>by
   induction n with
   | zero=>intro _;simp [blks]
   |succ n ih=>
    intro hn
    have ih:=ih (by omega)
    have el:((blks s ws (n+1)).length:Int)=(blks s ws n).length+(blkPg s ws n).length:=by
     show((blks s ws n ++ blkPg s ws n).length:Int)=_
     rw[List.length_append];omega
    have em:((n+1:Nat):Int)*slots k=n*slots k+slots k:=by
     rw[show((n+1:Nat):Int)=(n:Int)+1 by omega,Int.add_mul];omega
    have hnf:¬ Rw.Free s ws n:=fun g=>hw (.inr (.inr ⟨n,by omega,by omega,g⟩))
    rcases hp n (by omega) (by omega) with g |⟨g,g2⟩
    ·exact absurd g hnf
    ·have e:blkPg s ws n=blkSl s ws n k (slots k).toNat:=by unfold blkPg;rw[if_neg (by rw[g];decide),if_pos g,g2]
     have hall:∀ i:Nat,i<(slots k).toNat→slK (slAt s ws n i)=3:=fun i hi=>by
      rcases hq n (by omega) (by omega) with q1 |⟨-,q2⟩| q1 |⟨q1,-⟩
      ·rw[g]at q1;cases q1
      ·rw[g2]at q2
       rcases q2 i (by omega) (by omega) with r | r
       ·exfalso
        have hsup:=(hsn.pg n (by omega)).2.sup (by rw[g];rfl) i (by omega)
        rw[g2]at hsup
        unfold slB at hsup
        rw[decide_eq_true (by omega:(i:Int)<slots k),r]at hsup
        simp at hsup
        have ev:=is_open r
        rw[hsup]at ev
        exact hw (.inr (.inl ⟨n,i,by omega,by omega,g,g2,by omega,by omega,ev⟩))
       ·exact r
      ·rw[g]at q1;cases q1
      ·rw[g]at q1;cases q1
     have:=blkSl_full (s:=s) (ws:=ws) (p:=n) (A:=k) (slots k).toNat hall
     rw[el,em,e,this,ih];omega
  have:=full s.p.toNat (by omega)
  rw[es]at this;omega
end
end Go.Ma
namespace Go.Ma
open Go.Pl
structure Lg (s:Sh) (ws:Nat→Int) (m j:Int):Prop where
 hi:∀ q,j*m≤q→q<s.p→Rw.Free s ws q
 lo:∀ q,0≤q→q<j*m→¬ Rw.Free s ws q
theorem free_un' {s:Sh} {ws0 ws:Nat→Int} {q:Int} (h:Rw.Un s ws0 ws q):Rw.Free s ws q↔Rw.Free s ws0 q:=
 ⟨fun g=>free_un g h.1.symm fun i i0 i1=>(h.2 i i0 i1).symm,fun g=>free_un g h.1 h.2⟩
theorem Rw.Al.lg {s:Sh} {ws0:Nat→Int} {c m j:Int} {t:Rn} {w:Wd} (j0:0≤j) (hj:Lg s ws0 m j) (h:Rw.Al s ws0 c m t w) (hd:t.dn=true) (hf:t.fd=true):(j+1)*m≤s.p∧Lg s (cmW s w.ws ⟨true,t.hd,0,0,t.n⟩) m (j+1):=by
 have hm:=h.ok
 have hb:=(may_iff _ _ _).1 hm
 obtain⟨lo,no⟩:=h.go.1 (.inl hf)
 have hg:=h.got hd hf
 have em:(j+1)*m=j*m+m:=by rw[Int.add_mul];omega
 have htn:t.n=m:=h.wf.2.2.2
 have row:=hg.row rfl
 have row:∀ q,t.hd≤q→q<t.hd+m→Rw.Free s ws0 q:=fun q q0 q1=>row q q0 (by show q<t.hd+t.n;omega)
 have hph:=h.go.2
 rw[hd,hf]at hph
 cases hph with
 | look d=>cases d
 | claim d=>cases d
 | strip _ d=>cases d
 | clear d=>cases d
 | back d=>cases d
 | body d=>cases d
 | lost _ f=>cases f
 |won _ _ nn hh e u=>
  obtain⟨n1,n8,h0,h1⟩:=nn
  have hjm:0≤j*m:=Int.mul_nonneg j0 (by omega)
  have hge:j*m≤t.hd:=by
   by_cases g:t.hd<j*m
   ·exact absurd (row t.hd (Int.le_refl _) (by omega)) (hj.lo t.hd h0 g)
   ·omega
  have hle:t.hd≤j*m:=by
   by_cases g:j*m<t.hd
   ·obtain⟨q,q0,q1,q2⟩:=no (j*m) hjm g
    exact absurd (hj.hi q q0 (by omega)) q2
   ·omega
  have ehd:t.hd=j*m:=by omega
  have hlo:=large_ok (s:=s) (q:=t.hd) (n:=m) hm h0 n1 n8 h1
  have ec:cmW s w.ws ⟨true,t.hd,0,0,t.n⟩ = upW w.ws (page s.p s.c s.m t.hd) (putPg 3 m 0):=by unfold cmW;rw[if_pos rfl,htn]
  rw[ec]
  refine⟨by omega,⟨fun q q0 q1=>?_,fun q q0 q1=>?_⟩⟩
  ·have hu:=u q (by omega) q1
   refine free_un (ws0:=w.ws) ((free_un' hu).2 (hj.hi q (by omega) q1)) ?_ fun i i0 i1=>?_
   ·rw[pg_pg hm h0 (by omega) (by omega) q1,if_neg (by omega)]
   ·rw[sl_pg hm h0 (by omega) (by omega) i0]
  ·intro hfr
   by_cases g1:q=t.hd
   ·subst g1
    have e1:pgAt s (upW w.ws (page s.p s.c s.m t.hd) (putPg 3 m 0)) t.hd=putPg 3 m 0:=by rw[pg_pg hm h0 (by omega) h0 (by omega),if_pos rfl]
    exact Rw.not_free (k:=3) (by rw[e1];exact hlo.2.1) (by decide) (by decide) hfr
   ·have e1:pgAt s (upW w.ws (page s.p s.c s.m t.hd) (putPg 3 m 0)) q=pgAt s w.ws q:=by rw[pg_pg hm h0 (by omega) q0 (by omega),if_neg g1]
    by_cases g2:q<t.hd
    ·have hfr0:Rw.Free s w.ws q:=free_un hfr e1.symm fun i i0 i1=>by rw[sl_pg hm h0 (by omega) q0 i0]
     rcases lo q q0 g2 with g | g
     ·exact hj.lo q q0 (by omega) ((free_un' g).1 hfr0)
     ·exact hj.lo q q0 (by omega) g.1
    ·have hbo:=e q (by omega) (by omega)
     have hbk:=body_ok (s:=s) (q:=q) hm h0 (by omega) (by omega) (by omega)
     exact Rw.not_free (k:=4) (by rw[e1,hbo.2.1];exact hbk.2.1) (by decide) (by decide) hfr
theorem Rw.Al.lg_no {s:Sh} {ws0:Nat→Int} {c m j:Int} {t:Rn} {w:Wd} (j0:0≤j) (m0:1≤m) (hj:Lg s ws0 m j) (h:Rw.Al s ws0 c m t w) (hd:t.dn=true) (hf:t.fd=false):s.p<(j+1)*m:=by
 have em:(j+1)*m=j*m+m:=by rw[Int.add_mul];omega
 have hjm:0≤j*m:=Int.mul_nonneg j0 (by omega)
 by_cases g:(j+1)*m≤s.p
 ·have:=(h.fin hd).2 ⟨j*m,hjm,by omega,fun q q0 q1=>hj.hi q q0 (by omega)⟩
  rw[hf]at this;cases this
 ·omega
theorem Fw.large {s:Sh} {W:Wo} {n j:Int} (h:Fw s W) (hn:Pl.large n=true) (hl:pages n≤s.p) (j0:0≤j) (hj:Lg s W.w.ws (pages n) j):W.okd 0 ⟨1,0,n⟩ = true∧Fw s (W.ended 0 ⟨1,0,n⟩) ∧
  ((W.answ 0 ⟨1,0,n⟩ = 0∧(j+1)*pages n≤s.p∧Lg s (W.ended 0 ⟨1,0,n⟩).w.ws (pages n) (j+1)∧(blL s (W.ended 0 ⟨1,0,n⟩)).length=(blL s W).length+1) ∨
   (W.answ 0 ⟨1,0,n⟩ = 3∧s.p<(j+1)*pages n∧blL s (W.ended 0 ⟨1,0,n⟩)=blL s W)):=by
 obtain⟨k,hk,hb⟩:=h.k
 have hm:may s.p s.c s.m=true:=by rw[← h.es];exact h.wf.m
 have hbd:=(may_iff _ _ _).1 hm
 obtain⟨k1,k2,k3⟩:=h.wf.k _ _ hk
 have hks:k.s=s:=k2.trans h.es
 have hsn:Pl.small n=false:=by
  unfold Pl.large within at hn
  unfold Pl.small within
  simp at hn ⊢;omega
 have hfine:fine n=true:=by unfold fine;rw[hn,hsn];rfl
 have hpb:=Rv.pages_bd hn
 have hon:Op.once s 0 ⟨1,0,n⟩ = false:=by
  unfold Op.once Op.bad Op.nom
  dsimp only
  have hpl:decide (s.p<pages n)=false:=decide_eq_false (by omega)
  rw[hfine,hn,hpl];rfl
 have hw:W.w.of s:=by rw[← h.es];exact h.wf.w
 have hst:Cl.start s 0 k.f ⟨1,0,n⟩ = .ml (Rv.new s 0 n k.f) none:=if_pos rfl
 have f0:=k1.f0
 have f1:=k1.f1
 rw[hks]at f1
 have hI:MI s W.w.ws 0 n k.f (Cl.start s 0 k.f ⟨1,0,n⟩) W.w:=by
  rw[hst];exact .rv (Rv.Al.init hm hw (Int.le_refl _) (by omega) f0 f1 h.snd)
 obtain⟨h1,jb,h2,h3,h4⟩:=Wo.ended_run (c:=0) (o:=⟨1,0,n⟩) (I:=MI s W.w.ws 0 n k.f) (fun j w=>MI.step j w) h.wf h.es (Int.le_refl _) (by omega) hk hb (Int.le_refl _) (by show(1:Int)≤4;decide) hon hI
 have hwf:=Wo.ended_wf (c:=0) (o:=⟨1,0,n⟩) h.wf
 have hs2:=h3.s.trans h.es
 obtain⟨k',r1,r2,-⟩:=h3.k'
 rw[h4]
 rcases h2.ends h3.dn with⟨e0,v,w1,hv,hd,hf,hw1⟩|⟨e0,v,hv,hd,hf⟩
 ·have hg:=(hv.got hd hf).1
  have hsnd:=hg.res.cm_snd hm hg.snd
  have F:=hg.res.f
  have ho:=hg.res.cm_out hm hg.snd (n:=s.p.toNat) (by have:=F.p1;omega) (by omega)
  have hbl:=hg.blks hm (n:=s.p.toNat) (by omega)
  have hqp:=Re.Res.qp hm hg.res (Re.Got.qb hm hg h.qp)
  cases hv with
  | @rn t w g0 g1 hv=>
   have e:(Rv.rn t).bk=⟨true,t.hd,0,0,t.n⟩:=if_pos hf
   obtain⟨q1,q2⟩:=hv.lg j0 hj hd hf
   refine⟨h1,⟨hwf,hs2,h.m,⟨k',r1,r2⟩,by rw[hw1];exact hsnd,by rw[hw1];exact hqp⟩,.inl ⟨e0,q1,by rw[hw1,e];exact q2,?_⟩⟩
   unfold blL
   rw[hw1,ho.len,hbl]
  | sk g0=>rw[hsn]at g0;cases g0
  | no=>cases hf
 ·have hlo:=hv.lost hd hf
  cases hv with
  | @rn t w g0 g1 hv=>
   refine⟨h1,⟨hwf,hs2,h.m,⟨k',r1,r2⟩,hlo.snd,fun q q0 q1=>?_⟩,.inr ⟨e0,hv.lg_no j0 hpb.1 hj hd hf,hlo.blks (by omega)⟩⟩
   rcases hlo.pg q q0 q1 with g | g
   ·rcases h.qp q q0 q1 with e |⟨e,e2⟩| e |⟨e,a0,a1,e2⟩
    ·exact .inl (by rw[g.1];exact e)
    ·refine .inr (.inl ⟨by rw[g.1];exact e,fun i i0 i1=>?_⟩)
     rw[g.1]at i1
     have hs:=slots_bd (pgA s q (pgAt s W.w.ws q))
     rw[g.2 i i0 (by omega)];exact e2 i i0 i1
    ·exact .inr (.inr (.inl (by rw[g.1];exact e)))
    ·refine .inr (.inr (.inr ?_))
     rw[g.1]
     refine⟨e,a0,a1,?_⟩
     rcases hlo.pg _ a0 a1 with g' | g'
     ·rw[g'.1];exact e2
     ·exact absurd g'.1 (Rw.not_free e2 (by decide) (by decide))
   ·exact .inl (by rw[g.2.1];exact pgK_zero ..)
  | sk g0=>rw[hsn]at g0;cases g0
  | no g0=>rw[hfine]at g0;cases g0
end Go.Ma
namespace Go.Ma
open Go.Pl
theorem Wo.ended_once {s:Sh} {W:Wo} {k:Cl} {c:Int} {o:Op} (h:W.wf) (hs:W.s=s) (c0:0≤c) (c1:c<s.c) (e:W.k c.toNat=some k) (hb:k.busy=false) (o1:1≤o.k) (o4:o.k≤4) (hn:o.once s c=true) :
  W.okd c o=true∧W.answ c o=o.err s c∧(W.ended c o).w=W.w∧(W.ended c o).s=W.s∧∃ k',(W.ended c o).k c.toNat=some k'∧k'.busy=false:=by
 have c1':c<W.s.c:=by rw[hs];exact c1
 obtain⟨k1,k2,k3⟩:=h.k _ _ e
 have hkc:k.c=c:=by rw[k3];omega
 have hks:k.s=s:=k2.trans hs
 have s1:=act_s (W:=W) (x:=⟨2,c,o,0⟩)
 have ei:k.invoke o=((k.ask o).rest,[⟨2,k.c,o,0,0,0⟩,⟨5,k.c,o,0,0,o.err k.s k.c⟩],0):=by
  unfold Cl.invoke
  rw[if_neg (by rw[hb];decide),if_neg (by omega),if_pos (by rw[hks,hkc,hn])]
 have ea:W.act ⟨2,c,o,0⟩ = W.ask c k o:=act2 h c0 c1' e
 have er:(W.act ⟨2,c,o,0⟩).2=0:=by rw[ea];unfold ask;rw[ei]
 have eK:(W.act ⟨2,c,o,0⟩).1.k c.toNat=some (k.ask o).rest:=by
  rw[ea]
  show(if c.toNat=c.toNat then some (k.invoke o).1 else _)=_
  rw[if_pos rfl,ei]
 have hid:(W.act ⟨2,c,o,0⟩).1.busy c=false:=by unfold busy;rw[eK];rfl
 have een:W.ended c o=(W.act ⟨2,c,o,0⟩).1:=by
  unfold ended askd
  rw[if_neg (by rw[er];decide),eK]
  exact go_idle _ hid
 have eT:(W.act ⟨2,c,o,0⟩).1.tr=W.tr ++ [⟨2,k.c,o,0,0,0⟩,⟨5,k.c,o,0,0,o.err k.s k.c⟩]:=by
  rw[ea];unfold ask;rw[ei]
 have el:(W.act ⟨2,c,o,0⟩).1.lastE=⟨5,k.c,o,0,0,o.err k.s k.c⟩:=by
  unfold lastE
  rw[eT]
  simp [List.getLastD_eq_getLast?]
 have ho:W.okd c o=true:=by
  unfold okd heard
  rw[er,een]
  unfold askd
  rw[eK,hid,el]
  have hne:(W.act ⟨2,c,o,0⟩).1.tr.isEmpty=false:=by rw[eT];simp
  rw[hne]
  dsimp only
  rw[hkc];simp
 refine⟨ho,?_,by rw[een,ea];rfl,by rw[een];exact s1,by rw[een];exact⟨_,eK,rfl⟩⟩
 unfold answ
 rw[if_pos ho,een,el]
 show o.err k.s k.c=_
 rw[hks,hkc]
def want (s:Sh) (x:Int):Int:=if Pl.small x then s.p*slots (cls x) else s.p / pages x
structure FI (s:Sh) (x:Int) (j:Nat) (W:Wo):Prop where
 fw:Fw s W
 n:(blL s W).length=j
 sm:Pl.small x=true→∀ q,0≤q→q<s.p→Sm' s W.w.ws (cls x) q
 lg:Pl.small x=false→Lg s W.w.ws (pages x) j
theorem FI.zero {s:Sh} {x:Int} {W:Wo} (h:Fw s W) (hn:blL s W = []):FI s x 0 W:=by
 have hf:∀ q,0≤q→q<s.p→Rw.Free s W.w.ws q:=fun q q0 q1=>quiet_free h.snd h.qp hn q0 q1
 exact⟨h,by rw[hn];rfl,fun _ q q0 q1=>.inl (hf q q0 q1),fun _=>⟨fun q q0 q1=>hf q (by simp at q0;omega) q1,fun q q0 q1=>by simp at q1;omega⟩⟩
section
variable {s:Sh} {x:Int} {j:Nat} {W:Wo}
theorem want_lg (hx:1≤x) (hx2:x≤512) (hs:Pl.small x=false):Pl.large x=true∧1≤pages x∧pages x≤8:=by
 have hl:Pl.large x=true:=by
  unfold Pl.small within at hs
  unfold Pl.large within
  simp at hs ⊢;omega
 have:=Rv.pages_bd hl
 exact⟨hl,this.1,this.2⟩
theorem FI.ask (hx:1≤x) (hx2:x≤512) (h:FI s x j W) (hj:(j:Int)<want s x):W.okd 0 ⟨1,0,x⟩ = true∧W.answ 0 ⟨1,0,x⟩ = 0∧FI s x (j+1) (W.ended 0 ⟨1,0,x⟩):=by
 have hm:may s.p s.c s.m=true:=by rw[← h.fw.es];exact h.fw.wf.m
 have hbd:=(may_iff _ _ _).1 hm
 unfold want at hj
 cases hs:Pl.small x
 ·rw[hs,if_neg (by decide)]at hj
  obtain⟨hl,p1,p8⟩:=want_lg hx hx2 hs
  have hjm:((j:Int)+1)*pages x≤s.p:=by
   have h1:=Int.mul_le_mul_of_nonneg_right (by omega:(j:Int)+1≤s.p / pages x) (by omega:0≤pages x)
   have h2:=Int.ediv_mul_le s.p (b:=pages x) (by omega)
   omega
  have hple:pages x≤s.p:=by
   rw[Int.add_mul]at hjm
   have:=Int.mul_nonneg (by omega:(0:Int)≤j) (by omega:0≤pages x)
   omega
  obtain⟨h1,h2,h3⟩:=h.fw.large hl hple (by omega) (h.lg hs)
  rcases h3 with⟨e,e2,e3,e4⟩|⟨e,e2,-⟩
  ·exact⟨h1,e,⟨h2,by rw[e4,h.n],fun g=>(by rw[hs]at g;cases g),fun _=>e3⟩⟩
  ·omega
 ·rw[hs,if_pos rfl]at hj
  have hk:=Rv.cls_bd x
  obtain⟨h1,h2,h3,h4⟩:=h.fw.small hs (h.sm hs)
  have hw:=want_len h.fw.snd hk.1 hk.2 h.fw.m (by omega) h.fw.qp (h.sm hs)
  have hn:=h.n
  unfold blL at hn
  rw[hn]at hw
  rcases h4 with⟨e,e2,e3⟩|⟨e,e2,-⟩
  ·exact⟨h1,e,⟨h2,by rw[e3,h.n],fun _=>h3,fun g=>(by rw[hs]at g;cases g)⟩⟩
  ·exact absurd (hw.2 hj) e2
theorem FI.stop (hx:1≤x) (hx2:x≤512) (h:FI s x j W) (hj:(j:Int)=want s x):W.okd 0 ⟨1,0,x⟩ = true∧W.answ 0 ⟨1,0,x⟩ = 3∧Fw s (W.ended 0 ⟨1,0,x⟩)∧(blL s (W.ended 0 ⟨1,0,x⟩)).length=j:=by
 have hm:may s.p s.c s.m=true:=by rw[← h.fw.es];exact h.fw.wf.m
 have hbd:=(may_iff _ _ _).1 hm
 unfold want at hj
 cases hs:Pl.small x
 ·rw[hs,if_neg (by decide)]at hj
  obtain⟨hl,p1,p8⟩:=want_lg hx hx2 hs
  by_cases hple:pages x≤s.p
  ·obtain⟨h1,h2,h3⟩:=h.fw.large hl hple (by omega) (h.lg hs)
   have hjm:s.p<((j:Int)+1)*pages x:=by
    rw[hj]
    exact Int.lt_ediv_add_one_mul_self s.p (by omega)
   rcases h3 with⟨e,e2,-⟩|⟨e,e2,e3⟩
   ·omega
   ·exact⟨h1,e,h2,by rw[e3,h.n]⟩
  ·obtain⟨k,hk,hb⟩:=h.fw.k
   have hfine:fine x=true:=by unfold fine;rw[hl,hs];rfl
   have hpl:decide (s.p<pages x)=true:=decide_eq_true (by omega)
   have hbad:Op.bad s 0 ⟨1,0,x⟩ = false:=by unfold Op.bad;dsimp only;rw[hfine];rfl
   have hnom:Op.nom s ⟨1,0,x⟩ = true:=by unfold Op.nom;dsimp only;rw[hl,hpl];rfl
   obtain⟨h1,h2,h3,h4,k',h5,h6⟩:=Wo.ended_once (c:=0) (o:=⟨1,0,x⟩) h.fw.wf h.fw.es (Int.le_refl _) (by omega) hk hb (Int.le_refl _) (by show(1:Int)≤4;decide) (by unfold Op.once;rw[hbad,hnom];rfl)
   refine⟨h1,by rw[h2];unfold Op.err;rw[hbad,hnom];rfl,⟨Wo.ended_wf h.fw.wf,h4.trans h.fw.es,h.fw.m,⟨k',h5,h6⟩,by rw[h3];exact h.fw.snd,by rw[h3];exact h.fw.qp⟩,?_⟩
   unfold blL
   rw[h3];exact h.n
 ·rw[hs,if_pos rfl]at hj
  have hk:=Rv.cls_bd x
  obtain⟨h1,h2,h3,h4⟩:=h.fw.small hs (h.sm hs)
  have hw:=want_len h.fw.snd hk.1 hk.2 h.fw.m (by omega) h.fw.qp (h.sm hs)
  have hn:=h.n
  unfold blL at hn
  rw[hn]at hw
  rcases h4 with⟨e,e2,e3⟩|⟨e,e2,e3⟩
  ·have:=hw.1 e2;omega
  ·exact⟨h1,e,h2,by unfold blL;rw[e3];exact hn⟩
end
structure Fr (s:Sh) (b:List (Int×Int)) (r:Nat) (W:Wo):Prop where
 fw:Fw s W
 n:blL s W=b.take r
theorem Fr.free {s:Sh} {b:List (Int×Int)} {r:Nat} {W:Wo} {y:Int×Int} (h:Fr s b (r+1) W) (hr:b[r]? = some y):W.okd 0 ⟨2,y.1,0⟩ = true∧W.answ 0 ⟨2,y.1,0⟩ = 0∧Fr s b r (W.ended 0 ⟨2,y.1,0⟩):=by
 have ht:b.take (r+1)=b.take r ++ [y]:=by
  rw[List.take_add_one,hr];rfl
 have hm:y∈blL s W:=by rw[h.n,ht];simp
 obtain⟨h1,h2,h3,pre,post,z,q1,q2,q3,q4,q5⟩:=h.fw.free ⟨y,hm,rfl⟩
 refine⟨h1,h2,h3,?_⟩
 rw[q2]
 rw[h.n,ht]at q1
 rcases List.eq_nil_or_concat post with rfl |⟨p',z',rfl⟩
 ·rw[List.append_nil]at q1 ⊢
  exact(List.append_inj_left' q1 rfl).symm
 ·exfalso
  rw[List.concat_eq_append,← List.append_assoc]at q1
  have:=List.append_inj_right' q1 rfl
  injection this with this
  exact q5 y (by rw[List.concat_eq_append,this];simp) rfl
theorem free_all {liv:Int→Bool} {s:Sh} {ws:Nat→Int} (hs:Snd s ws) (hf:∀ q,0≤q→q<s.p→Rw.Free s ws q):∀ n:Nat,(n:Int)≤s.p→Cn.all liv s ws n=⟨64*n,0,0,0⟩
 | 0,_=>rfl
 |n+1,hn=>by
  show Cn.page liv s ws n (Cn.all liv s ws n)=_
  rw[free_all hs hf n (by omega),Cn.page_free (hs.pg n (by omega)).1 (hf n (by omega) (by omega))]
  show(⟨64*(n:Int)+64,0,0,0⟩:Cn)=⟨64*((n+1:Nat):Int),0,0,0⟩
  congr 1
theorem Fw.all {liv:Int→Bool} {s:Sh} {W:Wo} (h:Fw s W) (hn:blL s W = []) (hp:0≤s.p):(Cn.all liv s W.w.ws s.p.toNat).fr=s.p*64:=by
 rw[free_all h.snd (fun q q0 q1=>quiet_free h.snd h.qp hn q0 q1) _ (by omega)]
 show 64*((s.p.toNat:Nat):Int)=s.p*64
 omega
end Go.Ma
namespace Go.Ma
open Go.Pl
structure Bw (s:Sh) (W:Wo):Prop where
 wf:W.wf
 es:W.s=s
 m:s.m=0
 k:∃ k,W.k 0=some k∧k.busy=false
 snd:Snd s W.w.ws
 pm:∀ q,0≤q→q<s.p→Pm s W.w.ws q
def blN (s:Sh) (W:Wo):Nat:=(blks s W.w.ws s.p.toNat).length
structure Bt (s:Sh) (A B:Wo):Prop where
 a:Bw s A
 b:Bw s B
 e:emp s A.w.ws=emp s B.w.ws
 o:∀ k,0≤k→k≤3→ops s A.w.ws k=ops s B.w.ws k
 n:blN s A=blN s B
def frP (s:Sh) (ws:Nat→Int) (q:Nat):Int:=64*eP s ws q+(4*oP s ws 0 q+8*oP s ws 1 q+16*oP s ws 2 q+32*oP s ws 3 q)
theorem Bw.new {s:Sh} {n:Nat} {b:Int} (hm:may s.p s.c s.m=true) (h0:s.m=0) (hn:(n:Int)=words s.p s.c s.m) (b0:0≤b) (b1:b<s.p) :
  Bw s ((Wo.new s ⟨n,fun _=>0,0,0,0,0,0,0,false⟩).act ⟨1,0,Op.zero,b⟩).1∧∀ j:Nat,s.c≤(j:Int)→((Wo.new s ⟨n,fun _=>0,0,0,0,0,0,0,false⟩).act ⟨1,0,Op.zero,b⟩).1.w.ws j=0:=by
 have hb:=(may_iff _ _ _).1 hm
 have h:=Wo.new_wf hm hn
 have hsat:(Wo.new s ⟨n,fun _=>0,0,0,0,0,0,0,false⟩).sat 0=0:=Wo.sat_yes h (Int.le_refl _) (by show(0:Int)<s.c;omega)
 have hstk:(Wo.new s ⟨n,fun _=>0,0,0,0,0,0,0,false⟩).stk 0=0:=by
  unfold Wo.stk
  rw[hsat];rfl
 have ea:(Wo.new s ⟨n,fun _=>0,0,0,0,0,0,0,false⟩).act ⟨1,0,Op.zero,b⟩ = ({ Wo.new s ⟨n,fun _=>0,0,0,0,0,0,0,false⟩ with w:=(Wo.new s ⟨n,fun _=>0,0,0,0,0,0,0,false⟩).mark 0 (putSt 1 0),k:=(Wo.new s ⟨n,fun _=>0,0,0,0,0,0,0,false⟩).put 0 (some (Cl.new s 0 b)),tr:=(Wo.new s ⟨n,fun _=>0,0,0,0,0,0,0,false⟩).tr ++ [⟨0,0,Op.zero,0,0,0⟩] },0):=by
  unfold Wo.act
  rw[if_neg (by dsimp only;rw[hsat];omega),if_pos rfl]
  unfold Wo.start
  rw[if_neg (by dsimp only;rw[hstk];decide)]
  rfl
 have hwf:=Wo.act_wf (x:=⟨1,0,Op.zero,b⟩) h ⟨b0,b1⟩
 rw[ea]at hwf ⊢
 have hz:∀ j:Nat,s.c≤(j:Int)→((Wo.new s ⟨n,fun _=>0,0,0,0,0,0,0,false⟩).mark 0 (putSt 1 0)).ws j=0:=fun j hj=>by
  show(if j=((Wo.new s ⟨n,fun _=>0,0,0,0,0,0,0,false⟩).sat 0).toNat then putSt 1 0 else(0:Int))=0
  rw[hsat,if_neg]
  show ¬ j=0
  omega
 have hpg:∀ q,0≤q→q<s.p→pgAt s ((Wo.new s ⟨n,fun _=>0,0,0,0,0,0,0,false⟩).mark 0 (putSt 1 0)).ws q=0:=fun q q0 q1=>by
  unfold pgAt
  rw[page_yes hm q0 q1];exact hz _ (by omega)
 have hsl:∀ q i,0≤q→q<s.p→0≤i→i<16→slAt s ((Wo.new s ⟨n,fun _=>0,0,0,0,0,0,0,false⟩).mark 0 (putSt 1 0)).ws q i=0:=fun q i q0 q1 i0 i1=>by
  unfold slAt;exact hz _ (by omega)
 refine⟨⟨hwf,rfl,h0,⟨Cl.new s 0 b,(show(if(0:Nat)=(0:Int).toNat then some (Cl.new s 0 b) else none)=_ from if_pos rfl),rfl⟩,⟨fun p p1=>?_,fun c i c1 i1=>by omega,fun c i c' i' _ i1=>by omega⟩,fun q q0 q1=>.inl (hpg q q0 q1)⟩,hz⟩
 show okPg s p (pgAt s _ p)=true∧SpB s _ p (pgK s p (pgAt s _ p)) (pgA s p (pgAt s _ p))
 have e:=hpg p (by omega) p1
 dsimp only
 rw[e,pgK_zero]
 exact⟨okPg_zero hm (by omega) p1,SpB.oth rfl (fun i hi=>hsl p i (by omega) p1 (by omega) (by omega)) rfl rfl⟩
end Go.Ma
