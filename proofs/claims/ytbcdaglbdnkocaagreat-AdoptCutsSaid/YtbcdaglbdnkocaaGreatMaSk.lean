/-
Who seeks a slot from wherever, plain: its steps, what stays, how long it goes on. Conditions: none.
-/
import Derived.Test.YtbcdaglbdnkocaaGreatMaBase
import Derived.Test.YtbcdaglbdnkocaaGreatMaMI
set_option linter.unusedVariables false
set_option linter.unusedSectionVars false
set_option linter.unusedSimpArgs false
namespace Go.Ma
open Go.Pl

inductive Nw where
 | tk (t:Tk)
 | sc (t:Sc)
 | pc (t:Pc)
 | no
 | st (t:St)
 | bi (t:Bi)
def Nw.dn:Nw→Bool
 | .tk t=>t.dn
 | .sc t=>t.dn
 | .pc t=>t.dn
 | .no=>false
 | .st t=>t.dn
 | .bi t=>t.dn
structure Sk where
 s:Sh
 c:Int
 k:Int
 f:Int
 nw:Nw
 many:Int
 pg:Int
 sl:Int
 fd:Bool
 dn:Bool
namespace Sk
def here (t:Sk):Int:=(t.f+t.many) % t.s.p
def pat (t:Sk):Int:=page t.s.p t.s.c t.s.m t.here
def fin (t:Sk) (p i:Int):Sk:={ t with pg:=p,sl:=i,fd:=true,dn:=true }
def bind (t:Sk) (p:Int):Sk:={ t with pg:=p,nw:=.bi (Bi.new t.s t.c p t.k) }
def turn (t:Sk):Sk:={ t with nw:=.no,many:=t.many+1,dn:=decide (t.many+1=t.s.p) }
def after (t:Sk):Sk:=match t.nw with
 | .tk m=>if m.fd then t.fin m.ep m.es else { t with nw:=.sc (Sc.new t.s t.c t.k t.f) }
 | .sc m=>if m.fd then t.fin m.pg m.i else { t with nw:=.pc (Pc.new t.s t.c t.f) }
 | .pc m=>if m.fd then t.bind m.pg else { t with nw:=.no }
 | .no=>t
 | .st m=>if m.hd then t.bind t.here else t.turn
 | .bi _=>t.fin t.pg 0
def set (t:Sk) (n:Nw):Sk:=if n.dn then({ t with nw:=n }:Sk).after else { t with nw:=n }
def new (s:Sh) (c k f:Int):Sk:=if good s c k && decide (0≤page s.p s.c s.m f) then set ⟨s,c,k,f,.tk (Tk.new s c k),0,0,0,false,false⟩ (.tk (Tk.new s c k)) else ⟨s,c,k,f,.no,0,0,0,false,true⟩
def isSup (t:Sk) (w:Wd):Bool:=okPg t.s t.here (w.get t.pat) && decide (pgK t.s t.here (w.get t.pat)=2)
def look (t:Sk) (w:Wd):Sk:=if t.isSup w then { t with nw:=.st (St.new t.s t.c t.here (pgA t.s t.here (w.get t.pat))) } else t.turn
def step (t:Sk) (w:Wd):Sk×Wd:=
 if t.dn then(t,w) else match t.nw with
 | .tk m=>(t.set (.tk (m.step w).1),(m.step w).2)
 | .sc m=>(t.set (.sc (m.step w).1),(m.step w).2)
 | .pc m=>(t.set (.pc (m.step w).1),(m.step w).2)
 | .no=>(t.look w,w.load t.c t.pat)
 | .st m=>(t.set (.st (m.step w).1),(m.step w).2)
 | .bi m=>(t.set (.bi (m.step w).1),(m.step w).2)

def Ok (t:Sk):Nw→Prop
 | .tk m=>m.wf∧m.s=t.s∧m.c=t.c∧m.k=t.k∧t.many=0∧(m.dn=false→m.fd=false)
 | .sc m=>m.wf∧m.s=t.s∧m.c=t.c∧m.k=t.k∧m.f=t.f∧t.many=0∧(m.dn=false→m.fd=false)∧0≤m.many∧m.many≤t.s.p
 | .pc m=>m.wf∧m.s=t.s∧m.c=t.c∧m.f=t.f∧t.many=0∧(m.dn=false→m.fd=false)∧0≤m.many∧m.many≤t.s.p
 | .no=>True
 | .st m=>m.wf∧m.s=t.s∧m.c=t.c∧m.p=t.here∧(m.dn=false→m.hd=false)
 | .bi m=>m.wf∧m.s=t.s∧m.c=t.c∧m.k=t.k∧m.p=t.pg∧0≤t.pg∧t.pg<t.s.p
structure wf (t:Sk):Prop where
 of:t.dn=false→may t.s.p t.s.c t.s.m=true∧0≤t.c∧t.c<t.s.c∧0<slots t.k∧0≤t.f∧t.f<t.s.p∧0≤t.many∧t.many<t.s.p
 nw:t.dn=false→t.Ok t.nw∧t.nw.dn=false
 fd:t.dn=false→t.fd=false

section
variable {t:Sk} {w:Wd}
theorem step_dn (h:t.dn=true):t.step w=(t,w):=by unfold step;rw[h];rfl
theorem step_tk (h:t.dn=false) {m:Tk} (e:t.nw=.tk m):t.step w=(t.set (.tk (m.step w).1),(m.step w).2):=by unfold step;rw[h,e];rfl
theorem step_sc (h:t.dn=false) {m:Sc} (e:t.nw=.sc m):t.step w=(t.set (.sc (m.step w).1),(m.step w).2):=by unfold step;rw[h,e];rfl
theorem step_pc (h:t.dn=false) {m:Pc} (e:t.nw=.pc m):t.step w=(t.set (.pc (m.step w).1),(m.step w).2):=by unfold step;rw[h,e];rfl
theorem step_no (h:t.dn=false) (e:t.nw=.no):t.step w=(t.look w,w.load t.c t.pat):=by unfold step;rw[h,e];rfl
theorem step_st' (h:t.dn=false) {m:St} (e:t.nw=.st m):t.step w=(t.set (.st (m.step w).1),(m.step w).2):=by unfold step;rw[h,e];rfl
theorem step_bi (h:t.dn=false) {m:Bi} (e:t.nw=.bi m):t.step w=(t.set (.bi (m.step w).1),(m.step w).2):=by unfold step;rw[h,e];rfl
theorem step_cases (t:Sk) (w:Wd):(t.dn=true∧t.step w=(t,w))∨(t.dn=false ∧
    ((∃ m,t.nw=.tk m∧t.step w=(t.set (.tk (m.step w).1),(m.step w).2)) ∨
     (∃ m,t.nw=.sc m∧t.step w=(t.set (.sc (m.step w).1),(m.step w).2)) ∨
     (∃ m,t.nw=.pc m∧t.step w=(t.set (.pc (m.step w).1),(m.step w).2)) ∨
     (t.nw=.no∧t.step w=(t.look w,w.load t.c t.pat)) ∨
     (∃ m,t.nw=.st m∧t.step w=(t.set (.st (m.step w).1),(m.step w).2)) ∨
     (∃ m,t.nw=.bi m∧t.step w=(t.set (.bi (m.step w).1),(m.step w).2)))):=by
  rcases Bool.eq_false_or_eq_true t.dn with h | h
  · exact .inl ⟨h,step_dn h⟩
  · refine .inr ⟨h,?_⟩
    cases e:t.nw with
    | tk m=>exact .inl ⟨m,rfl,step_tk h e⟩
    | sc m=>exact .inr (.inl ⟨m,rfl,step_sc h e⟩)
    | pc m=>exact .inr (.inr (.inl ⟨m,rfl,step_pc h e⟩))
    | no=>exact .inr (.inr (.inr (.inl ⟨rfl,step_no h e⟩)))
    | st m=>exact .inr (.inr (.inr (.inr (.inl ⟨m,rfl,step_st' h e⟩))))
    | bi m=>exact .inr (.inr (.inr (.inr (.inr ⟨m,rfl,step_bi h e⟩))))

/-! ### What stays -/
def Kp (t u:Sk):Prop:=u.s=t.s∧u.c=t.c∧u.k=t.k∧u.f=t.f
theorem Kp.refl (t:Sk):Kp t t:=⟨rfl,rfl,rfl,rfl⟩
theorem after_kp (t:Sk):Kp t t.after:=by
 unfold after
 split
 ·split<;>exact⟨rfl,rfl,rfl,rfl⟩
 ·split<;>exact⟨rfl,rfl,rfl,rfl⟩
 ·split<;>exact⟨rfl,rfl,rfl,rfl⟩
 ·exact Kp.refl t
 ·split<;>exact⟨rfl,rfl,rfl,rfl⟩
 ·exact⟨rfl,rfl,rfl,rfl⟩
theorem set_kp (t:Sk) (n:Nw):Kp t (t.set n):=by
 unfold set
 split
 ·exact after_kp { t with nw:=n }
 ·exact⟨rfl,rfl,rfl,rfl⟩
theorem look_kp (t:Sk) (w:Wd):Kp t (t.look w):=by
 unfold look
 split<;>exact⟨rfl,rfl,rfl,rfl⟩
theorem step_kp:Kp t (t.step w).1:=by
 rcases step_cases t w with⟨-,e⟩|⟨-,⟨m,-,e⟩|⟨m,-,e⟩|⟨m,-,e⟩|⟨-,e⟩|⟨m,-,e⟩|⟨m,-,e⟩⟩<;>rw[e]
 ·exact Kp.refl t
 ·exact set_kp _ _
 ·exact set_kp _ _
 ·exact set_kp _ _
 ·exact look_kp _ _
 ·exact set_kp _ _
 ·exact set_kp _ _
theorem step_of {s:Sh} (h:w.of s):(t.step w).2.of s:=by
 rcases step_cases t w with⟨-,e⟩|⟨-,⟨m,-,e⟩|⟨m,-,e⟩|⟨m,-,e⟩|⟨-,e⟩|⟨m,-,e⟩|⟨m,-,e⟩⟩<;>rw[e]
 ·exact h
 ·exact Tk.step_of h
 ·exact Sc.step_of h
 ·exact Pc.step_of h
 ·exact Wd.of_load h _ _
 ·exact St.step_of h
 ·exact Bi.step_of h
/-! ### New machines are not done where all is in place -/
theorem sc_new {s:Sh} {c k f:Int} (hm:may s.p s.c s.m=true) (c0:0≤c) (c1:c<s.c) (hk:0<slots k) (f0:0≤f) (f1:f<s.p):(Sc.new s c k f).dn=false:=by
 have h1:0≤status s.p s.c s.m c:=by unfold status within;rw[hm];simp;omega
 have h2:0≤page s.p s.c s.m f:=by rw[page_yes hm f0 f1];have:=(may_iff _ _ _).1 hm;omega
 simp [Sc.new,good,h1,h2,hk]
theorem pc_new {s:Sh} {c f:Int} (hm:may s.p s.c s.m=true) (c0:0≤c) (c1:c<s.c) (f0:0≤f) (f1:f<s.p):(Pc.new s c f).dn=false:=by
 have h1:0≤status s.p s.c s.m c:=by unfold status within;rw[hm];simp;omega
 have h2:0≤page s.p s.c s.m f:=by rw[page_yes hm f0 f1];have:=(may_iff _ _ _).1 hm;omega
 simp [Pc.new];omega
theorem st_new {s:Sh} {c k p:Int} (hm:may s.p s.c s.m=true) (c0:0≤c) (c1:c<s.c) (hk:0<slots k) (f0:0≤p) (f1:p<s.p):(St.new s c p k).dn=false:=by
 have h1:0≤status s.p s.c s.m c:=by unfold status within;rw[hm];simp;omega
 have h2:0≤page s.p s.c s.m p:=by rw[page_yes hm f0 f1];have:=(may_iff _ _ _).1 hm;omega
 simp [St.new,good,h1,h2,hk]
theorem bi_new {s:Sh} {c k p:Int} (hm:may s.p s.c s.m=true) (c0:0≤c) (c1:c<s.c) (hk:0<slots k) (f0:0≤p) (f1:p<s.p):(Bi.new s c p k).dn=false:=by
 have h1:0≤status s.p s.c s.m c:=by unfold status within;rw[hm];simp;omega
 have h2:0≤page s.p s.c s.m p:=by rw[page_yes hm f0 f1];have:=(may_iff _ _ _).1 hm;omega
 simp [Bi.new,good,h1,h2,hk]
end
end Sk
end Go.Ma
namespace Go.Ma
open Go.Pl
namespace Sk
variable {t:Sk} {w:Wd}
theorem sc_many {m:Sc} (h:m.wf) (hd:m.dn=false):0≤(m.step w).1.many∧(m.step w).1.many≤m.s.p:=by
 obtain⟨a1,a2,a3,a4,a5,a6,a7,-⟩:=h.of hd
 rcases Sc.step_cases m w with⟨e,-⟩|⟨-,h2⟩
 ·rw[hd]at e;cases e
 ·have hmiss:0≤m.miss.many∧m.miss.many≤m.s.p:=by
   unfold Sc.miss Sc.turn
   split
   ·show 0≤m.many+1∧m.many+1≤m.s.p;omega
   ·show 0≤m.many∧m.many≤m.s.p;omega
  have hturn:0≤m.turn.many∧m.turn.many≤m.s.p:=by show 0≤m.many+1∧m.many+1≤m.s.p;omega
  unfold Sc.step
  rw[if_neg (by rw[hd];decide)]
  split
  ·show 0≤(if m.mine w then { m with nx:=1 } else m.turn).many∧(if m.mine w then { m with nx:=1 } else m.turn).many≤m.s.p
   split
   ·show 0≤m.many∧m.many≤m.s.p;omega
   ·exact hturn
  ·split
   ·show 0≤(if w.get m.at'=opn m.k then { m with nx:=2 } else m.miss).many∧(if w.get m.at'=opn m.k then { m with nx:=2 } else m.miss).many≤m.s.p
    split
    ·show 0≤m.many∧m.many≤m.s.p;omega
    ·exact hmiss
   ·show 0≤(if w.get m.at'=opn m.k then { m with fd:=true,dn:=true } else m.miss).many∧(if w.get m.at'=opn m.k then { m with fd:=true,dn:=true } else m.miss).many≤m.s.p
    split
    ·show 0≤m.many∧m.many≤m.s.p;omega
    ·exact hmiss
theorem pc_many {m:Pc} (h:m.wf) (hd:m.dn=false):0≤(m.step w).1.many∧(m.step w).1.many≤m.s.p:=by
 obtain⟨a1,a2,a3,a4,a5,a6,a7⟩:=h.of hd
 have hn:0≤m.next.many∧m.next.many≤m.s.p:=by show 0≤m.many+1∧m.many+1≤m.s.p;omega
 unfold Pc.step
 rw[if_neg (by rw[hd];decide)]
 split
 ·show 0≤(if w.get m.at'=0 then { m with fd:=true,dn:=true } else m.next).many∧(if w.get m.at'=0 then { m with fd:=true,dn:=true } else m.next).many≤m.s.p
  split
  ·show 0≤m.many∧m.many≤m.s.p;omega
  ·exact hn
 ·show 0≤(if w.get m.at'=0 then { m with em:=true } else m.next).many∧(if w.get m.at'=0 then { m with em:=true } else m.next).many≤m.s.p
  split
  ·show 0≤m.many∧m.many≤m.s.p;omega
  ·exact hn
theorem sc_keeps {m:Sc}:(m.step w).1.k=m.k∧(m.step w).1.f=m.f:=by
 have h1:m.miss.k=m.k∧m.miss.f=m.f:=by unfold Sc.miss Sc.turn;split<;>exact⟨rfl,rfl⟩
 unfold Sc.step
 split
 ·exact⟨rfl,rfl⟩
 ·split
  ·show(if m.mine w then { m with nx:=1 } else m.turn).k=m.k∧(if m.mine w then { m with nx:=1 } else m.turn).f=m.f
   split<;>exact⟨rfl,rfl⟩
  ·split
   ·show(if w.get m.at'=opn m.k then { m with nx:=2 } else m.miss).k=m.k∧(if w.get m.at'=opn m.k then { m with nx:=2 } else m.miss).f=m.f
    split
    ·exact⟨rfl,rfl⟩
    ·exact h1
   ·show(if w.get m.at'=opn m.k then { m with fd:=true,dn:=true } else m.miss).k=m.k∧(if w.get m.at'=opn m.k then { m with fd:=true,dn:=true } else m.miss).f=m.f
    split
    ·exact⟨rfl,rfl⟩
    ·exact h1
theorem tk_k {m:Tk}:(m.step w).1.k=m.k:=by
 rcases Tk.step_cases m w with⟨-,e⟩|⟨-,⟨-,e⟩|⟨-,-,e⟩|⟨-,-,e⟩⟩<;>rw[e]
theorem st_fd {m:St} (h:m.dn=false→m.hd=false):(m.step w).1.dn=false→(m.step w).1.hd=false:=by
 rcases St.step_cases m w with⟨-,e⟩|⟨hd,⟨hb,e⟩|⟨hb,hi,e⟩|⟨hb,hi,hz,e⟩|⟨hb,hi,hz,e⟩⟩<;>rw[e]
 ·exact h
 ·intro _;exact h hd
 ·intro h2;cases h2
 ·intro _;exact h hd
 ·intro _;exact h hd

structure Cfg (t:Sk):Prop where
 m:may t.s.p t.s.c t.s.m=true
 c:0≤t.c∧t.c<t.s.c
 k:0<slots t.k
 f:0≤t.f∧t.f<t.s.p
 n:0≤t.many∧t.many<t.s.p
theorem here_bd (h:t.Cfg):0≤t.here∧t.here<t.s.p:=by
 have:=(may_iff _ _ _).1 h.m
 exact mod_bd (by omega)
theorem bind_wf (h:t.Cfg) (hf:t.fd=false) (hd:t.dn=false) {p:Int} (p0:0≤p) (p1:p<t.s.p):(t.bind p).wf:=by
 refine⟨fun _=>⟨h.m,h.c.1,h.c.2,h.k,h.f.1,h.f.2,h.n.1,h.n.2⟩,fun _=>⟨⟨Bi.new_wf ..,rfl,rfl,rfl,rfl,p0,p1⟩,bi_new h.m h.c.1 h.c.2 h.k p0 p1⟩,fun _=>hf⟩
theorem turn_wf (h:t.Cfg) (hf:t.fd=false):t.turn.wf:=by
 refine⟨fun hd=>?_,fun _=>⟨trivial,rfl⟩,fun _=>hf⟩
 have hd:t.many+1≠t.s.p:=by simpa [turn] using hd
 exact⟨h.m,h.c.1,h.c.2,h.k,h.f.1,h.f.2,by show 0≤t.many+1;have:=h.n;omega,by show t.many+1<t.s.p;have:=h.n;omega⟩
theorem fin_wf (p i:Int):(t.fin p i).wf:=⟨fun h=>(by cases h),fun h=>(by cases h),fun h=>(by cases h)⟩
theorem set_wf (h:t.Cfg) (hf:t.fd=false) (hd:t.dn=false) {n:Nw} (hn:t.Ok n):(t.set n).wf:=by
 unfold set
 cases hnd:n.dn
 ·simp only[Bool.false_eq_true,if_false]
  exact⟨fun _=>⟨h.m,h.c.1,h.c.2,h.k,h.f.1,h.f.2,h.n.1,h.n.2⟩,fun _=>⟨by cases n<;>exact hn,hnd⟩,fun _=>hf⟩
 ·simp only[if_true]
  have hm:=(may_iff _ _ _).1 h.m
  cases n with
  |tk m=>
   show(if m.fd then _ else _:Sk).wf
   split
   ·exact fin_wf ..
   ·exact⟨fun _=>⟨h.m,h.c.1,h.c.2,h.k,h.f.1,h.f.2,h.n.1,h.n.2⟩,fun _=>⟨⟨Sc.new_wf ..,rfl,rfl,rfl,rfl,hn.2.2.2.2.1,fun _=>rfl,by show(0:Int)≤0;omega,by show(0:Int)≤t.s.p;omega⟩,sc_new h.m h.c.1 h.c.2 h.k h.f.1 h.f.2⟩,fun _=>hf⟩
  |sc m=>
   show(if m.fd then _ else _:Sk).wf
   split
   ·exact fin_wf ..
   ·exact⟨fun _=>⟨h.m,h.c.1,h.c.2,h.k,h.f.1,h.f.2,h.n.1,h.n.2⟩,fun _=>⟨⟨Pc.new_wf ..,rfl,rfl,rfl,hn.2.2.2.2.2.1,fun _=>rfl,by show(0:Int)≤0;omega,by show(0:Int)≤t.s.p;omega⟩,pc_new h.m h.c.1 h.c.2 h.f.1 h.f.2⟩,fun _=>hf⟩
  |pc m=>
   show(if m.fd then _ else _:Sk).wf
   split
   ·have hb:=mod_bd (a:=m.f+m.many) (p:=m.s.p) (by rw[hn.2.1];omega)
    exact bind_wf (t:={ t with nw:=.pc m }) ⟨h.m,h.c,h.k,h.f,h.n⟩ hf hd hb.1 (by have:=hb.2;rw[hn.2.1]at this;unfold Pc.pg;rw[hn.2.1];exact this)
   ·exact⟨fun _=>⟨h.m,h.c.1,h.c.2,h.k,h.f.1,h.f.2,h.n.1,h.n.2⟩,fun _=>⟨trivial,rfl⟩,fun _=>hf⟩
  | no=>cases hnd
  |st m=>
   show(if m.hd then _ else _:Sk).wf
   split
   ·have hb:=here_bd h
    exact bind_wf (t:={ t with nw:=.st m }) ⟨h.m,h.c,h.k,h.f,h.n⟩ hf hd hb.1 hb.2
   ·exact turn_wf (t:={ t with nw:=.st m }) ⟨h.m,h.c,h.k,h.f,h.n⟩ hf
  | bi m=>exact fin_wf (t:={ t with nw:=.bi m }) ..
theorem wf.cfg (h:t.wf) (hd:t.dn=false):t.Cfg:=by
 obtain⟨a1,a2,a3,a4,a5,a6,a7,a8⟩:=h.of hd
 exact⟨a1,⟨a2,a3⟩,a4,⟨a5,a6⟩,⟨a7,a8⟩⟩
theorem step_wf (h:t.wf):(t.step w).1.wf:=by
 rcases step_cases t w with⟨-,e⟩|⟨hd,⟨m,en,e⟩|⟨m,en,e⟩|⟨m,en,e⟩|⟨en,e⟩|⟨m,en,e⟩|⟨m,en,e⟩⟩<;>rw[e]
 ·exact h
 ·obtain⟨ho,hx⟩:=h.nw hd
  rw[en]at ho hx
  obtain⟨o1,o2,o3,o4,o5,o6⟩:=ho
  exact set_wf (h.cfg hd) (h.fd hd) hd (n:=.tk _) ⟨Tk.step_wf o1,Tk.step_s.trans o2,Tk.step_c.trans o3,tk_k.trans o4,o5,Tk.step_fd o6⟩
 ·obtain⟨ho,hx⟩:=h.nw hd
  rw[en]at ho hx
  obtain⟨o1,o2,o3,o4,o5,o6,o7,-⟩:=ho
  have hmn:=sc_many (w:=w) o1 hx
  rw[o2]at hmn
  exact set_wf (h.cfg hd) (h.fd hd) hd (n:=.sc _) ⟨Sc.step_wf o1,Sc.step_s.trans o2,Sc.step_c.trans o3,sc_keeps.1.trans o4,sc_keeps.2.trans o5,o6,Sc.step_fd o7,hmn⟩
 ·obtain⟨ho,hx⟩:=h.nw hd
  rw[en]at ho hx
  obtain⟨o1,o2,o3,o4,o5,o6,-⟩:=ho
  have hmn:=pc_many (w:=w) o1 hx
  rw[o2]at hmn
  exact set_wf (h.cfg hd) (h.fd hd) hd (n:=.pc _) ⟨Pc.step_wf o1,Pc.step_s.trans o2,Pc.step_c.trans o3,Pc.step_f.trans o4,o5,Pc.step_fd o6,hmn⟩
 ·have hc:=h.cfg hd
  have hh:=here_bd hc
  show(t.look w).wf
  unfold look
  cases hs:t.isSup w
  ·simp only[Bool.false_eq_true,if_false]
   exact turn_wf hc (h.fd hd)
  ·simp only[if_true]
   unfold isSup at hs
   simp only[Bool.and_eq_true,decide_eq_true_eq]at hs
   have hA:=Gv.ok_super hs.1 hs.2
   have hk:0<slots (pgA t.s t.here (w.get t.pat)):=by
    rcases (by omega:pgA t.s t.here (w.get t.pat)=0∨pgA t.s t.here (w.get t.pat)=1∨pgA t.s t.here (w.get t.pat)=2∨pgA t.s t.here (w.get t.pat)=3) with h | h | h | h<;>rw[h]<;>decide
   exact⟨fun _=>⟨hc.m,hc.c.1,hc.c.2,hc.k,hc.f.1,hc.f.2,hc.n.1,hc.n.2⟩,fun _=>⟨⟨St.new_wf ..,rfl,rfl,rfl,fun _=>rfl⟩,st_new hc.m hc.c.1 hc.c.2 hk hh.1 hh.2⟩,fun _=>h.fd hd⟩
 ·obtain⟨ho,hx⟩:=h.nw hd
  rw[en]at ho hx
  obtain⟨o1,o2,o3,o4,o5⟩:=ho
  exact set_wf (h.cfg hd) (h.fd hd) hd (n:=.st _) ⟨St.step_wf o1,St.step_s.trans o2,St.step_c.trans o3,St.step_p.trans o4,st_fd o5⟩
 ·obtain⟨ho,hx⟩:=h.nw hd
  rw[en]at ho hx
  obtain⟨o1,o2,o3,o4,o5,o6,o7⟩:=ho
  exact set_wf (h.cfg hd) (h.fd hd) hd (n:=.bi _) ⟨Bi.step_wf o1,Bi.step_s.trans o2,Bi.step_c.trans o3,Bi.step_k.trans o4,Bi.step_p.trans o5,o6,o7⟩
theorem new_wf (s:Sh) (c k f:Int):(new s c k f).wf:=by
 unfold new
 cases e:(good s c k && decide (0≤page s.p s.c s.m f))
 ·simp only[Bool.false_eq_true,if_false]
  exact⟨fun h=>(by cases h),fun h=>(by cases h),fun h=>(by cases h)⟩
 ·simp only[if_true]
  simp only[Bool.and_eq_true]at e
  obtain⟨g1,g2,g3,g4⟩:=good_of e.1
  obtain⟨-,p1,p2⟩:=page_of e.2
  have:=(may_iff _ _ _).1 g1
  exact set_wf ⟨g1,⟨g2,g3⟩,g4,⟨p1,p2⟩,⟨Int.le_refl _,by show(0:Int)<s.p;omega⟩⟩ rfl rfl (n:=.tk _) ⟨Tk.new_wf ..,rfl,rfl,rfl,rfl,fun _=>rfl⟩

/-! ### How many steps are left -/
def lf (p many:Int):Nw→Int
 | .tk m=>m.left+33*p+2*p+35*p+35
 | .sc m=>m.left+2*p+35*p+34
 | .pc m=>m.left+35*p+33
 | .no=>35*(p - many)+33
 | .st m=>m.left+35*(p - many - 1)+33
 | .bi m=>m.left
def left (t:Sk):Int:=if t.dn then 0 else lf t.s.p t.many t.nw
end Sk
def Nw.step (n:Nw) (w:Wd):Nw×Wd:=match n with
 | .tk m=>(.tk (m.step w).1,(m.step w).2)
 | .sc m=>(.sc (m.step w).1,(m.step w).2)
 | .pc m=>(.pc (m.step w).1,(m.step w).2)
 | .no=>(.no,w)
 | .st m=>(.st (m.step w).1,(m.step w).2)
 | .bi m=>(.bi (m.step w).1,(m.step w).2)
namespace Sk
variable {t:Sk} {w:Wd}
end Sk
end Go.Ma
namespace Go.Ma
open Go.Pl
theorem Sk.new_kp (s:Sh) (c k f:Int):(Sk.new s c k f).s=s∧(Sk.new s c k f).c=c∧(Sk.new s c k f).k=k∧(Sk.new s c k f).f=f:=by
 unfold Sk.new;split
 ·exact Sk.set_kp _ _
 ·exact⟨rfl,rfl,rfl,rfl⟩
namespace Sa
theorem set_go (t:Sk) {m:Nw} (h:m.dn=false):t.set m = { t with nw:=m }:=by unfold Sk.set;rw[h];rfl
theorem set_af (t:Sk) {m:Nw} (h:m.dn=true):t.set m=({ t with nw:=m }:Sk).after:=by unfold Sk.set;rw[h];rfl
end Sa
end Go.Ma
