/-
Who gives a block back, plain: its steps, what stays, how long it goes on. Conditions: none.
-/
import Derived.Test.YtkjpgikjcfhckaaGreatMaA
set_option linter.unusedVariables false
set_option linter.unusedSimpArgs false
namespace Go.Ma
open Go.Pl

structure Gv where
 s:Sh
 c:Int
 a:Int
 pg:Int
 sl:Int
 wd:Int
 pK:Int
 pA:Int
 pB:Int
 nx:Int
 i:Int
 put:Option Pu
 gv:Bool
 dn:Bool
 ms:Bool
namespace Gv
def new (s:Sh) (c a:Int):Gv:=⟨s,c,a,sp s.p s.c s.m a,0,0,0,0,0,0,0,none,false,!there s.p s.c s.m a || decide (status s.p s.c s.m c<0),false⟩
def pat (t:Gv):Int:=page t.s.p t.s.c t.s.m t.pg
def sat (t:Gv):Int:=slot t.s.p t.s.c t.s.m t.pg t.sl
def off (t:Gv):Int:=so t.s.p t.s.c t.s.m t.a
def read (t:Gv) (w:Wd):Gv:={ t with wd:=w.get t.pat,pK:=pgK t.s t.pg (w.get t.pat),pA:=pgA t.s t.pg (w.get t.pat),pB:=pgB t.s t.pg (w.get t.pat),nx:=1 }
def isL (t:Gv) (w:Wd):Bool:=okPg t.s t.pg (w.get t.pat) && (decide (pgK t.s t.pg (w.get t.pat)=3) && decide (t.off=0))
def isS (t:Gv) (w:Wd):Bool:=okPg t.s t.pg (w.get t.pat) && (decide (pgK t.s t.pg (w.get t.pat)=2) && decide (t.off % size (pgA t.s t.pg (w.get t.pat))=0))
def look (t:Gv) (w:Wd):Gv:=if t.isL w then { t.read w with ms:=true } else if t.isS w then { t.read w with sl:=t.off / size (pgA t.s t.pg (w.get t.pat)),ms:=true } else { t.read w with dn:=true }
def kept (t:Gv) (p:Pu):Gv:=if p.put then { t with put:=some p,dn:=true } else if p.dn then { t with put:=some p,nx:=3 } else { t with put:=some p }
def pnew (t:Gv):Pu:=Pu.new t.s t.c t.pg t.sl t.pA
def claimL (t:Gv) (w:Wd):Gv:={ t with gv:=decide (w.get t.pat=t.wd),nx:=4,dn:=!decide (w.get t.pat=t.wd) }
def claimS (t:Gv) (w:Wd):Gv:=
 if t.pB=t.c then { t with gv:=decide (w.get t.sat=taken t.pA),put:=some t.pnew,nx:=if t.pnew.dn then 3 else 2,dn:=!decide (w.get t.sat=taken t.pA) }
 else { t with gv:=decide (w.get t.sat=taken t.pA),nx:=3,dn:=!decide (w.get t.sat=taken t.pA) }
def step (t:Gv) (w:Wd):Gv×Wd:=
 if t.dn then(t,w) else
 if t.nx=0 then(t.look w,w.load t.c t.pat) else
 if t.nx=1 then(if t.pK=3 then(t.claimL w,w.swap t.c t.pat t.wd (held t.c)) else(t.claimS w,w.swap t.c t.sat (taken t.pA) (way t.c))) else
 if t.nx=2 then(match t.put with
  | none=>(t,w)
  | some p=>(t.kept (p.step w).1,(p.step w).2)) else
 if t.nx=3 then({ t with dn:=true },w.store t.c t.sat (opn t.pA)) else
 if t.i=t.pA - 1 then({ t with dn:=true },w.store t.c t.pat 0) else
 ({ t with i:=t.i+1 },w.store t.c (page t.s.p t.s.c t.s.m (t.pg+t.i+1)) 0)

def blk (t:Gv):Prop:=(t.pK=3∧1≤t.pA∧t.pA≤8∧t.pg+t.pA≤t.s.p∧t.pB=0)∨(t.pK=2∧0≤t.sl∧t.sl<slots t.pA∧0≤t.pA∧t.pA≤3∧0≤t.pB∧t.pB<t.s.c)
structure wf (t:Gv):Prop where
 of:t.dn=false→may t.s.p t.s.c t.s.m=true∧0≤t.c∧t.c<t.s.c∧0≤t.pg∧t.pg<t.s.p∧there t.s.p t.s.c t.s.m t.a=true∧t.pg=sp t.s.p t.s.c t.s.m t.a∧0≤t.nx∧t.nx≤4
 bl:t.dn=false→t.nx≠0→t.ms=true∧t.blk∧U t.wd
 n2:t.dn=false→t.nx=2→t.pK=2∧∃ p,t.put=some p∧p.wf∧p.dn=false∧p.put=false∧p.s=t.s∧p.c=t.c
 n3:t.dn=false→t.nx=3→t.pK=2
 n4:t.dn=false→t.nx=4→t.pK=3∧0≤t.i∧t.i<t.pA
 n01:t.nx=0∨t.nx=1→t.put=none∧t.gv=false∧t.i=0
 n23:t.dn=false→t.nx=2∨t.nx=3∨t.nx=4→t.gv=true

variable {t:Gv} {w:Wd}
theorem step_dn (h:t.dn=true):t.step w=(t,w):=by unfold step;rw[h];rfl
theorem step_0 (h:t.dn=false) (h0:t.nx=0):t.step w=(t.look w,w.load t.c t.pat):=by unfold step;rw[h,h0];rfl
theorem step_1L (h:t.dn=false) (h0:t.nx=1) (hk:t.pK=3):t.step w=(t.claimL w,w.swap t.c t.pat t.wd (held t.c)):=by unfold step;rw[h,h0,hk];rfl
theorem step_1S (h:t.dn=false) (h0:t.nx=1) (hk:t.pK=2):t.step w=(t.claimS w,w.swap t.c t.sat (taken t.pA) (way t.c)):=by unfold step;rw[h,h0,hk];rfl
theorem step_2 (h:t.dn=false) (h0:t.nx=2) {p:Pu} (hp:t.put=some p):t.step w=(t.kept (p.step w).1,(p.step w).2):=by unfold step;rw[h,h0,hp];rfl
theorem step_3 (h:t.dn=false) (h0:t.nx=3):t.step w=({ t with dn:=true },w.store t.c t.sat (opn t.pA)):=by unfold step;rw[h,h0];rfl
theorem step_4l (h:t.dn=false) (h0:t.nx=4) (hi:t.i=t.pA - 1):t.step w=({ t with dn:=true },w.store t.c t.pat 0):=by
 unfold step;rw[h,h0];simp [hi]
theorem step_4m (h:t.dn=false) (h0:t.nx=4) (hi:t.i≠t.pA - 1):t.step w=({ t with i:=t.i+1 },w.store t.c (page t.s.p t.s.c t.s.m (t.pg+t.i+1)) 0):=by
 unfold step;rw[h,h0];simp [hi]
theorem step_cases (hwf:t.wf) (w:Wd):(t.dn=true∧t.step w=(t,w))∨(t.dn=false ∧
    ((t.nx=0∧t.step w=(t.look w,w.load t.c t.pat)) ∨
     (t.nx=1∧t.pK=3∧t.step w=(t.claimL w,w.swap t.c t.pat t.wd (held t.c))) ∨
     (t.nx=1∧t.pK=2∧t.step w=(t.claimS w,w.swap t.c t.sat (taken t.pA) (way t.c))) ∨
     (t.nx=2∧∃ p,t.put=some p∧p.wf∧p.dn=false∧p.put=false∧p.s=t.s∧p.c=t.c∧t.step w=(t.kept (p.step w).1,(p.step w).2)) ∨
     (t.nx=3∧t.step w=({ t with dn:=true },w.store t.c t.sat (opn t.pA))) ∨
     (t.nx=4∧t.i=t.pA - 1∧t.step w=({ t with dn:=true },w.store t.c t.pat 0)) ∨
     (t.nx=4∧t.i≠t.pA - 1∧t.step w=({ t with i:=t.i+1 },w.store t.c (page t.s.p t.s.c t.s.m (t.pg+t.i+1)) 0)))):=by
  rcases Bool.eq_false_or_eq_true t.dn with hd | hd
  · exact .inl ⟨hd,step_dn hd⟩
  · refine .inr ⟨hd,?_⟩
    have h1:=hwf.of hd
    rcases (by omega:t.nx=0∨t.nx=1∨t.nx=2∨t.nx=3∨t.nx=4) with e | e | e | e | e
    · exact .inl ⟨e,step_0 hd e⟩
    · rcases (hwf.bl hd (by omega)).2.1 with hb | hb
      · exact .inr (.inl ⟨e,hb.1,step_1L hd e hb.1⟩)
      · exact .inr (.inr (.inl ⟨e,hb.1,step_1S hd e hb.1⟩))
    · obtain⟨-,p,hp,h2,h3,h4,h5,h6⟩:=hwf.n2 hd e
      exact .inr (.inr (.inr (.inl ⟨e,p,hp,h2,h3,h4,h5,h6,step_2 hd e hp⟩)))
    · exact .inr (.inr (.inr (.inr (.inl ⟨e,step_3 hd e⟩))))
    · by_cases hi:t.i=t.pA - 1
      · exact .inr (.inr (.inr (.inr (.inr (.inl ⟨e,hi,step_4l hd e hi⟩)))))
      · exact .inr (.inr (.inr (.inr (.inr (.inr ⟨e,hi,step_4m hd e hi⟩)))))
theorem look_keeps (t:Gv) (w:Wd):(t.look w).s=t.s∧(t.look w).c=t.c∧(t.look w).a=t.a∧(t.look w).pg=t.pg:=by
 unfold look;split
 ·exact⟨rfl,rfl,rfl,rfl⟩
 ·split<;>exact⟨rfl,rfl,rfl,rfl⟩
theorem claimS_keeps (t:Gv) (w:Wd):(t.claimS w).s=t.s∧(t.claimS w).c=t.c∧(t.claimS w).a=t.a∧(t.claimS w).pg=t.pg:=by
 unfold claimS;split<;>exact⟨rfl,rfl,rfl,rfl⟩
theorem kept_keeps (t:Gv) (p:Pu):(t.kept p).s=t.s∧(t.kept p).c=t.c∧(t.kept p).a=t.a∧(t.kept p).pg=t.pg:=by
 unfold kept;split
 ·exact⟨rfl,rfl,rfl,rfl⟩
 ·split<;>exact⟨rfl,rfl,rfl,rfl⟩
theorem step_keeps (hwf:t.wf):(t.step w).1.s=t.s∧(t.step w).1.c=t.c∧(t.step w).1.a=t.a∧(t.step w).1.pg=t.pg:=by
 rcases step_cases hwf w with⟨-,e⟩|⟨-,⟨-,e⟩|⟨-,-,e⟩|⟨-,-,e⟩|⟨-,p,-,-,-,-,-,-,e⟩|⟨-,e⟩|⟨-,-,e⟩|⟨-,-,e⟩⟩<;>rw[e]
 ·exact⟨rfl,rfl,rfl,rfl⟩
 ·exact look_keeps t w
 ·exact⟨rfl,rfl,rfl,rfl⟩
 ·exact claimS_keeps t w
 ·exact kept_keeps t _
 all_goals exact⟨rfl,rfl,rfl,rfl⟩
theorem step_of (hwf:t.wf) {s:Sh} (h:w.of s):(t.step w).2.of s:=by
 rcases step_cases hwf w with⟨-,e⟩|⟨-,⟨-,e⟩|⟨-,-,e⟩|⟨-,-,e⟩|⟨-,p,-,-,-,-,-,-,e⟩|⟨-,e⟩|⟨-,-,e⟩|⟨-,-,e⟩⟩<;>rw[e]
 ·exact h
 ·exact Wd.of_load h _ _
 ·exact Wd.of_swap h (U_putPg ..) _ _ _
 ·exact Wd.of_swap h (U_putSl ..) _ _ _
 ·exact Pu.step_of h
 ·exact Wd.of_store h (U_putSl ..) _ _
 ·exact Wd.of_store h U_0 _ _
 ·exact Wd.of_store h U_0 _ _
theorem new_wf (s:Sh) (c a:Int):(new s c a).wf:=by
 refine⟨fun hd=>?_,fun _ h=>absurd rfl h,fun _ h=>(by cases h),fun _ h=>(by cases h),fun _ h=>(by cases h),fun _=>⟨rfl,rfl,rfl⟩,fun _ h=>(by rcases h with h | h | h<;>cases h)⟩
 simp only[new,Bool.or_eq_false_iff,Bool.not_eq_false',decide_eq_false_iff_not]at hd
 obtain⟨h1,h2⟩:=hd
 have hm:may s.p s.c s.m=true:=by unfold there at h1;simp only[Bool.and_eq_true]at h1;exact h1.1
 have hb:=(may_iff _ _ _).1 hm
 have hst:0≤c∧c<s.c:=by
  unfold status within at h2
  rw[hm]at h2
  simp at h2
  omega
 have hth:0≤a∧a≤s.p*64 - 1:=by
  unfold there within at h1
  rw[hm]at h1
  simp at h1
  omega
 have hsp:sp s.p s.c s.m a=a / 64:=by unfold sp;rw[if_pos h1]
 exact⟨hm,hst.1,hst.2,by show 0≤sp s.p s.c s.m a;rw[hsp];omega,by show sp s.p s.c s.m a<s.p;rw[hsp];omega,h1,rfl,(by show(0:Int)≤0;decide),(by show(0:Int)≤4;decide)⟩
theorem ok_large {s:Sh} {q x:Int} (h:okPg s q x=true) (hk:pgK s q x=3):1≤pgA s q x∧pgA s q x≤8∧q+pgA s q x≤s.p∧pgB s q x=0:=by
 have hk':x % 16=3:=by unfold pgK at hk;rw[if_pos h]at hk;exact hk
 have ha:pgA s q x=pt x 16:=by unfold pgA;rw[if_pos h]
 have hb:pgB s q x=pt x 4096:=by unfold pgB;rw[if_pos h]
 unfold okPg at h
 simp only[Bool.and_eq_true,decide_eq_true_eq]at h
 obtain⟨h1,h2,h3⟩:=h
 rw[hk']at h3
 unfold fits at h3
 simp at h3
 rw[ha,hb]
 have h4:pt x 4096=0:=by
  unfold putPg at h1
  split at h1
  ·rename_i hc;exact hc.2.2.2.2.2.2.2 (by omega)
  ·rw[← h1]at hk';simp at hk'
 omega
theorem ok_super {s:Sh} {q x:Int} (h:okPg s q x=true) (hk:pgK s q x=2):0≤pgA s q x∧pgA s q x≤3∧0≤pgB s q x∧pgB s q x<s.c:=by
 have hk':x % 16=2:=by unfold pgK at hk;rw[if_pos h]at hk;exact hk
 have ha:pgA s q x=pt x 16:=by unfold pgA;rw[if_pos h]
 have hb:pgB s q x=pt x 4096:=by unfold pgB;rw[if_pos h]
 unfold okPg at h
 simp only[Bool.and_eq_true,decide_eq_true_eq]at h
 obtain⟨h1,h2,h3⟩:=h
 rw[hk']at h3
 unfold fits at h3
 simp at h3
 rw[ha,hb]
 have b1:0≤pt x 16:=by unfold pt;omega
 have b2:0≤pt x 4096:=by unfold pt;omega
 omega
theorem slot_of {o k:Int} (hk:0≤k∧k≤3) (ho:0≤o∧o<64):0≤o / size k∧o / size k<slots k:=by
 rcases (by omega:k=0∨k=1∨k=2∨k=3) with rfl | rfl | rfl | rfl<;>simp [size,slots]<;>omega
theorem off_bd (h:there t.s.p t.s.c t.s.m t.a=true):0≤t.off∧t.off<64:=by
 unfold off so;rw[if_pos h];omega
theorem step_wf (h:t.wf) (hw:∀ i,U (w.ws i)):(t.step w).1.wf:=by
 rcases step_cases h w with⟨-,e⟩|⟨hd,⟨hn,e⟩|⟨hn,hk,e⟩|⟨hn,hk,e⟩|⟨hn,p,hp,hpw,hpd,hpp,hps,hpc,e⟩|⟨hn,e⟩|⟨hn,hi,e⟩|⟨hn,hi,e⟩⟩<;>rw[e]
 ·exact h
 ·obtain⟨a1,a2,a3,a4,a5,a6,a7,-,-⟩:=h.of hd
  obtain⟨z1,z2,z3⟩:=h.n01 (.inl hn)
  have hob:=off_bd a6
  show(t.look w).wf
  unfold look
  split
  ·rename_i hL
   unfold isL at hL
   simp only[Bool.and_eq_true,decide_eq_true_eq]at hL
   have:=ok_large hL.1 hL.2.1
   exact⟨fun _=>⟨a1,a2,a3,a4,a5,a6,a7,(by show(0:Int)≤1;decide),(by show(1:Int)≤4;decide)⟩,fun _ _=>⟨rfl,.inl ⟨hL.2.1,this.1,this.2.1,this.2.2.1,this.2.2.2⟩,hw _⟩,fun _ h=>(by cases h),fun _ h=>(by cases h),fun _ h=>(by cases h),fun _=>⟨z1,z2,z3⟩,fun _ h=>(by rcases h with h | h | h<;>cases h)⟩
  ·split
   ·rename_i hS
    unfold isS at hS
    simp only[Bool.and_eq_true,decide_eq_true_eq]at hS
    have h1:=ok_super hS.1 hS.2.1
    have h2:=slot_of ⟨h1.1,h1.2.1⟩ hob
    exact⟨fun _=>⟨a1,a2,a3,a4,a5,a6,a7,(by show(0:Int)≤1;decide),(by show(1:Int)≤4;decide)⟩,fun _ _=>⟨rfl,.inr ⟨hS.2.1,h2.1,h2.2,h1.1,h1.2.1,h1.2.2.1,h1.2.2.2⟩,hw _⟩,fun _ h=>(by cases h),fun _ h=>(by cases h),fun _ h=>(by cases h),fun _=>⟨z1,z2,z3⟩,fun _ h=>(by rcases h with h | h | h<;>cases h)⟩
   ·exact⟨fun h=>by (cases h),fun h=>by (cases h),fun h=>by (cases h),fun h=>by (cases h),fun h=>by (cases h),fun _=>⟨z1,z2,z3⟩,fun h=>(by cases h)⟩
 ·obtain⟨a1,a2,a3,a4,a5,a6,a7,-,-⟩:=h.of hd
  obtain⟨b1,b2,b3⟩:=h.bl hd (by omega)
  have hb2:1≤t.pA:=by rcases b2 with b | b<;>omega
  have hz:=h.n01 (.inr hn)
  exact⟨fun _=>⟨a1,a2,a3,a4,a5,a6,a7,(by show(0:Int)≤4;decide),(by show(4:Int)≤4;decide)⟩,fun _ _=>⟨b1,b2,b3⟩,fun _ h=>(by cases h),fun _ h=>(by cases h),fun _ _=>⟨hk,by show 0≤t.i;omega,by show t.i<t.pA;omega⟩,fun h=>(by rcases h with h | h<;>cases h),
   fun hq _=>(by simpa [claimL] using hq)⟩
 ·obtain⟨a1,a2,a3,a4,a5,a6,a7,-,-⟩:=h.of hd
  obtain⟨b1,b2,b3⟩:=h.bl hd (by omega)
  show(t.claimS w).wf
  unfold claimS
  split
  ·rename_i hown
   have hpn:(if t.pnew.dn=true then(3:Int) else 2)=2→t.pnew.dn=false:=fun h2=>by
    cases hq:t.pnew.dn
    ·rfl
    ·rw[hq]at h2;simp at h2
   have hnx:(if t.pnew.dn=true then(3:Int) else 2)=3∨(if t.pnew.dn=true then(3:Int) else 2)=2:=by split<;>simp
   exact⟨fun _=>⟨a1,a2,a3,a4,a5,a6,a7,by show 0≤(if t.pnew.dn=true then(3:Int) else 2);omega,by show(if t.pnew.dn=true then(3:Int) else 2)≤4;omega⟩,fun _ _=>⟨b1,b2,b3⟩,
    fun _ h2=>⟨hk,t.pnew,rfl,Pu.new_wf ..,hpn h2,rfl,rfl,rfl⟩,
    fun _ _=>hk,fun _ h2=>(by have h2:(if t.pnew.dn=true then(3:Int) else 2)=4:=h2;omega),
    fun h2=>(by have h2:(if t.pnew.dn=true then(3:Int) else 2)=0∨(if t.pnew.dn=true then(3:Int) else 2)=1:=h2;omega),
    fun hq _=>(by simpa using hq)⟩
  ·exact⟨fun _=>⟨a1,a2,a3,a4,a5,a6,a7,(by show(0:Int)≤3;decide),(by show(3:Int)≤4;decide)⟩,fun _ _=>⟨b1,b2,b3⟩,fun _ h=>(by cases h),fun _ _=>hk,fun _ h=>(by cases h),fun h=>(by rcases h with h | h<;>cases h),
    fun hq _=>(by simpa using hq)⟩
 ·obtain⟨a1,a2,a3,a4,a5,a6,a7,-,-⟩:=h.of hd
  obtain⟨b1,b2,b3⟩:=h.bl hd (by omega)
  have hk:=(h.n2 hd hn).1
  have hg:=h.n23 hd (.inl hn)
  show(t.kept (p.step w).1).wf
  unfold kept
  split
  ·exact⟨fun h=>by (cases h),fun h=>by (cases h),fun h=>by (cases h),fun h=>by (cases h),fun h=>by (cases h),fun h2=>(by have h2:t.nx=0∨t.nx=1:=h2;omega),fun h=>(by cases h)⟩
  ·rename_i hput
   split
   ·exact⟨fun _=>⟨a1,a2,a3,a4,a5,a6,a7,(by show(0:Int)≤3;decide),(by show(3:Int)≤4;decide)⟩,fun _ _=>⟨b1,b2,b3⟩,fun _ h=>(by cases h),fun _ _=>hk,fun _ h=>(by cases h),fun h=>(by rcases h with h | h<;>cases h),fun _ _=>hg⟩
   ·rename_i hpdn
    exact⟨fun _=>⟨a1,a2,a3,a4,a5,a6,a7,by show 0≤t.nx;omega,by show t.nx≤4;omega⟩,fun _ _=>⟨b1,b2,b3⟩,
     fun _ _=>⟨hk,_,rfl,Pu.step_wf hpw,by simpa using hpdn,by simpa using hput,Pu.step_s.trans hps,Pu.step_c.trans hpc⟩,
     fun _ _=>hk,fun _ h2=>(by have h2:t.nx=4:=h2;omega),
     fun h2=>(by have h2:t.nx=0∨t.nx=1:=h2;omega),fun _ _=>hg⟩
 ·exact⟨fun h=>by (cases h),fun h=>by (cases h),fun h=>by (cases h),fun h=>by (cases h),fun h=>by (cases h),fun h2=>(by have h2:t.nx=0∨t.nx=1:=h2;omega),fun h=>(by cases h)⟩
 ·exact⟨fun h=>by (cases h),fun h=>by (cases h),fun h=>by (cases h),fun h=>by (cases h),fun h=>by (cases h),fun h2=>(by have h2:t.nx=0∨t.nx=1:=h2;omega),fun h=>(by cases h)⟩
 ·obtain⟨a1,a2,a3,a4,a5,a6,a7,-,-⟩:=h.of hd
  obtain⟨b1,b2,b3⟩:=h.bl hd (by omega)
  obtain⟨c1,c2,c3⟩:=h.n4 hd hn
  have hg:=h.n23 hd (.inr (.inr hn))
  exact⟨fun _=>⟨a1,a2,a3,a4,a5,a6,a7,by show 0≤t.nx;omega,by show t.nx≤4;omega⟩,fun _ _=>⟨b1,b2,b3⟩,fun _ h2=>(by have h2:t.nx=2:=h2;omega),fun _ h2=>(by have h2:t.nx=3:=h2;omega),fun _ _=>⟨c1,by show 0≤t.i+1;omega,by show t.i+1<t.pA;omega⟩,fun h2=>(by have h2:t.nx=0∨t.nx=1:=h2;omega),fun _ _=>hg⟩
def left (t:Gv):Int:=if t.dn then 0 else if t.nx=0 then t.s.m+13 else if t.nx=1 then t.s.m+12 else if t.nx=2 then(match t.put with | none=>0 | some p=>p.left)+2 else if t.nx=3 then 1 else t.pA - t.i
theorem left_nn (h:t.wf):0≤t.left:=by
 unfold left
 split
 ·omega
 ·rename_i hd
  have hd:t.dn=false:=by simpa using hd
  have h1:=h.of hd
  have hm:=(may_iff _ _ _).1 h1.1
  split
  ·omega
  ·split
   ·omega
   ·split
    ·rename_i hn
     obtain⟨-,p,hp,hpw,-⟩:=h.n2 hd hn
     rw[hp]
     have:=Pu.left_nn hpw
     show 0≤p.left+2
     omega
    ·split
     ·omega
     ·have:=h.n4 hd (by omega);omega
theorem left_dn (h:t.wf) (hl:t.left≤0):t.dn=true:=by
 cases hd:t.dn
 ·exfalso
  have h1:=h.of hd
  have hm:=(may_iff _ _ _).1 h1.1
  unfold left at hl
  rw[hd]at hl
  simp only[Bool.false_eq_true,if_false]at hl
  split at hl
  ·omega
  ·split at hl
   ·omega
   ·split at hl
    ·rename_i hn
     obtain⟨-,p,hp,hpw,-⟩:=h.n2 hd hn
     rw[hp]at hl
     have:=Pu.left_nn hpw
     have hl:p.left+2≤0:=hl
     omega
    ·split at hl
     ·omega
     ·have:=h.n4 hd (by omega);omega
 ·rfl
theorem step_left (h:t.wf) (hd:t.dn=false):(t.step w).1.left<t.left:=by
 have h1:=h.of hd
 have hm:=(may_iff _ _ _).1 h1.1
 have l0:t.nx=0→t.left=t.s.m+13:=fun hn=>by unfold left;rw[hd,hn];rfl
 have l1:t.nx=1→t.left=t.s.m+12:=fun hn=>by unfold left;rw[hd,hn];rfl
 have l2:∀ p,t.nx=2→t.put=some p→t.left=p.left+2:=fun p hn hp=>by unfold left;rw[hd,hn,hp];rfl
 have l3:t.nx=3→t.left=1:=fun hn=>by unfold left;rw[hd,hn];rfl
 have l4:t.nx=4→t.left=t.pA - t.i:=fun hn=>by unfold left;rw[hd,hn];rfl
 have dl:∀ u:Gv,u.dn=true→u.left=0:=fun u hu=>by unfold left;rw[hu];rfl
 rcases step_cases h w with⟨e,-⟩|⟨-,⟨hn,e⟩|⟨hn,hk,e⟩|⟨hn,hk,e⟩|⟨hn,p,hp,hpw,hpd,hpp,hps,hpc,e⟩|⟨hn,e⟩|⟨hn,hi,e⟩|⟨hn,hi,e⟩⟩
 ·rw[hd]at e;cases e
 ·rw[e,l0 hn]
  show(t.look w).left<_
  unfold look
  split
  ·show(if t.dn=true then(0:Int) else t.s.m+12)<_;rw[hd];simp
  ·split
   ·show(if t.dn=true then(0:Int) else t.s.m+12)<_;rw[hd];simp
   ·show(0:Int)<_;omega
 ·rw[e,l1 hn]
  obtain⟨-,b2,-⟩:=h.bl hd (by omega)
  have hz:=h.n01 (.inr hn)
  have hA:t.pA≤8:=by rcases b2 with b | b<;>omega
  show(if(!decide (w.get t.pat=t.wd))=true then(0:Int) else t.pA - t.i)<_
  split<;>omega
 ·rw[e,l1 hn]
  show(t.claimS w).left<_
  unfold claimS
  split
  ·have hpl:t.pnew.left≤t.s.m+1:=by
    unfold Pu.left
    split
    ·omega
    ·show(if false=true then(1:Int) else t.s.m - 0+1)≤_
     simp
   cases hq:t.pnew.dn
   ·show(if(!decide (w.get t.sat=taken t.pA))=true then(0:Int) else t.pnew.left+2)<_
    split<;>omega
   ·show(if(!decide (w.get t.sat=taken t.pA))=true then(0:Int) else 1)<_
    split<;>omega
  ·show(if(!decide (w.get t.sat=taken t.pA))=true then(0:Int) else 1)<_
   split<;>omega
 ·rw[e,l2 p hn hp]
  have h2:=Pu.step_left (w:=w) hpw hpd
  have h3:=Pu.left_nn hpw
  have h4:=Pu.left_nn (Pu.step_wf (w:=w) hpw)
  show(t.kept (p.step w).1).left<_
  unfold kept
  split
  ·rw[dl _ rfl];omega
  ·split
   ·show(if t.dn=true then(0:Int) else 1)<_;rw[hd];simp;omega
   ·have:({ t with put:=some (p.step w).1 }:Gv).left=(p.step w).1.left+2:=by unfold left;simp [hd,hn]
    rw[this];omega
 ·rw[e,l3 hn,dl _ rfl];omega
 ·rw[e,l4 hn,dl _ rfl];have:=h.n4 hd hn;omega
 ·rw[e,l4 hn]
  have:({ t with i:=t.i+1 }:Gv).left=t.pA - (t.i+1):=by unfold left;simp [hd,hn]
  rw[this];omega
end Gv
end Go.Ma
namespace Go.Ma
open Go.Pl
def pgAt (s:Sh) (ws:Nat→Int) (q:Int):Int:=ws (page s.p s.c s.m q).toNat
def slAt (s:Sh) (ws:Nat→Int) (q i:Int):Int:=ws (s.c+s.p+q*16+i).toNat
def mgAt (s:Sh) (ws:Nat→Int) (c i:Int):Int:=ws (s.c+s.p+s.p*16+c*s.m+i).toNat
def slB (c A i y:Int):Bool:=cond (decide (i<slots A)) ((((slK y == 1) || (slK y == 3)) && (slA y == A)) || ((slK y == 2) && decide (slA y<c))) (!(y != 0))
structure SpB (s:Sh) (ws:Nat→Int) (p K A:Int):Prop where
 sup:(K == 2)=true→∀ i:Nat,i<16→slB s.c A i (slAt s ws p i)=true
 emp:(K == 2)=false→(K == 1)=false→∀ i:Nat,i<16→slAt s ws p i=0
 bod:(K == 2)=false→(K == 1)=false→(K == 4)=true→((pgK s A (pgAt s ws A) == 1) || ((pgK s A (pgAt s ws A) == 3) && decide (p<A+pgA s A (pgAt s ws A))))=true
 lar:(K == 2)=false→(K == 1)=false→(K == 4)=false→(K == 3)=true→∀ i:Int,1≤i→i<A→pgK s (p+i) (pgAt s ws (p+i))=4∧pgA s (p+i) (pgAt s ws (p+i))=p
structure EnB (s:Sh) (ws:Nat→Int) (c x:Int):Prop where
 ok:okEn s x=true
 k:pgK s (enP s x) (pgAt s ws (enP s x))=2
 a:pgA s (enP s x) (pgAt s ws (enP s x))=enK s x
 w:slAt s ws (enP s x) (enS s x)=putSl 2 c
def ahead (c' i' c i:Nat):Prop:=c'<c∨(c'=c∧i'<i)
structure Snd (s:Sh) (ws:Nat→Int):Prop where
 pg:∀ p:Nat,(p:Int)<s.p→okPg s p (pgAt s ws p)=true∧SpB s ws p (pgK s p (pgAt s ws p)) (pgA s p (pgAt s ws p))
 en:∀ c i:Nat,(c:Int)<s.c→(i:Int)<s.m→mgAt s ws c i≠0→EnB s ws c (mgAt s ws c i)
 dj:∀ c i c' i':Nat,(c:Int)<s.c→(i:Int)<s.m→(i':Int)<s.m→ahead c' i' c i→mgAt s ws c i≠0→mgAt s ws c' i'≠0→¬ (enP s (mgAt s ws c' i')=enP s (mgAt s ws c i)∧enS s (mgAt s ws c' i')=enS s (mgAt s ws c i))
section
variable {s:Sh} {ws:Nat→Int} {p K A:Int}
end
end Go.Ma
namespace Go.Ma
open Go.Pl
def enE (s:Sh) (x:Int):Int×Int:=(enP s x,enS s x)
structure Seen (s:Sh) (ws:Nat→Int) (c i k:Nat) (E:Nat→Int×Int):Prop where
 o:∀ j,j<k→∃ c' i':Nat,(c':Int)<s.c∧(i':Int)<s.m∧ahead c' i' c i∧mgAt s ws c' i'≠0∧E j=enE s (mgAt s ws c' i')
 t:∀ c' i':Nat,(i':Int)<s.m→ahead c' i' c i→mgAt s ws c' i'≠0→∃ j,j<k∧E j=enE s (mgAt s ws c' i')
 en:∀ c' i':Nat,(i':Int)<s.m→ahead c' i' c i→mgAt s ws c' i'≠0→EnB s ws c' (mgAt s ws c' i')
 dj:∀ c1 i1 c2 i2:Nat,(i1:Int)<s.m→(i2:Int)<s.m→ahead c1 i1 c i→ahead c2 i2 c1 i1→mgAt s ws c1 i1≠0→mgAt s ws c2 i2≠0→enE s (mgAt s ws c2 i2)≠enE s (mgAt s ws c1 i1)
variable {s:Sh} {ws:Nat→Int} {c i k:Nat} {E:Nat→Int×Int}
end Go.Ma
set_option linter.unusedSectionVars false
namespace Go.Ma
open Go.Pl
section
variable (s:Sh) (ws:Nat→Int)
def blkSl (p A:Int):Nat→List (Int×Int)
 | 0=>[]
 | n+1=>blkSl p A n ++ (if slK (slAt s ws p n)=3 then [(p*64+n*size A,size A)] else [])
def blkPg (p:Int):List (Int×Int):=
 if pgK s p (pgAt s ws p)=3 then [(p*64,pgA s p (pgAt s ws p)*64)] else if pgK s p (pgAt s ws p)=2 then blkSl s ws p (pgA s p (pgAt s ws p)) (slots (pgA s p (pgAt s ws p))).toNat else []
def blks:Nat→List (Int×Int)
 | 0=>[]
 | n+1=>blks n ++ blkPg s ws n
end
section
variable {s:Sh} {ws ws':Nat→Int}
end
end Go.Ma
namespace Go.Ma
open Go.Pl

def upW (ws:Nat→Int) (a y:Int):Nat→Int:=fun j=>if j=a.toNat then y else ws j
theorem store_ws (w:Wd) (c a y:Int):(w.store c a y).ws=upW w.ws a y:=rfl
theorem put_ws (w:Wd) (a y:Int):(w.put a y).ws=upW w.ws a y:=rfl
theorem swap_ws (w:Wd) (c a x y:Int):(w.swap c a x y).ws=upW w.ws a (if w.get a=x then y else w.get a):=by
 funext j
 show(if j=a.toNat then(if w.get a == x then y else w.get a) else w.ws j)=_
 unfold upW
 by_cases e:w.get a=x
 ·simp [e]
 ·simp [e]
theorem swap_yes {w:Wd} {c a x y:Int} (h:w.get a=x):(w.swap c a x y).ws=upW w.ws a y:=by rw[swap_ws,if_pos h]
theorem swap_no {w:Wd} {c a x y:Int} (h:w.get a≠x):(w.swap c a x y).ws=w.ws:=by
 rw[swap_ws,if_neg h]
 funext j
 unfold upW
 split
 ·rename_i e;subst e;rfl
 ·rfl

theorem mg_inj {c1 i1 c2 i2 m:Int} (h1:0≤i1) (h2:i1<m) (h3:0≤i2) (h4:i2<m) (e:c1*m+i1=c2*m+i2):c1=c2∧i1=i2:=by
 rcases Int.lt_trichotomy c1 c2 with h | h | h
 ·have:=Int.mul_le_mul_of_nonneg_right (by omega:c1+1≤c2) (by omega:0≤m)
  rw[Int.add_mul]at this;omega
 ·subst h;exact⟨rfl,by omega⟩
 ·have:=Int.mul_le_mul_of_nonneg_right (by omega:c2+1≤c1) (by omega:0≤m)
  rw[Int.add_mul]at this;omega

section
variable {s:Sh} {ws:Nat→Int} {q q' i i' c c' y:Int} (hm:may s.p s.c s.m=true)
include hm
theorem pg_pg (h0:0≤q) (h1:q<s.p) (h2:0≤q') (h3:q'<s.p):pgAt s (upW ws (page s.p s.c s.m q) y) q'=if q'=q then y else pgAt s ws q':=by
 have hb:=(may_iff _ _ _).1 hm
 unfold pgAt upW
 rw[page_yes hm h0 h1,page_yes hm h2 h3]
 by_cases e:q'=q
 ·subst e;rw[if_pos rfl,if_pos rfl]
 ·rw[if_neg e,if_neg (by omega)]
theorem sl_pg (h0:0≤q) (h1:q<s.p) (h2:0≤q') (h3:0≤i'):slAt s (upW ws (page s.p s.c s.m q) y) q' i'=slAt s ws q' i':=by
 have hb:=(may_iff _ _ _).1 hm
 unfold slAt upW
 rw[page_yes hm h0 h1,if_neg (by omega)]
theorem mg_pg (h0:0≤q) (h1:q<s.p) (h2:0≤c') (h3:0≤i'):mgAt s (upW ws (page s.p s.c s.m q) y) c' i'=mgAt s ws c' i':=by
 have hb:=(may_iff _ _ _).1 hm
 have:=Int.mul_nonneg h2 (by omega:0≤s.m)
 unfold mgAt upW
 rw[page_yes hm h0 h1,if_neg (by omega)]
theorem pg_sl (h0:0≤q) (h1:q<s.p) (h2:0≤i) (h3:i<16) (h4:0≤q') (h5:q'<s.p):pgAt s (upW ws (slot s.p s.c s.m q i) y) q'=pgAt s ws q':=by
 have hb:=(may_iff _ _ _).1 hm
 unfold pgAt upW
 rw[slot_yes hm h0 h1 h2 h3,page_yes hm h4 h5,if_neg (by omega)]
theorem sl_sl (h0:0≤q) (h1:q<s.p) (h2:0≤i) (h3:i<16) (h4:0≤q') (h5:0≤i') (h6:i'<16):slAt s (upW ws (slot s.p s.c s.m q i) y) q' i'=if q'=q∧i'=i then y else slAt s ws q' i':=by
 have hb:=(may_iff _ _ _).1 hm
 unfold slAt upW
 rw[slot_yes hm h0 h1 h2 h3]
 by_cases e:q'=q∧i'=i
 ·obtain⟨rfl,rfl⟩:=e;rw[if_pos rfl,if_pos ⟨rfl,rfl⟩]
 ·rw[if_neg e,if_neg (by omega)]
theorem mg_sl (h0:0≤q) (h1:q<s.p) (h2:0≤i) (h3:i<16) (h4:0≤c') (h5:0≤i'):mgAt s (upW ws (slot s.p s.c s.m q i) y) c' i'=mgAt s ws c' i':=by
 have hb:=(may_iff _ _ _).1 hm
 have:=Int.mul_nonneg h4 (by omega:0≤s.m)
 unfold mgAt upW
 rw[slot_yes hm h0 h1 h2 h3,if_neg (by omega)]
theorem pg_mg (h0:0≤c) (h1:c<s.c) (h2:0≤i) (h3:i<s.m) (h4:0≤q') (h5:q'<s.p):pgAt s (upW ws (mag s.p s.c s.m c i) y) q'=pgAt s ws q':=by
 have hb:=(may_iff _ _ _).1 hm
 have:=Int.mul_nonneg h0 (by omega:0≤s.m)
 unfold pgAt upW
 rw[mag_yes hm h0 h1 h2 h3,page_yes hm h4 h5,if_neg (by omega)]
theorem sl_mg (h0:0≤c) (h1:c<s.c) (h2:0≤i) (h3:i<s.m) (h4:0≤q') (h5:q'<s.p) (h6:0≤i') (h7:i'<16):slAt s (upW ws (mag s.p s.c s.m c i) y) q' i'=slAt s ws q' i':=by
 have hb:=(may_iff _ _ _).1 hm
 have:=Int.mul_nonneg h0 (by omega:0≤s.m)
 unfold slAt upW
 rw[mag_yes hm h0 h1 h2 h3,if_neg (by omega)]
theorem mg_mg (h0:0≤c) (h1:c<s.c) (h2:0≤i) (h3:i<s.m) (h4:0≤c') (h6:0≤i') (h7:i'<s.m):mgAt s (upW ws (mag s.p s.c s.m c i) y) c' i'=if c'=c∧i'=i then y else mgAt s ws c' i':=by
 have hb:=(may_iff _ _ _).1 hm
 have g1:=Int.mul_nonneg h0 (by omega:0≤s.m)
 have g2:=Int.mul_nonneg h4 (by omega:0≤s.m)
 unfold mgAt upW
 rw[mag_yes hm h0 h1 h2 h3]
 by_cases e:c'=c∧i'=i
 ·obtain⟨rfl,rfl⟩:=e;rw[if_pos rfl,if_pos ⟨rfl,rfl⟩]
 ·rw[if_neg e,if_neg]
  intro e2
  exact e (mg_inj h6 h7 h2 h3 (by omega))
theorem pg_st (h0:0≤c) (h1:c<s.c) (h4:0≤q') (h5:q'<s.p):pgAt s (upW ws (status s.p s.c s.m c) y) q'=pgAt s ws q':=by
 have hb:=(may_iff _ _ _).1 hm
 unfold pgAt upW
 rw[status_yes hm h0 h1,page_yes hm h4 h5,if_neg (by omega)]
theorem sl_st (h0:0≤c) (h1:c<s.c) (h4:0≤q') (h6:0≤i'):slAt s (upW ws (status s.p s.c s.m c) y) q' i'=slAt s ws q' i':=by
 have hb:=(may_iff _ _ _).1 hm
 unfold slAt upW
 rw[status_yes hm h0 h1,if_neg (by omega)]
theorem mg_st (h0:0≤c) (h1:c<s.c) (h4:0≤c') (h6:0≤i'):mgAt s (upW ws (status s.p s.c s.m c) y) c' i'=mgAt s ws c' i':=by
 have hb:=(may_iff _ _ _).1 hm
 have g2:=Int.mul_nonneg h4 (by omega:0≤s.m)
 unfold mgAt upW
 rw[status_yes hm h0 h1,if_neg (by omega)]
theorem st_far {x:Int} (h0:0≤x) (h1:x<s.c) {a:Int} (ha:s.c≤a):upW ws a y x.toNat=ws x.toNat:=by
 unfold upW;rw[if_neg (by omega)]
theorem st_st {x:Int} (h0:0≤x) (h1:x<s.c) (h2:0≤c) (h3:c<s.c):upW ws (status s.p s.c s.m c) y x.toNat=if x=c then y else ws x.toNat:=by
 unfold upW
 rw[status_yes hm h2 h3]
 by_cases e:x=c
 ·rw[if_pos e,if_pos (by omega)]
 ·rw[if_neg e,if_neg (by omega)]
omit hm in
theorem slot_at (hm:may s.p s.c s.m=true) {w:Wd} (h0:0≤q) (h1:q<s.p) (h2:0≤i) (h3:i<16):w.get (slot s.p s.c s.m q i)=slAt s w.ws q i:=by
 unfold Wd.get slAt;rw[slot_yes hm h0 h1 h2 h3]
omit hm in
theorem mag_at (hm:may s.p s.c s.m=true) {w:Wd} (h0:0≤c) (h1:c<s.c) (h2:0≤i) (h3:i<s.m):w.get (mag s.p s.c s.m c i)=mgAt s w.ws c i:=by
 unfold Wd.get mgAt;rw[mag_yes hm h0 h1 h2 h3]
end
/-! ### What words say, once more -/
theorem pgK_no {s:Sh} {q x:Int} (h:okPg s q x=false):pgK s q x=0:=by unfold pgK;rw[h];rfl
theorem pgK_ne {s:Sh} {q x:Int} (h:pgK s q x≠0):okPg s q x=true:=by
 cases e:okPg s q x
 ·exact absurd (pgK_no e) h
 ·rfl
end Go.Ma

namespace Go.Ma
open Go.Pl
theorem Ad.ok_body {s:Sh} {q x:Int} (h:okPg s q x=true) (hk:pgK s q x=4):0≤pgA s q x∧pgA s q x<q∧q - 8<pgA s q x:=by
 have hk':x % 16=4:=by unfold pgK at hk;rw[if_pos h]at hk;exact hk
 have ha:pgA s q x=pt x 16:=by unfold pgA;rw[if_pos h]
 unfold okPg at h
 simp only[Bool.and_eq_true,decide_eq_true_eq]at h
 obtain⟨h1,h2,h3⟩:=h
 rw[hk']at h3
 unfold fits at h3
 simp at h3
 rw[ha]
 have b1:0≤pt x 16:=by unfold pt;omega
 omega
theorem slots_four {k:Int} (h0:0≤k) (h1:k≤3):2≤slots k∧slots k≤16∧slots k*size k=64∧4≤size k∧size k≤32:=by
 rcases (by omega:k=0∨k=1∨k=2∨k=3) with h | h | h | h<;>rw[h]<;>decide
theorem en_put {s:Sh} {p i k:Int} (hm:may s.p s.c s.m=true) (h0:0≤p) (h1:p<s.p) (i0:0≤i) (i1:i<slots k) (k0:0≤k) (k1:k≤3):okEn s (putEn p i k)=true∧enP s (putEn p i k)=p∧enS s (putEn p i k)=i∧enK s (putEn p i k)=k∧putEn p i k≠0:=by
 have hb:=(may_iff _ _ _).1 hm
 have hs:=slots_four k0 k1
 have hv:putEn p i k=1+16*p+4096*i+1048576*k:=by unfold putEn;rw[if_pos (by omega)]
 have e1:pt (putEn p i k) 16=p:=by rw[hv];unfold pt;omega
 have e2:pt (putEn p i k) 4096=i:=by rw[hv];unfold pt;omega
 have e3:pt (putEn p i k) 1048576=k:=by rw[hv];unfold pt;omega
 have hp:0≤page s.p s.c s.m p:=by rw[page_yes hm h0 h1];omega
 have ok:okEn s (putEn p i k)=true:=by
  unfold okEn;rw[e1,e2,e3,decide_eq_true rfl,decide_eq_true hp,decide_eq_true i1];rfl
 refine⟨ok,?_,?_,?_,by rw[hv];omega⟩
 ·unfold enP;rw[if_pos ok,e1]
 ·unfold enS;rw[if_pos ok,e2]
 ·unfold enK;rw[if_pos ok,e3]
section
variable {s:Sh} {ws0 ws:Nat→Int} {d q i n y:Int}
theorem en_bd (e1:okEn s y=true):0≤enP s y∧enP s y<s.p∧0≤enS s y∧enS s y<16:=by
 have ho:=e1
 unfold okEn at ho
 simp only[Bool.and_eq_true,decide_eq_true_eq]at ho
 have h5:=page_of (s:=s) (p:=pt y 16) (decide_eq_true ho.2.1)
 have sb:=slots_bd (pt y 1048576)
 have:0≤pt y 4096:=by unfold pt;omega
 unfold enP enS;rw[if_pos e1,if_pos e1];omega
end
section
variable {s:Sh} {ws ws':Nat→Int}
end
end Go.Ma
namespace Go.Ma
open Go.Pl

inductive Nw where
 | tk (t:Tk)
 | sc (t:Sc)
 | pc (t:Pc)
 | no
 | st (t:St)
 | bi (t:Bi)
def Nw.dn:Nw→Bool
 | .tk t=>t.dn
 | .sc t=>t.dn
 | .pc t=>t.dn
 | .no=>false
 | .st t=>t.dn
 | .bi t=>t.dn
structure Sk where
 s:Sh
 c:Int
 k:Int
 f:Int
 nw:Nw
 many:Int
 pg:Int
 sl:Int
 fd:Bool
 dn:Bool
namespace Sk
def here (t:Sk):Int:=(t.f+t.many) % t.s.p
def pat (t:Sk):Int:=page t.s.p t.s.c t.s.m t.here
def fin (t:Sk) (p i:Int):Sk:={ t with pg:=p,sl:=i,fd:=true,dn:=true }
def bind (t:Sk) (p:Int):Sk:={ t with pg:=p,nw:=.bi (Bi.new t.s t.c p t.k) }
def turn (t:Sk):Sk:={ t with nw:=.no,many:=t.many+1,dn:=decide (t.many+1=t.s.p) }
def after (t:Sk):Sk:=match t.nw with
 | .tk m=>if m.fd then t.fin m.ep m.es else { t with nw:=.sc (Sc.new t.s t.c t.k t.f) }
 | .sc m=>if m.fd then t.fin m.pg m.i else { t with nw:=.pc (Pc.new t.s t.c t.f) }
 | .pc m=>if m.fd then t.bind m.pg else { t with nw:=.no }
 | .no=>t
 | .st m=>if m.hd then t.bind t.here else t.turn
 | .bi _=>t.fin t.pg 0
def set (t:Sk) (n:Nw):Sk:=if n.dn then({ t with nw:=n }:Sk).after else { t with nw:=n }
def new (s:Sh) (c k f:Int):Sk:=if good s c k && decide (0≤page s.p s.c s.m f) then set ⟨s,c,k,f,.tk (Tk.new s c k),0,0,0,false,false⟩ (.tk (Tk.new s c k)) else ⟨s,c,k,f,.no,0,0,0,false,true⟩
def isSup (t:Sk) (w:Wd):Bool:=okPg t.s t.here (w.get t.pat) && decide (pgK t.s t.here (w.get t.pat)=2)
def look (t:Sk) (w:Wd):Sk:=if t.isSup w then { t with nw:=.st (St.new t.s t.c t.here (pgA t.s t.here (w.get t.pat))) } else t.turn
def step (t:Sk) (w:Wd):Sk×Wd:=
 if t.dn then(t,w) else match t.nw with
 | .tk m=>(t.set (.tk (m.step w).1),(m.step w).2)
 | .sc m=>(t.set (.sc (m.step w).1),(m.step w).2)
 | .pc m=>(t.set (.pc (m.step w).1),(m.step w).2)
 | .no=>(t.look w,w.load t.c t.pat)
 | .st m=>(t.set (.st (m.step w).1),(m.step w).2)
 | .bi m=>(t.set (.bi (m.step w).1),(m.step w).2)

def Ok (t:Sk):Nw→Prop
 | .tk m=>m.wf∧m.s=t.s∧m.c=t.c∧m.k=t.k∧t.many=0∧(m.dn=false→m.fd=false)
 | .sc m=>m.wf∧m.s=t.s∧m.c=t.c∧m.k=t.k∧m.f=t.f∧t.many=0∧(m.dn=false→m.fd=false)∧0≤m.many∧m.many≤t.s.p
 | .pc m=>m.wf∧m.s=t.s∧m.c=t.c∧m.f=t.f∧t.many=0∧(m.dn=false→m.fd=false)∧0≤m.many∧m.many≤t.s.p
 | .no=>True
 | .st m=>m.wf∧m.s=t.s∧m.c=t.c∧m.p=t.here∧(m.dn=false→m.hd=false)
 | .bi m=>m.wf∧m.s=t.s∧m.c=t.c∧m.k=t.k∧m.p=t.pg∧0≤t.pg∧t.pg<t.s.p
structure wf (t:Sk):Prop where
 of:t.dn=false→may t.s.p t.s.c t.s.m=true∧0≤t.c∧t.c<t.s.c∧0<slots t.k∧0≤t.f∧t.f<t.s.p∧0≤t.many∧t.many<t.s.p
 nw:t.dn=false→t.Ok t.nw∧t.nw.dn=false
 fd:t.dn=false→t.fd=false

section
variable {t:Sk} {w:Wd}
theorem step_dn (h:t.dn=true):t.step w=(t,w):=by unfold step;rw[h];rfl
theorem step_tk (h:t.dn=false) {m:Tk} (e:t.nw=.tk m):t.step w=(t.set (.tk (m.step w).1),(m.step w).2):=by unfold step;rw[h,e];rfl
theorem step_sc (h:t.dn=false) {m:Sc} (e:t.nw=.sc m):t.step w=(t.set (.sc (m.step w).1),(m.step w).2):=by unfold step;rw[h,e];rfl
theorem step_pc (h:t.dn=false) {m:Pc} (e:t.nw=.pc m):t.step w=(t.set (.pc (m.step w).1),(m.step w).2):=by unfold step;rw[h,e];rfl
theorem step_no (h:t.dn=false) (e:t.nw=.no):t.step w=(t.look w,w.load t.c t.pat):=by unfold step;rw[h,e];rfl
theorem step_st' (h:t.dn=false) {m:St} (e:t.nw=.st m):t.step w=(t.set (.st (m.step w).1),(m.step w).2):=by unfold step;rw[h,e];rfl
theorem step_bi (h:t.dn=false) {m:Bi} (e:t.nw=.bi m):t.step w=(t.set (.bi (m.step w).1),(m.step w).2):=by unfold step;rw[h,e];rfl
theorem step_cases (t:Sk) (w:Wd):(t.dn=true∧t.step w=(t,w))∨(t.dn=false ∧
    ((∃ m,t.nw=.tk m∧t.step w=(t.set (.tk (m.step w).1),(m.step w).2)) ∨
     (∃ m,t.nw=.sc m∧t.step w=(t.set (.sc (m.step w).1),(m.step w).2)) ∨
     (∃ m,t.nw=.pc m∧t.step w=(t.set (.pc (m.step w).1),(m.step w).2)) ∨
     (t.nw=.no∧t.step w=(t.look w,w.load t.c t.pat)) ∨
     (∃ m,t.nw=.st m∧t.step w=(t.set (.st (m.step w).1),(m.step w).2)) ∨
     (∃ m,t.nw=.bi m∧t.step w=(t.set (.bi (m.step w).1),(m.step w).2)))):=by
  rcases Bool.eq_false_or_eq_true t.dn with h | h
  · exact .inl ⟨h,step_dn h⟩
  · refine .inr ⟨h,?_⟩
    cases e:t.nw with
    | tk m=>exact .inl ⟨m,rfl,step_tk h e⟩
    | sc m=>exact .inr (.inl ⟨m,rfl,step_sc h e⟩)
    | pc m=>exact .inr (.inr (.inl ⟨m,rfl,step_pc h e⟩))
    | no=>exact .inr (.inr (.inr (.inl ⟨rfl,step_no h e⟩)))
    | st m=>exact .inr (.inr (.inr (.inr (.inl ⟨m,rfl,step_st' h e⟩))))
    | bi m=>exact .inr (.inr (.inr (.inr (.inr ⟨m,rfl,step_bi h e⟩))))

/-! ### What stays -/
def Kp (t u:Sk):Prop:=u.s=t.s∧u.c=t.c∧u.k=t.k∧u.f=t.f
theorem Kp.refl (t:Sk):Kp t t:=⟨rfl,rfl,rfl,rfl⟩
theorem after_kp (t:Sk):Kp t t.after:=by
 unfold after
 split
 ·split<;>exact⟨rfl,rfl,rfl,rfl⟩
 ·split<;>exact⟨rfl,rfl,rfl,rfl⟩
 ·split<;>exact⟨rfl,rfl,rfl,rfl⟩
 ·exact Kp.refl t
 ·split<;>exact⟨rfl,rfl,rfl,rfl⟩
 ·exact⟨rfl,rfl,rfl,rfl⟩
theorem set_kp (t:Sk) (n:Nw):Kp t (t.set n):=by
 unfold set
 split
 ·exact after_kp { t with nw:=n }
 ·exact⟨rfl,rfl,rfl,rfl⟩
theorem look_kp (t:Sk) (w:Wd):Kp t (t.look w):=by
 unfold look
 split<;>exact⟨rfl,rfl,rfl,rfl⟩
theorem step_kp:Kp t (t.step w).1:=by
 rcases step_cases t w with⟨-,e⟩|⟨-,⟨m,-,e⟩|⟨m,-,e⟩|⟨m,-,e⟩|⟨-,e⟩|⟨m,-,e⟩|⟨m,-,e⟩⟩<;>rw[e]
 ·exact Kp.refl t
 ·exact set_kp _ _
 ·exact set_kp _ _
 ·exact set_kp _ _
 ·exact look_kp _ _
 ·exact set_kp _ _
 ·exact set_kp _ _
theorem step_of {s:Sh} (h:w.of s):(t.step w).2.of s:=by
 rcases step_cases t w with⟨-,e⟩|⟨-,⟨m,-,e⟩|⟨m,-,e⟩|⟨m,-,e⟩|⟨-,e⟩|⟨m,-,e⟩|⟨m,-,e⟩⟩<;>rw[e]
 ·exact h
 ·exact Tk.step_of h
 ·exact Sc.step_of h
 ·exact Pc.step_of h
 ·exact Wd.of_load h _ _
 ·exact St.step_of h
 ·exact Bi.step_of h
/-! ### New machines are not done where all is in place -/
theorem sc_new {s:Sh} {c k f:Int} (hm:may s.p s.c s.m=true) (c0:0≤c) (c1:c<s.c) (hk:0<slots k) (f0:0≤f) (f1:f<s.p):(Sc.new s c k f).dn=false:=by
 have h1:0≤status s.p s.c s.m c:=by unfold status within;rw[hm];simp;omega
 have h2:0≤page s.p s.c s.m f:=by rw[page_yes hm f0 f1];have:=(may_iff _ _ _).1 hm;omega
 simp [Sc.new,good,h1,h2,hk]
theorem pc_new {s:Sh} {c f:Int} (hm:may s.p s.c s.m=true) (c0:0≤c) (c1:c<s.c) (f0:0≤f) (f1:f<s.p):(Pc.new s c f).dn=false:=by
 have h1:0≤status s.p s.c s.m c:=by unfold status within;rw[hm];simp;omega
 have h2:0≤page s.p s.c s.m f:=by rw[page_yes hm f0 f1];have:=(may_iff _ _ _).1 hm;omega
 simp [Pc.new];omega
theorem st_new {s:Sh} {c k p:Int} (hm:may s.p s.c s.m=true) (c0:0≤c) (c1:c<s.c) (hk:0<slots k) (f0:0≤p) (f1:p<s.p):(St.new s c p k).dn=false:=by
 have h1:0≤status s.p s.c s.m c:=by unfold status within;rw[hm];simp;omega
 have h2:0≤page s.p s.c s.m p:=by rw[page_yes hm f0 f1];have:=(may_iff _ _ _).1 hm;omega
 simp [St.new,good,h1,h2,hk]
theorem bi_new {s:Sh} {c k p:Int} (hm:may s.p s.c s.m=true) (c0:0≤c) (c1:c<s.c) (hk:0<slots k) (f0:0≤p) (f1:p<s.p):(Bi.new s c p k).dn=false:=by
 have h1:0≤status s.p s.c s.m c:=by unfold status within;rw[hm];simp;omega
 have h2:0≤page s.p s.c s.m p:=by rw[page_yes hm f0 f1];have:=(may_iff _ _ _).1 hm;omega
 simp [Bi.new,good,h1,h2,hk]
end
end Sk
end Go.Ma
namespace Go.Ma
open Go.Pl
namespace Sk
variable {t:Sk} {w:Wd}
theorem sc_many {m:Sc} (h:m.wf) (hd:m.dn=false):0≤(m.step w).1.many∧(m.step w).1.many≤m.s.p:=by
 obtain⟨a1,a2,a3,a4,a5,a6,a7,-⟩:=h.of hd
 rcases Sc.step_cases m w with⟨e,-⟩|⟨-,h2⟩
 ·rw[hd]at e;cases e
 ·have hmiss:0≤m.miss.many∧m.miss.many≤m.s.p:=by
   unfold Sc.miss Sc.turn
   split
   ·show 0≤m.many+1∧m.many+1≤m.s.p;omega
   ·show 0≤m.many∧m.many≤m.s.p;omega
  have hturn:0≤m.turn.many∧m.turn.many≤m.s.p:=by show 0≤m.many+1∧m.many+1≤m.s.p;omega
  unfold Sc.step
  rw[if_neg (by rw[hd];decide)]
  split
  ·show 0≤(if m.mine w then { m with nx:=1 } else m.turn).many∧(if m.mine w then { m with nx:=1 } else m.turn).many≤m.s.p
   split
   ·show 0≤m.many∧m.many≤m.s.p;omega
   ·exact hturn
  ·split
   ·show 0≤(if w.get m.at'=opn m.k then { m with nx:=2 } else m.miss).many∧(if w.get m.at'=opn m.k then { m with nx:=2 } else m.miss).many≤m.s.p
    split
    ·show 0≤m.many∧m.many≤m.s.p;omega
    ·exact hmiss
   ·show 0≤(if w.get m.at'=opn m.k then { m with fd:=true,dn:=true } else m.miss).many∧(if w.get m.at'=opn m.k then { m with fd:=true,dn:=true } else m.miss).many≤m.s.p
    split
    ·show 0≤m.many∧m.many≤m.s.p;omega
    ·exact hmiss
theorem pc_many {m:Pc} (h:m.wf) (hd:m.dn=false):0≤(m.step w).1.many∧(m.step w).1.many≤m.s.p:=by
 obtain⟨a1,a2,a3,a4,a5,a6,a7⟩:=h.of hd
 have hn:0≤m.next.many∧m.next.many≤m.s.p:=by show 0≤m.many+1∧m.many+1≤m.s.p;omega
 unfold Pc.step
 rw[if_neg (by rw[hd];decide)]
 split
 ·show 0≤(if w.get m.at'=0 then { m with fd:=true,dn:=true } else m.next).many∧(if w.get m.at'=0 then { m with fd:=true,dn:=true } else m.next).many≤m.s.p
  split
  ·show 0≤m.many∧m.many≤m.s.p;omega
  ·exact hn
 ·show 0≤(if w.get m.at'=0 then { m with em:=true } else m.next).many∧(if w.get m.at'=0 then { m with em:=true } else m.next).many≤m.s.p
  split
  ·show 0≤m.many∧m.many≤m.s.p;omega
  ·exact hn
theorem sc_keeps {m:Sc}:(m.step w).1.k=m.k∧(m.step w).1.f=m.f:=by
 have h1:m.miss.k=m.k∧m.miss.f=m.f:=by unfold Sc.miss Sc.turn;split<;>exact⟨rfl,rfl⟩
 unfold Sc.step
 split
 ·exact⟨rfl,rfl⟩
 ·split
  ·show(if m.mine w then { m with nx:=1 } else m.turn).k=m.k∧(if m.mine w then { m with nx:=1 } else m.turn).f=m.f
   split<;>exact⟨rfl,rfl⟩
  ·split
   ·show(if w.get m.at'=opn m.k then { m with nx:=2 } else m.miss).k=m.k∧(if w.get m.at'=opn m.k then { m with nx:=2 } else m.miss).f=m.f
    split
    ·exact⟨rfl,rfl⟩
    ·exact h1
   ·show(if w.get m.at'=opn m.k then { m with fd:=true,dn:=true } else m.miss).k=m.k∧(if w.get m.at'=opn m.k then { m with fd:=true,dn:=true } else m.miss).f=m.f
    split
    ·exact⟨rfl,rfl⟩
    ·exact h1
theorem tk_k {m:Tk}:(m.step w).1.k=m.k:=by
 rcases Tk.step_cases m w with⟨-,e⟩|⟨-,⟨-,e⟩|⟨-,-,e⟩|⟨-,-,e⟩⟩<;>rw[e]
theorem st_fd {m:St} (h:m.dn=false→m.hd=false):(m.step w).1.dn=false→(m.step w).1.hd=false:=by
 rcases St.step_cases m w with⟨-,e⟩|⟨hd,⟨hb,e⟩|⟨hb,hi,e⟩|⟨hb,hi,hz,e⟩|⟨hb,hi,hz,e⟩⟩<;>rw[e]
 ·exact h
 ·intro _;exact h hd
 ·intro h2;cases h2
 ·intro _;exact h hd
 ·intro _;exact h hd

structure Cfg (t:Sk):Prop where
 m:may t.s.p t.s.c t.s.m=true
 c:0≤t.c∧t.c<t.s.c
 k:0<slots t.k
 f:0≤t.f∧t.f<t.s.p
 n:0≤t.many∧t.many<t.s.p
theorem here_bd (h:t.Cfg):0≤t.here∧t.here<t.s.p:=by
 have:=(may_iff _ _ _).1 h.m
 exact mod_bd (by omega)
theorem bind_wf (h:t.Cfg) (hf:t.fd=false) (hd:t.dn=false) {p:Int} (p0:0≤p) (p1:p<t.s.p):(t.bind p).wf:=by
 refine⟨fun _=>⟨h.m,h.c.1,h.c.2,h.k,h.f.1,h.f.2,h.n.1,h.n.2⟩,fun _=>⟨⟨Bi.new_wf ..,rfl,rfl,rfl,rfl,p0,p1⟩,bi_new h.m h.c.1 h.c.2 h.k p0 p1⟩,fun _=>hf⟩
theorem turn_wf (h:t.Cfg) (hf:t.fd=false):t.turn.wf:=by
 refine⟨fun hd=>?_,fun _=>⟨trivial,rfl⟩,fun _=>hf⟩
 have hd:t.many+1≠t.s.p:=by simpa [turn] using hd
 exact⟨h.m,h.c.1,h.c.2,h.k,h.f.1,h.f.2,by show 0≤t.many+1;have:=h.n;omega,by show t.many+1<t.s.p;have:=h.n;omega⟩
theorem fin_wf (p i:Int):(t.fin p i).wf:=⟨fun h=>(by cases h),fun h=>(by cases h),fun h=>(by cases h)⟩
theorem set_wf (h:t.Cfg) (hf:t.fd=false) (hd:t.dn=false) {n:Nw} (hn:t.Ok n):(t.set n).wf:=by
 unfold set
 cases hnd:n.dn
 ·simp only[Bool.false_eq_true,if_false]
  exact⟨fun _=>⟨h.m,h.c.1,h.c.2,h.k,h.f.1,h.f.2,h.n.1,h.n.2⟩,fun _=>⟨by cases n<;>exact hn,hnd⟩,fun _=>hf⟩
 ·simp only[if_true]
  have hm:=(may_iff _ _ _).1 h.m
  cases n with
  |tk m=>
   show(if m.fd then _ else _:Sk).wf
   split
   ·exact fin_wf ..
   ·exact⟨fun _=>⟨h.m,h.c.1,h.c.2,h.k,h.f.1,h.f.2,h.n.1,h.n.2⟩,fun _=>⟨⟨Sc.new_wf ..,rfl,rfl,rfl,rfl,hn.2.2.2.2.1,fun _=>rfl,by show(0:Int)≤0;omega,by show(0:Int)≤t.s.p;omega⟩,sc_new h.m h.c.1 h.c.2 h.k h.f.1 h.f.2⟩,fun _=>hf⟩
  |sc m=>
   show(if m.fd then _ else _:Sk).wf
   split
   ·exact fin_wf ..
   ·exact⟨fun _=>⟨h.m,h.c.1,h.c.2,h.k,h.f.1,h.f.2,h.n.1,h.n.2⟩,fun _=>⟨⟨Pc.new_wf ..,rfl,rfl,rfl,hn.2.2.2.2.2.1,fun _=>rfl,by show(0:Int)≤0;omega,by show(0:Int)≤t.s.p;omega⟩,pc_new h.m h.c.1 h.c.2 h.f.1 h.f.2⟩,fun _=>hf⟩
  |pc m=>
   show(if m.fd then _ else _:Sk).wf
   split
   ·have hb:=mod_bd (a:=m.f+m.many) (p:=m.s.p) (by rw[hn.2.1];omega)
    exact bind_wf (t:={ t with nw:=.pc m }) ⟨h.m,h.c,h.k,h.f,h.n⟩ hf hd hb.1 (by have:=hb.2;rw[hn.2.1]at this;unfold Pc.pg;rw[hn.2.1];exact this)
   ·exact⟨fun _=>⟨h.m,h.c.1,h.c.2,h.k,h.f.1,h.f.2,h.n.1,h.n.2⟩,fun _=>⟨trivial,rfl⟩,fun _=>hf⟩
  | no=>cases hnd
  |st m=>
   show(if m.hd then _ else _:Sk).wf
   split
   ·have hb:=here_bd h
    exact bind_wf (t:={ t with nw:=.st m }) ⟨h.m,h.c,h.k,h.f,h.n⟩ hf hd hb.1 hb.2
   ·exact turn_wf (t:={ t with nw:=.st m }) ⟨h.m,h.c,h.k,h.f,h.n⟩ hf
  | bi m=>exact fin_wf (t:={ t with nw:=.bi m }) ..
theorem wf.cfg (h:t.wf) (hd:t.dn=false):t.Cfg:=by
 obtain⟨a1,a2,a3,a4,a5,a6,a7,a8⟩:=h.of hd
 exact⟨a1,⟨a2,a3⟩,a4,⟨a5,a6⟩,⟨a7,a8⟩⟩
theorem step_wf (h:t.wf):(t.step w).1.wf:=by
 rcases step_cases t w with⟨-,e⟩|⟨hd,⟨m,en,e⟩|⟨m,en,e⟩|⟨m,en,e⟩|⟨en,e⟩|⟨m,en,e⟩|⟨m,en,e⟩⟩<;>rw[e]
 ·exact h
 ·obtain⟨ho,hx⟩:=h.nw hd
  rw[en]at ho hx
  obtain⟨o1,o2,o3,o4,o5,o6⟩:=ho
  exact set_wf (h.cfg hd) (h.fd hd) hd (n:=.tk _) ⟨Tk.step_wf o1,Tk.step_s.trans o2,Tk.step_c.trans o3,tk_k.trans o4,o5,Tk.step_fd o6⟩
 ·obtain⟨ho,hx⟩:=h.nw hd
  rw[en]at ho hx
  obtain⟨o1,o2,o3,o4,o5,o6,o7,-⟩:=ho
  have hmn:=sc_many (w:=w) o1 hx
  rw[o2]at hmn
  exact set_wf (h.cfg hd) (h.fd hd) hd (n:=.sc _) ⟨Sc.step_wf o1,Sc.step_s.trans o2,Sc.step_c.trans o3,sc_keeps.1.trans o4,sc_keeps.2.trans o5,o6,Sc.step_fd o7,hmn⟩
 ·obtain⟨ho,hx⟩:=h.nw hd
  rw[en]at ho hx
  obtain⟨o1,o2,o3,o4,o5,o6,-⟩:=ho
  have hmn:=pc_many (w:=w) o1 hx
  rw[o2]at hmn
  exact set_wf (h.cfg hd) (h.fd hd) hd (n:=.pc _) ⟨Pc.step_wf o1,Pc.step_s.trans o2,Pc.step_c.trans o3,Pc.step_f.trans o4,o5,Pc.step_fd o6,hmn⟩
 ·have hc:=h.cfg hd
  have hh:=here_bd hc
  show(t.look w).wf
  unfold look
  cases hs:t.isSup w
  ·simp only[Bool.false_eq_true,if_false]
   exact turn_wf hc (h.fd hd)
  ·simp only[if_true]
   unfold isSup at hs
   simp only[Bool.and_eq_true,decide_eq_true_eq]at hs
   have hA:=Gv.ok_super hs.1 hs.2
   have hk:0<slots (pgA t.s t.here (w.get t.pat)):=by
    rcases (by omega:pgA t.s t.here (w.get t.pat)=0∨pgA t.s t.here (w.get t.pat)=1∨pgA t.s t.here (w.get t.pat)=2∨pgA t.s t.here (w.get t.pat)=3) with h | h | h | h<;>rw[h]<;>decide
   exact⟨fun _=>⟨hc.m,hc.c.1,hc.c.2,hc.k,hc.f.1,hc.f.2,hc.n.1,hc.n.2⟩,fun _=>⟨⟨St.new_wf ..,rfl,rfl,rfl,fun _=>rfl⟩,st_new hc.m hc.c.1 hc.c.2 hk hh.1 hh.2⟩,fun _=>h.fd hd⟩
 ·obtain⟨ho,hx⟩:=h.nw hd
  rw[en]at ho hx
  obtain⟨o1,o2,o3,o4,o5⟩:=ho
  exact set_wf (h.cfg hd) (h.fd hd) hd (n:=.st _) ⟨St.step_wf o1,St.step_s.trans o2,St.step_c.trans o3,St.step_p.trans o4,st_fd o5⟩
 ·obtain⟨ho,hx⟩:=h.nw hd
  rw[en]at ho hx
  obtain⟨o1,o2,o3,o4,o5,o6,o7⟩:=ho
  exact set_wf (h.cfg hd) (h.fd hd) hd (n:=.bi _) ⟨Bi.step_wf o1,Bi.step_s.trans o2,Bi.step_c.trans o3,Bi.step_k.trans o4,Bi.step_p.trans o5,o6,o7⟩
theorem new_wf (s:Sh) (c k f:Int):(new s c k f).wf:=by
 unfold new
 cases e:(good s c k && decide (0≤page s.p s.c s.m f))
 ·simp only[Bool.false_eq_true,if_false]
  exact⟨fun h=>(by cases h),fun h=>(by cases h),fun h=>(by cases h)⟩
 ·simp only[if_true]
  simp only[Bool.and_eq_true]at e
  obtain⟨g1,g2,g3,g4⟩:=good_of e.1
  obtain⟨-,p1,p2⟩:=page_of e.2
  have:=(may_iff _ _ _).1 g1
  exact set_wf ⟨g1,⟨g2,g3⟩,g4,⟨p1,p2⟩,⟨Int.le_refl _,by show(0:Int)<s.p;omega⟩⟩ rfl rfl (n:=.tk _) ⟨Tk.new_wf ..,rfl,rfl,rfl,rfl,fun _=>rfl⟩

/-! ### How many steps are left -/
def lf (p many:Int):Nw→Int
 | .tk m=>m.left+33*p+2*p+35*p+35
 | .sc m=>m.left+2*p+35*p+34
 | .pc m=>m.left+35*p+33
 | .no=>35*(p - many)+33
 | .st m=>m.left+35*(p - many - 1)+33
 | .bi m=>m.left
def left (t:Sk):Int:=if t.dn then 0 else lf t.s.p t.many t.nw
theorem left_0 (h:t.dn=true):t.left=0:=by unfold left;rw[if_pos h]
theorem sc_left_new (s:Sh) (c k f:Int) (hp:1≤s.p):(Sc.new s c k f).left≤33*s.p:=by
 unfold Sc.left
 split
 ·omega
 ·show 33*(s.p - 0 - 1)+(if(0:Int)=0 then 33 else _)≤_;rw[if_pos rfl];omega
theorem pc_left_new (s:Sh) (c f:Int) (hp:1≤s.p):(Pc.new s c f).left≤2*s.p:=by
 unfold Pc.left
 split
 ·omega
 ·show 2*(s.p - 0) - (if false=true then 1 else 0)≤_;simp
theorem st_left_new (s:Sh) (c p k:Int):(St.new s c p k).left≤34:=by
 have:=slots_bd k
 unfold St.left
 split
 ·omega
 ·show(if false=true then(0:Int) else 2*slots k+2 - 0)≤_;simp;omega
theorem bi_left_new (s:Sh) (c p k:Int):(Bi.new s c p k).left≤32:=by
 have:=slots_bd k
 unfold Bi.left
 split
 ·omega
 ·show(if false=true then(0:Int) else 16+slots k - 0)≤_;simp;omega
theorem tk_left_new (s:Sh) (c k:Int) (hm:0≤s.m):(Tk.new s c k).left≤s.m+1:=by
 unfold Tk.left
 split
 ·omega
 ·show(if false=true then(1:Int) else s.m - 0+1)≤_;simp
theorem bind_left (p:Int):(t.bind p).left≤32:=by
 unfold left
 split
 ·omega
 ·exact bi_left_new ..
theorem turn_left (h:t.Cfg):t.turn.left≤35*(t.s.p - t.many - 1)+33:=by
 have:=h.n
 unfold left
 split
 ·omega
 ·show 35*(t.s.p - (t.many+1))+33≤_;omega
theorem fin_left (p i:Int):(t.fin p i).left=0:=left_0 rfl
theorem set_left (h:t.Cfg) (hd:t.dn=false) {n:Nw} (hn:t.Ok n) (b:Int) (hb:lf t.s.p t.many n≤b) (hb0:0≤b):(t.set n).left≤b:=by
 have hm:=(may_iff _ _ _).1 h.m
 have hnn:=h.n
 unfold set
 cases hnd:n.dn
 ·simp only[Bool.false_eq_true,if_false]
  unfold left
  rw[if_neg (by show ¬ t.dn=true;rw[hd];decide)]
  exact hb
 ·simp only[if_true]
  cases n with
  |tk m=>
   have hl:=Tk.left_nn hn.1
   show(if m.fd then _ else _:Sk).left≤_
   split
   ·rw[fin_left];exact hb0
   ·unfold left
    rw[if_neg (by show ¬ t.dn=true;rw[hd];decide)]
    have:=sc_left_new t.s t.c t.k t.f (by omega)
    show(Sc.new t.s t.c t.k t.f).left+2*t.s.p+35*t.s.p+34≤_
    have hb:m.left+33*t.s.p+2*t.s.p+35*t.s.p+35≤b:=hb
    omega
  |sc m=>
   have hl:=Sc.left_nn hn.1
   show(if m.fd then _ else _:Sk).left≤_
   split
   ·rw[fin_left];exact hb0
   ·unfold left
    rw[if_neg (by show ¬ t.dn=true;rw[hd];decide)]
    have:=pc_left_new t.s t.c t.f (by omega)
    show(Pc.new t.s t.c t.f).left+35*t.s.p+33≤_
    have hb:m.left+2*t.s.p+35*t.s.p+34≤b:=hb
    omega
  |pc m=>
   have hl:=Pc.left_nn hn.1
   have hb:m.left+35*t.s.p+33≤b:=hb
   show(if m.fd then _ else _:Sk).left≤_
   split
   ·exact Int.le_trans (bind_left _) (by omega)
   ·unfold left
    rw[if_neg (by show ¬ t.dn=true;rw[hd];decide)]
    show 35*(t.s.p - t.many)+33≤_
    omega
  | no=>cases hnd
  |st m=>
   have hl:=St.left_nn hn.1
   have hb:m.left+35*(t.s.p - t.many - 1)+33≤b:=hb
   show(if m.hd then _ else _:Sk).left≤_
   split
   ·exact Int.le_trans (bind_left _) (by omega)
   ·exact Int.le_trans (turn_left (t:={ t with nw:=.st m }) ⟨h.m,h.c,h.k,h.f,h.n⟩) (by show 35*(t.s.p - t.many - 1)+33≤b;omega)
  | bi m=>show(Sk.fin _ _ _).left≤b;rw[fin_left];exact hb0
theorem left_nn (h:t.wf):0≤t.left:=by
 unfold left
 cases hd:t.dn
 ·have hc:=h.cfg hd
  have hm:=(may_iff _ _ _).1 hc.m
  have hnn:=hc.n
  obtain⟨ho,hx⟩:=h.nw hd
  simp only[Bool.false_eq_true,if_false]
  cases en:t.nw with
  | tk m=>rw[en]at ho;have:=Tk.left_nn ho.1;show 0≤m.left+33*t.s.p+2*t.s.p+35*t.s.p+35;omega
  | sc m=>rw[en]at ho;have:=Sc.left_nn ho.1;show 0≤m.left+2*t.s.p+35*t.s.p+34;omega
  | pc m=>rw[en]at ho;have:=Pc.left_nn ho.1;show 0≤m.left+35*t.s.p+33;omega
  | no=>show 0≤35*(t.s.p - t.many)+33;omega
  | st m=>rw[en]at ho;have:=St.left_nn ho.1;show 0≤m.left+35*(t.s.p - t.many - 1)+33;omega
  | bi m=>rw[en]at ho;exact Bi.left_nn ho.1
 ·simp
theorem step_left (h:t.wf) (hd:t.dn=false):(t.step w).1.left<t.left:=by
 have hc:=h.cfg hd
 have hm:=(may_iff _ _ _).1 hc.m
 have hnn:=hc.n
 obtain⟨ho,hx⟩:=h.nw hd
 have hw':=step_wf (w:=w) h
 have el:t.left=lf t.s.p t.many t.nw:=by unfold left;rw[hd];rfl
 suffices hh:(t.step w).1.left≤t.left - 1 by omega
 rw[el]
 rcases step_cases t w with⟨e,-⟩|⟨-,⟨m,en,e⟩|⟨m,en,e⟩|⟨m,en,e⟩|⟨en,e⟩|⟨m,en,e⟩|⟨m,en,e⟩⟩
 ·rw[hd]at e;cases e
 ·rw[e,en];rw[en]at ho hx
  obtain⟨o1,o2,o3,o4,o5,o6⟩:=ho
  have h1:=Tk.step_left (w:=w) o1 hx
  have h2:=Tk.left_nn (Tk.step_wf (w:=w) o1)
  refine set_left hc hd (n:=.tk _) ⟨Tk.step_wf o1,Tk.step_s.trans o2,Tk.step_c.trans o3,tk_k.trans o4,o5,Tk.step_fd o6⟩ _ ?_ ?_
  ·show(m.step w).1.left+33*t.s.p+2*t.s.p+35*t.s.p+35≤m.left+33*t.s.p+2*t.s.p+35*t.s.p+35 - 1;omega
  ·show 0≤m.left+33*t.s.p+2*t.s.p+35*t.s.p+35 - 1;omega
 ·rw[e,en];rw[en]at ho hx
  obtain⟨o1,o2,o3,o4,o5,o6,o7,-⟩:=ho
  have hmn:=sc_many (w:=w) o1 hx
  rw[o2]at hmn
  have h1:=Sc.step_left (w:=w) o1 hx
  have h2:=Sc.left_nn (Sc.step_wf (w:=w) o1)
  refine set_left hc hd (n:=.sc _) ⟨Sc.step_wf o1,Sc.step_s.trans o2,Sc.step_c.trans o3,sc_keeps.1.trans o4,sc_keeps.2.trans o5,o6,Sc.step_fd o7,hmn⟩ _ ?_ ?_
  ·show(m.step w).1.left+2*t.s.p+35*t.s.p+34≤m.left+2*t.s.p+35*t.s.p+34 - 1;omega
  ·show 0≤m.left+2*t.s.p+35*t.s.p+34 - 1;omega
 ·rw[e,en];rw[en]at ho hx
  obtain⟨o1,o2,o3,o4,o5,o6,-⟩:=ho
  have hmn:=pc_many (w:=w) o1 hx
  rw[o2]at hmn
  have h1:=Pc.step_left (w:=w) o1 hx
  have h2:=Pc.left_nn (Pc.step_wf (w:=w) o1)
  refine set_left hc hd (n:=.pc _) ⟨Pc.step_wf o1,Pc.step_s.trans o2,Pc.step_c.trans o3,Pc.step_f.trans o4,o5,Pc.step_fd o6,hmn⟩ _ ?_ ?_
  ·show(m.step w).1.left+35*t.s.p+33≤m.left+35*t.s.p+33 - 1;omega
  ·show 0≤m.left+35*t.s.p+33 - 1;omega
 ·rw[e,en]
  show(t.look w).left≤35*(t.s.p - t.many)+33 - 1
  unfold look
  split
  ·unfold left
   rw[if_neg (by show ¬ t.dn=true;rw[hd];decide)]
   have:=st_left_new t.s t.c t.here (pgA t.s t.here (w.get t.pat))
   show(St.new t.s t.c t.here (pgA t.s t.here (w.get t.pat))).left+35*(t.s.p - t.many - 1)+33≤_
   omega
  ·have:=turn_left hc;omega
 ·rw[e,en];rw[en]at ho hx
  obtain⟨o1,o2,o3,o4,o5⟩:=ho
  have h1:=St.step_left (w:=w) o1 hx
  have h2:=St.left_nn (St.step_wf (w:=w) o1)
  refine set_left hc hd (n:=.st _) ⟨St.step_wf o1,St.step_s.trans o2,St.step_c.trans o3,St.step_p.trans o4,st_fd o5⟩ _ ?_ ?_
  ·show(m.step w).1.left+35*(t.s.p - t.many - 1)+33≤m.left+35*(t.s.p - t.many - 1)+33 - 1;omega
  ·show 0≤m.left+35*(t.s.p - t.many - 1)+33 - 1;omega
 ·rw[e,en];rw[en]at ho hx
  obtain⟨o1,o2,o3,o4,o5,o6,o7⟩:=ho
  have h1:=Bi.step_left (w:=w) o1 hx
  have h2:=Bi.left_nn (Bi.step_wf (w:=w) o1)
  refine set_left hc hd (n:=.bi _) ⟨Bi.step_wf o1,Bi.step_s.trans o2,Bi.step_c.trans o3,Bi.step_k.trans o4,Bi.step_p.trans o5,o6,o7⟩ _ ?_ ?_
  ·show(m.step w).1.left≤m.left - 1;omega
  ·show 0≤m.left - 1;omega
theorem new_left (s:Sh) (c k f:Int) (hp:may s.p s.c s.m=true):(new s c k f).left≤s.m+70*s.p+36:=by
 have hm:=(may_iff _ _ _).1 hp
 unfold new
 cases e:(good s c k && decide (0≤page s.p s.c s.m f))
 ·simp only[Bool.false_eq_true,if_false]
  rw[left_0 rfl];omega
 ·simp only[if_true]
  simp only[Bool.and_eq_true]at e
  obtain⟨g1,g2,g3,g4⟩:=good_of e.1
  obtain⟨-,p1,p2⟩:=page_of e.2
  refine set_left ⟨g1,⟨g2,g3⟩,g4,⟨p1,p2⟩,⟨Int.le_refl _,by show(0:Int)<s.p;omega⟩⟩ rfl (n:=.tk _) ⟨Tk.new_wf ..,rfl,rfl,rfl,rfl,fun _=>rfl⟩ _ ?_ (by omega)
  have:=tk_left_new s c k (by omega)
  show(Tk.new s c k).left+33*s.p+2*s.p+35*s.p+35≤_;omega
end Sk
def Nw.step (n:Nw) (w:Wd):Nw×Wd:=match n with
 | .tk m=>(.tk (m.step w).1,(m.step w).2)
 | .sc m=>(.sc (m.step w).1,(m.step w).2)
 | .pc m=>(.pc (m.step w).1,(m.step w).2)
 | .no=>(.no,w)
 | .st m=>(.st (m.step w).1,(m.step w).2)
 | .bi m=>(.bi (m.step w).1,(m.step w).2)
namespace Sk
variable {t:Sk} {w:Wd}
theorem step_nw (h:t.dn=false) (hn:t.nw≠.no):t.step w=(t.set (t.nw.step w).1,(t.nw.step w).2):=by
 cases e:t.nw with
 | tk m=>rw[step_tk h e];rfl
 | sc m=>rw[step_sc h e];rfl
 | pc m=>rw[step_pc h e];rfl
 | no=>exact absurd e hn
 | st m=>rw[step_st' h e];rfl
 | bi m=>rw[step_bi h e];rfl
theorem Ok_nw {u:Sk} {n:Nw} (h:t.Ok n) (h1:u.s=t.s) (h2:u.c=t.c) (h3:u.k=t.k) (h4:u.f=t.f) (h5:u.many=t.many) (h6:u.pg=t.pg):u.Ok n:=by
 have hh:u.here=t.here:=by unfold here;rw[h1,h4,h5]
 cases n<;>simp only[Ok]at h ⊢<;>simp only[h1,h2,h3,h4,h5,h6,hh]<;>exact h
theorem ok_step (h:t.wf) (hd:t.dn=false):t.Ok (t.nw.step w).1:=by
 obtain⟨ho,hx⟩:=h.nw hd
 cases en:t.nw with
 |tk m=>
  rw[en]at ho hx
  obtain⟨o1,o2,o3,o4,o5,o6⟩:=ho
  exact⟨Tk.step_wf o1,Tk.step_s.trans o2,Tk.step_c.trans o3,tk_k.trans o4,o5,Tk.step_fd o6⟩
 |sc m=>
  rw[en]at ho hx
  obtain⟨o1,o2,o3,o4,o5,o6,o7,-⟩:=ho
  have hmn:=sc_many (w:=w) o1 hx
  rw[o2]at hmn
  exact⟨Sc.step_wf o1,Sc.step_s.trans o2,Sc.step_c.trans o3,sc_keeps.1.trans o4,sc_keeps.2.trans o5,o6,Sc.step_fd o7,hmn⟩
 |pc m=>
  rw[en]at ho hx
  obtain⟨o1,o2,o3,o4,o5,o6,-⟩:=ho
  have hmn:=pc_many (w:=w) o1 hx
  rw[o2]at hmn
  exact⟨Pc.step_wf o1,Pc.step_s.trans o2,Pc.step_c.trans o3,Pc.step_f.trans o4,o5,Pc.step_fd o6,hmn⟩
 | no=>trivial
 |st m=>
  rw[en]at ho hx
  obtain⟨o1,o2,o3,o4,o5⟩:=ho
  exact⟨St.step_wf o1,St.step_s.trans o2,St.step_c.trans o3,St.step_p.trans o4,st_fd o5⟩
 |bi m=>
  rw[en]at ho hx
  obtain⟨o1,o2,o3,o4,o5,o6,o7⟩:=ho
  exact⟨Bi.step_wf o1,Bi.step_s.trans o2,Bi.step_c.trans o3,Bi.step_k.trans o4,Bi.step_p.trans o5,o6,o7⟩
end Sk
end Go.Ma
namespace Go.Ma
open Go.Pl
theorem Sk.new_kp (s:Sh) (c k f:Int):(Sk.new s c k f).s=s∧(Sk.new s c k f).c=c∧(Sk.new s c k f).k=k∧(Sk.new s c k f).f=f:=by
 unfold Sk.new;split
 ·exact Sk.set_kp _ _
 ·exact⟨rfl,rfl,rfl,rfl⟩
namespace Sa
theorem set_go (t:Sk) {m:Nw} (h:m.dn=false):t.set m = { t with nw:=m }:=by unfold Sk.set;rw[h];rfl
theorem set_af (t:Sk) {m:Nw} (h:m.dn=true):t.set m=({ t with nw:=m }:Sk).after:=by unfold Sk.set;rw[h];rfl
end Sa
end Go.Ma
namespace Go.Ma
open Go.Pl

structure Rn where
 s:Sh
 c:Int
 n:Int
 hd:Int
 at':Int
 i:Int
 nx:Int
 st:Option St
 fd:Bool
 dn:Bool
 gx:Int
namespace Rn
def ok (s:Sh) (c n:Int):Bool:=decide (0≤status s.p s.c s.m c) && (decide (1≤n) && (decide (n≤8) && decide (n≤s.p)))
def new (s:Sh) (c n:Int):Rn:=⟨s,c,n,0,0,0,0,none,false,!ok s c n,0⟩
def pat (t:Rn):Int:=page t.s.p t.s.c t.s.m t.at'
def sat (t:Rn):Int:=slot t.s.p t.s.c t.s.m t.at' t.i
def bat (t:Rn):Int:=page t.s.p t.s.c t.s.m (t.i - 1)
def iat (t:Rn):Int:=page t.s.p t.s.c t.s.m t.i
def written (t:Rn):Rn:=if t.i+1=t.hd+t.n then { t with i:=t.i+1,fd:=true,dn:=true } else { t with i:=t.i+1 }
def own (t:Rn):Rn:=if t.at'+1=t.hd+t.n then { t with at':=t.at'+1,nx:=5,i:=t.hd }.written else { t with at':=t.at'+1,nx:=0 }
def gone (t:Rn):Rn:=if t.hd<t.i then t else { t with at':=t.at'+1,hd:=t.at'+1,nx:=0,dn:=decide (t.s.p - t.n<t.at'+1) }
def miss (t:Rn):Rn:={ t with nx:=4,i:=t.at',gx:=t.at'+1 }.gone
def isE (t:Rn) (x:Int):Bool:=okPg t.s t.at' x && decide (pgK t.s t.at' x=0)
def isS (t:Rn) (x:Int):Bool:=okPg t.s t.at' x && decide (pgK t.s t.at' x=2)
def snew (t:Rn) (x:Int):St:=St.new t.s t.c t.at' (pgA t.s t.at' x)
def look (t:Rn) (x:Int):Rn:=if t.isE x then { t with nx:=1 } else if t.isS x then { t with nx:=2,st:=some (t.snew x) } else t.miss
def claim (t:Rn) (x:Int):Rn:=if x=0 then t.own else t.miss
def outs (t:Rn) (q:St):Rn:=if q.hd then { t with st:=some q,nx:=3,i:=0 } else if q.dn then { t with st:=some q }.miss else { t with st:=some q }
def clear (t:Rn):Rn:=if t.i+1=16 then { t with i:=t.i+1 }.own else { t with i:=t.i+1 }
def step (t:Rn) (w:Wd):Rn×Wd:=
 if t.dn then(t,w) else
 if t.nx=0 then(t.look (w.get t.pat),w.load t.c t.pat) else
 if t.nx=1 then(t.claim (w.get t.pat),w.swap t.c t.pat 0 (held t.c)) else
 if t.nx=2 then(match t.st with | none=>(t,w) | some q=>(t.outs (q.step w).1,(q.step w).2)) else
 if t.nx=3 then(t.clear,w.store t.c t.sat 0) else
 if t.nx=4 then({ t with i:=t.i - 1 }.gone,w.store t.c t.bat 0) else
 (t.written,w.store t.c t.iat (putPg 4 t.hd 0))

def Ar (p c' c n hd at' i nx gx:Int):Prop:=
 0≤c∧c<c'∧1≤n∧n≤8∧0≤hd∧hd≤p - n∧hd≤at'∧0≤nx∧nx≤5∧(nx≤4→at'<hd+n)∧(nx=3→0≤i∧i<16)∧(nx=4→hd<i∧i≤at'∧gx=at'+1)∧(nx=5→at'=hd+n∧hd<i∧i<hd+n)
structure wf (t:Rn):Prop where
 of:t.dn=false→may t.s.p t.s.c t.s.m=true∧t.fd=false∧Ar t.s.p t.s.c t.c t.n t.hd t.at' t.i t.nx t.gx
 q:t.dn=false→t.nx=2→∃ q,t.st=some q∧q.wf∧q.dn=false∧q.s=t.s∧q.c=t.c∧q.p=t.at'∧q.hd=false
variable {t:Rn} {w:Wd}
theorem step_dn (h:t.dn=true):t.step w=(t,w):=by unfold step;rw[if_pos h]
theorem step_cases (h:t.wf) (w:Wd):(t.dn=true∧t.step w=(t,w))∨(t.dn=false ∧
    ((t.nx=0∧t.step w=(t.look (w.get t.pat),w.load t.c t.pat))∨(t.nx=1∧t.step w=(t.claim (w.get t.pat),w.swap t.c t.pat 0 (held t.c))) ∨
     (t.nx=2∧∃ q,t.st=some q∧q.wf∧q.dn=false∧q.s=t.s∧q.c=t.c∧q.p=t.at'∧t.step w=(t.outs (q.step w).1,(q.step w).2)) ∨
     (t.nx=3∧t.step w=(t.clear,w.store t.c t.sat 0))∨(t.nx=4∧t.step w=({ t with i:=t.i - 1 }.gone,w.store t.c t.bat 0)) ∨
     (t.nx=5∧t.step w=(t.written,w.store t.c t.iat (putPg 4 t.hd 0))))):=by
  by_cases hd:t.dn=true
  rotate_left
  · have hd:t.dn=false:=by simpa using hd
    right
    refine⟨hd,?_⟩
    obtain⟨-,-,a⟩:=h.of hd
    unfold Ar at a
    have hq:=h.q hd
    unfold step
    rw[if_neg (by rw[hd];decide)]
    rcases (by omega:t.nx=0∨t.nx=1∨t.nx=2∨t.nx=3∨t.nx=4∨t.nx=5) with e | e | e | e | e | e
    · exact .inl ⟨e,by rw[if_pos e]⟩
    · exact .inr (.inl ⟨e,by rw[if_neg (by omega),if_pos e]⟩)
    · obtain⟨q,h1,h2,h3,h4,h5,h6,-⟩:=hq e
      exact .inr (.inr (.inl ⟨e,q,h1,h2,h3,h4,h5,h6,by rw[if_neg (by omega),if_neg (by omega),if_pos e,h1]⟩))
    · exact .inr (.inr (.inr (.inl ⟨e,by rw[if_neg (by omega),if_neg (by omega),if_neg (by omega),if_pos e]⟩)))
    · exact .inr (.inr (.inr (.inr (.inl ⟨e,by rw[if_neg (by omega),if_neg (by omega),if_neg (by omega),if_neg (by omega),if_pos e]⟩))))
    · exact .inr (.inr (.inr (.inr (.inr ⟨e,by rw[if_neg (by omega),if_neg (by omega),if_neg (by omega),if_neg (by omega),if_neg (by omega)]⟩))))
  · left;exact⟨hd,step_dn hd⟩

/-! ### Who it is stays -/
def K (t u:Rn):Prop:=u.s=t.s∧u.c=t.c∧u.n=t.n
theorem written_k (t:Rn):K t t.written:=by unfold written;split<;>exact⟨rfl,rfl,rfl⟩
theorem own_k (t:Rn):K t t.own:=by
 unfold own;split
 ·exact written_k { t with at':=t.at'+1,nx:=5,i:=t.hd }
 ·exact⟨rfl,rfl,rfl⟩
theorem gone_k (t:Rn):K t t.gone:=by unfold gone;split<;>exact⟨rfl,rfl,rfl⟩
theorem miss_k (t:Rn):K t t.miss:=gone_k { t with nx:=4,i:=t.at',gx:=t.at'+1 }
theorem look_k (t:Rn) (x:Int):K t (t.look x):=by
 unfold look;split
 ·exact⟨rfl,rfl,rfl⟩
 ·split
  ·exact⟨rfl,rfl,rfl⟩
  ·exact miss_k t
theorem claim_k (t:Rn) (x:Int):K t (t.claim x):=by unfold claim;split;exact own_k t;exact miss_k t
theorem outs_k (t:Rn) (q:St):K t (t.outs q):=by
 unfold outs;split
 ·exact⟨rfl,rfl,rfl⟩
 ·split
  ·exact miss_k { t with st:=some q }
  ·exact⟨rfl,rfl,rfl⟩
theorem clear_k (t:Rn):K t t.clear:=by
 unfold clear;split
 ·exact own_k { t with i:=t.i+1 }
 ·exact⟨rfl,rfl,rfl⟩
theorem step_k (h:t.wf) (w:Wd):K t (t.step w).1:=by
 rcases step_cases h w with⟨-,e⟩|⟨-,⟨-,e⟩|⟨-,e⟩|⟨-,q,-,-,-,-,-,-,e⟩|⟨-,e⟩|⟨-,e⟩|⟨-,e⟩⟩<;>rw[e]
 ·exact⟨rfl,rfl,rfl⟩
 ·exact look_k ..
 ·exact claim_k ..
 ·exact outs_k ..
 ·exact clear_k ..
 ·exact gone_k { t with i:=t.i - 1 }
 ·exact written_k ..
theorem step_of (h:t.wf) {s:Sh} (ho:w.of s):(t.step w).2.of s:=by
 rcases step_cases h w with⟨-,e⟩|⟨-,⟨-,e⟩|⟨-,e⟩|⟨-,q,-,-,-,-,-,-,e⟩|⟨-,e⟩|⟨-,e⟩|⟨-,e⟩⟩<;>rw[e]
 ·exact ho
 ·exact Wd.of_load ho _ _
 ·exact Wd.of_swap ho (U_held _) _ _ _
 ·exact St.step_of ho
 ·exact Wd.of_store ho U_0 _ _
 ·exact Wd.of_store ho U_0 _ _
 ·exact Wd.of_store ho (U_putPg ..) _ _
/-! ### What stays -/
theorem new_wf (s:Sh) (c n:Int):(new s c n).wf:=by
 refine⟨fun hd=>?_,fun _ h=>(by cases h)⟩
 have hd:(!ok s c n)=false:=hd
 unfold ok at hd
 simp only[Bool.not_eq_false',Bool.and_eq_true,decide_eq_true_eq]at hd
 obtain⟨h1,h2,h3,h4⟩:=hd
 have hst:¬ status s.p s.c s.m c<0:=by omega
 rw[status_lt0]at hst
 have hst:=Classical.not_not.1 hst
 refine⟨hst.1,rfl,?_⟩
 show Ar s.p s.c c n 0 0 0 0 0
 unfold Ar
 omega
theorem written_wf (hm:may t.s.p t.s.c t.s.m=true) (hf:t.fd=false) (hn:t.nx=5) (a:0≤t.c∧t.c<t.s.c∧1≤t.n∧t.n≤8∧0≤t.hd∧t.hd≤t.s.p - t.n∧t.at'=t.hd+t.n∧t.hd≤t.i∧t.i<t.hd+t.n):t.written.wf:=by
 unfold written
 split
 ·exact⟨fun h=>(by cases h),fun h=>(by cases h)⟩
 ·rename_i hne
  refine⟨fun _=>⟨hm,hf,?_⟩,fun _ h=>(by have h:t.nx=2:=h;omega)⟩
  show Ar t.s.p t.s.c t.c t.n t.hd t.at' (t.i+1) t.nx t.gx
  unfold Ar
  omega
theorem own_wf (hm:may t.s.p t.s.c t.s.m=true) (hf:t.fd=false) (hd:t.dn=false) (a:0≤t.c∧t.c<t.s.c∧1≤t.n∧t.n≤8∧0≤t.hd∧t.hd≤t.s.p - t.n∧t.hd≤t.at'∧t.at'<t.hd+t.n):t.own.wf:=by
 unfold own
 split
 ·refine written_wf (t:={ t with at':=t.at'+1,nx:=5,i:=t.hd }) hm hf rfl ?_
  show 0≤t.c∧t.c<t.s.c∧1≤t.n∧t.n≤8∧0≤t.hd∧t.hd≤t.s.p - t.n∧t.at'+1=t.hd+t.n∧t.hd≤t.hd∧t.hd<t.hd+t.n
  omega
 ·refine⟨fun _=>⟨hm,hf,?_⟩,fun _ h=>(by cases h)⟩
  show Ar t.s.p t.s.c t.c t.n t.hd (t.at'+1) t.i 0 t.gx
  unfold Ar
  omega
theorem gone_wf (hm:may t.s.p t.s.c t.s.m=true) (hf:t.fd=false) (hn:t.nx=4) (a:0≤t.c∧t.c<t.s.c∧1≤t.n∧t.n≤8∧0≤t.hd∧t.hd≤t.s.p - t.n∧t.hd≤t.at'∧t.at'<t.hd+t.n∧t.i≤t.at'∧t.gx=t.at'+1):t.gone.wf:=by
 unfold gone
 split
 ·refine⟨fun _=>⟨hm,hf,?_⟩,fun _ h=>(by have h:t.nx=2:=h;omega)⟩
  unfold Ar
  omega
 ·refine⟨fun h=>⟨hm,hf,?_⟩,fun _ h=>(by cases h)⟩
  have h:¬ t.s.p - t.n<t.at'+1:=by simpa using h
  show Ar t.s.p t.s.c t.c t.n (t.at'+1) (t.at'+1) t.i 0 t.gx
  unfold Ar
  omega
theorem miss_wf (hm:may t.s.p t.s.c t.s.m=true) (hf:t.fd=false) (a:0≤t.c∧t.c<t.s.c∧1≤t.n∧t.n≤8∧0≤t.hd∧t.hd≤t.s.p - t.n∧t.hd≤t.at'∧t.at'<t.hd+t.n):t.miss.wf:=by
 refine gone_wf (t:={ t with nx:=4,i:=t.at',gx:=t.at'+1 }) hm hf rfl ?_
 show 0≤t.c∧t.c<t.s.c∧1≤t.n∧t.n≤8∧0≤t.hd∧t.hd≤t.s.p - t.n∧t.hd≤t.at'∧t.at'<t.hd+t.n∧t.at'≤t.at'∧t.at'+1=t.at'+1
 omega
theorem snew_dn (hm:may t.s.p t.s.c t.s.m=true) (hc:0≤t.c∧t.c<t.s.c) (ha:0≤t.at'∧t.at'<t.s.p) {x:Int} (hS:t.isS x=true):(t.snew x).dn=false:=by
 unfold isS at hS
 simp only[Bool.and_eq_true,decide_eq_true_eq]at hS
 have h1:=Gv.ok_super hS.1 hS.2
 have h2:=Gv.slot_of (o:=0) (k:=pgA t.s t.at' x) ⟨h1.1,h1.2.1⟩ ⟨by decide,by decide⟩
 have h3:(0:Int) / size (pgA t.s t.at' x)=0:=Int.zero_ediv _
 have h4:page t.s.p t.s.c t.s.m t.at'=t.s.c+t.at':=page_yes hm ha.1 ha.2
 have h5:¬ status t.s.p t.s.c t.s.m t.c<0:=by rw[status_lt0];exact fun h=>h ⟨hm,hc.1,hc.2⟩
 have hb:=(may_iff _ _ _).1 hm
 show(!(good t.s t.c (pgA t.s t.at' x) && decide (0≤page t.s.p t.s.c t.s.m t.at')))=false
 unfold good
 rw[decide_eq_true (by omega:0≤status t.s.p t.s.c t.s.m t.c),decide_eq_true (by omega:0<slots (pgA t.s t.at' x)),decide_eq_true (by omega:0≤page t.s.p t.s.c t.s.m t.at')]
 rfl
theorem step_wf (h:t.wf) (w:Wd):(t.step w).1.wf:=by
 rcases step_cases h w with⟨-,e⟩|⟨hd,⟨hn,e⟩|⟨hn,e⟩|⟨hn,q,hq,hqw,hqd,hqs,hqc,hqp,e⟩|⟨hn,e⟩|⟨hn,e⟩|⟨hn,e⟩⟩<;>rw[e]
 ·exact h
 all_goals
  obtain⟨hm,hf,a⟩:=h.of hd
  have hb:=(may_iff _ _ _).1 hm
  have a0:=a
  unfold Ar at a
 ·show(t.look _).wf
  unfold look
  split
  ·refine⟨fun _=>⟨hm,hf,?_⟩,fun _ h=>(by cases h)⟩
   show Ar t.s.p t.s.c t.c t.n t.hd t.at' t.i 1 t.gx
   unfold Ar;omega
  ·split
   ·rename_i hS
    refine⟨fun _=>⟨hm,hf,?_⟩,fun _ _=>⟨_,rfl,St.new_wf ..,snew_dn hm (by omega) (by omega) hS,rfl,rfl,rfl,rfl⟩⟩
    show Ar t.s.p t.s.c t.c t.n t.hd t.at' t.i 2 t.gx
    unfold Ar;omega
   ·exact miss_wf hm hf (by omega)
 ·show(t.claim _).wf
  unfold claim
  split
  ·exact own_wf hm hf hd (by omega)
  ·exact miss_wf hm hf (by omega)
 ·show(t.outs _).wf
  unfold outs
  split
  ·refine⟨fun _=>⟨hm,hf,?_⟩,fun _ h=>(by cases h)⟩
   show Ar t.s.p t.s.c t.c t.n t.hd t.at' 0 3 t.gx
   unfold Ar;omega
  ·rename_i hh
   split
   ·exact miss_wf (t:={ t with st:=some (q.step w).1 }) hm hf (by show 0≤t.c∧t.c<t.s.c∧1≤t.n∧t.n≤8∧0≤t.hd∧t.hd≤t.s.p - t.n∧t.hd≤t.at'∧t.at'<t.hd+t.n;omega)
   ·rename_i hdq
    refine⟨fun _=>⟨hm,hf,a0⟩,fun _ _=>⟨_,rfl,St.step_wf hqw,by simpa using hdq,St.step_s.trans hqs,St.step_c.trans hqc,St.step_p.trans hqp,by simpa using hh⟩⟩
 ·show t.clear.wf
  unfold clear
  split
  ·exact own_wf (t:={ t with i:=t.i+1 }) hm hf hd (by show 0≤t.c∧t.c<t.s.c∧1≤t.n∧t.n≤8∧0≤t.hd∧t.hd≤t.s.p - t.n∧t.hd≤t.at'∧t.at'<t.hd+t.n;omega)
  ·refine⟨fun _=>⟨hm,hf,?_⟩,fun _ h=>(by have h:t.nx=2:=h;omega)⟩
   show Ar t.s.p t.s.c t.c t.n t.hd t.at' (t.i+1) t.nx t.gx
   unfold Ar;omega
 ·exact gone_wf (t:={ t with i:=t.i - 1 }) hm hf hn (by show 0≤t.c∧t.c<t.s.c∧1≤t.n∧t.n≤8∧0≤t.hd∧t.hd≤t.s.p - t.n∧t.hd≤t.at'∧t.at'<t.hd+t.n∧t.i - 1≤t.at'∧t.gx=t.at'+1;omega)
 ·exact written_wf hm hf hn (by omega)

/-! ### How long -/
def lf (p n hd at' i nx q:Int):Int:=
 if nx=0 then 60*(p - at')+(at' - hd)+8 else if nx=1 then 60*(p - at')+(at' - hd)+7 else if nx=2 then 60*(p - at')+(at' - hd) - 34+q else
 if nx=3 then 60*(p - at')+(at' - hd) - 35 - i else if nx=4 then 60*(p - at' - 1)+(i - hd)+8 else hd+n - i
def left (t:Rn):Int:=if t.dn then 0 else lf t.s.p t.n t.hd t.at' t.i t.nx (match t.st with | none=>0 | some q=>q.left)
theorem left_0 (hd:t.dn=true):t.left=0:=by unfold left;rw[if_pos hd]
theorem left_eq (hd:t.dn=false) {n:Int} (hn:t.nx=n):t.left=lf t.s.p t.n t.hd t.at' t.i n (match t.st with | none=>0 | some q=>q.left):=by unfold left;rw[hd,hn];rfl
theorem written_left (hd:t.dn=false) (hn:t.nx=5) (a:t.i<t.hd+t.n):t.written.left<t.hd+t.n - t.i:=by
 unfold written
 split
 ·rw[left_0 rfl];omega
 ·rw[left_eq (t:={ t with i:=t.i+1 }) hd hn]
  show t.hd+t.n - (t.i+1)<_;omega
theorem own_left (hd:t.dn=false) (a:t.hd≤t.at'∧t.at'<t.hd+t.n∧t.n≤8∧t.at'<t.s.p∧1≤t.n):t.own.left<60*(t.s.p - t.at')+(t.at' - t.hd) - 50:=by
 unfold own
 split
 ·have:=written_left (t:={ t with at':=t.at'+1,nx:=5,i:=t.hd }) hd rfl (by show t.hd<t.hd+t.n;omega)
  have h2:({ t with at':=t.at'+1,nx:=5,i:=t.hd }:Rn).hd+({ t with at':=t.at'+1,nx:=5,i:=t.hd }:Rn).n - ({ t with at':=t.at'+1,nx:=5,i:=t.hd }:Rn).i=t.n:=by show t.hd+t.n - t.hd=t.n;omega
  omega
 ·rw[left_eq (t:={ t with at':=t.at'+1,nx:=0 }) hd rfl]
  show 60*(t.s.p - (t.at'+1))+(t.at'+1 - t.hd)+8<_;omega
theorem gone_left (hd:t.dn=false) (hn:t.nx=4) (a:t.hd≤t.i∧t.at'<t.s.p):t.gone.left≤60*(t.s.p - t.at' - 1)+(t.i - t.hd)+8:=by
 unfold gone
 split
 ·rw[left_eq hd hn];exact Int.le_refl _
 ·cases hz:decide (t.s.p - t.n<t.at'+1)
  ·rw[left_eq (t:={ t with at':=t.at'+1,hd:=t.at'+1,nx:=0,dn:=false }) rfl rfl]
   show 60*(t.s.p - (t.at'+1))+(t.at'+1 - (t.at'+1))+8≤_;omega
  ·rw[left_0 rfl];omega
theorem miss_left (hd:t.dn=false) (a:t.hd≤t.at'∧t.at'<t.s.p):t.miss.left≤60*(t.s.p - t.at' - 1)+(t.at' - t.hd)+8:=
 gone_left (t:={ t with nx:=4,i:=t.at',gx:=t.at'+1 }) hd rfl a
theorem left_pos (h:t.wf) (hd:t.dn=false):0<t.left:=by
 obtain⟨hm,hf,a⟩:=h.of hd
 have hq:=h.q hd
 unfold Ar at a
 unfold left lf
 rw[if_neg (by rw[hd];decide)]
 split
 ·omega
 split
 ·omega
 split
 ·rename_i h2
  obtain⟨q,h1,h2,-⟩:=hq h2
  rw[h1]
  have:=St.left_nn h2
  show 0<60*(t.s.p - t.at')+(t.at' - t.hd) - 34+q.left
  omega
 split
 ·omega
 split
 ·omega
 ·omega
theorem left_nn (h:t.wf):0≤t.left:=by
 cases hd:t.dn
 ·have:=left_pos h hd;omega
 ·rw[left_0 hd];exact Int.le_refl _
theorem snew_left (t:Rn) (x:Int):(t.snew x).left≤34:=by
 unfold St.left
 have:=slots_bd (pgA t.s t.at' x)
 split
 ·omega
 ·show(if false=true then(0:Int) else 2*slots (pgA t.s t.at' x)+2 - 0)≤34
  rw[if_neg (by decide)];omega
theorem step_left (h:t.wf) (hd:t.dn=false):(t.step w).1.left<t.left:=by
 obtain⟨hm,hf,a⟩:=h.of hd
 unfold Ar at a
 rcases step_cases h w with⟨e,-⟩|⟨-,⟨hn,e⟩|⟨hn,e⟩|⟨hn,q,hq,hqw,hqd,hqs,hqc,hqp,e⟩|⟨hn,e⟩|⟨hn,e⟩|⟨hn,e⟩⟩
 ·rw[hd]at e;cases e
 ·rw[e,left_eq hd hn]
  show(t.look _).left<60*(t.s.p - t.at')+(t.at' - t.hd)+8
  unfold look
  split
  ·rw[left_eq (t:={ t with nx:=1 }) hd rfl]
   show 60*(t.s.p - t.at')+(t.at' - t.hd)+7<_;omega
  ·split
   ·rw[left_eq (t:={ t with nx:=2,st:=some (t.snew (w.get t.pat)) }) hd rfl]
    have:=snew_left t (w.get t.pat)
    show 60*(t.s.p - t.at')+(t.at' - t.hd) - 34+(t.snew (w.get t.pat)).left<_;omega
   ·have:=miss_left (t:=t) hd (by omega);omega
 ·rw[e,left_eq hd hn]
  show(t.claim _).left<60*(t.s.p - t.at')+(t.at' - t.hd)+7
  unfold claim
  split
  ·have:=own_left (t:=t) hd (by omega);omega
  ·have:=miss_left (t:=t) hd (by omega);omega
 ·rw[e,left_eq hd hn,hq]
  have hl:=St.step_left (w:=w) hqw hqd
  have hl0:=St.left_nn hqw
  show(t.outs _).left<60*(t.s.p - t.at')+(t.at' - t.hd) - 34+q.left
  unfold outs
  split
  ·rw[left_eq (t:={ t with st:=some (q.step w).1,nx:=3,i:=0 }) hd rfl]
   show 60*(t.s.p - t.at')+(t.at' - t.hd) - 35 - 0<_;omega
  ·split
   ·have:=miss_left (t:={ t with st:=some (q.step w).1 }) hd (by show t.hd≤t.at'∧t.at'<t.s.p;omega)
    have h2:60*(({ t with st:=some (q.step w).1 }:Rn).s.p - ({ t with st:=some (q.step w).1 }:Rn).at' - 1)+(({ t with st:=some (q.step w).1 }:Rn).at' - ({ t with st:=some (q.step w).1 }:Rn).hd)+8=60*(t.s.p - t.at' - 1)+(t.at' - t.hd)+8:=rfl
    omega
   ·rw[left_eq (t:={ t with st:=some (q.step w).1 }) hd hn]
    show 60*(t.s.p - t.at')+(t.at' - t.hd) - 34+(q.step w).1.left<_;omega
 ·rw[e,left_eq hd hn]
  show t.clear.left<60*(t.s.p - t.at')+(t.at' - t.hd) - 35 - t.i
  unfold clear
  split
  ·have:=own_left (t:={ t with i:=t.i+1 }) hd (by show t.hd≤t.at'∧t.at'<t.hd+t.n∧t.n≤8∧t.at'<t.s.p∧1≤t.n;omega)
   have h2:60*(({ t with i:=t.i+1 }:Rn).s.p - ({ t with i:=t.i+1 }:Rn).at')+(({ t with i:=t.i+1 }:Rn).at' - ({ t with i:=t.i+1 }:Rn).hd) - 50=60*(t.s.p - t.at')+(t.at' - t.hd) - 50:=rfl
   omega
  ·rw[left_eq (t:={ t with i:=t.i+1 }) hd hn]
   show 60*(t.s.p - t.at')+(t.at' - t.hd) - 35 - (t.i+1)<_;omega
 ·rw[e,left_eq hd hn]
  have:=gone_left (t:={ t with i:=t.i - 1 }) hd hn (by show t.hd≤t.i - 1∧t.at'<t.s.p;omega)
  have h2:60*(({ t with i:=t.i - 1 }:Rn).s.p - ({ t with i:=t.i - 1 }:Rn).at' - 1)+(({ t with i:=t.i - 1 }:Rn).i - ({ t with i:=t.i - 1 }:Rn).hd)+8=60*(t.s.p - t.at' - 1)+(t.i - 1 - t.hd)+8:=rfl
  show({ t with i:=t.i - 1 }:Rn).gone.left<60*(t.s.p - t.at' - 1)+(t.i - t.hd)+8
  omega
 ·rw[e,left_eq hd hn]
  show t.written.left<t.hd+t.n - t.i
  exact written_left hd hn (by omega)
theorem new_left (s:Sh) (c n:Int) (hp:0≤s.p):(new s c n).left≤60*s.p+8:=by
 unfold left
 split
 ·omega
 ·show 60*(s.p - 0)+(0 - 0)+8≤_;omega
end Rn
end Go.Ma
namespace Go.Ma
open Go.Pl

structure Bk where
 lg:Bool
 p:Int
 i:Int
 k:Int
 n:Int
namespace Bk
def zero:Bk:=⟨false,0,0,0,0⟩
def ad (b:Bk):Int:=if b.lg then b.p*64 else b.p*64+b.i*size b.k
def len (b:Bk):Int:=if b.lg then b.n*64 else size b.k
def fits (b:Bk) (s:Sh) (c:Int):Bool:=decide (0≤status s.p s.c s.m c) && decide (0≤page s.p s.c s.m b.p) &&
 if b.lg then decide (1≤b.n) && decide (b.n≤8) && decide (b.n≤s.p - b.p) else decide (0≤b.i) && decide (b.i<slots b.k)
structure Fit (b:Bk) (s:Sh) (c:Int):Prop where
 m:may s.p s.c s.m=true
 c0:0≤c
 c1:c<s.c
 p0:0≤b.p
 p1:b.p<s.p
 l:b.lg=true→1≤b.n∧b.n≤8∧b.p+b.n≤s.p
 s:b.lg=false→0≤b.i∧b.i<slots b.k
theorem fits_of {b:Bk} {s:Sh} {c:Int} (h:b.fits s c=true):b.Fit s c:=by
 unfold fits at h
 simp only[Bool.and_eq_true,decide_eq_true_eq]at h
 obtain⟨⟨h1,h2⟩,h3⟩:=h
 have g1:¬ status s.p s.c s.m c<0:=by omega
 have g2:¬ page s.p s.c s.m b.p<0:=by omega
 rw[status_lt0]at g1
 rw[page_lt0]at g2
 simp only[Decidable.not_not]at g1 g2
 refine⟨g1.1,g1.2.1,g1.2.2,g2.2.1,g2.2.2,fun e=>?_,fun e=>?_⟩
 ·rw[if_pos e]at h3;simp only[Bool.and_eq_true,decide_eq_true_eq]at h3;omega
 ·rw[if_neg (by rw[e];decide)]at h3;simp only[Bool.and_eq_true,decide_eq_true_eq]at h3;exact h3
theorem of_fits {b:Bk} {s:Sh} {c:Int} (h:b.Fit s c):b.fits s c=true:=by
 unfold fits
 have g1:0≤status s.p s.c s.m c:=by rw[status_yes h.m h.c0 h.c1];exact h.c0
 have hb:=(may_iff _ _ _).1 h.m
 have g2:0≤page s.p s.c s.m b.p:=by rw[page_yes h.m h.p0 h.p1];have:=h.p0;omega
 simp only[Bool.and_eq_true,decide_eq_true_eq]
 refine⟨⟨g1,g2⟩,?_⟩
 cases e:b.lg
 ·have:=h.s e;simp;exact this
 ·have:=h.l e;simp;omega
end Bk

inductive Rv where
 | sk (t:Sk)
 | rn (t:Rn)
 | no
namespace Rv
def new (s:Sh) (c n f:Int):Rv:=if small n then .sk (Sk.new s c (cls n) f) else if large n then .rn (Rn.new s c (pages n)) else .no
def dn:Rv→Bool
 | .sk t=>t.dn
 | .rn t=>t.dn
 | .no=>true
def fd:Rv→Bool
 | .sk t=>t.fd
 | .rn t=>t.fd
 | .no=>false
def bk:Rv→Bk
 | .sk t=>if t.fd then ⟨false,t.pg,t.sl,t.k,0⟩ else Bk.zero
 | .rn t=>if t.fd then ⟨true,t.hd,0,0,t.n⟩ else Bk.zero
 | .no=>Bk.zero
def step (v:Rv) (w:Wd):Rv×Wd:=match v with
 | .sk t=>(.sk (t.step w).1,(t.step w).2)
 | .rn t=>(.rn (t.step w).1,(t.step w).2)
 | .no=>(.no,w)
def wf:Rv→Prop
 | .sk t=>t.wf
 | .rn t=>t.wf
 | .no=>True
def shp:Rv→Sh
 | .sk t=>t.s
 | .rn t=>t.s
 | .no=>⟨0,0,0⟩
def of (s:Sh) (c:Int):Rv→Prop
 | .sk t=>t.s=s∧t.c=c
 | .rn t=>t.s=s∧t.c=c
 | .no=>True
def left:Rv→Int
 | .sk t=>t.left
 | .rn t=>t.left
 | .no=>0
theorem new_wf (s:Sh) (c n f:Int):(new s c n f).wf:=by
 unfold new;split
 ·exact Sk.new_wf ..
 ·split
  ·exact Rn.new_wf ..
  ·trivial
theorem new_of (s:Sh) (c n f:Int):(new s c n f).of s c:=by
 unfold new;split
 ·exact⟨(Sk.new_kp s c (cls n) f).1,(Sk.new_kp s c (cls n) f).2.1⟩
 ·split
  ·exact⟨rfl,rfl⟩
  ·trivial
theorem step_wf {v:Rv} {w:Wd} (h:v.wf):(v.step w).1.wf:=by
 cases v with
 | sk t=>exact Sk.step_wf h
 | rn t=>exact Rn.step_wf h w
 | no=>trivial
theorem step_ofs {v:Rv} {w:Wd} {s:Sh} {c:Int} (hv:v.wf) (h:v.of s c):(v.step w).1.of s c:=by
 cases v with
 | sk t=>have:=Sk.step_kp (t:=t) (w:=w);exact⟨this.1.trans h.1,this.2.1.trans h.2⟩
 | rn t=>have:=Rn.step_k hv w;exact⟨this.1.trans h.1,this.2.1.trans h.2⟩
 | no=>trivial
theorem step_of {v:Rv} {w:Wd} {s:Sh} (hv:v.wf) (h:w.of s):(v.step w).2.of s:=by
 cases v with
 | sk t=>exact Sk.step_of h
 | rn t=>exact Rn.step_of hv h
 | no=>exact h
theorem left_nn {v:Rv} (hv:v.wf):0≤v.left:=by
 cases v with
 | sk t=>exact Sk.left_nn hv
 | rn t=>exact Rn.left_nn hv
 | no=>exact Int.le_refl _
theorem step_left {v:Rv} {w:Wd} (hv:v.wf) (hd:v.dn=false):(v.step w).1.left<v.left:=by
 cases v with
 | sk t=>exact Sk.step_left hv hd
 | rn t=>exact Rn.step_left hv hd
 | no=>cases hd
theorem new_left (s:Sh) (c n f:Int) (hm:may s.p s.c s.m=true):(new s c n f).left≤s.m+70*s.p+36:=by
 have hb:=(may_iff _ _ _).1 hm
 unfold new;split
 ·exact Sk.new_left s c _ f hm
 ·split
  ·have:=Rn.new_left s c (pages n) (by omega)
   show(Rn.new s c (pages n)).left≤_;omega
  ·show(0:Int)≤_;omega
end Rv

/-! ### A step is an access -/
structure Cm where
 s:Sh
 c:Int
 b:Bk
 dn:Bool
namespace Cm
def new (s:Sh) (c:Int) (b:Bk):Cm:=⟨s,c,b,!b.fits s c⟩
def pat (t:Cm):Int:=page t.s.p t.s.c t.s.m t.b.p
def sat (t:Cm):Int:=slot t.s.p t.s.c t.s.m t.b.p t.b.i
def step (t:Cm) (w:Wd):Cm×Wd:=if t.dn then(t,w) else
 if t.b.lg then({ t with dn:=true },w.store t.c t.pat (putPg 3 t.b.n 0)) else({ t with dn:=true },w.store t.c t.sat (putSl 3 t.b.k))
def wf (t:Cm):Prop:=t.dn=false→t.b.Fit t.s t.c
theorem new_wf (s:Sh) (c:Int) (b:Bk):(new s c b).wf:=fun h=>by
 have:b.fits s c=true:=by
  cases e:b.fits s c
  ·have h:(!b.fits s c)=false:=h
   rw[e]at h;cases h
  ·rfl
 exact Bk.fits_of this
end Cm

structure Uo where
 s:Sh
 c:Int
 b:Bk
 i:Int
 dn:Bool
namespace Uo
def new (s:Sh) (c:Int) (b:Bk):Uo:=⟨s,c,b,0,!b.fits s c⟩
def pat (t:Uo):Int:=page t.s.p t.s.c t.s.m t.b.p
def iat (t:Uo):Int:=page t.s.p t.s.c t.s.m (t.b.p+t.i+1)
def sat (t:Uo):Int:=slot t.s.p t.s.c t.s.m t.b.p t.b.i
def step (t:Uo) (w:Wd):Uo×Wd:=if t.dn then(t,w) else
 if t.b.lg then(if t.i=t.b.n - 1 then({ t with dn:=true },w.store t.c t.pat 0) else({ t with i:=t.i+1 },w.store t.c t.iat 0))
 else({ t with dn:=true },w.store t.c t.sat (putSl 1 t.b.k))
def wf (t:Uo):Prop:=t.dn=false→t.b.Fit t.s t.c∧(t.b.lg=true→0≤t.i∧t.i<t.b.n)
theorem new_wf (s:Sh) (c:Int) (b:Bk):(new s c b).wf:=fun h=>by
 have:b.fits s c=true:=by
  cases e:b.fits s c
  ·have h:(!b.fits s c)=false:=h
   rw[e]at h;cases h
  ·rfl
 have hf:=Bk.fits_of this
 exact⟨hf,fun e=>⟨Int.le_refl _,by have:=hf.l e;show(0:Int)<b.n;omega⟩⟩
theorem step_wf {t:Uo} {w:Wd} (h:t.wf):(t.step w).1.wf:=by
 unfold step
 cases hd:t.dn
 ·obtain⟨h1,h2⟩:=h hd
  simp only[Bool.false_eq_true,if_false]
  split
  ·rename_i e
   split
   ·exact fun h=>by cases h
   ·intro _;have:=h2 e;exact⟨h1,fun _=>by show 0≤t.i+1∧t.i+1<t.b.n;omega⟩
  ·exact fun h=>by cases h
 ·simp only[if_true];exact h
end Uo
end Go.Ma
namespace Go.Ma
open Go.Pl

inductive Md where
 | no
 | uo (t:Uo)
 | cm (t:Cm)
structure Re where
 s:Sh
 c:Int
 on:Bool
 rv:Rv
 gv:Gv
 md:Md
 er:Int
 dn:Bool
namespace Re
def fin (t:Re) (e:Int):Re:={ t with er:=e,dn:=true }
def go (t:Re):Re:=match t.md with
 | .uo u=>if u.dn then t.fin 1 else t
 | .cm m=>if m.dn then t.fin 0 else t
 | .no=>if t.rv.dn then(if t.rv.fd then(if t.gv.dn then(if t.gv.gv then { t with md:=.cm (Cm.new t.s t.c t.rv.bk) } else { t with md:=.uo (Uo.new t.s t.c t.rv.bk) }) else t) else t.fin 3) else t
def ok (s:Sh) (c a n:Int):Bool:=there s.p s.c s.m a && fine n && decide (0≤status s.p s.c s.m c)
def raw (s:Sh) (c a n f:Int):Re:=⟨s,c,true,Rv.new s c n f,Gv.new s c a,.no,0,false⟩
def bad (s:Sh) (c:Int):Re:=⟨s,c,false,.no,Gv.new s c 0,.no,1,true⟩
def new (s:Sh) (c a n f:Int):Re:=if ok s c a n then(raw s c a n f).go else bad s c
def acc (t:Re) (w:Wd):Re×Wd:=
 if t.rv.dn then(if t.gv.dn then(match t.md with
  | .uo u=>({ t with md:=.uo (u.step w).1 },(u.step w).2)
  | .cm m=>({ t with md:=.cm (m.step w).1 },(m.step w).2)
  | .no=>(t,w)) else({ t with gv:=(t.gv.step w).1 },(t.gv.step w).2)) else({ t with rv:=(t.rv.step w).1 },(t.rv.step w).2)
def step (t:Re) (w:Wd):Re×Wd:=if t.dn then(t,w) else((t.acc w).1.go,(t.acc w).2)
def gave (t:Re):Bool:=t.on && t.gv.gv
def fd (t:Re):Bool:=t.dn && decide (t.er=0) && t.rv.fd
def bk (t:Re):Bk:=if t.dn && decide (t.er=0) then t.rv.bk else Bk.zero

structure wf (t:Re):Prop where
 of:t.on=false→t.dn=true∧t.md=.no∧t.er=1
 rw:t.rv.wf
 ro:t.rv.of t.s t.c
 gw:t.gv.wf
 gs:t.gv.s=t.s∧t.gv.c=t.c
 uo:∀ u,t.md=.uo u→u.wf∧u.s=t.s∧u.c=t.c∧t.rv.dn=true∧t.rv.fd=true∧t.gv.dn=true∧t.gv.gv=false
 cm:∀ m,t.md=.cm m→m.wf∧m.s=t.s∧m.c=t.c∧t.rv.dn=true∧t.rv.fd=true∧t.gv.dn=true∧t.gv.gv=true
 nx:t.dn=false→t.md=.no→t.rv.dn=true→t.rv.fd=true∧t.gv.dn=false
 g0:t.rv.dn=false→t.gv.gv=false
structure wf' (t:Re):Prop where
 on:t.on=true
 dn:t.dn=false
 rw:t.rv.wf
 ro:t.rv.of t.s t.c
 gw:t.gv.wf
 gs:t.gv.s=t.s∧t.gv.c=t.c
 uo:∀ u,t.md=.uo u→u.wf∧u.s=t.s∧u.c=t.c∧t.rv.dn=true∧t.rv.fd=true∧t.gv.dn=true∧t.gv.gv=false
 cm:∀ m,t.md=.cm m→m.wf∧m.s=t.s∧m.c=t.c∧t.rv.dn=true∧t.rv.fd=true∧t.gv.dn=true∧t.gv.gv=true
 g0:t.rv.dn=false→t.gv.gv=false
variable {t:Re} {w:Wd}
theorem go_wf (h:t.wf'):t.go.wf:=by
 unfold go
 split
 ·rename_i u e
  split
  ·exact⟨fun g=>(by have g:t.on=false:=g;rw[h.on]at g;cases g),h.rw,h.ro,h.gw,h.gs,h.uo,h.cm,fun g=>(by cases g),h.g0⟩
  ·exact⟨fun g=>(by rw[h.on]at g;cases g),h.rw,h.ro,h.gw,h.gs,h.uo,h.cm,fun _ g=>(by rw[e]at g;cases g),h.g0⟩
 ·rename_i m e
  split
  ·exact⟨fun g=>(by have g:t.on=false:=g;rw[h.on]at g;cases g),h.rw,h.ro,h.gw,h.gs,h.uo,h.cm,fun g=>(by cases g),h.g0⟩
  ·exact⟨fun g=>(by rw[h.on]at g;cases g),h.rw,h.ro,h.gw,h.gs,h.uo,h.cm,fun _ g=>(by rw[e]at g;cases g),h.g0⟩
 ·rename_i e
  split
  ·rename_i e1
   split
   ·rename_i e2
    split
    ·rename_i e3
     split
     ·rename_i e4
      refine⟨fun g=>(by have g:t.on=false:=g;rw[h.on]at g;cases g),h.rw,h.ro,h.gw,h.gs,fun u g=>(by cases g),fun m g=>?_,fun _ g=>(by cases g),h.g0⟩
      injection g with g
      subst g
      exact⟨Cm.new_wf _ _ _,rfl,rfl,e1,e2,e3,e4⟩
     ·rename_i e4
      refine⟨fun g=>(by have g:t.on=false:=g;rw[h.on]at g;cases g),h.rw,h.ro,h.gw,h.gs,fun u g=>?_,fun m g=>(by cases g),fun _ g=>(by cases g),h.g0⟩
      injection g with g
      subst g
      exact⟨Uo.new_wf _ _ _,rfl,rfl,e1,e2,e3,by simpa using e4⟩
    ·rename_i e3
     exact⟨fun g=>(by rw[h.on]at g;cases g),h.rw,h.ro,h.gw,h.gs,h.uo,h.cm,fun _ _ _=>⟨e2,by simpa using e3⟩,h.g0⟩
   ·exact⟨fun g=>(by have g:t.on=false:=g;rw[h.on]at g;cases g),h.rw,h.ro,h.gw,h.gs,h.uo,h.cm,fun g=>(by cases g),h.g0⟩
  ·rename_i e1
   exact⟨fun g=>(by rw[h.on]at g;cases g),h.rw,h.ro,h.gw,h.gs,h.uo,h.cm,fun _ _ g=>absurd g e1,h.g0⟩
theorem new_wf (s:Sh) (c a n f:Int):(new s c a n f).wf:=by
 unfold new
 split
 ·exact go_wf ⟨rfl,rfl,Rv.new_wf ..,Rv.new_of ..,Gv.new_wf ..,⟨rfl,rfl⟩,fun _ g=>(by cases g),fun _ g=>(by cases g),fun _=>rfl⟩
 ·exact⟨fun _=>⟨rfl,rfl,rfl⟩,trivial,trivial,Gv.new_wf ..,⟨rfl,rfl⟩,fun _ g=>(by cases g),fun _ g=>(by cases g),fun g=>(by cases g),fun _=>rfl⟩
theorem on_of (h:t.wf) (hd:t.dn=false):t.on=true:=by
 cases e:t.on
 ·rw[(h.of e).1]at hd;cases hd
 ·rfl
theorem acc_wf (h:t.wf) (hd:t.dn=false) (hw:w.of t.s):(t.acc w).1.wf':=by
 have on:=on_of h hd
 unfold acc
 split
 ·rename_i e1
  split
  ·rename_i e2
   split
   ·rename_i u e
    obtain⟨g1,g2,g3,g4,g5,g6,g7⟩:=h.uo u e
    refine⟨on,hd,h.rw,h.ro,h.gw,h.gs,fun x g=>?_,fun x g=>(by cases g),h.g0⟩
    injection g with g
    subst g
    have hk:(u.step w).1.s=u.s∧(u.step w).1.c=u.c:=by unfold Uo.step;split;exact⟨rfl,rfl⟩;split;(split<;>exact⟨rfl,rfl⟩);exact⟨rfl,rfl⟩
    exact⟨Uo.step_wf g1,hk.1.trans g2,hk.2.trans g3,g4,g5,g6,g7⟩
   ·rename_i m e
    obtain⟨g1,g2,g3,g4,g5,g6,g7⟩:=h.cm m e
    refine⟨on,hd,h.rw,h.ro,h.gw,h.gs,fun x g=>(by cases g),fun x g=>?_,h.g0⟩
    injection g with g
    subst g
    have hk:(m.step w).1.s=m.s∧(m.step w).1.c=m.c∧((m.step w).1.dn=true):=by unfold Cm.step;split;(rename_i x;exact⟨rfl,rfl,x⟩);split<;>exact⟨rfl,rfl,rfl⟩
    exact⟨fun g=>(by rw[hk.2.2]at g;cases g),hk.1.trans g2,hk.2.1.trans g3,g4,g5,g6,g7⟩
   ·exact⟨on,hd,h.rw,h.ro,h.gw,h.gs,h.uo,h.cm,h.g0⟩
  ·rename_i e2
   have hk:=Gv.step_keeps (w:=w) h.gw
   exact⟨on,hd,h.rw,h.ro,Gv.step_wf h.gw hw.u,⟨hk.1.trans h.gs.1,hk.2.1.trans h.gs.2⟩,fun u g=>absurd (h.uo u g).2.2.2.2.2.1 e2,fun m g=>absurd (h.cm m g).2.2.2.2.2.1 e2,fun g=>(by have g:t.rv.dn=false:=g;rw[e1]at g;cases g)⟩
 ·rename_i e1
  have e1':t.rv.dn=false:=by simpa using e1
  exact⟨on,hd,Rv.step_wf h.rw,Rv.step_ofs h.rw h.ro,h.gw,h.gs,fun u g=>absurd (h.uo u g).2.2.2.1 e1,fun m g=>absurd (h.cm m g).2.2.2.1 e1,fun _=>h.g0 e1'⟩
theorem go_k:t.go.s=t.s∧t.go.c=t.c∧t.go.on=t.on∧t.go.rv=t.rv∧t.go.gv=t.gv:=by
 unfold go
 split
 ·split<;>exact⟨rfl,rfl,rfl,rfl,rfl⟩
 ·split<;>exact⟨rfl,rfl,rfl,rfl,rfl⟩
 ·split
  ·split
   ·split
    ·split<;>exact⟨rfl,rfl,rfl,rfl,rfl⟩
    ·exact⟨rfl,rfl,rfl,rfl,rfl⟩
   ·exact⟨rfl,rfl,rfl,rfl,rfl⟩
  ·exact⟨rfl,rfl,rfl,rfl,rfl⟩
theorem acc_k:(t.acc w).1.s=t.s∧(t.acc w).1.c=t.c∧(t.acc w).1.on=t.on:=by
 unfold acc
 split
 ·split
  ·split<;>exact⟨rfl,rfl,rfl⟩
  ·exact⟨rfl,rfl,rfl⟩
 ·exact⟨rfl,rfl,rfl⟩
theorem step_wf (h:t.wf) (hw:t.dn=false→w.of t.s):(t.step w).1.wf:=by
 unfold step
 cases hd:t.dn
 ·exact go_wf (acc_wf h hd (hw hd))
 ·exact h
theorem step_k:(t.step w).1.s=t.s∧(t.step w).1.c=t.c∧(t.step w).1.on=t.on:=by
 unfold step
 split
 ·exact⟨rfl,rfl,rfl⟩
 ·have h1:=go_k (t:=(t.acc w).1)
  have h2:=acc_k (t:=t) (w:=w)
  exact⟨h1.1.trans h2.1,h1.2.1.trans h2.2.1,h1.2.2.1.trans h2.2.2⟩
theorem _root_.Go.Ma.Uo.step_of {u:Uo} {s:Sh} (h:w.of s):(u.step w).2.of s:=by
 unfold Uo.step
 split
 ·exact h
 ·split
  ·split<;>exact Wd.of_store h U_0 _ _
  ·exact Wd.of_store h (U_putSl _ _) _ _
theorem _root_.Go.Ma.Cm.step_of {u:Cm} {s:Sh} (h:w.of s):(u.step w).2.of s:=by
 unfold Cm.step
 split
 ·exact h
 ·split
  ·exact Wd.of_store h (U_putPg _ _ _) _ _
  ·exact Wd.of_store h (U_putSl _ _) _ _
theorem step_of (h:t.wf) (ho:w.of t.s):(t.step w).2.of t.s:=by
 unfold step
 cases hd:t.dn
 rotate_left
 ·exact ho
 show(t.acc w).2.of t.s
 unfold acc
 split
 ·split
  ·split
   ·exact Uo.step_of ho
   ·exact Cm.step_of ho
   ·exact ho
  ·rw[← h.gs.1]at ho ⊢;exact Gv.step_of h.gw ho
 ·exact Rv.step_of h.rw ho
def left (t:Re):Int:=if t.dn then 0 else match t.md with
 | .no=>t.rv.left+t.gv.left+10
 | .uo u=>(if u.dn then 0 else if u.b.lg then u.b.n - u.i else 1)+1
 | .cm m=>(if m.dn then 0 else 1)+1
theorem uo_left {u:Uo} (h:u.wf):0≤(if u.dn then 0 else if u.b.lg then u.b.n - u.i else 1:Int)∧(if u.dn then 0 else if u.b.lg then u.b.n - u.i else 1:Int)≤8:=by
 cases hd:u.dn
 ·obtain⟨h1,h2⟩:=h hd
  simp only[Bool.false_eq_true,if_false]
  cases hl:u.b.lg
  ·simp
  ·have:=h2 hl;have:=h1.l hl;simp;omega
 ·simp
theorem left_nn (h:t.wf):0≤t.left:=by
 unfold left
 split
 ·omega
 ·split
  ·have:=Rv.left_nn h.rw;have:=Gv.left_nn h.gw;omega
  ·rename_i u e
   have:=uo_left (h.uo u e).1;omega
  ·rename_i m e
   split<;>omega
theorem left_dn (h:t.wf) (hl:t.left≤0):t.dn=true:=by
 cases hd:t.dn
 ·unfold left at hl
  rw[if_neg (by rw[hd];decide)]at hl
  split at hl
  ·have:=Rv.left_nn h.rw;have:=Gv.left_nn h.gw;omega
  ·rename_i u e
   have:=uo_left (h.uo u e).1;omega
  ·split at hl<;>omega
 ·rfl
theorem left_0 (h:t.dn=true):t.left=0:=by unfold left;rw[if_pos h]
def gl (t:Re):Int:=match t.md with
 | .no=>max 9 (t.rv.left+t.gv.left+10)
 | .uo u=>if u.dn then 0 else(if u.b.lg then u.b.n - u.i else 1)+1
 | .cm m=>if m.dn then 0 else 2
theorem go_left (h:t.wf'):t.go.left≤t.gl:=by
 cases e:t.md with
 |uo u=>
  have eg:t.gl=if u.dn then 0 else(if u.b.lg then u.b.n - u.i else 1)+1:=by unfold gl;rw[e]
  rw[eg]
  have e1:t.go=if u.dn then t.fin 1 else t:=by unfold go;rw[e]
  rw[e1]
  cases e2:u.dn
  ·simp only[Bool.false_eq_true,if_false];unfold left;rw[if_neg (by rw[h.dn];decide),e]
   show(if u.dn then 0 else if u.b.lg then u.b.n - u.i else 1:Int)+1≤_
   rw[e2];simp
  ·simp only[if_true];rw[left_0 rfl];omega
 |cm u=>
  have eg:t.gl=if u.dn then 0 else 2:=by unfold gl;rw[e]
  rw[eg]
  have e1:t.go=if u.dn then t.fin 0 else t:=by unfold go;rw[e]
  rw[e1]
  cases e2:u.dn
  ·simp only[Bool.false_eq_true,if_false];unfold left;rw[if_neg (by rw[h.dn];decide),e]
   show(if u.dn then 0 else 1:Int)+1≤_
   rw[e2];simp
  ·simp only[if_true];rw[left_0 rfl];omega
 |no=>
  have eg:t.gl=max 9 (t.rv.left+t.gv.left+10):=by unfold gl;rw[e]
  rw[eg]
  have e1:t.go=if t.rv.dn then(if t.rv.fd then(if t.gv.dn then(if t.gv.gv then { t with md:=.cm (Cm.new t.s t.c t.rv.bk) } else { t with md:=.uo (Uo.new t.s t.c t.rv.bk) }) else t) else t.fin 3) else t:=by unfold go;rw[e]
  rw[e1]
  have h1:=Rv.left_nn h.rw
  have h2:=Gv.left_nn h.gw
  have hs:t.left≤max 9 (t.rv.left+t.gv.left+10):=by
   unfold left;rw[if_neg (by rw[h.dn];decide),e];show t.rv.left+t.gv.left+10≤_;omega
  split
  ·split
   ·split
    ·split
     ·show(if t.dn then 0 else(if(Cm.new t.s t.c t.rv.bk).dn then 0 else 1)+1:Int)≤_
      rw[if_neg (by rw[h.dn];decide)]
      split<;>omega
     ·show(if t.dn then 0 else(if(Uo.new t.s t.c t.rv.bk).dn then 0 else if(Uo.new t.s t.c t.rv.bk).b.lg then(Uo.new t.s t.c t.rv.bk).b.n - (Uo.new t.s t.c t.rv.bk).i else 1)+1:Int)≤_
      rw[if_neg (by rw[h.dn];decide)]
      have:=uo_left (Uo.new_wf t.s t.c t.rv.bk)
      omega
    ·exact hs
   ·rw[left_0 rfl];omega
  ·exact hs
theorem step_left (h:t.wf) (hd:t.dn=false) (hw:w.of t.s):(t.step w).1.left<t.left:=by
 have hg:=go_left (acc_wf h hd hw)
 have e:(t.step w).1=(t.acc w).1.go:=by unfold step;rw[hd];rfl
 rw[e]
 refine Int.lt_of_le_of_lt hg ?_
 have hl:t.left=(match t.md with
  | .no=>t.rv.left+t.gv.left+10
  | .uo u=>(if u.dn then 0 else if u.b.lg then u.b.n - u.i else 1)+1
  | .cm m=>(if m.dn then 0 else 1)+1):=by unfold left;rw[if_neg (by rw[hd];decide)]
 rw[hl]
 cases e1:t.rv.dn
 ·have hm:t.md=.no:=by
   cases em:t.md with
   | no=>rfl
   | uo u=>rw[(h.uo u em).2.2.2.1]at e1;cases e1
   | cm m=>rw[(h.cm m em).2.2.2.1]at e1;cases e1
  have h1:=Rv.step_left (w:=w) h.rw e1
  have h2:=Gv.left_nn h.gw
  have h3:=Rv.left_nn h.rw
  have ea:(t.acc w).1 = { t with rv:=(t.rv.step w).1 }:=by unfold acc;rw[if_neg (by rw[e1];decide)]
  have eg:({ t with rv:=(t.rv.step w).1 }:Re).gl=max 9 ((t.rv.step w).1.left+t.gv.left+10):=by unfold gl;rw[hm]
  rw[ea,eg,hm]
  show max 9 ((t.rv.step w).1.left+t.gv.left+10)<t.rv.left+t.gv.left+10
  have h4:=Rv.left_nn (Rv.step_wf (w:=w) h.rw)
  omega
 cases e2:t.gv.dn
 ·have hm:t.md=.no:=by
   cases em:t.md with
   | no=>rfl
   | uo u=>rw[(h.uo u em).2.2.2.2.2.1]at e2;cases e2
   | cm m=>rw[(h.cm m em).2.2.2.2.2.1]at e2;cases e2
  have h1:=Gv.step_left (w:=w) h.gw e2
  have h2:=Gv.left_nn h.gw
  have h3:=Rv.left_nn h.rw
  have ea:(t.acc w).1 = { t with gv:=(t.gv.step w).1 }:=by unfold acc;rw[if_pos e1,if_neg (by rw[e2];decide)]
  have eg:({ t with gv:=(t.gv.step w).1 }:Re).gl=max 9 (t.rv.left+(t.gv.step w).1.left+10):=by unfold gl;rw[hm]
  rw[ea,eg,hm]
  show max 9 (t.rv.left+(t.gv.step w).1.left+10)<t.rv.left+t.gv.left+10
  have h4:(t.gv.step w).1.left<t.gv.left:=h1
  have h5:=Gv.left_nn (Gv.step_wf h.gw hw.u)
  omega
 cases em:t.md with
 | no=>have:=(h.nx hd em e1).2;rw[e2]at this;cases this
 |uo u=>
  obtain⟨g1,-⟩:=h.uo u em
  have ea:(t.acc w).1 = { t with md:=.uo (u.step w).1 }:=by unfold acc;rw[if_pos e1,if_pos e2,em]
  have eg:({ t with md:=.uo (u.step w).1 }:Re).gl=if(u.step w).1.dn then 0 else(if(u.step w).1.b.lg then(u.step w).1.b.n - (u.step w).1.i else 1)+1:=by unfold gl;rfl
  rw[ea,eg]
  show _<(if u.dn then 0 else if u.b.lg then u.b.n - u.i else 1:Int)+1
  cases hu:u.dn
  ·obtain⟨f1,f2⟩:=g1 hu
   unfold Uo.step
   simp only[hu,Bool.false_eq_true,if_false]
   cases hl:u.b.lg
   ·simp
   ·have:=f2 hl
    simp only[if_true]
    by_cases hi:u.i=u.b.n - 1
    ·simp only[hi,if_true];omega
    ·simp only[hi,if_false,hl,Bool.false_eq_true,if_true];omega
  ·unfold Uo.step;simp [hu]
 |cm m=>
  have ea:(t.acc w).1 = { t with md:=.cm (m.step w).1 }:=by unfold acc;rw[if_pos e1,if_pos e2,em]
  have eg:({ t with md:=.cm (m.step w).1 }:Re).gl=if(m.step w).1.dn then 0 else 2:=by unfold gl;rfl
  rw[ea,eg]
  show _<(if m.dn then 0 else 1:Int)+1
  cases hu:m.dn
  ·unfold Cm.step
   simp only[hu,Bool.false_eq_true,if_false]
   cases hl:m.b.lg<;>simp
  ·unfold Cm.step;simp [hu]
theorem step_dn (h:t.dn=true):t.step w=(t,w):=by unfold step;rw[if_pos h]
theorem new_left (s:Sh) (c a n f:Int) (hm:may s.p s.c s.m=true):(new s c a n f).left≤2*s.m+70*s.p+80:=by
 have hb:=(may_iff _ _ _).1 hm
 unfold new
 split
 ·have:=go_left (t:=raw s c a n f) ⟨rfl,rfl,Rv.new_wf ..,Rv.new_of ..,Gv.new_wf ..,⟨rfl,rfl⟩,fun _ g=>(by cases g),fun _ g=>(by cases g),fun _=>rfl⟩
  have h1:=Rv.new_left s c n f hm
  have h2:(Gv.new s c a).left≤s.m+13:=by
   unfold Gv.left
   split
   ·omega
   ·show s.m+13≤_;omega
  have this:(raw s c a n f).go.left≤max 9 ((Rv.new s c n f).left+(Gv.new s c a).left+10):=this
  omega
 ·rw[left_0 rfl];omega
end Re
end Go.Ma
namespace Go.Ma
open Go.Pl
def Nb (s:Sh) (ws0:Nat→Int) (q:Int):Prop:=¬ (okPg s q (pgAt s ws0 q)=true∧(pgK s q (pgAt s ws0 q)=3∨pgK s q (pgAt s ws0 q)=4))
structure Kj (s:Sh) (ws0 ws:Nat→Int):Prop where
 pg:∀ q,0≤q→q<s.p→¬ Nb s ws0 q→pgAt s ws q=pgAt s ws0 q
 sl:∀ q i,0≤q→q<s.p→0≤i→i<16→slAt s ws q i=slAt s ws0 q i∨slK (slAt s ws q i)≠3
namespace Kj
variable {s:Sh} {ws0 ws:Nat→Int} {c q i y:Int}
end Kj
section
variable {s:Sh} {ws0:Nat→Int} {w:Wd}
end
namespace Sk
def Nf (s:Sh) (ws0:Nat→Int) (t:Sk):Prop:=t.dn=false→(∀ m,t.nw=.st m→Nb s ws0 m.p)∧(∀ m,t.nw=.bi m→Nb s ws0 m.p)∧∀ m,t.nw=.pc m→m.fd=false
variable {s:Sh} {ws0:Nat→Int} {w:Wd} {t:Sk}
end Sk
namespace Rn
def top (t:Rn):Int:=if t.dn then(if t.fd then t.hd+t.n else t.hd) else if t.nx≤2 then t.at' else if t.nx=3 then t.at'+1 else if t.nx=4 then t.i else t.hd+t.n
structure Nf (s:Sh) (ws0:Nat→Int) (t:Rn):Prop where
 r:∀ q,t.hd≤q→q<t.top→Nb s ws0 q
 a:t.dn=false→t.nx=2→Nb s ws0 t.at'
variable {s:Sh} {ws0:Nat→Int} {w:Wd} {t:Rn}
end Rn
namespace Gv
end Gv
namespace Rv
def Nf (s:Sh) (ws0:Nat→Int):Rv→Prop
 | .sk t=>t.Nf s ws0
 | .rn t=>t.Nf s ws0
 | .no=>True
variable {s:Sh} {ws0:Nat→Int} {w:Wd} {c:Int}
end Rv
namespace Uo
def Nf (s:Sh) (ws0:Nat→Int) (b:Bk):Prop:=b.lg=true→∀ q,b.p≤q→q<b.p+b.n→Nb s ws0 q
variable {s:Sh} {ws0:Nat→Int} {w:Wd}
end Uo
namespace Re
def Kp (s:Sh) (ws0:Nat→Int) (t:Re) (ws:Nat→Int):Prop:=t.gv.gv=true∨(Kj s ws0 ws∧t.rv.Nf s ws0∧(∀ u,t.md=.uo u→Uo.Nf s ws0 u.b)∧∀ m,t.md≠.cm m)
variable {s:Sh} {ws0 ws:Nat→Int} {w:Wd} {t:Re}
end Re
end Go.Ma
