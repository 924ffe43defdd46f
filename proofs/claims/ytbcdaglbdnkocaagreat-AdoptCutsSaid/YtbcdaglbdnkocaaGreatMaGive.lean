/-
 Who gives a block back, plain: its steps, what stays, how long it goes on. Conditions: none.
-/
import Derived.Test.YtbcdaglbdnkocaaGreatMaMI
set_option linter.unusedVariables false
set_option linter.unusedSimpArgs false
namespace Go.Ma
open Go.Pl

structure Gv where
 s:Sh
 c:Int
 a:Int
 pg:Int
 sl:Int
 wd:Int
 pK:Int
 pA:Int
 pB:Int
 nx:Int
 i:Int
 put:Option Pu
 gv:Bool
 dn:Bool
 ms:Bool
namespace Gv
def new (s:Sh) (c a:Int):Gv:=⟨s,c,a,sp s.p s.c s.m a,0,0,0,0,0,0,0,none,false,!there s.p s.c s.m a || decide (status s.p s.c s.m c<0),false⟩
def pat (t:Gv):Int:=page t.s.p t.s.c t.s.m t.pg
def sat (t:Gv):Int:=slot t.s.p t.s.c t.s.m t.pg t.sl
def off (t:Gv):Int:=so t.s.p t.s.c t.s.m t.a
def read (t:Gv) (w:Wd):Gv:={ t with wd:=w.get t.pat,pK:=pgK t.s t.pg (w.get t.pat),pA:=pgA t.s t.pg (w.get t.pat),pB:=pgB t.s t.pg (w.get t.pat),nx:=1 }
def isL (t:Gv) (w:Wd):Bool:=okPg t.s t.pg (w.get t.pat) && (decide (pgK t.s t.pg (w.get t.pat)=3) && decide (t.off=0))
def isS (t:Gv) (w:Wd):Bool:=okPg t.s t.pg (w.get t.pat) && (decide (pgK t.s t.pg (w.get t.pat)=2) && decide (t.off % size (pgA t.s t.pg (w.get t.pat))=0))
def look (t:Gv) (w:Wd):Gv:=if t.isL w then { t.read w with ms:=true } else if t.isS w then { t.read w with sl:=t.off / size (pgA t.s t.pg (w.get t.pat)),ms:=true } else { t.read w with dn:=true }
def kept (t:Gv) (p:Pu):Gv:=if p.put then { t with put:=some p,dn:=true } else if p.dn then { t with put:=some p,nx:=3 } else { t with put:=some p }
def pnew (t:Gv):Pu:=Pu.new t.s t.c t.pg t.sl t.pA
def claimL (t:Gv) (w:Wd):Gv:={ t with gv:=decide (w.get t.pat=t.wd),nx:=4,dn:=!decide (w.get t.pat=t.wd) }
def claimS (t:Gv) (w:Wd):Gv:=
 if t.pB=t.c then { t with gv:=decide (w.get t.sat=taken t.pA),put:=some t.pnew,nx:=if t.pnew.dn then 3 else 2,dn:=!decide (w.get t.sat=taken t.pA) }
 else { t with gv:=decide (w.get t.sat=taken t.pA),nx:=3,dn:=!decide (w.get t.sat=taken t.pA) }
def step (t:Gv) (w:Wd):Gv×Wd:=
 if t.dn then(t,w) else
 if t.nx=0 then(t.look w,w.load t.c t.pat) else
 if t.nx=1 then(if t.pK=3 then(t.claimL w,w.swap t.c t.pat t.wd (held t.c)) else(t.claimS w,w.swap t.c t.sat (taken t.pA) (way t.c))) else
 if t.nx=2 then(match t.put with
  | none=>(t,w)
  | some p=>(t.kept (p.step w).1,(p.step w).2)) else
 if t.nx=3 then({ t with dn:=true },w.store t.c t.sat (opn t.pA)) else
 if t.i=t.pA - 1 then({ t with dn:=true },w.store t.c t.pat 0) else
 ({ t with i:=t.i+1 },w.store t.c (page t.s.p t.s.c t.s.m (t.pg+t.i+1)) 0)

def blk (t:Gv):Prop:=(t.pK=3∧1≤t.pA∧t.pA≤8∧t.pg+t.pA≤t.s.p∧t.pB=0)∨(t.pK=2∧0≤t.sl∧t.sl<slots t.pA∧0≤t.pA∧t.pA≤3∧0≤t.pB∧t.pB<t.s.c)
structure wf (t:Gv):Prop where
 of:t.dn=false→may t.s.p t.s.c t.s.m=true∧0≤t.c∧t.c<t.s.c∧0≤t.pg∧t.pg<t.s.p∧there t.s.p t.s.c t.s.m t.a=true∧t.pg=sp t.s.p t.s.c t.s.m t.a∧0≤t.nx∧t.nx≤4
 bl:t.dn=false→t.nx≠0→t.ms=true∧t.blk∧U t.wd
 n2:t.dn=false→t.nx=2→t.pK=2∧∃ p,t.put=some p∧p.wf∧p.dn=false∧p.put=false∧p.s=t.s∧p.c=t.c
 n3:t.dn=false→t.nx=3→t.pK=2
 n4:t.dn=false→t.nx=4→t.pK=3∧0≤t.i∧t.i<t.pA
 n01:t.nx=0∨t.nx=1→t.put=none∧t.gv=false∧t.i=0
 n23:t.dn=false→t.nx=2∨t.nx=3∨t.nx=4→t.gv=true

variable {t:Gv} {w:Wd}
theorem step_dn (h:t.dn=true):t.step w=(t,w):=by unfold step;rw[h];rfl
theorem step_0 (h:t.dn=false) (h0:t.nx=0):t.step w=(t.look w,w.load t.c t.pat):=by unfold step;rw[h,h0];rfl
theorem step_1L (h:t.dn=false) (h0:t.nx=1) (hk:t.pK=3):t.step w=(t.claimL w,w.swap t.c t.pat t.wd (held t.c)):=by unfold step;rw[h,h0,hk];rfl
theorem step_1S (h:t.dn=false) (h0:t.nx=1) (hk:t.pK=2):t.step w=(t.claimS w,w.swap t.c t.sat (taken t.pA) (way t.c)):=by unfold step;rw[h,h0,hk];rfl
theorem step_2 (h:t.dn=false) (h0:t.nx=2) {p:Pu} (hp:t.put=some p):t.step w=(t.kept (p.step w).1,(p.step w).2):=by unfold step;rw[h,h0,hp];rfl
theorem step_3 (h:t.dn=false) (h0:t.nx=3):t.step w=({ t with dn:=true },w.store t.c t.sat (opn t.pA)):=by unfold step;rw[h,h0];rfl
theorem step_4l (h:t.dn=false) (h0:t.nx=4) (hi:t.i=t.pA - 1):t.step w=({ t with dn:=true },w.store t.c t.pat 0):=by
 unfold step;rw[h,h0];simp [hi]
theorem step_4m (h:t.dn=false) (h0:t.nx=4) (hi:t.i≠t.pA - 1):t.step w=({ t with i:=t.i+1 },w.store t.c (page t.s.p t.s.c t.s.m (t.pg+t.i+1)) 0):=by
 unfold step;rw[h,h0];simp [hi]
theorem step_cases (hwf:t.wf) (w:Wd):(t.dn=true∧t.step w=(t,w))∨(t.dn=false ∧
    ((t.nx=0∧t.step w=(t.look w,w.load t.c t.pat)) ∨
     (t.nx=1∧t.pK=3∧t.step w=(t.claimL w,w.swap t.c t.pat t.wd (held t.c))) ∨
     (t.nx=1∧t.pK=2∧t.step w=(t.claimS w,w.swap t.c t.sat (taken t.pA) (way t.c))) ∨
     (t.nx=2∧∃ p,t.put=some p∧p.wf∧p.dn=false∧p.put=false∧p.s=t.s∧p.c=t.c∧t.step w=(t.kept (p.step w).1,(p.step w).2)) ∨
     (t.nx=3∧t.step w=({ t with dn:=true },w.store t.c t.sat (opn t.pA))) ∨
     (t.nx=4∧t.i=t.pA - 1∧t.step w=({ t with dn:=true },w.store t.c t.pat 0)) ∨
     (t.nx=4∧t.i≠t.pA - 1∧t.step w=({ t with i:=t.i+1 },w.store t.c (page t.s.p t.s.c t.s.m (t.pg+t.i+1)) 0)))):=by
  rcases Bool.eq_false_or_eq_true t.dn with hd | hd
  · exact .inl ⟨hd,step_dn hd⟩
  · refine .inr ⟨hd,?_⟩
    have h1:=hwf.of hd
    rcases (by omega:t.nx=0∨t.nx=1∨t.nx=2∨t.nx=3∨t.nx=4) with e | e | e | e | e
    · exact .inl ⟨e,step_0 hd e⟩
    · rcases (hwf.bl hd (by omega)).2.1 with hb | hb
      · exact .inr (.inl ⟨e,hb.1,step_1L hd e hb.1⟩)
      · exact .inr (.inr (.inl ⟨e,hb.1,step_1S hd e hb.1⟩))
    · obtain⟨-,p,hp,h2,h3,h4,h5,h6⟩:=hwf.n2 hd e
      exact .inr (.inr (.inr (.inl ⟨e,p,hp,h2,h3,h4,h5,h6,step_2 hd e hp⟩)))
    · exact .inr (.inr (.inr (.inr (.inl ⟨e,step_3 hd e⟩))))
    · by_cases hi:t.i=t.pA - 1
      · exact .inr (.inr (.inr (.inr (.inr (.inl ⟨e,hi,step_4l hd e hi⟩)))))
      · exact .inr (.inr (.inr (.inr (.inr (.inr ⟨e,hi,step_4m hd e hi⟩)))))
theorem look_keeps (t:Gv) (w:Wd):(t.look w).s=t.s∧(t.look w).c=t.c∧(t.look w).a=t.a∧(t.look w).pg=t.pg:=by
 unfold look;split
 ·exact⟨rfl,rfl,rfl,rfl⟩
 ·split<;>exact⟨rfl,rfl,rfl,rfl⟩
theorem claimS_keeps (t:Gv) (w:Wd):(t.claimS w).s=t.s∧(t.claimS w).c=t.c∧(t.claimS w).a=t.a∧(t.claimS w).pg=t.pg:=by
 unfold claimS;split<;>exact⟨rfl,rfl,rfl,rfl⟩
theorem kept_keeps (t:Gv) (p:Pu):(t.kept p).s=t.s∧(t.kept p).c=t.c∧(t.kept p).a=t.a∧(t.kept p).pg=t.pg:=by
 unfold kept;split
 ·exact⟨rfl,rfl,rfl,rfl⟩
 ·split<;>exact⟨rfl,rfl,rfl,rfl⟩
theorem step_keeps (hwf:t.wf):(t.step w).1.s=t.s∧(t.step w).1.c=t.c∧(t.step w).1.a=t.a∧(t.step w).1.pg=t.pg:=by
 rcases step_cases hwf w with⟨-,e⟩|⟨-,⟨-,e⟩|⟨-,-,e⟩|⟨-,-,e⟩|⟨-,p,-,-,-,-,-,-,e⟩|⟨-,e⟩|⟨-,-,e⟩|⟨-,-,e⟩⟩<;>rw[e]
 ·exact⟨rfl,rfl,rfl,rfl⟩
 ·exact look_keeps t w
 ·exact⟨rfl,rfl,rfl,rfl⟩
 ·exact claimS_keeps t w
 ·exact kept_keeps t _
 all_goals exact⟨rfl,rfl,rfl,rfl⟩
theorem step_of (hwf:t.wf) {s:Sh} (h:w.of s):(t.step w).2.of s:=by
 rcases step_cases hwf w with⟨-,e⟩|⟨-,⟨-,e⟩|⟨-,-,e⟩|⟨-,-,e⟩|⟨-,p,-,-,-,-,-,-,e⟩|⟨-,e⟩|⟨-,-,e⟩|⟨-,-,e⟩⟩<;>rw[e]
 ·exact h
 ·exact Wd.of_load h _ _
 ·exact Wd.of_swap h (U_putPg ..) _ _ _
 ·exact Wd.of_swap h (U_putSl ..) _ _ _
 ·exact Pu.step_of h
 ·exact Wd.of_store h (U_putSl ..) _ _
 ·exact Wd.of_store h U_0 _ _
 ·exact Wd.of_store h U_0 _ _
theorem step_st (hwf:t.wf) (h0:0≤w.st) (h1:w.st≤1000000000):w.st≤(t.step w).2.st∧(t.step w).2.st≤w.st+1:=by
 have e0:w64 (w.st+1)=w.st+1:=w64_eq (by omega) (by omega)
 rcases step_cases hwf w with⟨-,e⟩|⟨-,⟨-,e⟩|⟨-,-,e⟩|⟨-,-,e⟩|⟨-,p,-,-,-,-,-,-,e⟩|⟨-,e⟩|⟨-,-,e⟩|⟨-,-,e⟩⟩<;>rw[e]
 ·exact⟨Int.le_refl _,by show w.st≤w.st+1;omega⟩
 ·show w.st≤w64 (w.st+1)∧w64 (w.st+1)≤w.st+1;omega
 ·show w.st≤w64 (w.st+1)∧w64 (w.st+1)≤w.st+1;omega
 ·show w.st≤w64 (w.st+1)∧w64 (w.st+1)≤w.st+1;omega
 ·exact Pu.step_st h0 h1
 all_goals (show w.st≤w64 (w.st+1)∧w64 (w.st+1)≤w.st+1;omega)
theorem new_wf (s:Sh) (c a:Int):(new s c a).wf:=by
 refine⟨fun hd=>?_,fun _ h=>absurd rfl h,fun _ h=>(by cases h),fun _ h=>(by cases h),fun _ h=>(by cases h),fun _=>⟨rfl,rfl,rfl⟩,fun _ h=>(by rcases h with h | h | h<;>cases h)⟩
 simp only[new,Bool.or_eq_false_iff,Bool.not_eq_false',decide_eq_false_iff_not]at hd
 obtain⟨h1,h2⟩:=hd
 have hm:may s.p s.c s.m=true:=by unfold there at h1;simp only[Bool.and_eq_true]at h1;exact h1.1
 have hb:=(may_iff _ _ _).1 hm
 have hst:0≤c∧c<s.c:=by
  unfold status within at h2
  rw[hm]at h2
  simp at h2
  omega
 have hth:0≤a∧a≤s.p*64 - 1:=by
  unfold there within at h1
  rw[hm]at h1
  simp at h1
  omega
 have hsp:sp s.p s.c s.m a=a / 64:=by unfold sp;rw[if_pos h1]
 exact⟨hm,hst.1,hst.2,by show 0≤sp s.p s.c s.m a;rw[hsp];omega,by show sp s.p s.c s.m a<s.p;rw[hsp];omega,h1,rfl,(by show(0:Int)≤0;decide),(by show(0:Int)≤4;decide)⟩
theorem ok_large {s:Sh} {q x:Int} (h:okPg s q x=true) (hk:pgK s q x=3):1≤pgA s q x∧pgA s q x≤8∧q+pgA s q x≤s.p∧pgB s q x=0:=by
 have hk':x % 16=3:=by unfold pgK at hk;rw[if_pos h]at hk;exact hk
 have ha:pgA s q x=pt x 16:=by unfold pgA;rw[if_pos h]
 have hb:pgB s q x=pt x 4096:=by unfold pgB;rw[if_pos h]
 unfold okPg at h
 simp only[Bool.and_eq_true,decide_eq_true_eq]at h
 obtain⟨h1,h2,h3⟩:=h
 rw[hk']at h3
 unfold fits at h3
 simp at h3
 rw[ha,hb]
 have h4:pt x 4096=0:=by
  unfold putPg at h1
  split at h1
  ·rename_i hc;exact hc.2.2.2.2.2.2.2 (by omega)
  ·rw[← h1]at hk';simp at hk'
 omega
theorem ok_super {s:Sh} {q x:Int} (h:okPg s q x=true) (hk:pgK s q x=2):0≤pgA s q x∧pgA s q x≤3∧0≤pgB s q x∧pgB s q x<s.c:=by
 have hk':x % 16=2:=by unfold pgK at hk;rw[if_pos h]at hk;exact hk
 have ha:pgA s q x=pt x 16:=by unfold pgA;rw[if_pos h]
 have hb:pgB s q x=pt x 4096:=by unfold pgB;rw[if_pos h]
 unfold okPg at h
 simp only[Bool.and_eq_true,decide_eq_true_eq]at h
 obtain⟨h1,h2,h3⟩:=h
 rw[hk']at h3
 unfold fits at h3
 simp at h3
 rw[ha,hb]
 have b1:0≤pt x 16:=by unfold pt;omega
 have b2:0≤pt x 4096:=by unfold pt;omega
 omega
theorem slot_of {o k:Int} (hk:0≤k∧k≤3) (ho:0≤o∧o<64):0≤o / size k∧o / size k<slots k:=by
 rcases (by omega:k=0∨k=1∨k=2∨k=3) with rfl | rfl | rfl | rfl<;>simp [size,slots]<;>omega
theorem off_bd (h:there t.s.p t.s.c t.s.m t.a=true):0≤t.off∧t.off<64:=by
 unfold off so;rw[if_pos h];omega
theorem step_wf (h:t.wf) (hw:∀ i,U (w.ws i)):(t.step w).1.wf:=by
 rcases step_cases h w with⟨-,e⟩|⟨hd,⟨hn,e⟩|⟨hn,hk,e⟩|⟨hn,hk,e⟩|⟨hn,p,hp,hpw,hpd,hpp,hps,hpc,e⟩|⟨hn,e⟩|⟨hn,hi,e⟩|⟨hn,hi,e⟩⟩<;>rw[e]
 ·exact h
 ·obtain⟨a1,a2,a3,a4,a5,a6,a7,-,-⟩:=h.of hd
  obtain⟨z1,z2,z3⟩:=h.n01 (.inl hn)
  have hob:=off_bd a6
  show(t.look w).wf
  unfold look
  split
  ·rename_i hL
   unfold isL at hL
   simp only[Bool.and_eq_true,decide_eq_true_eq]at hL
   have:=ok_large hL.1 hL.2.1
   exact⟨fun _=>⟨a1,a2,a3,a4,a5,a6,a7,(by show(0:Int)≤1;decide),(by show(1:Int)≤4;decide)⟩,fun _ _=>⟨rfl,.inl ⟨hL.2.1,this.1,this.2.1,this.2.2.1,this.2.2.2⟩,hw _⟩,fun _ h=>(by cases h),fun _ h=>(by cases h),fun _ h=>(by cases h),fun _=>⟨z1,z2,z3⟩,fun _ h=>(by rcases h with h | h | h<;>cases h)⟩
  ·split
   ·rename_i hS
    unfold isS at hS
    simp only[Bool.and_eq_true,decide_eq_true_eq]at hS
    have h1:=ok_super hS.1 hS.2.1
    have h2:=slot_of ⟨h1.1,h1.2.1⟩ hob
    exact⟨fun _=>⟨a1,a2,a3,a4,a5,a6,a7,(by show(0:Int)≤1;decide),(by show(1:Int)≤4;decide)⟩,fun _ _=>⟨rfl,.inr ⟨hS.2.1,h2.1,h2.2,h1.1,h1.2.1,h1.2.2.1,h1.2.2.2⟩,hw _⟩,fun _ h=>(by cases h),fun _ h=>(by cases h),fun _ h=>(by cases h),fun _=>⟨z1,z2,z3⟩,fun _ h=>(by rcases h with h | h | h<;>cases h)⟩
   ·exact⟨fun h=>by (cases h),fun h=>by (cases h),fun h=>by (cases h),fun h=>by (cases h),fun h=>by (cases h),fun _=>⟨z1,z2,z3⟩,fun h=>(by cases h)⟩
 ·obtain⟨a1,a2,a3,a4,a5,a6,a7,-,-⟩:=h.of hd
  obtain⟨b1,b2,b3⟩:=h.bl hd (by omega)
  have hb2:1≤t.pA:=by rcases b2 with b | b<;>omega
  have hz:=h.n01 (.inr hn)
  exact⟨fun _=>⟨a1,a2,a3,a4,a5,a6,a7,(by show(0:Int)≤4;decide),(by show(4:Int)≤4;decide)⟩,fun _ _=>⟨b1,b2,b3⟩,fun _ h=>(by cases h),fun _ h=>(by cases h),fun _ _=>⟨hk,by show 0≤t.i;omega,by show t.i<t.pA;omega⟩,fun h=>(by rcases h with h | h<;>cases h),
   fun hq _=>(by simpa [claimL] using hq)⟩
 ·obtain⟨a1,a2,a3,a4,a5,a6,a7,-,-⟩:=h.of hd
  obtain⟨b1,b2,b3⟩:=h.bl hd (by omega)
  show(t.claimS w).wf
  unfold claimS
  split
  ·rename_i hown
   have hpn:(if t.pnew.dn=true then(3:Int) else 2)=2→t.pnew.dn=false:=fun h2=>by
    cases hq:t.pnew.dn
    ·rfl
    ·rw[hq]at h2;simp at h2
   have hnx:(if t.pnew.dn=true then(3:Int) else 2)=3∨(if t.pnew.dn=true then(3:Int) else 2)=2:=by split<;>simp
   exact⟨fun _=>⟨a1,a2,a3,a4,a5,a6,a7,by show 0≤(if t.pnew.dn=true then(3:Int) else 2);omega,by show(if t.pnew.dn=true then(3:Int) else 2)≤4;omega⟩,fun _ _=>⟨b1,b2,b3⟩,
    fun _ h2=>⟨hk,t.pnew,rfl,Pu.new_wf ..,hpn h2,rfl,rfl,rfl⟩,
    fun _ _=>hk,fun _ h2=>(by have h2:(if t.pnew.dn=true then(3:Int) else 2)=4:=h2;omega),
    fun h2=>(by have h2:(if t.pnew.dn=true then(3:Int) else 2)=0∨(if t.pnew.dn=true then(3:Int) else 2)=1:=h2;omega),
    fun hq _=>(by simpa using hq)⟩
  ·exact⟨fun _=>⟨a1,a2,a3,a4,a5,a6,a7,(by show(0:Int)≤3;decide),(by show(3:Int)≤4;decide)⟩,fun _ _=>⟨b1,b2,b3⟩,fun _ h=>(by cases h),fun _ _=>hk,fun _ h=>(by cases h),fun h=>(by rcases h with h | h<;>cases h),
    fun hq _=>(by simpa using hq)⟩
 ·obtain⟨a1,a2,a3,a4,a5,a6,a7,-,-⟩:=h.of hd
  obtain⟨b1,b2,b3⟩:=h.bl hd (by omega)
  have hk:=(h.n2 hd hn).1
  have hg:=h.n23 hd (.inl hn)
  show(t.kept (p.step w).1).wf
  unfold kept
  split
  ·exact⟨fun h=>by (cases h),fun h=>by (cases h),fun h=>by (cases h),fun h=>by (cases h),fun h=>by (cases h),fun h2=>(by have h2:t.nx=0∨t.nx=1:=h2;omega),fun h=>(by cases h)⟩
  ·rename_i hput
   split
   ·exact⟨fun _=>⟨a1,a2,a3,a4,a5,a6,a7,(by show(0:Int)≤3;decide),(by show(3:Int)≤4;decide)⟩,fun _ _=>⟨b1,b2,b3⟩,fun _ h=>(by cases h),fun _ _=>hk,fun _ h=>(by cases h),fun h=>(by rcases h with h | h<;>cases h),fun _ _=>hg⟩
   ·rename_i hpdn
    exact⟨fun _=>⟨a1,a2,a3,a4,a5,a6,a7,by show 0≤t.nx;omega,by show t.nx≤4;omega⟩,fun _ _=>⟨b1,b2,b3⟩,
     fun _ _=>⟨hk,_,rfl,Pu.step_wf hpw,by simpa using hpdn,by simpa using hput,Pu.step_s.trans hps,Pu.step_c.trans hpc⟩,
     fun _ _=>hk,fun _ h2=>(by have h2:t.nx=4:=h2;omega),
     fun h2=>(by have h2:t.nx=0∨t.nx=1:=h2;omega),fun _ _=>hg⟩
 ·exact⟨fun h=>by (cases h),fun h=>by (cases h),fun h=>by (cases h),fun h=>by (cases h),fun h=>by (cases h),fun h2=>(by have h2:t.nx=0∨t.nx=1:=h2;omega),fun h=>(by cases h)⟩
 ·exact⟨fun h=>by (cases h),fun h=>by (cases h),fun h=>by (cases h),fun h=>by (cases h),fun h=>by (cases h),fun h2=>(by have h2:t.nx=0∨t.nx=1:=h2;omega),fun h=>(by cases h)⟩
 ·obtain⟨a1,a2,a3,a4,a5,a6,a7,-,-⟩:=h.of hd
  obtain⟨b1,b2,b3⟩:=h.bl hd (by omega)
  obtain⟨c1,c2,c3⟩:=h.n4 hd hn
  have hg:=h.n23 hd (.inr (.inr hn))
  exact⟨fun _=>⟨a1,a2,a3,a4,a5,a6,a7,by show 0≤t.nx;omega,by show t.nx≤4;omega⟩,fun _ _=>⟨b1,b2,b3⟩,fun _ h2=>(by have h2:t.nx=2:=h2;omega),fun _ h2=>(by have h2:t.nx=3:=h2;omega),fun _ _=>⟨c1,by show 0≤t.i+1;omega,by show t.i+1<t.pA;omega⟩,fun h2=>(by have h2:t.nx=0∨t.nx=1:=h2;omega),fun _ _=>hg⟩
def left (t:Gv):Int:=if t.dn then 0 else if t.nx=0 then t.s.m+13 else if t.nx=1 then t.s.m+12 else if t.nx=2 then(match t.put with | none=>0 | some p=>p.left)+2 else if t.nx=3 then 1 else t.pA - t.i
end Gv
end Go.Ma
