/-
 Who claims a row of pages, plain: its steps, what stays, how long it goes on. Conditions: none.
-/
import Derived.Test.YtbcdaglbdnkocaaGreatMaPS
import Derived.Test.YtbcdaglbdnkocaaGreatMaGive
set_option linter.unusedVariables false
set_option linter.unusedSimpArgs false
namespace Go.Ma
open Go.Pl

structure Rn where
 s:Sh
 c:Int
 n:Int
 hd:Int
 at':Int
 i:Int
 nx:Int
 st:Option St
 fd:Bool
 dn:Bool
 gx:Int
namespace Rn
def ok (s:Sh) (c n:Int):Bool:=decide (0≤status s.p s.c s.m c) && (decide (1≤n) && (decide (n≤8) && decide (n≤s.p)))
def new (s:Sh) (c n:Int):Rn:=⟨s,c,n,0,0,0,0,none,false,!ok s c n,0⟩
def pat (t:Rn):Int:=page t.s.p t.s.c t.s.m t.at'
def sat (t:Rn):Int:=slot t.s.p t.s.c t.s.m t.at' t.i
def bat (t:Rn):Int:=page t.s.p t.s.c t.s.m (t.i - 1)
def iat (t:Rn):Int:=page t.s.p t.s.c t.s.m t.i
def written (t:Rn):Rn:=if t.i+1=t.hd+t.n then { t with i:=t.i+1,fd:=true,dn:=true } else { t with i:=t.i+1 }
def own (t:Rn):Rn:=if t.at'+1=t.hd+t.n then { t with at':=t.at'+1,nx:=5,i:=t.hd }.written else { t with at':=t.at'+1,nx:=0 }
def gone (t:Rn):Rn:=if t.hd<t.i then t else { t with at':=t.at'+1,hd:=t.at'+1,nx:=0,dn:=decide (t.s.p - t.n<t.at'+1) }
def miss (t:Rn):Rn:={ t with nx:=4,i:=t.at',gx:=t.at'+1 }.gone
def isE (t:Rn) (x:Int):Bool:=okPg t.s t.at' x && decide (pgK t.s t.at' x=0)
def isS (t:Rn) (x:Int):Bool:=okPg t.s t.at' x && decide (pgK t.s t.at' x=2)
def snew (t:Rn) (x:Int):St:=St.new t.s t.c t.at' (pgA t.s t.at' x)
def look (t:Rn) (x:Int):Rn:=if t.isE x then { t with nx:=1 } else if t.isS x then { t with nx:=2,st:=some (t.snew x) } else t.miss
def claim (t:Rn) (x:Int):Rn:=if x=0 then t.own else t.miss
def outs (t:Rn) (q:St):Rn:=if q.hd then { t with st:=some q,nx:=3,i:=0 } else if q.dn then { t with st:=some q }.miss else { t with st:=some q }
def clear (t:Rn):Rn:=if t.i+1=16 then { t with i:=t.i+1 }.own else { t with i:=t.i+1 }
def step (t:Rn) (w:Wd):Rn×Wd:=
 if t.dn then(t,w) else
 if t.nx=0 then(t.look (w.get t.pat),w.load t.c t.pat) else
 if t.nx=1 then(t.claim (w.get t.pat),w.swap t.c t.pat 0 (held t.c)) else
 if t.nx=2 then(match t.st with | none=>(t,w) | some q=>(t.outs (q.step w).1,(q.step w).2)) else
 if t.nx=3 then(t.clear,w.store t.c t.sat 0) else
 if t.nx=4 then({ t with i:=t.i - 1 }.gone,w.store t.c t.bat 0) else
 (t.written,w.store t.c t.iat (putPg 4 t.hd 0))

def Ar (p c' c n hd at' i nx gx:Int):Prop:=
 0≤c∧c<c'∧1≤n∧n≤8∧0≤hd∧hd≤p - n∧hd≤at'∧0≤nx∧nx≤5∧(nx≤4→at'<hd+n)∧(nx=3→0≤i∧i<16)∧(nx=4→hd<i∧i≤at'∧gx=at'+1)∧(nx=5→at'=hd+n∧hd<i∧i<hd+n)
structure wf (t:Rn):Prop where
 of:t.dn=false→may t.s.p t.s.c t.s.m=true∧t.fd=false∧Ar t.s.p t.s.c t.c t.n t.hd t.at' t.i t.nx t.gx
 q:t.dn=false→t.nx=2→∃ q,t.st=some q∧q.wf∧q.dn=false∧q.s=t.s∧q.c=t.c∧q.p=t.at'∧q.hd=false
variable {t:Rn} {w:Wd}
theorem step_dn (h:t.dn=true):t.step w=(t,w):=by unfold step;rw[if_pos h]
theorem step_cases (h:t.wf) (w:Wd):(t.dn=true∧t.step w=(t,w))∨(t.dn=false ∧
    ((t.nx=0∧t.step w=(t.look (w.get t.pat),w.load t.c t.pat))∨(t.nx=1∧t.step w=(t.claim (w.get t.pat),w.swap t.c t.pat 0 (held t.c))) ∨
     (t.nx=2∧∃ q,t.st=some q∧q.wf∧q.dn=false∧q.s=t.s∧q.c=t.c∧q.p=t.at'∧t.step w=(t.outs (q.step w).1,(q.step w).2)) ∨
     (t.nx=3∧t.step w=(t.clear,w.store t.c t.sat 0))∨(t.nx=4∧t.step w=({ t with i:=t.i - 1 }.gone,w.store t.c t.bat 0)) ∨
     (t.nx=5∧t.step w=(t.written,w.store t.c t.iat (putPg 4 t.hd 0))))):=by
  by_cases hd:t.dn=true
  rotate_left
  · have hd:t.dn=false:=by simpa using hd
    right
    refine⟨hd,?_⟩
    obtain⟨-,-,a⟩:=h.of hd
    unfold Ar at a
    have hq:=h.q hd
    unfold step
    rw[if_neg (by rw[hd];decide)]
    rcases (by omega:t.nx=0∨t.nx=1∨t.nx=2∨t.nx=3∨t.nx=4∨t.nx=5) with e | e | e | e | e | e
    · exact .inl ⟨e,by rw[if_pos e]⟩
    · exact .inr (.inl ⟨e,by rw[if_neg (by omega),if_pos e]⟩)
    · obtain⟨q,h1,h2,h3,h4,h5,h6,-⟩:=hq e
      exact .inr (.inr (.inl ⟨e,q,h1,h2,h3,h4,h5,h6,by rw[if_neg (by omega),if_neg (by omega),if_pos e,h1]⟩))
    · exact .inr (.inr (.inr (.inl ⟨e,by rw[if_neg (by omega),if_neg (by omega),if_neg (by omega),if_pos e]⟩)))
    · exact .inr (.inr (.inr (.inr (.inl ⟨e,by rw[if_neg (by omega),if_neg (by omega),if_neg (by omega),if_neg (by omega),if_pos e]⟩))))
    · exact .inr (.inr (.inr (.inr (.inr ⟨e,by rw[if_neg (by omega),if_neg (by omega),if_neg (by omega),if_neg (by omega),if_neg (by omega)]⟩))))
  · left;exact⟨hd,step_dn hd⟩

/-! ### Who it is stays -/
def K (t u:Rn):Prop:=u.s=t.s∧u.c=t.c∧u.n=t.n
theorem written_k (t:Rn):K t t.written:=by unfold written;split<;>exact⟨rfl,rfl,rfl⟩
theorem own_k (t:Rn):K t t.own:=by
 unfold own;split
 ·exact written_k { t with at':=t.at'+1,nx:=5,i:=t.hd }
 ·exact⟨rfl,rfl,rfl⟩
theorem gone_k (t:Rn):K t t.gone:=by unfold gone;split<;>exact⟨rfl,rfl,rfl⟩
theorem miss_k (t:Rn):K t t.miss:=gone_k { t with nx:=4,i:=t.at',gx:=t.at'+1 }
theorem look_k (t:Rn) (x:Int):K t (t.look x):=by
 unfold look;split
 ·exact⟨rfl,rfl,rfl⟩
 ·split
  ·exact⟨rfl,rfl,rfl⟩
  ·exact miss_k t
theorem claim_k (t:Rn) (x:Int):K t (t.claim x):=by unfold claim;split;exact own_k t;exact miss_k t
theorem outs_k (t:Rn) (q:St):K t (t.outs q):=by
 unfold outs;split
 ·exact⟨rfl,rfl,rfl⟩
 ·split
  ·exact miss_k { t with st:=some q }
  ·exact⟨rfl,rfl,rfl⟩
theorem clear_k (t:Rn):K t t.clear:=by
 unfold clear;split
 ·exact own_k { t with i:=t.i+1 }
 ·exact⟨rfl,rfl,rfl⟩
theorem step_k (h:t.wf) (w:Wd):K t (t.step w).1:=by
 rcases step_cases h w with⟨-,e⟩|⟨-,⟨-,e⟩|⟨-,e⟩|⟨-,q,-,-,-,-,-,-,e⟩|⟨-,e⟩|⟨-,e⟩|⟨-,e⟩⟩<;>rw[e]
 ·exact⟨rfl,rfl,rfl⟩
 ·exact look_k ..
 ·exact claim_k ..
 ·exact outs_k ..
 ·exact clear_k ..
 ·exact gone_k { t with i:=t.i - 1 }
 ·exact written_k ..
theorem step_of (h:t.wf) {s:Sh} (ho:w.of s):(t.step w).2.of s:=by
 rcases step_cases h w with⟨-,e⟩|⟨-,⟨-,e⟩|⟨-,e⟩|⟨-,q,-,-,-,-,-,-,e⟩|⟨-,e⟩|⟨-,e⟩|⟨-,e⟩⟩<;>rw[e]
 ·exact ho
 ·exact Wd.of_load ho _ _
 ·exact Wd.of_swap ho (U_held _) _ _ _
 ·exact St.step_of ho
 ·exact Wd.of_store ho U_0 _ _
 ·exact Wd.of_store ho U_0 _ _
 ·exact Wd.of_store ho (U_putPg ..) _ _
/-! ### What stays -/
theorem new_wf (s:Sh) (c n:Int):(new s c n).wf:=by
 refine⟨fun hd=>?_,fun _ h=>(by cases h)⟩
 have hd:(!ok s c n)=false:=hd
 unfold ok at hd
 simp only[Bool.not_eq_false',Bool.and_eq_true,decide_eq_true_eq]at hd
 obtain⟨h1,h2,h3,h4⟩:=hd
 have hst:¬ status s.p s.c s.m c<0:=by omega
 rw[status_lt0]at hst
 have hst:=Classical.not_not.1 hst
 refine⟨hst.1,rfl,?_⟩
 show Ar s.p s.c c n 0 0 0 0 0
 unfold Ar
 omega
theorem written_wf (hm:may t.s.p t.s.c t.s.m=true) (hf:t.fd=false) (hn:t.nx=5) (a:0≤t.c∧t.c<t.s.c∧1≤t.n∧t.n≤8∧0≤t.hd∧t.hd≤t.s.p - t.n∧t.at'=t.hd+t.n∧t.hd≤t.i∧t.i<t.hd+t.n):t.written.wf:=by
 unfold written
 split
 ·exact⟨fun h=>(by cases h),fun h=>(by cases h)⟩
 ·rename_i hne
  refine⟨fun _=>⟨hm,hf,?_⟩,fun _ h=>(by have h:t.nx=2:=h;omega)⟩
  show Ar t.s.p t.s.c t.c t.n t.hd t.at' (t.i+1) t.nx t.gx
  unfold Ar
  omega
theorem own_wf (hm:may t.s.p t.s.c t.s.m=true) (hf:t.fd=false) (hd:t.dn=false) (a:0≤t.c∧t.c<t.s.c∧1≤t.n∧t.n≤8∧0≤t.hd∧t.hd≤t.s.p - t.n∧t.hd≤t.at'∧t.at'<t.hd+t.n):t.own.wf:=by
 unfold own
 split
 ·refine written_wf (t:={ t with at':=t.at'+1,nx:=5,i:=t.hd }) hm hf rfl ?_
  show 0≤t.c∧t.c<t.s.c∧1≤t.n∧t.n≤8∧0≤t.hd∧t.hd≤t.s.p - t.n∧t.at'+1=t.hd+t.n∧t.hd≤t.hd∧t.hd<t.hd+t.n
  omega
 ·refine⟨fun _=>⟨hm,hf,?_⟩,fun _ h=>(by cases h)⟩
  show Ar t.s.p t.s.c t.c t.n t.hd (t.at'+1) t.i 0 t.gx
  unfold Ar
  omega
theorem gone_wf (hm:may t.s.p t.s.c t.s.m=true) (hf:t.fd=false) (hn:t.nx=4) (a:0≤t.c∧t.c<t.s.c∧1≤t.n∧t.n≤8∧0≤t.hd∧t.hd≤t.s.p - t.n∧t.hd≤t.at'∧t.at'<t.hd+t.n∧t.i≤t.at'∧t.gx=t.at'+1):t.gone.wf:=by
 unfold gone
 split
 ·refine⟨fun _=>⟨hm,hf,?_⟩,fun _ h=>(by have h:t.nx=2:=h;omega)⟩
  unfold Ar
  omega
 ·refine⟨fun h=>⟨hm,hf,?_⟩,fun _ h=>(by cases h)⟩
  have h:¬ t.s.p - t.n<t.at'+1:=by simpa using h
  show Ar t.s.p t.s.c t.c t.n (t.at'+1) (t.at'+1) t.i 0 t.gx
  unfold Ar
  omega
theorem miss_wf (hm:may t.s.p t.s.c t.s.m=true) (hf:t.fd=false) (a:0≤t.c∧t.c<t.s.c∧1≤t.n∧t.n≤8∧0≤t.hd∧t.hd≤t.s.p - t.n∧t.hd≤t.at'∧t.at'<t.hd+t.n):t.miss.wf:=by
 refine gone_wf (t:={ t with nx:=4,i:=t.at',gx:=t.at'+1 }) hm hf rfl ?_
 show 0≤t.c∧t.c<t.s.c∧1≤t.n∧t.n≤8∧0≤t.hd∧t.hd≤t.s.p - t.n∧t.hd≤t.at'∧t.at'<t.hd+t.n∧t.at'≤t.at'∧t.at'+1=t.at'+1
 omega
theorem snew_dn (hm:may t.s.p t.s.c t.s.m=true) (hc:0≤t.c∧t.c<t.s.c) (ha:0≤t.at'∧t.at'<t.s.p) {x:Int} (hS:t.isS x=true):(t.snew x).dn=false:=by
 unfold isS at hS
 simp only[Bool.and_eq_true,decide_eq_true_eq]at hS
 have h1:=Gv.ok_super hS.1 hS.2
 have h2:=Gv.slot_of (o:=0) (k:=pgA t.s t.at' x) ⟨h1.1,h1.2.1⟩ ⟨by decide,by decide⟩
 have h3:(0:Int) / size (pgA t.s t.at' x)=0:=Int.zero_ediv _
 have h4:page t.s.p t.s.c t.s.m t.at'=t.s.c+t.at':=page_yes hm ha.1 ha.2
 have h5:¬ status t.s.p t.s.c t.s.m t.c<0:=by rw[status_lt0];exact fun h=>h ⟨hm,hc.1,hc.2⟩
 have hb:=(may_iff _ _ _).1 hm
 show(!(good t.s t.c (pgA t.s t.at' x) && decide (0≤page t.s.p t.s.c t.s.m t.at')))=false
 unfold good
 rw[decide_eq_true (by omega:0≤status t.s.p t.s.c t.s.m t.c),decide_eq_true (by omega:0<slots (pgA t.s t.at' x)),decide_eq_true (by omega:0≤page t.s.p t.s.c t.s.m t.at')]
 rfl
theorem step_wf (h:t.wf) (w:Wd):(t.step w).1.wf:=by
 rcases step_cases h w with⟨-,e⟩|⟨hd,⟨hn,e⟩|⟨hn,e⟩|⟨hn,q,hq,hqw,hqd,hqs,hqc,hqp,e⟩|⟨hn,e⟩|⟨hn,e⟩|⟨hn,e⟩⟩<;>rw[e]
 ·exact h
 all_goals
  obtain⟨hm,hf,a⟩:=h.of hd
  have hb:=(may_iff _ _ _).1 hm
  have a0:=a
  unfold Ar at a
 ·show(t.look _).wf
  unfold look
  split
  ·refine⟨fun _=>⟨hm,hf,?_⟩,fun _ h=>(by cases h)⟩
   show Ar t.s.p t.s.c t.c t.n t.hd t.at' t.i 1 t.gx
   unfold Ar;omega
  ·split
   ·rename_i hS
    refine⟨fun _=>⟨hm,hf,?_⟩,fun _ _=>⟨_,rfl,St.new_wf ..,snew_dn hm (by omega) (by omega) hS,rfl,rfl,rfl,rfl⟩⟩
    show Ar t.s.p t.s.c t.c t.n t.hd t.at' t.i 2 t.gx
    unfold Ar;omega
   ·exact miss_wf hm hf (by omega)
 ·show(t.claim _).wf
  unfold claim
  split
  ·exact own_wf hm hf hd (by omega)
  ·exact miss_wf hm hf (by omega)
 ·show(t.outs _).wf
  unfold outs
  split
  ·refine⟨fun _=>⟨hm,hf,?_⟩,fun _ h=>(by cases h)⟩
   show Ar t.s.p t.s.c t.c t.n t.hd t.at' 0 3 t.gx
   unfold Ar;omega
  ·rename_i hh
   split
   ·exact miss_wf (t:={ t with st:=some (q.step w).1 }) hm hf (by show 0≤t.c∧t.c<t.s.c∧1≤t.n∧t.n≤8∧0≤t.hd∧t.hd≤t.s.p - t.n∧t.hd≤t.at'∧t.at'<t.hd+t.n;omega)
   ·rename_i hdq
    refine⟨fun _=>⟨hm,hf,a0⟩,fun _ _=>⟨_,rfl,St.step_wf hqw,by simpa using hdq,St.step_s.trans hqs,St.step_c.trans hqc,St.step_p.trans hqp,by simpa using hh⟩⟩
 ·show t.clear.wf
  unfold clear
  split
  ·exact own_wf (t:={ t with i:=t.i+1 }) hm hf hd (by show 0≤t.c∧t.c<t.s.c∧1≤t.n∧t.n≤8∧0≤t.hd∧t.hd≤t.s.p - t.n∧t.hd≤t.at'∧t.at'<t.hd+t.n;omega)
  ·refine⟨fun _=>⟨hm,hf,?_⟩,fun _ h=>(by have h:t.nx=2:=h;omega)⟩
   show Ar t.s.p t.s.c t.c t.n t.hd t.at' (t.i+1) t.nx t.gx
   unfold Ar;omega
 ·exact gone_wf (t:={ t with i:=t.i - 1 }) hm hf hn (by show 0≤t.c∧t.c<t.s.c∧1≤t.n∧t.n≤8∧0≤t.hd∧t.hd≤t.s.p - t.n∧t.hd≤t.at'∧t.at'<t.hd+t.n∧t.i - 1≤t.at'∧t.gx=t.at'+1;omega)
 ·exact written_wf hm hf hn (by omega)

/-! ### How long -/
def lf (p n hd at' i nx q:Int):Int:=
 if nx=0 then 60*(p - at')+(at' - hd)+8 else if nx=1 then 60*(p - at')+(at' - hd)+7 else if nx=2 then 60*(p - at')+(at' - hd) - 34+q else
 if nx=3 then 60*(p - at')+(at' - hd) - 35 - i else if nx=4 then 60*(p - at' - 1)+(i - hd)+8 else hd+n - i
def left (t:Rn):Int:=if t.dn then 0 else lf t.s.p t.n t.hd t.at' t.i t.nx (match t.st with | none=>0 | some q=>q.left)
end Rn
end Go.Ma
