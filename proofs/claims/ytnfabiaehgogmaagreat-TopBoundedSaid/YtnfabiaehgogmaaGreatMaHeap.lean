/-
 Who adopts: alone, two at once, in parts. Conditions: none.
-/
import Derived.Test.YtnfabiaehgogmaaGreatMaB
import Derived.Test.YtnfabiaehgogmaaGreatMaA
set_option linter.unusedVariables false
set_option linter.unusedSimpArgs false
namespace Go.Ma
open Go.Pl

def putSt (k b:Int):Int:=if 0≤k∧k≤4∧0≤b∧b≤255∧(k≠3→b=0) then k+16*b else 0
def stK (w:Int):Int:=if putSt (w % 16) (pt w 16)=w then w % 16 else 0
def stB (w:Int):Int:=if putSt (w % 16) (pt w 16)=w then pt w 16 else 0
theorem U_putSt (k b:Int):U (putSt k b):=by unfold putSt U;split<;>omega
theorem stB_bd (w:Int):0≤stB w∧stB w≤255:=by unfold stB pt;split<;>omega
structure Ad where
 s:Sh
 c:Int
 d:Int
 nx:Int
 was:Int
 by':Int
 at':Int
 i:Int
 pK:Int
 pA:Int
 pB:Int
 err:Int
 dn:Bool
 di:Int
 qK:Int
 qA:Int
 qB:Int
namespace Ad
def bad (s:Sh) (c d:Int):Bool:=decide (status s.p s.c s.m c<0) || (decide (status s.p s.c s.m d<0) || decide (c=d))
def new (s:Sh) (c d:Int):Ad:=⟨s,c,d,0,0,0,0,0,0,0,0,if bad s c d then 1 else 0,bad s c d,0,0,0,0⟩
def pat (t:Ad):Int:=page t.s.p t.s.c t.s.m t.at'
def hat (t:Ad):Int:=page t.s.p t.s.c t.s.m t.pA
def sat (t:Ad):Int:=slot t.s.p t.s.c t.s.m t.at' t.i
def dat (t:Ad):Int:=status t.s.p t.s.c t.s.m t.d
def bat (t:Ad):Int:=status t.s.p t.s.c t.s.m t.by'
def mat (t:Ad):Int:=mag t.s.p t.s.c t.s.m t.d t.i
def fin (t:Ad) (e:Int):Ad:={ t with err:=e,dn:=true }
def turn (t:Ad) (again next:Int):Ad:=
 if t.at'+1=t.s.p then { t with at':=0,i:=0,di:=0,nx:=if next=9∧t.s.m=0 then 10 else next } else { t with at':=t.at'+1,nx:=again }
def ask (t:Ad) (x:Int):Ad:=
 if stK x=2 then { t with was:=x,nx:=2 } else if stK x=3 then
  (if status t.s.p t.s.c t.s.m (stB x)<0 then { t with was:=x,err:=4,dn:=true } else { t with was:=x,by':=stB x,nx:=1,di:=stB x })
 else { t with was:=x,err:=5,dn:=true }
def other (t:Ad) (x:Int):Ad:=if stK x=1 then { t with nx:=2,err:=4,dn:=true } else { t with nx:=2 }
def claim (t:Ad) (x:Int):Ad:=if x=t.was then { t with nx:=3,di:=0 } else { t with nx:=3,di:=0,err:=4,dn:=true }
def own (t:Ad) (q x:Int):Bool:=okPg t.s q x && (decide (pgK t.s q x=1) && decide (pgA t.s q x=t.d))
def read (t:Ad) (x:Int):Ad:={ t with pK:=pgK t.s t.at' x,pA:=pgA t.s t.at' x,pB:=pgB t.s t.at' x }
def readQ (t:Ad) (x:Int):Ad:={ t with pK:=pgK t.s t.at' x,pA:=pgA t.s t.at' x,pB:=pgB t.s t.at' x,qK:=pgK t.s t.at' x,qA:=pgA t.s t.at' x,qB:=pgB t.s t.at' x }
def isB (t:Ad) (x:Int):Bool:=okPg t.s t.at' x && decide (pgK t.s t.at' x=4)
def isS (t:Ad) (x:Int):Bool:=okPg t.s t.at' x && decide (pgK t.s t.at' x=2)
def bodies (t:Ad) (x:Int):Ad:=if t.isB x then { t.readQ x with nx:=4 } else(t.read x).turn 3 6
def head (t:Ad) (x:Int):Ad:=if t.own t.pA x then { t with nx:=5 } else t.turn 3 6
def pages (t:Ad) (x:Int):Ad:=if t.own t.at' x then { t with nx:=7,i:=0,di:=0 } else t.turn 6 9
def clear (t:Ad):Ad:={ t with i:=t.i+1,di:=t.di+1,nx:=if t.i+1=16 then 8 else 7 }
def entry (t:Ad):Ad:=if t.i+1=t.s.m then { t with i:=0,di:=0,nx:=10 } else { t with i:=t.i+1,di:=t.di+1 }
def supers (t:Ad) (x:Int):Ad:=if t.isS x then { t.readQ x with nx:=11,i:=0,di:=0 } else(t.read x).turn 10 13
def slot (t:Ad):Ad:=if t.i+1=slots t.pA then { t with i:=0,di:=t.di+1,nx:=11 }.turn 10 13 else { t with i:=t.i+1,di:=t.di+1,nx:=11 }
def slots' (t:Ad) (x:Int):Ad:=if x=way t.d then { t with nx:=12 } else t.slot
def step (t:Ad) (w:Wd):Ad×Wd:=
 if t.dn then(t,w) else
 if t.nx=0 then(t.ask (w.get t.dat),w.load t.c t.dat) else
 if t.nx=1 then(t.other (w.get t.bat),w.load t.c t.bat) else
 if t.nx=2 then(t.claim (w.get t.dat),w.swap t.c t.dat t.was (putSt 3 t.c)) else
 if t.nx=3 then(t.bodies (w.get t.pat),w.load t.c t.pat) else
 if t.nx=4 then(t.head (w.get t.hat),w.load t.c t.hat) else
 if t.nx=5 then(t.turn 3 6,w.store t.c t.pat 0) else
 if t.nx=6 then(t.pages (w.get t.pat),w.load t.c t.pat) else
 if t.nx=7 then(t.clear,w.store t.c t.sat 0) else
 if t.nx=8 then(t.turn 6 9,w.store t.c t.pat 0) else
 if t.nx=9 then(t.entry,w.store t.c t.mat 0) else
 if t.nx=10 then(t.supers (w.get t.pat),w.load t.c t.pat) else
 if t.nx=11 then(t.slots' (w.get t.sat),w.load t.c t.sat) else
 if t.nx=12 then(t.slot,w.store t.c t.sat (opn t.pA)) else
 (t.fin 0,w.store t.c t.dat (putSt 4 0))

def Ar (p c' m c d nx b at' i pA di qA sl:Int):Prop:=
 0≤c∧c<c'∧0≤d∧d<c'∧0≤nx∧nx≤13∧0≤at'∧at'<p∧0≤i∧i≤16∧(nx=1→0≤b∧b<c'∧di=b)∧(nx=4→0≤pA∧pA<at'∧qA=pA)∧(nx=7→i<16∧di=i) ∧
  (nx=8→i=16∧di=16)∧(nx=9→i<m∧di=i)∧(nx=11∨nx=12→i<sl∧di=i∧0≤pA∧pA≤3∧qA=pA)∧(nx≤3∧at'=0→i=0)∧(nx≤2→at'=0)∧0≤di∧di≤255
structure wf (t:Ad):Prop where
 of:t.dn=false→may t.s.p t.s.c t.s.m=true∧t.err=0∧t.c≠t.d∧Ar t.s.p t.s.c t.s.m t.c t.d t.nx t.by' t.at' t.i t.pA t.di t.qA (slots t.pA)
variable {t:Ad} {w:Wd}
theorem new_wf (s:Sh) (c d:Int):(new s c d).wf:=by
 refine⟨fun hd=>?_⟩
 have hd:bad s c d=false:=hd
 have hb:=hd
 unfold bad at hb
 simp only[Bool.or_eq_false_iff,decide_eq_false_iff_not]at hb
 obtain⟨h1,h2,h3⟩:=hb
 rw[status_lt0]at h1 h2
 have h1:=Classical.not_not.1 h1
 have h2:=Classical.not_not.1 h2
 have hm:=(may_iff _ _ _).1 h1.1
 refine⟨h1.1,by show(if bad s c d=true then(1:Int) else 0)=0;rw[hd];rfl,h3,?_⟩
 show Ar s.p s.c s.m c d 0 0 0 0 0 0 0 (slots 0)
 unfold Ar
 omega
theorem turn_wf {again next:Int} (hm:may t.s.p t.s.c t.s.m=true) (he:t.err=0) (hcd:t.c≠t.d) (hc:0≤t.c∧t.c<t.s.c) (hd:0≤t.d∧t.d<t.s.c) (ha:0≤t.at'∧t.at'<t.s.p) (hi:0≤t.i∧t.i≤16) (hdi:0≤t.di∧t.di≤255)
  (h1:again=3∨again=6∨again=10) (h2:next=6∨next=9∨next=13):(t.turn again next).wf:=by
 have hb:=(may_iff _ _ _).1 hm
 unfold turn
 split
 ·refine⟨fun _=>⟨hm,he,hcd,?_⟩⟩
  have h3:(if next=9∧t.s.m=0 then(10:Int) else next)=6∨(if next=9∧t.s.m=0 then(10:Int) else next)=10∨(if next=9∧t.s.m=0 then(10:Int) else next)=13∨((if next=9∧t.s.m=0 then(10:Int) else next)=9∧t.s.m≠0):=by
   split<;>omega
  show Ar t.s.p t.s.c t.s.m t.c t.d (if next=9∧t.s.m=0 then(10:Int) else next) t.by' 0 0 t.pA 0 t.qA (slots t.pA)
  unfold Ar
  omega
 ·refine⟨fun _=>⟨hm,he,hcd,?_⟩⟩
  show Ar t.s.p t.s.c t.s.m t.c t.d again t.by' (t.at'+1) t.i t.pA t.di t.qA (slots t.pA)
  unfold Ar
  omega
theorem slot_wf (hm:may t.s.p t.s.c t.s.m=true) (he:t.err=0) (hcd:t.c≠t.d) (hc:0≤t.c∧t.c<t.s.c) (hd:0≤t.d∧t.d<t.s.c) (ha:0≤t.at'∧t.at'<t.s.p) (hi:0≤t.i∧t.i<slots t.pA∧t.di=t.i∧0≤t.pA∧t.pA≤3∧t.qA=t.pA):t.slot.wf:=by
 have sb:=slots_bd t.pA
 unfold slot
 split
 ·exact turn_wf (t:={ t with i:=0,di:=t.di+1,nx:=11 }) hm he hcd hc hd ha ⟨Int.le_refl _,by show(0:Int)≤16;decide⟩ ⟨by show 0≤t.di+1;omega,by show t.di+1≤255;omega⟩ (.inr (.inr rfl)) (.inr (.inr rfl))
 ·refine⟨fun _=>⟨hm,he,hcd,?_⟩⟩
  show Ar t.s.p t.s.c t.s.m t.c t.d 11 t.by' t.at' (t.i+1) t.pA (t.di+1) t.qA (slots t.pA)
  unfold Ar
  omega
theorem step_dn (h:t.dn=true):t.step w=(t,w):=by unfold step;rw[if_pos h]
theorem s0 (hd:t.dn=false) (hn:t.nx=0):t.step w=(t.ask (w.get t.dat),w.load t.c t.dat):=by
 unfold step;rw[if_neg (by rw[hd];decide),if_pos hn]
theorem s1 (hd:t.dn=false) (hn:t.nx=1):t.step w=(t.other (w.get t.bat),w.load t.c t.bat):=by
 unfold step;rw[if_neg (by rw[hd];decide),if_neg (by omega),if_pos hn]
theorem s2 (hd:t.dn=false) (hn:t.nx=2):t.step w=(t.claim (w.get t.dat),w.swap t.c t.dat t.was (putSt 3 t.c)):=by
 unfold step;rw[if_neg (by rw[hd];decide),if_neg (by omega),if_neg (by omega),if_pos hn]
theorem s3 (hd:t.dn=false) (hn:t.nx=3):t.step w=(t.bodies (w.get t.pat),w.load t.c t.pat):=by
 unfold step;rw[if_neg (by rw[hd];decide),if_neg (by omega),if_neg (by omega),if_neg (by omega),if_pos hn]
theorem s4 (hd:t.dn=false) (hn:t.nx=4):t.step w=(t.head (w.get t.hat),w.load t.c t.hat):=by
 unfold step;rw[if_neg (by rw[hd];decide),if_neg (by omega),if_neg (by omega),if_neg (by omega),if_neg (by omega),if_pos hn]
theorem s5 (hd:t.dn=false) (hn:t.nx=5):t.step w=(t.turn 3 6,w.store t.c t.pat 0):=by
 unfold step;rw[if_neg (by rw[hd];decide),if_neg (by omega),if_neg (by omega),if_neg (by omega),if_neg (by omega),if_neg (by omega),if_pos hn]
theorem s6 (hd:t.dn=false) (hn:t.nx=6):t.step w=(t.pages (w.get t.pat),w.load t.c t.pat):=by
 unfold step;rw[if_neg (by rw[hd];decide),if_neg (by omega),if_neg (by omega),if_neg (by omega),if_neg (by omega),if_neg (by omega),if_neg (by omega),if_pos hn]
theorem s7 (hd:t.dn=false) (hn:t.nx=7):t.step w=(t.clear,w.store t.c t.sat 0):=by
 unfold step;rw[if_neg (by rw[hd];decide),if_neg (by omega),if_neg (by omega),if_neg (by omega),if_neg (by omega),if_neg (by omega),if_neg (by omega),if_neg (by omega),if_pos hn]
theorem s8 (hd:t.dn=false) (hn:t.nx=8):t.step w=(t.turn 6 9,w.store t.c t.pat 0):=by
 unfold step;rw[if_neg (by rw[hd];decide),if_neg (by omega),if_neg (by omega),if_neg (by omega),if_neg (by omega),if_neg (by omega),if_neg (by omega),if_neg (by omega),if_neg (by omega),if_pos hn]
theorem s9 (hd:t.dn=false) (hn:t.nx=9):t.step w=(t.entry,w.store t.c t.mat 0):=by
 unfold step;rw[if_neg (by rw[hd];decide),if_neg (by omega),if_neg (by omega),if_neg (by omega),if_neg (by omega),if_neg (by omega),if_neg (by omega),if_neg (by omega),if_neg (by omega),if_neg (by omega),if_pos hn]
theorem s10 (hd:t.dn=false) (hn:t.nx=10):t.step w=(t.supers (w.get t.pat),w.load t.c t.pat):=by
 unfold step;rw[if_neg (by rw[hd];decide),if_neg (by omega),if_neg (by omega),if_neg (by omega),if_neg (by omega),if_neg (by omega),if_neg (by omega),if_neg (by omega),if_neg (by omega),if_neg (by omega),if_neg (by omega),if_pos hn]
theorem s11 (hd:t.dn=false) (hn:t.nx=11):t.step w=(t.slots' (w.get t.sat),w.load t.c t.sat):=by
 unfold step;rw[if_neg (by rw[hd];decide),if_neg (by omega),if_neg (by omega),if_neg (by omega),if_neg (by omega),if_neg (by omega),if_neg (by omega),if_neg (by omega),if_neg (by omega),if_neg (by omega),if_neg (by omega),if_neg (by omega),if_pos hn]
theorem s12 (hd:t.dn=false) (hn:t.nx=12):t.step w=(t.slot,w.store t.c t.sat (opn t.pA)):=by
 unfold step;rw[if_neg (by rw[hd];decide),if_neg (by omega),if_neg (by omega),if_neg (by omega),if_neg (by omega),if_neg (by omega),if_neg (by omega),if_neg (by omega),if_neg (by omega),if_neg (by omega),if_neg (by omega),if_neg (by omega),if_neg (by omega),if_pos hn]
theorem s13 (hd:t.dn=false) (hn:t.nx=13):t.step w=(t.fin 0,w.store t.c t.dat (putSt 4 0)):=by
 unfold step;rw[if_neg (by rw[hd];decide),if_neg (by omega),if_neg (by omega),if_neg (by omega),if_neg (by omega),if_neg (by omega),if_neg (by omega),if_neg (by omega),if_neg (by omega),if_neg (by omega),if_neg (by omega),if_neg (by omega),if_neg (by omega),if_neg (by omega)]
theorem step_cases (t:Ad) (w:Wd):(t.dn=true∧t.step w=(t,w))∨(t.dn=false ∧
    ((t.nx=0∧t.step w=(t.ask (w.get t.dat),w.load t.c t.dat)) ∨
     (t.nx=1∧t.step w=(t.other (w.get t.bat),w.load t.c t.bat)) ∨
     (t.nx=2∧t.step w=(t.claim (w.get t.dat),w.swap t.c t.dat t.was (putSt 3 t.c))) ∨
     (t.nx=3∧t.step w=(t.bodies (w.get t.pat),w.load t.c t.pat)) ∨
     (t.nx=4∧t.step w=(t.head (w.get t.hat),w.load t.c t.hat)) ∨
     (t.nx=5∧t.step w=(t.turn 3 6,w.store t.c t.pat 0)) ∨
     (t.nx=6∧t.step w=(t.pages (w.get t.pat),w.load t.c t.pat)) ∨
     (t.nx=7∧t.step w=(t.clear,w.store t.c t.sat 0)) ∨
     (t.nx=8∧t.step w=(t.turn 6 9,w.store t.c t.pat 0)) ∨
     (t.nx=9∧t.step w=(t.entry,w.store t.c t.mat 0)) ∨
     (t.nx=10∧t.step w=(t.supers (w.get t.pat),w.load t.c t.pat)) ∨
     (t.nx=11∧t.step w=(t.slots' (w.get t.sat),w.load t.c t.sat)) ∨
     (t.nx=12∧t.step w=(t.slot,w.store t.c t.sat (opn t.pA))) ∨
     ((t.nx<0∨12<t.nx)∧t.step w=(t.fin 0,w.store t.c t.dat (putSt 4 0))))):=by
  by_cases hd:t.dn=true
  · exact .inl ⟨hd,step_dn hd⟩
  have hd:t.dn=false:=by simpa using hd
  refine .inr ⟨hd,?_⟩
  unfold step
  rw[if_neg (by rw[hd];decide)]
  by_cases e0:t.nx=0
  · exact .inl ⟨e0,by rw[if_pos e0]⟩
  by_cases e1:t.nx=1
  · exact .inr (.inl ⟨e1,by rw[if_neg (by omega),if_pos e1]⟩)
  by_cases e2:t.nx=2
  · exact .inr (.inr (.inl ⟨e2,by rw[if_neg (by omega),if_neg (by omega),if_pos e2]⟩))
  by_cases e3:t.nx=3
  · exact .inr (.inr (.inr (.inl ⟨e3,by rw[if_neg (by omega),if_neg (by omega),if_neg (by omega),if_pos e3]⟩)))
  by_cases e4:t.nx=4
  · exact .inr (.inr (.inr (.inr (.inl ⟨e4,by rw[if_neg (by omega),if_neg (by omega),if_neg (by omega),if_neg (by omega),if_pos e4]⟩))))
  by_cases e5:t.nx=5
  · exact .inr (.inr (.inr (.inr (.inr (.inl ⟨e5,by rw[if_neg (by omega),if_neg (by omega),if_neg (by omega),if_neg (by omega),if_neg (by omega),if_pos e5]⟩)))))
  by_cases e6:t.nx=6
  · exact .inr (.inr (.inr (.inr (.inr (.inr (.inl ⟨e6,by rw[if_neg (by omega),if_neg (by omega),if_neg (by omega),if_neg (by omega),if_neg (by omega),if_neg (by omega),if_pos e6]⟩))))))
  by_cases e7:t.nx=7
  · exact .inr (.inr (.inr (.inr (.inr (.inr (.inr (.inl ⟨e7,by rw[if_neg (by omega),if_neg (by omega),if_neg (by omega),if_neg (by omega),if_neg (by omega),if_neg (by omega),if_neg (by omega),if_pos e7]⟩)))))))
  by_cases e8:t.nx=8
  · exact .inr (.inr (.inr (.inr (.inr (.inr (.inr (.inr (.inl ⟨e8,by rw[if_neg (by omega),if_neg (by omega),if_neg (by omega),if_neg (by omega),if_neg (by omega),if_neg (by omega),if_neg (by omega),if_neg (by omega),if_pos e8]⟩))))))))
  by_cases e9:t.nx=9
  · exact .inr (.inr (.inr (.inr (.inr (.inr (.inr (.inr (.inr (.inl ⟨e9,by rw[if_neg (by omega),if_neg (by omega),if_neg (by omega),if_neg (by omega),if_neg (by omega),if_neg (by omega),if_neg (by omega),if_neg (by omega),if_neg (by omega),if_pos e9]⟩)))))))))
  by_cases e10:t.nx=10
  · exact .inr (.inr (.inr (.inr (.inr (.inr (.inr (.inr (.inr (.inr (.inl ⟨e10,by rw[if_neg (by omega),if_neg (by omega),if_neg (by omega),if_neg (by omega),if_neg (by omega),if_neg (by omega),if_neg (by omega),if_neg (by omega),if_neg (by omega),if_neg (by omega),if_pos e10]⟩))))))))))
  by_cases e11:t.nx=11
  · exact .inr (.inr (.inr (.inr (.inr (.inr (.inr (.inr (.inr (.inr (.inr (.inl ⟨e11,by rw[if_neg (by omega),if_neg (by omega),if_neg (by omega),if_neg (by omega),if_neg (by omega),if_neg (by omega),if_neg (by omega),if_neg (by omega),if_neg (by omega),if_neg (by omega),if_neg (by omega),if_pos e11]⟩)))))))))))
  by_cases e12:t.nx=12
  · exact .inr (.inr (.inr (.inr (.inr (.inr (.inr (.inr (.inr (.inr (.inr (.inr (.inl ⟨e12,by rw[if_neg (by omega),if_neg (by omega),if_neg (by omega),if_neg (by omega),if_neg (by omega),if_neg (by omega),if_neg (by omega),if_neg (by omega),if_neg (by omega),if_neg (by omega),if_neg (by omega),if_neg (by omega),if_pos e12]⟩))))))))))))
  exact .inr (.inr (.inr (.inr (.inr (.inr (.inr (.inr (.inr (.inr (.inr (.inr (.inr (⟨by omega,by rw[if_neg (by omega),if_neg (by omega),if_neg (by omega),if_neg (by omega),if_neg (by omega),if_neg (by omega),if_neg (by omega),if_neg (by omega),if_neg (by omega),if_neg (by omega),if_neg (by omega),if_neg (by omega),if_neg (by omega)]⟩)))))))))))))
theorem step_wf (h:t.wf) (hw:∀ i,U (w.ws i)):(t.step w).1.wf:=by
 cases hd:t.dn
 rotate_left
 ·rw[step_dn hd];exact h
 obtain⟨hm,he,hcd,a⟩:=h.of hd
 have a0:=a
 unfold Ar at a
 have sb:=slots_bd t.pA
 have hb:=(may_iff _ _ _).1 hm
 have A:∀ u:Ad,u.dn=true→u.wf:=fun u hu=>⟨fun h=>by rw[hu]at h;cases h⟩
 have T:∀ again next:Int,(again=3∨again=6∨again=10)→(next=6∨next=9∨next=13)→(t.turn again next).wf:=fun again next h1 h2=>turn_wf hm he hcd (by omega) (by omega) (by omega) (by omega) (by omega) h1 h2
 rcases step_cases t w with⟨e,-⟩|⟨-,⟨hn,e⟩|⟨hn,e⟩|⟨hn,e⟩|⟨hn,e⟩|⟨hn,e⟩|⟨hn,e⟩|⟨hn,e⟩|⟨hn,e⟩|⟨hn,e⟩|⟨hn,e⟩|⟨hn,e⟩|⟨hn,e⟩|⟨hn,e⟩|⟨hn,e⟩⟩
 ·rw[hd]at e;cases e
 all_goals rw[e]
 ·show(t.ask _).wf
  unfold ask
  split
  ·refine⟨fun _=>⟨hm,he,hcd,?_⟩⟩
   show Ar t.s.p t.s.c t.s.m t.c t.d 2 t.by' t.at' t.i t.pA t.di t.qA (slots t.pA)
   unfold Ar;omega
  ·split
   ·split
    ·exact A _ rfl
    ·rename_i hs
     have b:=stB_bd (w.get t.dat)
     rw[status_lt0]at hs
     have hs:=(Classical.not_not.1 hs).2
     refine⟨fun _=>⟨hm,he,hcd,?_⟩⟩
     show Ar t.s.p t.s.c t.s.m t.c t.d 1 (stB (w.get t.dat)) t.at' t.i t.pA (stB (w.get t.dat)) t.qA (slots t.pA)
     unfold Ar;omega
   ·exact A _ rfl
 ·show(t.other _).wf
  unfold other
  split
  ·exact A _ rfl
  ·refine⟨fun _=>⟨hm,he,hcd,?_⟩⟩
   show Ar t.s.p t.s.c t.s.m t.c t.d 2 t.by' t.at' t.i t.pA t.di t.qA (slots t.pA)
   unfold Ar;omega
 ·show(t.claim _).wf
  unfold claim
  split
  ·refine⟨fun _=>⟨hm,he,hcd,?_⟩⟩
   show Ar t.s.p t.s.c t.s.m t.c t.d 3 t.by' t.at' t.i t.pA 0 t.qA (slots t.pA)
   unfold Ar;omega
  ·exact A _ rfl
 ·show(t.bodies _).wf
  unfold bodies
  split
  ·rename_i hB
   unfold isB at hB
   simp only[Bool.and_eq_true,decide_eq_true_eq]at hB
   have:=ok_body hB.1 hB.2
   refine⟨fun _=>⟨hm,he,hcd,?_⟩⟩
   show Ar t.s.p t.s.c t.s.m t.c t.d 4 t.by' t.at' t.i (pgA t.s t.at' (w.get t.pat)) t.di (pgA t.s t.at' (w.get t.pat)) (slots (pgA t.s t.at' (w.get t.pat)))
   unfold Ar;omega
  ·exact turn_wf (t:=t.read (w.get t.pat)) hm he hcd ⟨a.1,a.2.1⟩ ⟨a.2.2.1,a.2.2.2.1⟩ (by show 0≤t.at'∧t.at'<t.s.p;omega) (by show 0≤t.i∧t.i≤16;omega) (by show 0≤t.di∧t.di≤255;omega) (.inl rfl) (.inl rfl)
 ·show(t.head _).wf
  unfold head
  split
  ·refine⟨fun _=>⟨hm,he,hcd,?_⟩⟩
   show Ar t.s.p t.s.c t.s.m t.c t.d 5 t.by' t.at' t.i t.pA t.di t.qA (slots t.pA)
   unfold Ar;omega
  ·exact T _ _ (.inl rfl) (.inl rfl)
 ·exact T _ _ (.inl rfl) (.inl rfl)
 ·show(t.pages _).wf
  unfold pages
  split
  ·refine⟨fun _=>⟨hm,he,hcd,?_⟩⟩
   show Ar t.s.p t.s.c t.s.m t.c t.d 7 t.by' t.at' 0 t.pA 0 t.qA (slots t.pA)
   unfold Ar;omega
  ·exact T _ _ (.inr (.inl rfl)) (.inr (.inl rfl))
 ·refine⟨fun _=>⟨hm,he,hcd,?_⟩⟩
  have h3:((if t.i+1=16 then(8:Int) else 7)=8∧t.i+1=16)∨((if t.i+1=16 then(8:Int) else 7)=7∧t.i+1≠16):=by split<;>omega
  show Ar t.s.p t.s.c t.s.m t.c t.d (if t.i+1=16 then 8 else 7) t.by' t.at' (t.i+1) t.pA (t.di+1) t.qA (slots t.pA)
  unfold Ar;omega
 ·exact T _ _ (.inr (.inl rfl)) (.inr (.inl rfl))
 ·show(t.entry).wf
  unfold entry
  split
  ·refine⟨fun _=>⟨hm,he,hcd,?_⟩⟩
   show Ar t.s.p t.s.c t.s.m t.c t.d 10 t.by' t.at' 0 t.pA 0 t.qA (slots t.pA)
   unfold Ar;omega
  ·refine⟨fun _=>⟨hm,he,hcd,?_⟩⟩
   show Ar t.s.p t.s.c t.s.m t.c t.d t.nx t.by' t.at' (t.i+1) t.pA (t.di+1) t.qA (slots t.pA)
   unfold Ar;omega
 ·show(t.supers _).wf
  unfold supers
  split
  ·rename_i hS
   unfold isS at hS
   simp only[Bool.and_eq_true,decide_eq_true_eq]at hS
   have h1:=Gv.ok_super hS.1 hS.2
   have h2:=Gv.slot_of (o:=0) (k:=pgA t.s t.at' (w.get t.pat)) ⟨h1.1,h1.2.1⟩ ⟨by decide,by decide⟩
   have h3:(0:Int) / size (pgA t.s t.at' (w.get t.pat))=0:=Int.zero_ediv _
   refine⟨fun _=>⟨hm,he,hcd,?_⟩⟩
   show Ar t.s.p t.s.c t.s.m t.c t.d 11 t.by' t.at' 0 (pgA t.s t.at' (w.get t.pat)) 0 (pgA t.s t.at' (w.get t.pat)) (slots (pgA t.s t.at' (w.get t.pat)))
   unfold Ar;omega
  ·exact turn_wf (t:=t.read (w.get t.pat)) hm he hcd ⟨a.1,a.2.1⟩ ⟨a.2.2.1,a.2.2.2.1⟩ (by show 0≤t.at'∧t.at'<t.s.p;omega) (by show 0≤t.i∧t.i≤16;omega) (by show 0≤t.di∧t.di≤255;omega) (.inr (.inr rfl)) (.inr (.inr rfl))
 ·show(t.slots' _).wf
  unfold slots'
  split
  ·refine⟨fun _=>⟨hm,he,hcd,?_⟩⟩
   show Ar t.s.p t.s.c t.s.m t.c t.d 12 t.by' t.at' t.i t.pA t.di t.qA (slots t.pA)
   unfold Ar;omega
  ·exact slot_wf hm he hcd (by omega) (by omega) (by omega) (by omega)
 ·exact slot_wf hm he hcd (by omega) (by omega) (by omega) (by omega)
 ·exact A _ rfl

/-! ### Who it is stays -/
theorem turn_k (t:Ad) (a b:Int):(t.turn a b).s=t.s∧(t.turn a b).c=t.c∧(t.turn a b).d=t.d∧(t.turn a b).dn=t.dn∧(t.turn a b).err=t.err∧(t.turn a b).pA=t.pA∧(t.turn a b).was=t.was∧(t.turn a b).by'=t.by':=by
 unfold turn;split<;>exact⟨rfl,rfl,rfl,rfl,rfl,rfl,rfl,rfl⟩
theorem slot_k (t:Ad):t.slot.s=t.s∧t.slot.c=t.c∧t.slot.d=t.d∧t.slot.dn=t.dn∧t.slot.err=t.err:=by
 unfold slot;split
 ·have:=turn_k { t with i:=0,di:=t.di+1,nx:=11 } 10 13;exact⟨this.1,this.2.1,this.2.2.1,this.2.2.2.1,this.2.2.2.2.1⟩
 ·exact⟨rfl,rfl,rfl,rfl,rfl⟩
theorem step_k (t:Ad) (w:Wd):(t.step w).1.s=t.s∧(t.step w).1.c=t.c∧(t.step w).1.d=t.d:=by
 have T:=fun (t:Ad) a b=>(⟨(turn_k t a b).1,(turn_k t a b).2.1,(turn_k t a b).2.2.1⟩:(t.turn a b).s=t.s∧(t.turn a b).c=t.c∧(t.turn a b).d=t.d)
 rcases step_cases t w with⟨-,e⟩|⟨-,⟨-,e⟩|⟨-,e⟩|⟨-,e⟩|⟨-,e⟩|⟨-,e⟩|⟨-,e⟩|⟨-,e⟩|⟨-,e⟩|⟨-,e⟩|⟨-,e⟩|⟨-,e⟩|⟨-,e⟩|⟨-,e⟩|⟨-,e⟩⟩<;>rw[e]
 ·exact⟨rfl,rfl,rfl⟩
 ·show(t.ask _).s=_∧(t.ask _).c=_∧(t.ask _).d=_
  unfold ask;split
  ·exact⟨rfl,rfl,rfl⟩
  ·split
   ·split<;>exact⟨rfl,rfl,rfl⟩
   ·exact⟨rfl,rfl,rfl⟩
 ·show(t.other _).s=_∧(t.other _).c=_∧(t.other _).d=_
  unfold other;split<;>exact⟨rfl,rfl,rfl⟩
 ·show(t.claim _).s=_∧(t.claim _).c=_∧(t.claim _).d=_
  unfold claim;split<;>exact⟨rfl,rfl,rfl⟩
 ·show(t.bodies _).s=_∧(t.bodies _).c=_∧(t.bodies _).d=_
  unfold bodies;split
  ·exact⟨rfl,rfl,rfl⟩
  ·exact T (t.read _) 3 6
 ·show(t.head _).s=_∧(t.head _).c=_∧(t.head _).d=_
  unfold head;split
  ·exact⟨rfl,rfl,rfl⟩
  ·exact T t 3 6
 ·exact T t 3 6
 ·show(t.pages _).s=_∧(t.pages _).c=_∧(t.pages _).d=_
  unfold pages;split
  ·exact⟨rfl,rfl,rfl⟩
  ·exact T t 6 9
 ·exact⟨rfl,rfl,rfl⟩
 ·exact T t 6 9
 ·show(t.entry).s=_∧(t.entry).c=_∧(t.entry).d=_
  unfold entry;split<;>exact⟨rfl,rfl,rfl⟩
 ·show(t.supers _).s=_∧(t.supers _).c=_∧(t.supers _).d=_
  unfold supers;split
  ·exact⟨rfl,rfl,rfl⟩
  ·exact T (t.read _) 10 13
 ·show(t.slots' _).s=_∧(t.slots' _).c=_∧(t.slots' _).d=_
  unfold slots';split
  ·exact⟨rfl,rfl,rfl⟩
  ·exact⟨(slot_k t).1,(slot_k t).2.1,(slot_k t).2.2.1⟩
 ·exact⟨(slot_k t).1,(slot_k t).2.1,(slot_k t).2.2.1⟩
 ·exact⟨rfl,rfl,rfl⟩
theorem step_of {s:Sh} (h:w.of s):(t.step w).2.of s:=by
 rcases step_cases t w with⟨-,e⟩|⟨-,⟨-,e⟩|⟨-,e⟩|⟨-,e⟩|⟨-,e⟩|⟨-,e⟩|⟨-,e⟩|⟨-,e⟩|⟨-,e⟩|⟨-,e⟩|⟨-,e⟩|⟨-,e⟩|⟨-,e⟩|⟨-,e⟩|⟨-,e⟩⟩<;>rw[e]
 ·exact h
 ·exact Wd.of_load h _ _
 ·exact Wd.of_load h _ _
 ·exact Wd.of_swap h (U_putSt ..) _ _ _
 ·exact Wd.of_load h _ _
 ·exact Wd.of_load h _ _
 ·exact Wd.of_store h U_0 _ _
 ·exact Wd.of_load h _ _
 ·exact Wd.of_store h U_0 _ _
 ·exact Wd.of_store h U_0 _ _
 ·exact Wd.of_store h U_0 _ _
 ·exact Wd.of_load h _ _
 ·exact Wd.of_load h _ _
 ·exact Wd.of_store h (U_opn _) _ _
 ·exact Wd.of_store h (U_putSt ..) _ _
/-! ### How long -/
def lf (p m nx at' i sl:Int):Int:=
 if nx=0 then 54*p+m+4 else if nx=1 then 54*p+m+3 else if nx=2 then 54*p+m+2 else if nx=3 then 3*(p - at')+51*p+m+1 else if nx=4 then 3*(p - at')+51*p+m else
 if nx=5 then 3*(p - at')+51*p+m - 1 else if nx=6 then 18*(p - at')+33*p+m+1 else if nx=7 then 18*(p - at')+33*p+m - i else if nx=8 then 18*(p - at')+33*p+m - 16 else
 if nx=9 then m - i+33*p+1 else if nx=10 then 33*(p - at')+1 else if nx=11 then 33*(p - at') - 32+2*(sl - i) else if nx=12 then 33*(p - at') - 33+2*(sl - i) else 1
def left (t:Ad):Int:=if t.dn then 0 else lf t.s.p t.s.m t.nx t.at' t.i (slots t.pA)
theorem left_eq (hd:t.dn=false) {n:Int} (hn:t.nx=n):t.left=lf t.s.p t.s.m n t.at' t.i (slots t.pA):=by unfold left;rw[hd,hn];rfl
theorem left_0 (hd:t.dn=true):t.left=0:=by unfold left;rw[if_pos hd]
theorem turn36 (hd:t.dn=false):(t.turn 3 6).left=3*(t.s.p - t.at')+51*t.s.p+t.s.m - 2:=by
 rw[show(t.turn 3 6).left=if t.dn then 0 else lf t.s.p t.s.m (t.turn 3 6).nx (t.turn 3 6).at' (t.turn 3 6).i (slots t.pA) by unfold left;rw[(turn_k t 3 6).1,(turn_k t 3 6).2.2.2.1,(turn_k t 3 6).2.2.2.2.2.1],hd,if_neg (by decide)]
 unfold turn
 split
 ·show 18*(t.s.p - 0)+33*t.s.p+t.s.m+1=_;omega
 ·show 3*(t.s.p - (t.at'+1))+51*t.s.p+t.s.m+1=_;omega
theorem turn69 (hd:t.dn=false):(t.turn 6 9).left=18*(t.s.p - t.at')+33*t.s.p+t.s.m - 17:=by
 rw[show(t.turn 6 9).left=if t.dn then 0 else lf t.s.p t.s.m (t.turn 6 9).nx (t.turn 6 9).at' (t.turn 6 9).i (slots t.pA) by unfold left;rw[(turn_k t 6 9).1,(turn_k t 6 9).2.2.2.1,(turn_k t 6 9).2.2.2.2.2.1],hd,if_neg (by decide)]
 unfold turn
 split
 ·by_cases h:t.s.m=0
  ·show lf t.s.p t.s.m (if(9:Int)=9∧t.s.m=0 then 10 else 9) 0 0 (slots t.pA)=_
   rw[if_pos ⟨rfl,h⟩]
   show 33*(t.s.p - 0)+1=_;omega
  ·show lf t.s.p t.s.m (if(9:Int)=9∧t.s.m=0 then 10 else 9) 0 0 (slots t.pA)=_
   rw[if_neg (by omega)]
   show t.s.m - 0+33*t.s.p+1=_;omega
 ·show 18*(t.s.p - (t.at'+1))+33*t.s.p+t.s.m+1=_;omega
theorem turn1013 (hd:t.dn=false):(t.turn 10 13).left=33*(t.s.p - t.at') - 32:=by
 rw[show(t.turn 10 13).left=if t.dn then 0 else lf t.s.p t.s.m (t.turn 10 13).nx (t.turn 10 13).at' (t.turn 10 13).i (slots t.pA) by unfold left;rw[(turn_k t 10 13).1,(turn_k t 10 13).2.2.2.1,(turn_k t 10 13).2.2.2.2.2.1],hd,if_neg (by decide)]
 unfold turn
 split
 ·show(1:Int)=_;omega
 ·show 33*(t.s.p - (t.at'+1))+1=_;omega
theorem slot_left (hd:t.dn=false):t.slot.left≤33*(t.s.p - t.at') - 34+2*(slots t.pA - t.i):=by
 unfold slot
 split
 ·rw[turn1013 (t:={ t with i:=0,di:=t.di+1,nx:=11 }) hd]
  show 33*(t.s.p - t.at') - 32≤_;omega
 ·rw[left_eq (t:={ t with i:=t.i+1,di:=t.di+1,nx:=11 }) hd rfl]
  show 33*(t.s.p - t.at') - 32+2*(slots t.pA - (t.i+1))≤_;omega
theorem left_pos (h:t.wf) (hd:t.dn=false):0<t.left:=by
 obtain⟨hm,he,hcd,a⟩:=h.of hd
 have hb:=(may_iff _ _ _).1 hm
 unfold Ar at a
 rcases (by omega:t.nx=0∨t.nx=1∨t.nx=2∨t.nx=3∨t.nx=4∨t.nx=5∨t.nx=6∨t.nx=7∨t.nx=8∨t.nx=9∨t.nx=10∨t.nx=11∨t.nx=12∨t.nx=13) with hn | hn | hn | hn | hn | hn | hn | hn | hn | hn | hn | hn | hn | hn<;>rw[left_eq hd hn]
 ·show(0:Int)<54*t.s.p+t.s.m+4;omega
 ·show(0:Int)<54*t.s.p+t.s.m+3;omega
 ·show(0:Int)<54*t.s.p+t.s.m+2;omega
 ·show(0:Int)<3*(t.s.p - t.at')+51*t.s.p+t.s.m+1;omega
 ·show(0:Int)<3*(t.s.p - t.at')+51*t.s.p+t.s.m;omega
 ·show(0:Int)<3*(t.s.p - t.at')+51*t.s.p+t.s.m - 1;omega
 ·show(0:Int)<18*(t.s.p - t.at')+33*t.s.p+t.s.m+1;omega
 ·show(0:Int)<18*(t.s.p - t.at')+33*t.s.p+t.s.m - t.i;omega
 ·show(0:Int)<18*(t.s.p - t.at')+33*t.s.p+t.s.m - 16;omega
 ·show(0:Int)<t.s.m - t.i+33*t.s.p+1;omega
 ·show(0:Int)<33*(t.s.p - t.at')+1;omega
 ·show(0:Int)<33*(t.s.p - t.at') - 32+2*(slots t.pA - t.i);omega
 ·show(0:Int)<33*(t.s.p - t.at') - 33+2*(slots t.pA - t.i);omega
 ·show(0:Int)<1;omega
theorem left_nn (h:t.wf):0≤t.left:=by
 cases hd:t.dn
 ·have:=left_pos h hd;omega
 ·rw[left_0 hd];exact Int.le_refl _
theorem step_left (h:t.wf) (hd:t.dn=false):(t.step w).1.left<t.left:=by
 obtain⟨hm,he,hcd,a⟩:=h.of hd
 have hb:=(may_iff _ _ _).1 hm
 unfold Ar at a
 have sb:=slots_bd t.pA
 have Z:∀ u:Ad,u.dn=true→0<t.left→u.left<t.left:=fun u hu h0=>by rw[left_0 hu];exact h0
 have P:0<t.left:=left_pos h hd
 rcases step_cases t w with⟨e,-⟩|⟨-,⟨hn,e⟩|⟨hn,e⟩|⟨hn,e⟩|⟨hn,e⟩|⟨hn,e⟩|⟨hn,e⟩|⟨hn,e⟩|⟨hn,e⟩|⟨hn,e⟩|⟨hn,e⟩|⟨hn,e⟩|⟨hn,e⟩|⟨hn,e⟩|⟨hn,e⟩⟩
 ·rw[hd]at e;cases e
 all_goals rw[e]
 ·rw[left_eq hd hn]at P Z ⊢
  show(t.ask _).left<54*t.s.p+t.s.m+4
  unfold ask
  split
  ·rw[left_eq (t:={ t with was:=w.get t.dat,nx:=2 }) hd rfl]
   show 54*t.s.p+t.s.m+2<_;omega
  ·split
   ·split
    ·exact Z _ rfl P
    ·rw[left_eq (t:={ t with was:=w.get t.dat,by':=stB (w.get t.dat),nx:=1,di:=stB (w.get t.dat) }) hd rfl]
     show 54*t.s.p+t.s.m+3<_;omega
   ·exact Z _ rfl P
 ·rw[left_eq hd hn]at P Z ⊢
  show(t.other _).left<54*t.s.p+t.s.m+3
  unfold other
  split
  ·exact Z _ rfl P
  ·rw[left_eq (t:={ t with nx:=2 }) hd rfl]
   show 54*t.s.p+t.s.m+2<_;omega
 ·rw[left_eq hd hn]at P Z ⊢
  show(t.claim _).left<54*t.s.p+t.s.m+2
  unfold claim
  split
  ·rw[left_eq (t:={ t with nx:=3,di:=0 }) hd rfl]
   show 3*(t.s.p - t.at')+51*t.s.p+t.s.m+1<_;omega
  ·exact Z _ rfl P
 ·rw[left_eq hd hn]at P Z ⊢
  show(t.bodies _).left<3*(t.s.p - t.at')+51*t.s.p+t.s.m+1
  unfold bodies
  split
  ·rw[left_eq (t:={ t.readQ (w.get t.pat) with nx:=4 }) hd rfl]
   show 3*(t.s.p - t.at')+51*t.s.p+t.s.m<_;omega
  ·rw[turn36 (t:=t.read (w.get t.pat)) hd]
   show 3*(t.s.p - t.at')+51*t.s.p+t.s.m - 2<_;omega
 ·rw[left_eq hd hn]at P Z ⊢
  show(t.head _).left<3*(t.s.p - t.at')+51*t.s.p+t.s.m
  unfold head
  split
  ·rw[left_eq (t:={ t with nx:=5 }) hd rfl]
   show 3*(t.s.p - t.at')+51*t.s.p+t.s.m - 1<_;omega
  ·rw[turn36 hd];omega
 ·rw[left_eq hd hn]at P Z ⊢
  show(t.turn 3 6).left<3*(t.s.p - t.at')+51*t.s.p+t.s.m - 1
  rw[turn36 hd];omega
 ·rw[left_eq hd hn]at P Z ⊢
  show(t.pages _).left<18*(t.s.p - t.at')+33*t.s.p+t.s.m+1
  unfold pages
  split
  ·rw[left_eq (t:={ t with nx:=7,i:=0,di:=0 }) hd rfl]
   show 18*(t.s.p - t.at')+33*t.s.p+t.s.m - 0<_;omega
  ·rw[turn69 hd];omega
 ·rw[left_eq hd hn]at P Z ⊢
  show t.clear.left<18*(t.s.p - t.at')+33*t.s.p+t.s.m - t.i
  by_cases h16:t.i+1=16
  ·rw[left_eq (t:=t.clear) (n:=8) hd (if_pos h16)]
   show 18*(t.s.p - t.at')+33*t.s.p+t.s.m - 16<_;omega
  ·rw[left_eq (t:=t.clear) (n:=7) hd (if_neg h16)]
   show 18*(t.s.p - t.at')+33*t.s.p+t.s.m - (t.i+1)<_;omega
 ·rw[left_eq hd hn]at P Z ⊢
  show(t.turn 6 9).left<18*(t.s.p - t.at')+33*t.s.p+t.s.m - 16
  rw[turn69 hd];omega
 ·rw[left_eq hd hn]at P Z ⊢
  show t.entry.left<t.s.m - t.i+33*t.s.p+1
  unfold entry
  split
  ·rw[left_eq (t:={ t with i:=0,di:=0,nx:=10 }) hd rfl]
   show 33*(t.s.p - t.at')+1<_;omega
  ·rw[left_eq (t:={ t with i:=t.i+1,di:=t.di+1 }) hd hn]
   show t.s.m - (t.i+1)+33*t.s.p+1<_;omega
 ·rw[left_eq hd hn]at P Z ⊢
  show(t.supers _).left<33*(t.s.p - t.at')+1
  unfold supers
  split
  ·rw[left_eq (t:={ t.readQ (w.get t.pat) with nx:=11,i:=0,di:=0 }) hd rfl]
   have:=slots_bd (pgA t.s t.at' (w.get t.pat))
   show 33*(t.s.p - t.at') - 32+2*(slots (pgA t.s t.at' (w.get t.pat)) - 0)<_;omega
  ·rw[turn1013 (t:=t.read (w.get t.pat)) hd]
   show 33*(t.s.p - t.at') - 32<_;omega
 ·rw[left_eq hd hn]at P Z ⊢
  show(t.slots' _).left<33*(t.s.p - t.at') - 32+2*(slots t.pA - t.i)
  unfold slots'
  split
  ·rw[left_eq (t:={ t with nx:=12 }) hd rfl]
   show 33*(t.s.p - t.at') - 33+2*(slots t.pA - t.i)<_;omega
  ·have:=slot_left (t:=t) hd;omega
 ·rw[left_eq hd hn]at P Z ⊢
  show t.slot.left<33*(t.s.p - t.at') - 33+2*(slots t.pA - t.i)
  have:=slot_left (t:=t) hd;omega
 ·exact Z _ rfl P
theorem new_left (s:Sh) (c d:Int) (hp:0≤s.p∧0≤s.m):(new s c d).left≤54*s.p+s.m+4:=by
 unfold left
 split
 ·omega
 ·show 54*s.p+s.m+4≤_;omega
end Ad
end Go.Ma
namespace Go.Ma
open Go.Pl

theorem held_ne {c:Int} (h0:0≤c) (h1:c≤255):held c≠0:=by unfold held putPg;rw[if_pos (by omega)];omega
theorem get_swap {w:Wd} {c a x y b:Int} (ha:0≤a) (hb:0≤b):(w.swap c a x y).get b=if b=a then(if w.get a=x then y else w.get a) else w.get b:=by
 show(if b.toNat=a.toNat then(if w.get a == x then y else w.get a) else w.ws b.toNat)=_
 by_cases h:b=a
 ·subst h;rw[if_pos rfl,if_pos rfl];by_cases hx:w.get b=x<;>simp [hx]
 ·rw[if_neg (by omega),if_neg h];rfl
theorem get_store {w:Wd} {c a y b:Int} (ha:0≤a) (hb:0≤b):(w.store c a y).get b=if b=a then y else w.get b:=by
 show(if b.toNat=a.toNat then y else w.ws b.toNat)=_
 by_cases h:b=a
 ·subst h;rw[if_pos rfl,if_pos rfl]
 ·rw[if_neg (by omega),if_neg h];rfl
structure PgInv (n:Nat) (s:Sh) (full:Int→Prop) (ts:Nat→Pc) (w:Wd):Prop where
 of:w.of s
 ok:may s.p s.c s.m=true
 nc:(n:Int)≤s.c
 wf:∀ c,c<n→(ts c).wf∧(ts c).s=s∧(ts c).c=c
 fd:∀ c,c<n→(ts c).fd=true→(ts c).dn=true
 own:∀ c,c<n→(ts c).fd=true→0≤(ts c).pg∧(ts c).pg<s.p∧¬ full (ts c).pg∧w.get (s.c+(ts c).pg)=held c
 fl:∀ q,0≤q→q<s.p→full q→w.get (s.c+q)≠0
 em:∀ q,0≤q→q<s.p→¬ full q→w.get (s.c+q)=0∨∃ c,c<n∧(ts c).fd=true∧(ts c).pg=q
 seen:∀ c,c<n→(ts c).fd=false→∀ j,0≤j→j<(ts c).many→w.get (s.c+((ts c).f+j) % s.p)≠0
 fin:∀ c,c<n→(ts c).dn=true→(ts c).fd=false→0≤(ts c).f∧(ts c).f<s.p∧(ts c).many=s.p

def upT {T:Type} (ts:Nat→T) (c:Nat) (t:T):Nat→T:=fun d=>if d=c then t else ts d
theorem upT_same {T:Type} (ts:Nat→T) (c:Nat) (t:T):upT ts c t c=t:=if_pos rfl
theorem upT_ne {T:Type} (ts:Nat→T) {c d:Nat} (t:T) (h:d≠c):upT ts c t d=ts d:=if_neg h

namespace PgInv
variable {n:Nat} {s:Sh} {full:Int→Prop} {ts:Nat→Pc} {w:Wd}

theorem at_is (h:PgInv n s full ts w) {c:Nat} (hc:c<n) (hd:(ts c).dn=false):(ts c).at'=s.c+(ts c).pg∧0≤(ts c).pg∧(ts c).pg<s.p∧0≤s.c:=by
 obtain⟨h1,h2,h3⟩:=h.wf c hc
 obtain⟨a1,a2,a3,a4,a5,a6,a7⟩:=h1.of hd
 rw[h2]at a1 a3 a5 a7
 have hm:=(may_iff _ _ _).1 a1
 have hp:=mod_bd (a:=(ts c).f+(ts c).many) (p:=s.p) (by omega)
 have e:(ts c).pg=((ts c).f+(ts c).many) % s.p:=by unfold Pc.pg;rw[h2]
 rw[← e]at hp
 refine⟨?_,hp.1,hp.2,by omega⟩
 unfold Pc.at';rw[h2];exact page_yes a1 hp.1 hp.2

theorem step (h:PgInv n s full ts w) {c:Nat} (hc:c<n):PgInv n s full (upT ts c ((ts c).step w).1) ((ts c).step w).2:=by
  have hof:=Pc.step_of (t:=ts c) h.of
  obtain⟨h1,h2,h3⟩:=h.wf c hc
  have hwf:∀ d,d<n→(upT ts c ((ts c).step w).1 d).wf∧(upT ts c ((ts c).step w).1 d).s=s∧(upT ts c ((ts c).step w).1 d).c=d:=fun d hd=>by
    by_cases e:d=c
    · subst e;rw[upT_same];exact⟨Pc.step_wf h1,Pc.step_s.trans h2,Pc.step_c.trans h3⟩
    · rw[upT_ne _ _ e];exact h.wf d hd
  have hm:=(may_iff _ _ _).1 h.ok
  have hnc:=h.nc
  have cb:0≤(c:Int)∧(c:Int)≤255:=by omega
  rcases Pc.step_cases (ts c) w with⟨hd,e⟩|⟨hd,hcase⟩
  · rw[e]
    have:upT ts c (ts c)=ts:=by funext d;unfold upT;split;rename_i e;rw[e];rfl
    simp only[this];exact h
  obtain⟨hat,p0,p1,c0⟩:=h.at_is hc hd
  have hfd:(ts c).fd=false:=by
    cases hf:(ts c).fd
    · rfl
    · rw[h.fd c hc hf]at hd;cases hd
  obtain⟨b1,b2,b3,b4,b5,b6,b7⟩:=h1.of hd
  rw[h2]at b5 b7
  rcases hcase with⟨he,hz,e⟩|⟨he,hz,e⟩|⟨he,hz,e⟩|⟨he,hz,e⟩
  · -- it claims the page
    rw[e]at hof hwf ⊢
    have hg:∀ q,0≤q→(w.swap (ts c).c (ts c).at' 0 (held (ts c).c)).get (s.c+q)=if q=(ts c).pg then held c else w.get (s.c+q):=fun q hq=>by
      rw[get_swap (by omega) (by omega),hz,h3,hat]
      by_cases e:q=(ts c).pg
      · subst e;simp
      · rw[if_neg (by omega),if_neg e]
    have hz':w.get (s.c+(ts c).pg)=0:=by rw[← hat];exact hz
    refine⟨hof,h.ok,h.nc,hwf,fun d hd' hf=>?_,fun d hd' hf=>?_,fun q q0 q1 hq=>?_,fun q q0 q1 hq=>?_,fun d hd' hf j j0 j1=>?_,fun d hd' hdn hf=>?_⟩
    · by_cases ed:d=c
      · subst ed;rw[upT_same]
      · rw[upT_ne _ _ ed]at hf ⊢;exact h.fd d hd' hf
    · by_cases ed:d=c
      · subst ed;rw[upT_same]at hf ⊢
        refine⟨p0,p1,fun hq=>h.fl _ p0 p1 hq hz',?_⟩
        show(w.swap _ _ _ _).get (s.c+(ts d).pg)=_
        rw[hg _ p0,if_pos rfl]
      · rw[upT_ne _ _ ed]at hf ⊢
        obtain⟨o1,o2,o3,o4⟩:=h.own d hd' hf
        refine⟨o1,o2,o3,?_⟩
        show(w.swap _ _ _ _).get _=_
        rw[hg _ o1,if_neg,o4]
        intro e2
        rw[e2,hz']at o4
        exact held_ne (by omega) (by omega) o4.symm
    · show(w.swap _ _ _ _).get _≠0
      rw[hg _ q0];split
      · exact held_ne cb.1 cb.2
      · exact h.fl q q0 q1 hq
    · show(w.swap _ _ _ _).get _=0∨_
      rw[hg _ q0]
      by_cases eq:q=(ts c).pg
      · right;exact⟨c,hc,by rw[upT_same],by rw[upT_same];exact eq.symm⟩
      · rw[if_neg eq]
        rcases h.em q q0 q1 hq with h' |⟨d,g1,g2,g3⟩
        · exact .inl h'
        · right
          have ed:d≠c:=fun ed=>by subst ed;rw[hfd]at g2;cases g2
          exact⟨d,g1,by rw[upT_ne _ _ ed];exact g2,by rw[upT_ne _ _ ed];exact g3⟩
    · by_cases ed:d=c
      · subst ed;rw[upT_same]at hf;cases hf
      · rw[upT_ne _ _ ed]at hf j1 ⊢
        have:=h.seen d hd' hf j j0 j1
        show(w.swap _ _ _ _).get _≠0
        rw[hg _ (Int.emod_nonneg _ (by omega))];split
        · exact held_ne cb.1 cb.2
        · exact this
    · by_cases ed:d=c
      · subst ed;rw[upT_same]at hf;cases hf
      · rw[upT_ne _ _ ed]at hf hdn ⊢;exact h.fin d hd' hdn hf
  all_goals
    have hg:∀ q,0≤q→((ts c).step w).2.get (s.c+q)=w.get (s.c+q):=fun q hq=>by
      rw[e]
      first
      | rfl
      | (show (w.swap _ _ _ _).get _ = _
         rw[get_swap (by omega) (by omega),if_neg hz]
         split
         · rename_i e2;rw[e2]
         · rfl)
    have hf2:((ts c).step w).1.fd=false:=by rw[e];exact hfd
    have hpg:∀ d,(upT ts c ((ts c).step w).1 d).fd=(ts d).fd:=fun d=>by
      by_cases ed:d=c
      · subst ed;rw[upT_same,hf2,hfd]
      · rw[upT_ne _ _ ed]
    have hsm:((ts c).step w).1.f=(ts c).f:=Pc.step_f
    have hmany:∀ j,0≤j→j<((ts c).step w).1.many→w.get (s.c+((ts c).f+j) % s.p)≠0:=fun j j0 j1=>by
      by_cases hj:j<(ts c).many
      · exact h.seen c hc hfd j j0 hj
      · rw[e]at j1
        first
        | (exfalso;exact hj j1)
        | (have ej : j = (ts c).many := by have j1 : j < (ts c).many + 1 := j1; omega
           subst ej
           have ep:((ts c).f+(ts c).many) % s.p=(ts c).pg:=by unfold Pc.pg;rw[h2]
           rw[ep,← hat];exact hz)
    refine⟨hof,h.ok,h.nc,hwf,fun d hd' hf=>?_,fun d hd' hf=>?_,fun q q0 q1 hq=>by rw[hg q q0];exact h.fl q q0 q1 hq,fun q q0 q1 hq=>?_,fun d hd' hf j j0 j1=>?_,fun d hd' hdn hf=>?_⟩
    · rw[hpg]at hf
      by_cases ed:d=c
      · subst ed;rw[hfd]at hf;cases hf
      · rw[upT_ne _ _ ed];exact h.fd d hd' hf
    · rw[hpg]at hf
      by_cases ed:d=c
      · subst ed;rw[hfd]at hf;cases hf
      · rw[upT_ne _ _ ed]
        obtain⟨o1,o2,o3,o4⟩:=h.own d hd' hf
        exact⟨o1,o2,o3,by rw[hg _ o1];exact o4⟩
    · rw[hg q q0]
      rcases h.em q q0 q1 hq with h' |⟨d,g1,g2,g3⟩
      · exact .inl h'
      · right
        have ed:d≠c:=fun ed=>by subst ed;rw[hfd]at g2;cases g2
        exact⟨d,g1,by rw[hpg];exact g2,by rw[upT_ne _ _ ed];exact g3⟩
    · rw[hpg]at hf
      by_cases ed:d=c
      · subst ed;rw[upT_same]at j1 ⊢
        rw[hsm,hg _ (Int.emod_nonneg _ (by omega))];exact hmany j j0 j1
      · rw[upT_ne _ _ ed]at j1 ⊢
        rw[hg _ (Int.emod_nonneg _ (by omega))];exact h.seen d hd' hf j j0 j1
    · by_cases ed:d=c
      · subst ed;rw[upT_same]at hdn ⊢
        rw[hsm]
        rw[e]at hdn ⊢
        first
        | (exfalso;have:(ts d).dn=true:=hdn;rw[hd]at this;cases this)
        | exact⟨b4,b5,by have hdn:decide ((ts d).many+1=(ts d).s.p)=true:=hdn;rw[h2]at hdn;show(ts d).many+1=s.p;simpa using hdn⟩
      · rw[upT_ne _ _ ed]at hdn ⊢
        rw[hpg]at hf
        exact h.fin d hd' hdn hf
end PgInv
end Go.Ma
namespace Go.Ma
open Go.Pl
namespace Ad
variable {s:Sh} {a b t:Ad} {w:Wd} {ca cb d:Int}
theorem st_place {s:Sh} (hm:may s.p s.c s.m=true) {i:Int} (h0:0≤i) (h1:i<s.c):status s.p s.c s.m i=i:=by
 unfold status within;rw[hm];simp;omega
theorem kind_put {k c:Int} (hk:0≤k∧k≤4) (hc:0≤c∧c≤255) (h:k≠3→c=0):stK (putSt k c)=k∧stB (putSt k c)=c∧putSt k c=k+16*c:=by
 have e:putSt k c=k+16*c:=if_pos (by omega)
 have e1:(k+16*c) % 16=k:=by omega
 have e2:pt (k+16*c) 16=c:=by unfold pt;omega
 refine⟨?_,?_,e⟩
 ·unfold stK;rw[e,e1,e2,if_pos e]
 ·unfold stB;rw[e,e1,e2,if_pos e]
def On (t:Ad):Prop:=t.dn=false∧3≤t.nx∧t.nx≤13
theorem On.turn (hd:t.dn=false) (x y:Int) (h1:3≤x∧x≤13) (h2:3≤y∧y≤13):(t.turn x y).On:=by
 refine⟨((turn_k t x y).2.2.2.1).trans hd,?_⟩
 unfold Ad.turn
 split
 ·show 3≤(if y=9∧t.s.m=0 then(10:Int) else y)∧(if y=9∧t.s.m=0 then(10:Int) else y)≤13
  split<;>omega
 ·exact h1
theorem On.slot (hd:t.dn=false):t.slot.On:=by
 unfold Ad.slot;split
 ·exact On.turn (t:={ t with i:=0,di:=t.di+1,nx:=11 }) hd 10 13 (by decide) (by decide)
 ·exact⟨hd,by show(3:Int)≤11;decide,by show(11:Int)≤13;decide⟩
theorem won_step (h:t.wf) (hd:t.dn=false) (h3:3≤t.nx) (h4:t.nx≤12):(t.step w).1.On∧∀ q,0≤q→q<t.s.c→(t.step w).2.get q=w.get q:=by
 obtain⟨hm,he,hcd,ar⟩:=h.of hd
 unfold Ar at ar
 have hb:=(may_iff _ _ _).1 hm
 have pp:t.pat=t.s.c+t.at':=page_yes hm (by omega) (by omega)
 have sp:0≤t.i→t.i<16→t.sat=t.s.c+t.s.p+t.at'*16+t.i:=fun h1 h2=>slot_yes hm (by omega) (by omega) h1 h2
 have G:∀ a y:Int,t.s.c≤a→∀ q,0≤q→q<t.s.c→(w.store t.c a y).get q=w.get q:=fun a y ha q h1 h2=>by
  rw[get_store (by omega) (by omega),if_neg (by omega)]
 have sb:=slots_bd t.pA
 rcases step_cases t w with⟨e,-⟩|⟨-,⟨hn,e⟩|⟨hn,e⟩|⟨hn,e⟩|⟨hn,e⟩|⟨hn,e⟩|⟨hn,e⟩|⟨hn,e⟩|⟨hn,e⟩|⟨hn,e⟩|⟨hn,e⟩|⟨hn,e⟩|⟨hn,e⟩|⟨hn,e⟩|⟨hn,e⟩⟩
 ·rw[hd]at e;cases e
 ·omega
 ·omega
 ·omega
 rotate_right
 ·omega
 all_goals rw[e]
 ·refine⟨?_,fun _ _ _=>rfl⟩
  show(t.bodies _).On
  unfold bodies;split
  ·exact⟨hd,by show(3:Int)≤4;decide,by show(4:Int)≤13;decide⟩
  ·exact On.turn (t:=t.read _) hd 3 6 (by decide) (by decide)
 ·refine⟨?_,fun _ _ _=>rfl⟩
  show(t.head _).On
  unfold head;split
  ·exact⟨hd,by show(3:Int)≤5;decide,by show(5:Int)≤13;decide⟩
  ·exact On.turn hd 3 6 (by decide) (by decide)
 ·exact⟨On.turn hd 3 6 (by decide) (by decide),G _ _ (by omega)⟩
 ·refine⟨?_,fun _ _ _=>rfl⟩
  show(t.pages _).On
  unfold pages;split
  ·exact⟨hd,by show(3:Int)≤7;decide,by show(7:Int)≤13;decide⟩
  ·exact On.turn hd 6 9 (by decide) (by decide)
 ·refine⟨⟨hd,?_⟩,G _ _ (by have:=sp (by omega) (by omega);omega)⟩
  show 3≤(if t.i+1=16 then(8:Int) else 7)∧(if t.i+1=16 then(8:Int) else 7)≤13
  split<;>omega
 ·exact⟨On.turn hd 6 9 (by decide) (by decide),G _ _ (by omega)⟩
 ·refine⟨?_,G _ _ ?_⟩
  ·show t.entry.On
   unfold entry;split
   ·exact⟨hd,by show(3:Int)≤10;decide,by show(10:Int)≤13;decide⟩
   ·exact⟨hd,by show 3≤t.nx;omega,by show t.nx≤13;omega⟩
  ·have e1:t.mat=t.s.c+t.s.p+t.s.p*16+t.d*t.s.m+t.i:=mag_yes hm (by omega) (by omega) (by omega) (by omega)
   have:=Int.mul_nonneg (a:=t.d) (b:=t.s.m) (by omega) (by omega)
   omega
 ·refine⟨?_,fun _ _ _=>rfl⟩
  show(t.supers _).On
  unfold supers;split
  ·exact⟨hd,by show(3:Int)≤11;decide,by show(11:Int)≤13;decide⟩
  ·exact On.turn (t:=t.read _) hd 10 13 (by decide) (by decide)
 ·refine⟨?_,fun _ _ _=>rfl⟩
  show(t.slots' _).On
  unfold slots';split
  ·exact⟨hd,by show(3:Int)≤12;decide,by show(12:Int)≤13;decide⟩
  ·exact On.slot hd
 ·exact⟨On.slot hd,G _ _ (by have:=sp (by omega) (by omega);omega)⟩

/-! ### Two -/
def Try (t:Ad):Prop:=t.dn=false∧(t.nx=0∨(t.nx=2∧t.was=2))
def Lost (t:Ad) (o:Int):Prop:=(t.dn=false∧(t.nx=0∨(t.nx=2∧t.was=2)∨(t.nx=1∧t.by'=o)))∨(t.dn=true∧(t.err=4∨t.err=5))
theorem Try.lost {o:Int} (h:t.Try):t.Lost o:=.inl ⟨h.1,h.2.elim .inl fun h=>.inr (.inl h)⟩
def Ahead (x ca:Int) (a b:Ad):Prop:=(x=3+16*ca∧a.On∧b.Lost ca)∨(x=4∧(a.dn=true∧a.err=0)∧b.Lost ca)
structure Two (s:Sh) (ca cb d:Int) (a b:Ad) (w:Wd):Prop where
 of:w.of s
 ok:may s.p s.c s.m=true
 ch:0≤ca∧ca<s.c∧0≤cb∧cb<s.c∧0≤d∧d<s.c∧ca≠d∧cb≠d
 wa:a.wf∧a.s=s∧a.c=ca∧a.d=d
 wb:b.wf∧b.s=s∧b.c=cb∧b.d=d
 va:w.get ca=1
 vb:w.get cb=1
 ph:(w.get d=2∧a.Try∧b.Try)∨Ahead (w.get d) ca a b∨Ahead (w.get d) cb b a
theorem Two.symm (h:Two s ca cb d a b w):Two s cb ca d b a w:=
 ⟨h.of,h.ok,⟨h.ch.2.2.1,h.ch.2.2.2.1,h.ch.1,h.ch.2.1,h.ch.2.2.2.2.1,h.ch.2.2.2.2.2.1,h.ch.2.2.2.2.2.2.2,h.ch.2.2.2.2.2.2.1⟩,h.wb,h.wa,h.vb,h.va,by
  rcases h.ph with⟨h1,h2,h3⟩| h1 | h1
  ·exact .inl ⟨h1,h3,h2⟩
  ·exact .inr (.inr h1)
  ·exact .inr (.inl h1)⟩
theorem lost_step (hwf:t.wf) (hs:t.s=s) (hdd:t.d=d) (hm:may s.p s.c s.m=true) (hd:0≤d∧d<s.c) {o:Int} (ho:0≤o∧o<s.c) (hv:w.get o=1) (hx:w.get d=3+16*o∨w.get d=4) (h:t.Lost o):(t.step w).1.Lost o∧∀ q,0≤q→q<s.c→(t.step w).2.get q=w.get q:=by
 have hb:=(may_iff _ _ _).1 hm
 have kx:(stK (w.get d)=3∧stB (w.get d)=o)∨stK (w.get d)=4:=by
  rcases hx with hx | hx
  ·have:=kind_put (k:=3) (c:=o) (by decide) (by omega) (fun h=>absurd rfl h)
   rw[hx,← this.2.2];exact .inl ⟨this.1,this.2.1⟩
  ·have:=kind_put (k:=4) (c:=0) (by decide) (by decide) (fun h=>rfl)
   rw[hx,show(4:Int)=putSt 4 0 from rfl];exact .inr this.1
 have ko:stK (w.get o)=1:=by rw[hv];decide
 rcases h with⟨h1,h2⟩|⟨h1,h2⟩
 rotate_left
 ·rw[step_dn h1];exact⟨.inr ⟨h1,h2⟩,fun _ _ _=>rfl⟩
 have hdat:t.dat=d:=by unfold dat;rw[hs,hdd];exact st_place hm hd.1 hd.2
 rcases step_cases t w with⟨e,-⟩|⟨-,⟨hn,e⟩|⟨hn,e⟩|⟨hn,e⟩|⟨hn,e⟩|⟨hn,e⟩|⟨hn,e⟩|⟨hn,e⟩|⟨hn,e⟩|⟨hn,e⟩|⟨hn,e⟩|⟨hn,e⟩|⟨hn,e⟩|⟨hn,e⟩|⟨hn,e⟩⟩
 ·rw[h1]at e;cases e
 ·rw[e]
  refine⟨?_,fun _ _ _=>rfl⟩
  show(t.ask (w.get t.dat)).Lost o
  rw[hdat]
  unfold ask
  rcases kx with⟨k1,k2⟩| k1
  ·rw[k1,k2,if_neg (by decide),if_pos rfl,hs,st_place hm ho.1 ho.2,if_neg (by omega)]
   exact .inl ⟨h1,.inr (.inr ⟨rfl,rfl⟩)⟩
  ·rw[k1,if_neg (by decide),if_neg (by decide)]
   exact .inr ⟨rfl,.inr rfl⟩
 ·rw[e]
  refine⟨?_,fun _ _ _=>rfl⟩
  have h3:t.by'=o:=by omega
  have hbat:t.bat=o:=by unfold bat;rw[hs,h3];exact st_place hm ho.1 ho.2
  show(t.other (w.get t.bat)).Lost o
  rw[hbat]
  unfold other
  rw[ko,if_pos rfl]
  exact .inr ⟨rfl,.inl rfl⟩
 ·rw[e]
  have h3:t.was=2:=by omega
  have hne:w.get t.dat≠t.was:=by rw[hdat,h3];omega
  refine⟨?_,fun q h4 h5=>?_⟩
  ·show(t.claim (w.get t.dat)).Lost o
   unfold claim
   rw[if_neg hne]
   exact .inr ⟨rfl,.inl rfl⟩
  ·show(w.swap t.c t.dat t.was (putSt 3 t.c)).get q=_
   rw[get_swap (by omega) h4,if_neg hne]
   split
   ·rename_i hq;rw[hq]
   ·rfl
 all_goals omega
theorem Two.step (h:Two s ca cb d a b w):Two s ca cb d (a.step w).1 b (a.step w).2:=by
 obtain⟨c1,c2,c3,c4,c5,c6,c7,c8⟩:=h.ch
 obtain⟨w1,w2,w3,w4⟩:=h.wa
 have hk:=step_k a w
 have hb:=(may_iff _ _ _).1 h.ok
 have hdat:a.dat=d:=by unfold dat;rw[w2,w4];exact st_place h.ok c5 c6
 have K:∀ {P:Prop},(∀ q,0≤q→q<s.c→(a.step w).2.get q=w.get q)→((a.step w).2.get d=w.get d→P)→(a.step w).2.get ca=1∧(a.step w).2.get cb=1∧P:=fun hg hp=>
  ⟨by rw[hg ca c1 c2];exact h.va,by rw[hg cb c3 c4];exact h.vb,hp (hg d c5 c6)⟩
 suffices hh:(a.step w).2.get ca=1∧(a.step w).2.get cb=1∧(((a.step w).2.get d=2∧(a.step w).1.Try∧b.Try)∨Ahead ((a.step w).2.get d) ca (a.step w).1 b∨Ahead ((a.step w).2.get d) cb b (a.step w).1) from
  ⟨step_of h.of,h.ok,h.ch,⟨step_wf w1 h.of.u,hk.1.trans w2,hk.2.1.trans w3,hk.2.2.trans w4⟩,h.wb,hh.1,hh.2.1,hh.2.2⟩
 rcases h.ph with⟨hx,⟨hd,ht⟩,hbt⟩| hA | hA
 ·rcases step_cases a w with⟨e,-⟩|⟨-,⟨hn,e⟩|⟨hn,e⟩|⟨hn,e⟩|⟨hn,e⟩|⟨hn,e⟩|⟨hn,e⟩|⟨hn,e⟩|⟨hn,e⟩|⟨hn,e⟩|⟨hn,e⟩|⟨hn,e⟩|⟨hn,e⟩|⟨hn,e⟩|⟨hn,e⟩⟩
  ·rw[hd]at e;cases e
  ·rw[e]
   refine⟨h.va,h.vb,.inl ⟨hx,?_,hbt⟩⟩
   show(a.ask (w.get a.dat)).Try
   rw[hdat,hx]
   exact⟨hd,.inr ⟨rfl,rfl⟩⟩
  ·omega
  ·rw[e]
   have h3:a.was=2:=by omega
   have G:∀ q,0≤q→(w.swap a.c a.dat a.was (putSt 3 a.c)).get q=if q=d then putSt 3 a.c else w.get q:=fun q hq=>by
    rw[hdat,get_swap c5 hq,h3,if_pos hx]
   have e3:=(kind_put (k:=3) (c:=ca) (by decide) (by omega) (fun h=>absurd rfl h)).2.2
   refine⟨?_,?_,.inr (.inl (.inl ⟨?_,?_,hbt.lost⟩))⟩
   ·show(w.swap a.c a.dat a.was (putSt 3 a.c)).get ca=1
    rw[G _ c1,if_neg c7];exact h.va
   ·show(w.swap a.c a.dat a.was (putSt 3 a.c)).get cb=1
    rw[G _ c3,if_neg c8];exact h.vb
   ·show(w.swap a.c a.dat a.was (putSt 3 a.c)).get d=_
    rw[G _ c5,if_pos rfl,w3];exact e3
   ·show(a.claim (w.get a.dat)).On
    unfold claim
    rw[if_pos (by rw[hdat,h3];exact hx)]
    exact⟨hd,by show(3:Int)≤3;decide,by show(3:Int)≤13;decide⟩
  all_goals omega
 ·rcases hA with⟨hx,⟨hd,h3,h4⟩,hl⟩|⟨hx,⟨hd,he⟩,hl⟩
  ·by_cases h13:a.nx≤12
   ·obtain⟨ho,hg⟩:=won_step (w:=w) w1 hd h3 h13
    rw[w2]at hg
    exact K hg fun hz=>.inr (.inl (.inl ⟨by rw[hz];exact hx,ho,hl⟩))
   ·rcases step_cases a w with⟨e,-⟩|⟨-,⟨hn,e⟩|⟨hn,e⟩|⟨hn,e⟩|⟨hn,e⟩|⟨hn,e⟩|⟨hn,e⟩|⟨hn,e⟩|⟨hn,e⟩|⟨hn,e⟩|⟨hn,e⟩|⟨hn,e⟩|⟨hn,e⟩|⟨hn,e⟩|⟨hn,e⟩⟩
    ·rw[hd]at e;cases e
    rotate_right
    ·rw[e]
     have G:∀ q,0≤q→(w.store a.c a.dat (putSt 4 0)).get q=if q=d then putSt 4 0 else w.get q:=fun q hq=>by
      rw[hdat,get_store c5 hq]
     refine⟨?_,?_,.inr (.inl (.inr ⟨?_,⟨rfl,rfl⟩,hl⟩))⟩
     ·show(w.store a.c a.dat (putSt 4 0)).get ca=1
      rw[G _ c1,if_neg c7];exact h.va
     ·show(w.store a.c a.dat (putSt 4 0)).get cb=1
      rw[G _ c3,if_neg c8];exact h.vb
     ·show(w.store a.c a.dat (putSt 4 0)).get d=4
      rw[G _ c5,if_pos rfl];rfl
    all_goals omega
  ·rw[step_dn hd]
   exact⟨h.va,h.vb,.inr (.inl (.inr ⟨hx,⟨hd,he⟩,hl⟩))⟩
 ·have hx:w.get d=3+16*cb∨w.get d=4:=hA.elim (fun h=>.inl h.1) (fun h=>.inr h.1)
  have hl:a.Lost cb:=hA.elim (fun h=>h.2.2) (fun h=>h.2.2)
  obtain⟨l1,l2⟩:=lost_step w1 w2 w4 h.ok ⟨c5,c6⟩ ⟨c3,c4⟩ h.vb hx hl
  refine K l2 fun hz=>.inr (.inr ?_)
  rw[hz]
  rcases hA with⟨g1,g2,-⟩|⟨g1,g2,-⟩
  ·exact .inl ⟨g1,g2,l1⟩
  ·exact .inr ⟨g1,g2,l1⟩
theorem Two.one (h:Two s ca cb d a b w) (da:a.dn=true) (db:b.dn=true):w.get d=4∧((a.err=0∧(b.err=4∨b.err=5))∨(b.err=0∧(a.err=4∨a.err=5))):=by
 have L:∀ {t:Ad} {o:Int},t.dn=true→t.Lost o→t.err=4∨t.err=5:=fun hd hl=>by
  rcases hl with⟨h1,-⟩|⟨-,h1⟩
  ·rw[hd]at h1;cases h1
  ·exact h1
 rcases h.ph with⟨-,⟨h1,-⟩,-⟩| h1 | h1
 ·rw[da]at h1;cases h1
 ·rcases h1 with⟨-,⟨h2,-⟩,-⟩|⟨h2,⟨-,h3⟩,h4⟩
  ·rw[da]at h2;cases h2
  ·exact⟨h2,.inl ⟨h3,L db h4⟩⟩
 ·rcases h1 with⟨-,⟨h2,-⟩,-⟩|⟨h2,⟨-,h3⟩,h4⟩
  ·rw[db]at h2;cases h2
  ·exact⟨h2,.inr ⟨h3,L da h4⟩⟩
end Ad
end Go.Ma
set_option linter.unusedSectionVars false
namespace Go.Ma
open Go.Pl

section
variable (s:Sh) (ws0:Nat→Int) (d:Int)
def HeldBy (q:Int):Prop:=pgK s q (pgAt s ws0 q)=1∧pgA s q (pgAt s ws0 q)=d
def BodyOf (q:Int):Prop:=pgK s q (pgAt s ws0 q)=4∧HeldBy s ws0 d (pgA s q (pgAt s ws0 q))
structure Pt (ws:Nat→Int):Prop where
 np:∀ q,0≤q→q<s.p→¬ HeldBy s ws0 d q→¬ BodyOf s ws0 d q→pgAt s ws q=pgAt s ws0 q
 bd:∀ q,0≤q→q<s.p→BodyOf s ws0 d q→pgAt s ws q=0∨(pgAt s ws q=pgAt s ws0 q∧pgAt s ws (pgA s q (pgAt s ws0 q))=pgAt s ws0 (pgA s q (pgAt s ws0 q)))
 hd:∀ q,0≤q→q<s.p→HeldBy s ws0 d q→pgAt s ws q=pgAt s ws0 q∨(pgAt s ws q=0∧∀ i,0≤i→i<16→slAt s ws q i=0)
 sb:∀ q,0≤q→q<s.p→¬ HeldBy s ws0 d q→∀ i,0≤i→i<16→slAt s ws q i=slAt s ws0 q i∨(pgK s q (pgAt s ws0 q)=2∧slAt s ws0 q i=way d∧slAt s ws q i=opn (pgA s q (pgAt s ws0 q)))
 mo:∀ c i,0≤c→c<s.c→c≠d→0≤i→i<s.m→mgAt s ws c i=mgAt s ws0 c i
 md:∀ i,0≤i→i<s.m→mgAt s ws d i=mgAt s ws0 d i∨mgAt s ws d i=0
def BD (ws:Nat→Int) (n:Int):Prop:=∀ q,0≤q→q<n→BodyOf s ws0 d q→pgAt s ws q=0
def HD (ws:Nat→Int) (n:Int):Prop:=∀ q,0≤q→q<n→HeldBy s ws0 d q→pgAt s ws q=0
def MD (ws:Nat→Int) (n:Int):Prop:=∀ i,0≤i→i<n→mgAt s ws d i=0
def SD (ws:Nat→Int) (n:Int):Prop:=∀ q,0≤q→q<n→pgK s q (pgAt s ws0 q)=2→∀ i,0≤i→i<16→slAt s ws q i≠way d
end
section
variable {s:Sh} {ws0 ws:Nat→Int} {d q i n y:Int}
theorem body_bd (h:BodyOf s ws0 d q):0≤pgA s q (pgAt s ws0 q)∧pgA s q (pgAt s ws0 q)<q:=by
 have:=Ad.ok_body (pgK_ne (by rw[h.1];decide)) h.1
 omega
theorem not_both (h:HeldBy s ws0 d q):¬ BodyOf s ws0 d q:=fun h2=>by have:=h.1;rw[h2.1]at this;cases this

section
variable (hm:may s.p s.c s.m=true)
include hm
theorem Pt.cut (h:Pt s ws0 d ws) (h0:0≤q) (h1:q<s.p) (hb:BodyOf s ws0 d q):Pt s ws0 d (upW ws (page s.p s.c s.m q) 0):=by
 refine⟨fun r r0 r1 n1 n2=>?_,fun r r0 r1 hr=>?_,fun r r0 r1 hr=>?_,fun r r0 r1 hr j j0 j1=>?_,fun c j c0 c1 hc j0 j1=>?_,fun j j0 j1=>?_⟩
 ·rw[pg_pg hm h0 h1 r0 r1,if_neg (fun e=>by subst e;exact n2 hb)];exact h.np r r0 r1 n1 n2
 ·have hx:=body_bd hr
  rw[pg_pg hm h0 h1 r0 r1]
  by_cases e:r=q
  ·rw[if_pos e];exact .inl rfl
  ·rw[if_neg e,pg_pg hm h0 h1 hx.1 (by omega),if_neg (fun e2=>by have h2:=hr.2;rw[e2]at h2;exact not_both h2 hb)]
   exact h.bd r r0 r1 hr
 ·rw[pg_pg hm h0 h1 r0 r1,if_neg (fun e=>by subst e;exact not_both hr hb)]
  rcases h.hd r r0 r1 hr with e |⟨e,f⟩
  ·exact .inl e
  ·exact .inr ⟨e,fun j j0 j1=>(sl_pg hm h0 h1 r0 j0).trans (f j j0 j1)⟩
 ·rw[sl_pg hm h0 h1 r0 j0];exact h.sb r r0 r1 hr j j0 j1
 ·rw[mg_pg hm h0 h1 c0 j0];exact h.mo c j c0 c1 hc j0 j1
 ·by_cases hd0:0≤d
  ·rw[mg_pg hm h0 h1 hd0 j0];exact h.md j j0 j1
  ·have hx:=hb.2
   have hk:=hx.2
   have:0≤pgA s (pgA s q (pgAt s ws0 q)) (pgAt s ws0 (pgA s q (pgAt s ws0 q))):=by unfold pgA;split<;>(try (unfold pt;omega))<;>omega
   omega
theorem pgA_nn (s:Sh) (q x:Int):0≤pgA s q x:=by
 unfold pgA
 split
 ·unfold pt;omega
 ·omega
theorem Pt.clr (h:Pt s ws0 d ws) (h0:0≤q) (h1:q<s.p) (hh:HeldBy s ws0 d q) (i0:0≤i) (i1:i<16):Pt s ws0 d (upW ws (slot s.p s.c s.m q i) 0):=by
 have hd0:0≤d:=by have:=hh.2;have:=pgA_nn hm s q (pgAt s ws0 q);omega
 refine⟨fun r r0 r1 n1 n2=>?_,fun r r0 r1 hr=>?_,fun r r0 r1 hr=>?_,fun r r0 r1 hr j j0 j1=>?_,fun c j c0 c1 hc j0 j1=>?_,fun j j0 j1=>?_⟩
 ·rw[pg_sl hm h0 h1 i0 i1 r0 r1];exact h.np r r0 r1 n1 n2
 ·have hx:=body_bd hr
  rw[pg_sl hm h0 h1 i0 i1 r0 r1,pg_sl hm h0 h1 i0 i1 hx.1 (by omega)];exact h.bd r r0 r1 hr
 ·rw[pg_sl hm h0 h1 i0 i1 r0 r1]
  rcases h.hd r r0 r1 hr with e |⟨e,f⟩
  ·exact .inl e
  ·refine .inr ⟨e,fun j j0 j1=>?_⟩
   rw[sl_sl hm h0 h1 i0 i1 r0 j0 j1]
   split
   ·rfl
   ·exact f j j0 j1
 ·rw[sl_sl hm h0 h1 i0 i1 r0 j0 j1,if_neg (fun e=>hr (by rw[e.1];exact hh))];exact h.sb r r0 r1 hr j j0 j1
 ·rw[mg_sl hm h0 h1 i0 i1 c0 j0];exact h.mo c j c0 c1 hc j0 j1
 ·rw[mg_sl hm h0 h1 i0 i1 hd0 j0];exact h.md j j0 j1
theorem Pt.emp (h:Pt s ws0 d ws) (h0:0≤q) (h1:q<s.p) (hh:HeldBy s ws0 d q) (hb:BD s ws0 d ws s.p) (hz:∀ i,0≤i→i<16→slAt s ws q i=0):Pt s ws0 d (upW ws (page s.p s.c s.m q) 0):=by
 have hd0:0≤d:=by have:=hh.2;have:=pgA_nn hm s q (pgAt s ws0 q);omega
 refine⟨fun r r0 r1 n1 n2=>?_,fun r r0 r1 hr=>?_,fun r r0 r1 hr=>?_,fun r r0 r1 hr j j0 j1=>?_,fun c j c0 c1 hc j0 j1=>?_,fun j j0 j1=>?_⟩
 ·rw[pg_pg hm h0 h1 r0 r1,if_neg (fun e=>by subst e;exact n1 hh)];exact h.np r r0 r1 n1 n2
 ·left
  rw[pg_pg hm h0 h1 r0 r1]
  split
  ·rfl
  ·exact hb r r0 r1 hr
 ·rw[pg_pg hm h0 h1 r0 r1]
  by_cases e:r=q
  ·rw[if_pos e];subst e;exact .inr ⟨rfl,fun j j0 j1=>(sl_pg hm h0 h1 r0 j0).trans (hz j j0 j1)⟩
  ·rw[if_neg e]
   rcases h.hd r r0 r1 hr with e |⟨e,f⟩
   ·exact .inl e
   ·exact .inr ⟨e,fun j j0 j1=>(sl_pg hm h0 h1 r0 j0).trans (f j j0 j1)⟩
 ·rw[sl_pg hm h0 h1 r0 j0];exact h.sb r r0 r1 hr j j0 j1
 ·rw[mg_pg hm h0 h1 c0 j0];exact h.mo c j c0 c1 hc j0 j1
 ·rw[mg_pg hm h0 h1 hd0 j0];exact h.md j j0 j1
theorem Pt.mag (h:Pt s ws0 d ws) (d0:0≤d) (d1:d<s.c) (i0:0≤i) (i1:i<s.m):Pt s ws0 d (upW ws (mag s.p s.c s.m d i) 0):=by
 refine⟨fun r r0 r1 n1 n2=>?_,fun r r0 r1 hr=>?_,fun r r0 r1 hr=>?_,fun r r0 r1 hr j j0 j1=>?_,fun c j c0 c1 hc j0 j1=>?_,fun j j0 j1=>?_⟩
 ·rw[pg_mg hm d0 d1 i0 i1 r0 r1];exact h.np r r0 r1 n1 n2
 ·have hx:=body_bd hr
  rw[pg_mg hm d0 d1 i0 i1 r0 r1,pg_mg hm d0 d1 i0 i1 hx.1 (by omega)];exact h.bd r r0 r1 hr
 ·rw[pg_mg hm d0 d1 i0 i1 r0 r1]
  rcases h.hd r r0 r1 hr with e |⟨e,f⟩
  ·exact .inl e
  ·exact .inr ⟨e,fun j j0 j1=>(sl_mg hm d0 d1 i0 i1 r0 r1 j0 j1).trans (f j j0 j1)⟩
 ·rw[sl_mg hm d0 d1 i0 i1 r0 r1 j0 j1];exact h.sb r r0 r1 hr j j0 j1
 ·rw[mg_mg hm d0 d1 i0 i1 c0 j0 j1,if_neg (fun e=>hc e.1)];exact h.mo c j c0 c1 hc j0 j1
 ·rw[mg_mg hm d0 d1 i0 i1 d0 j0 j1]
  split
  ·exact .inr rfl
  ·exact h.md j j0 j1
theorem Pt.opn (h:Pt s ws0 d ws) (d0:0≤d) (h0:0≤q) (h1:q<s.p) (hk:pgK s q (pgAt s ws0 q)=2) (i0:0≤i) (i1:i<16) (hw:slAt s ws q i=way d) (hd1:d≤255) (ha:pgA s q (pgAt s ws0 q)≤255):Pt s ws0 d (upW ws (slot s.p s.c s.m q i) (Ma.opn (pgA s q (pgAt s ws0 q)))):=by
 have nh:¬ HeldBy s ws0 d q:=fun h2=>by have:=h2.1;rw[hk]at this;cases this
 refine⟨fun r r0 r1 n1 n2=>?_,fun r r0 r1 hr=>?_,fun r r0 r1 hr=>?_,fun r r0 r1 hr j j0 j1=>?_,fun c j c0 c1 hc j0 j1=>?_,fun j j0 j1=>?_⟩
 ·rw[pg_sl hm h0 h1 i0 i1 r0 r1];exact h.np r r0 r1 n1 n2
 ·have hx:=body_bd hr
  rw[pg_sl hm h0 h1 i0 i1 r0 r1,pg_sl hm h0 h1 i0 i1 hx.1 (by omega)];exact h.bd r r0 r1 hr
 ·rw[pg_sl hm h0 h1 i0 i1 r0 r1]
  rcases h.hd r r0 r1 hr with e |⟨e,f⟩
  ·exact .inl e
  ·exact .inr ⟨e,fun j j0 j1=>by rw[sl_sl hm h0 h1 i0 i1 r0 j0 j1,if_neg (fun e=>nh (by rw[← e.1];exact hr))];exact f j j0 j1⟩
 ·rw[sl_sl hm h0 h1 i0 i1 r0 j0 j1]
  by_cases e:r=q∧j=i
  ·rw[if_pos e]
   obtain⟨rfl,rfl⟩:=e
   rcases h.sb r r0 r1 hr j j0 j1 with e |⟨-,e,e2⟩
   ·exact .inr ⟨hk,e ▸ hw,rfl⟩
   ·exact .inr ⟨hk,e,rfl⟩
  ·rw[if_neg e];exact h.sb r r0 r1 hr j j0 j1
 ·rw[mg_sl hm h0 h1 i0 i1 c0 j0];exact h.mo c j c0 c1 hc j0 j1
 ·rw[mg_sl hm h0 h1 i0 i1 d0 j0];exact h.md j j0 j1
theorem Pt.sta (h:Pt s ws0 d ws) (d0:0≤d) {c:Int} (h0:0≤c) (h1:c<s.c):Pt s ws0 d (upW ws (status s.p s.c s.m c) y):=by
 refine⟨fun r r0 r1 n1 n2=>?_,fun r r0 r1 hr=>?_,fun r r0 r1 hr=>?_,fun r r0 r1 hr j j0 j1=>?_,fun c j c0 c1 hc j0 j1=>?_,fun j j0 j1=>?_⟩
 ·rw[pg_st hm h0 h1 r0 r1];exact h.np r r0 r1 n1 n2
 ·have hx:=body_bd hr
  rw[pg_st hm h0 h1 r0 r1,pg_st hm h0 h1 hx.1 (by omega)];exact h.bd r r0 r1 hr
 ·rw[pg_st hm h0 h1 r0 r1]
  rcases h.hd r r0 r1 hr with e |⟨e,f⟩
  ·exact .inl e
  ·exact .inr ⟨e,fun j j0 j1=>(sl_st hm h0 h1 r0 j0).trans (f j j0 j1)⟩
 ·rw[sl_st hm h0 h1 r0 j0];exact h.sb r r0 r1 hr j j0 j1
 ·rw[mg_st hm h0 h1 c0 j0];exact h.mo c j c0 c1 hc j0 j1
 ·rw[mg_st hm h0 h1 d0 j0];exact h.md j j0 j1
end
end
end Go.Ma

namespace Go.Ma
open Go.Pl
section
variable {s:Sh} {ws0 ws:Nat→Int} {d q i n y:Int}
theorem Pt.or0 (h:Pt s ws0 d ws) (h0:0≤q) (h1:q<s.p):pgAt s ws q=pgAt s ws0 q∨pgAt s ws q=0:=by
 by_cases hh:HeldBy s ws0 d q
 ·exact(h.hd q h0 h1 hh).imp_right fun e=>e.1
 ·by_cases hb:BodyOf s ws0 d q
  ·rcases h.bd q h0 h1 hb with e | e
   ·exact .inr e
   ·exact .inl e.1
  ·exact .inl (h.np q h0 h1 hh hb)
theorem Pt.cur (h:Pt s ws0 d ws) (h0:0≤q) (h1:q<s.p) (hk:pgK s q (pgAt s ws q)≠0):pgAt s ws q=pgAt s ws0 q:=by
 rcases h.or0 h0 h1 with e | e
 ·exact e
 ·rw[e,pgK_zero]at hk;exact absurd rfl hk
theorem BD.next (h:BD s ws0 d ws n) (hn:BodyOf s ws0 d n→pgAt s ws n=0):BD s ws0 d ws (n+1):=fun q h0 h1 hb=>by
 by_cases e:q=n
 ·subst e;exact hn hb
 ·exact h q h0 (by omega) hb
theorem HD.next (h:HD s ws0 d ws n) (hn:HeldBy s ws0 d n→pgAt s ws n=0):HD s ws0 d ws (n+1):=fun q h0 h1 hb=>by
 by_cases e:q=n
 ·subst e;exact hn hb
 ·exact h q h0 (by omega) hb
theorem SD.next (h:SD s ws0 d ws n) (hn:pgK s n (pgAt s ws0 n)=2→∀ i,0≤i→i<16→slAt s ws n i≠way d):SD s ws0 d ws (n+1):=fun q h0 h1 hb=>by
 by_cases e:q=n
 ·subst e;exact hn hb
 ·exact h q h0 (by omega) hb
theorem Snd.behind (h:Snd s ws0) (h0:0≤q) (h1:q<s.p) (hk:pgK s q (pgAt s ws0 q)=2) (i0:slots (pgA s q (pgAt s ws0 q))≤i) (i1:i<16):slAt s ws0 q i=0:=by
 have hb:=slots_bd (pgA s q (pgAt s ws0 q))
 have e:=(h.pg q.toNat (by omega)).2.sup (by rw[show((q.toNat:Nat):Int)=q by omega];exact beq_iff_eq.2 hk) i.toNat (by omega)
 rw[show((q.toNat:Nat):Int)=q by omega,show((i.toNat:Nat):Int)=i by omega]at e
 unfold slB at e
 rw[decide_eq_false (by omega)]at e
 simpa using e
end

namespace Ad
inductive Pa (s:Sh) (ws0:Nat→Int) (d:Int) (g0:Int→Int) (t:Ad) (w:Wd):Prop
 | p0 (hd:t.dn=false) (hn:t.nx=0) (hx:w.get d=g0 d)
 | p1 (hd:t.dn=false) (hn:t.nx=1) (hx:w.get d=g0 d) (hw:t.was=g0 d) (hk:stK (g0 d)=3) (hb:t.by'=stB (g0 d))
 | p2 (hd:t.dn=false) (hn:t.nx=2) (hx:w.get d=g0 d) (hw:t.was=g0 d)
 | p3 (hd:t.dn=false) (hn:t.nx=3) (b:BD s ws0 d w.ws t.at')
 | p4 (hd:t.dn=false) (hn:t.nx=4) (b:BD s ws0 d w.ws t.at') (hk:pgK s t.at' (pgAt s w.ws t.at')=4) (hA:t.pA=pgA s t.at' (pgAt s w.ws t.at'))
 | p5 (hd:t.dn=false) (hn:t.nx=5) (b:BD s ws0 d w.ws t.at') (ho:BodyOf s ws0 d t.at')
 | p6 (hd:t.dn=false) (hn:t.nx=6) (b:BD s ws0 d w.ws s.p) (h:HD s ws0 d w.ws t.at')
 | p7 (hd:t.dn=false) (hn:t.nx=7) (b:BD s ws0 d w.ws s.p) (h:HD s ws0 d w.ws t.at') (ho:HeldBy s ws0 d t.at') (z:∀ j,0≤j→j<t.i→slAt s w.ws t.at' j=0)
 | p8 (hd:t.dn=false) (hn:t.nx=8) (b:BD s ws0 d w.ws s.p) (h:HD s ws0 d w.ws t.at') (ho:HeldBy s ws0 d t.at') (z:∀ j,0≤j→j<16→slAt s w.ws t.at' j=0)
 | p9 (hd:t.dn=false) (hn:t.nx=9) (b:BD s ws0 d w.ws s.p) (h:HD s ws0 d w.ws s.p) (m:MD s d w.ws t.i) (ha:t.at'=0)
 | p10 (hd:t.dn=false) (hn:t.nx=10) (b:BD s ws0 d w.ws s.p) (h:HD s ws0 d w.ws s.p) (m:MD s d w.ws s.m) (x:SD s ws0 d w.ws t.at')
 | p11 (hd:t.dn=false) (hn:t.nx=11) (b:BD s ws0 d w.ws s.p) (h:HD s ws0 d w.ws s.p) (m:MD s d w.ws s.m) (x:SD s ws0 d w.ws t.at') (hk:pgK s t.at' (pgAt s ws0 t.at')=2) (hA:t.pA=pgA s t.at' (pgAt s ws0 t.at')) (z:∀ j,0≤j→j<t.i→slAt s w.ws t.at' j≠way d)
 | p12 (hd:t.dn=false) (hn:t.nx=12) (b:BD s ws0 d w.ws s.p) (h:HD s ws0 d w.ws s.p) (m:MD s d w.ws s.m) (x:SD s ws0 d w.ws t.at') (hk:pgK s t.at' (pgAt s ws0 t.at')=2) (hA:t.pA=pgA s t.at' (pgAt s ws0 t.at')) (z:∀ j,0≤j→j<t.i→slAt s w.ws t.at' j≠way d) (hw:slAt s w.ws t.at' t.i=way d)
 | p13 (hd:t.dn=false) (hn:t.nx=13) (b:BD s ws0 d w.ws s.p) (h:HD s ws0 d w.ws s.p) (m:MD s d w.ws s.m) (x:SD s ws0 d w.ws s.p)
 | en (hd:t.dn=true) (he:t.err=0) (hx:w.get d=putSt 4 0) (b:BD s ws0 d w.ws s.p) (h:HD s ws0 d w.ws s.p) (m:MD s d w.ws s.m) (x:SD s ws0 d w.ws s.p)
def Win (s:Sh) (g0:Int→Int) (d:Int):Prop:=stK (g0 d)=2∨(stK (g0 d)=3∧0≤stB (g0 d)∧stB (g0 d)<s.c∧stB (g0 d)≠d∧stK (g0 (stB (g0 d)))≠1)
structure Adp (s:Sh) (ws0:Nat→Int) (c d:Int) (g0:Int→Int) (t:Ad) (w:Wd):Prop where
 of:w.of s
 ok:may s.p s.c s.m=true
 wf:t.wf∧t.s=s∧t.c=c∧t.d=d
 cd:0≤d∧d<s.c
 wi:Win s g0 d
 snd:Snd s ws0
 pt:Pt s ws0 d w.ws
 st:∀ x,0≤x→x<s.c→x≠d→w.get x=g0 x
 ph:Pa s ws0 d g0 t w
variable {s:Sh} {ws0:Nat→Int} {c d:Int} {g0:Int→Int} {t:Ad} {w:Wd}
theorem turn_or (t:Ad) (a b:Int):(t.turn a b).dn=t.dn∧(t.turn a b).pA=t.pA∧((t.at'+1=t.s.p∧(t.turn a b).at'=0∧(t.turn a b).i=0∧(t.turn a b).nx=if b=9∧t.s.m=0 then 10 else b)∨(t.at'+1≠t.s.p∧(t.turn a b).at'=t.at'+1∧(t.turn a b).nx=a)):=by
 unfold turn
 by_cases h:t.at'+1=t.s.p
 ·rw[if_pos h];exact⟨rfl,rfl,.inl ⟨h,rfl,rfl,rfl⟩⟩
 ·rw[if_neg h];exact⟨rfl,rfl,.inr ⟨h,rfl,rfl⟩⟩
theorem own_of {q x:Int} (h:pgK s q x=1) (h2:pgA s q x=t.d) (hs:t.s=s):t.own q x=true:=by
 unfold own;rw[hs,pgK_ne (by rw[h];decide),decide_eq_true h,decide_eq_true h2];rfl
theorem own_is {q x:Int} (h:t.own q x=true) (hs:t.s=s):pgK s q x=1∧pgA s q x=t.d:=by
 unfold own at h;rw[hs]at h
 simp only[Bool.and_eq_true,decide_eq_true_eq]at h
 exact h.2
section
variable (hts:t.s=s) (hd:t.dn=false)
include hts hd
theorem to3 {u:Ad} (hu:u=t.turn 3 6) (b:BD s ws0 d w.ws (t.at'+1)) (w':Wd) (hw:w'.ws=w.ws):Pa s ws0 d g0 u w':=by
 subst hu
 obtain⟨e1,e2,⟨h1,e3,e4,e5⟩|⟨h1,e3,e5⟩⟩:=turn_or t 3 6
 ·rw[if_neg (by omega)]at e5
  exact .p6 (e1.trans hd) e5 (by rw[hw];rw[← hts,← h1];rw[hts];exact b) (by rw[e3];intro q h0 h1;omega)
 ·exact .p3 (e1.trans hd) e5 (by rw[e3,hw];exact b)
theorem to6 {u:Ad} (hu:u=t.turn 6 9) (b:BD s ws0 d w.ws s.p) (h:HD s ws0 d w.ws (t.at'+1)) (w':Wd) (hw:w'.ws=w.ws):Pa s ws0 d g0 u w':=by
 subst hu
 obtain⟨e1,e2,⟨h1,e3,e4,e5⟩|⟨h1,e3,e5⟩⟩:=turn_or t 6 9
 ·have h':HD s ws0 d w'.ws s.p:=by rw[hw];rw[← hts,← h1];rw[hts];exact h
  by_cases hm:t.s.m=0
  ·rw[if_pos ⟨rfl,hm⟩]at e5
   exact .p10 (e1.trans hd) e5 (by rw[hw];exact b) h' (by rw[← hts,hm];intro q h0 h1;omega) (by rw[e3];intro q h0 h1;omega)
  ·rw[if_neg (fun x=>hm x.2)]at e5
   exact .p9 (e1.trans hd) e5 (by rw[hw];exact b) h' (by rw[e4];intro q h0 h1;omega) e3
 ·exact .p6 (e1.trans hd) e5 (by rw[hw];exact b) (by rw[e3,hw];exact h)
theorem to10 {u:Ad} (hu:u=t.turn 10 13) (b:BD s ws0 d w.ws s.p) (h:HD s ws0 d w.ws s.p) (m:MD s d w.ws s.m) (x:SD s ws0 d w.ws (t.at'+1)) (w':Wd) (hw:w'.ws=w.ws):Pa s ws0 d g0 u w':=by
 subst hu
 obtain⟨e1,e2,⟨h1,e3,e4,e5⟩|⟨h1,e3,e5⟩⟩:=turn_or t 10 13
 ·rw[if_neg (by omega)]at e5
  exact .p13 (e1.trans hd) e5 (by rw[hw];exact b) (by rw[hw];exact h) (by rw[hw];exact m) (by rw[hw];rw[← hts,← h1];rw[hts];exact x)
 ·exact .p10 (e1.trans hd) e5 (by rw[hw];exact b) (by rw[hw];exact h) (by rw[hw];exact m) (by rw[e3,hw];exact x)
end
theorem slot_to (hts:t.s=s) (hd:t.dn=false) (hsn:Snd s ws0) (hpt:Pt s ws0 d w.ws) (hat:0≤t.at'∧t.at'<s.p) (hdd:0≤d∧d≤255) (b:BD s ws0 d w.ws s.p) (h:HD s ws0 d w.ws s.p) (m:MD s d w.ws s.m) (x:SD s ws0 d w.ws t.at') (hk:pgK s t.at' (pgAt s ws0 t.at')=2)
  (hA:t.pA=pgA s t.at' (pgAt s ws0 t.at')) (z:∀ j,0≤j→j<t.i+1→slAt s w.ws t.at' j≠way d) (w':Wd) (hw:w'.ws=w.ws):Pa s ws0 d g0 t.slot w':=by
 unfold slot
 by_cases e:t.i+1=slots t.pA
 ·rw[if_pos e]
  refine to10 (t:={ t with i:=0,di:=t.di+1,nx:=11 }) hts hd rfl b h m (x.next fun _ j j0 j1=>?_) w' hw
  by_cases hj:j<t.i+1
  ·exact z j j0 hj
  ·have hz:=hsn.behind hat.1 hat.2 hk (i:=j) (by rw[← hA];omega) j1
   have wn:=(way_ne d hdd.1 hdd.2).1
   rcases hpt.sb t.at' hat.1 hat.2 (fun h2=>by have:=h2.1;rw[hk]at this;cases this) j j0 j1 with e2 |⟨-,e2,-⟩
   ·show slAt s w.ws t.at' j≠way d;rw[e2,hz];exact fun e=>wn e.symm
   ·rw[hz]at e2;exact absurd e2.symm wn
 ·rw[if_neg e]
  exact .p11 hd rfl (by rw[hw];exact b) (by rw[hw];exact h) (by rw[hw];exact m) (by rw[hw];exact x) hk hA (by rw[hw];exact z)
end Ad
end Go.Ma

namespace Go.Ma
open Go.Pl
namespace Ad
variable {s:Sh} {ws0:Nat→Int} {c d:Int} {g0:Int→Int} {t:Ad} {w:Wd}
theorem get_far {w:Wd} {c a y x:Int} (h0:0≤x) (h1:x<a):(w.store c a y).get x=w.get x:=by rw[get_store (by omega) h0,if_neg (by omega)]
set_option maxHeartbeats 1000000 in
theorem Adp.step (h:Adp s ws0 c d g0 t w):Adp s ws0 c d g0 (t.step w).1 (t.step w).2:=by
 obtain⟨w1,w2,w3,w4⟩:=h.wf
 have hm:=h.ok
 have hkp:=step_k t w
 have hb:=(may_iff _ _ _).1 hm
 have hcd:=h.cd
 have hpt:=h.pt
 have hdat:t.dat=d:=by unfold dat;rw[w2,w4];exact st_place hm hcd.1 hcd.2
 suffices hh:Pt s ws0 d (t.step w).2.ws∧(∀ x,0≤x→x<s.c→x≠d→(t.step w).2.get x=w.get x)∧Pa s ws0 d g0 (t.step w).1 (t.step w).2 from
  ⟨step_of h.of,hm,⟨step_wf w1 h.of.u,hkp.1.trans w2,hkp.2.1.trans w3,hkp.2.2.trans w4⟩,hcd,h.wi,h.snd,hh.1,fun x x0 x1 x2=>(hh.2.1 x x0 x1 x2).trans (h.st x x0 x1 x2),hh.2.2⟩
 have bnd:t.dn=false→0≤t.at'∧t.at'<s.p∧0≤t.i∧t.i≤16∧(t.nx=7→t.i<16)∧(t.nx=9→t.i<s.m)∧(t.nx=11∨t.nx=12→t.i<slots t.pA)∧(t.nx=4→0≤t.pA∧t.pA<t.at'):=fun hd=>by
  obtain⟨a1,a2,a3,a4⟩:=w1.of hd
  unfold Ar at a4
  rw[w2]at a4
  exact⟨by omega,by omega,by omega,by omega,fun e=>by have:=a4;omega,fun e=>by have:=a4;omega,fun e=>by have:=a4;omega,fun e=>by have:=a4;omega⟩
 have hpat:t.pat=page s.p s.c s.m t.at':=by unfold pat;rw[w2]
 have hgp:w.get t.pat=pgAt s w.ws t.at':=by rw[hpat];rfl
 have hsat:t.sat=Pl.slot s.p s.c s.m t.at' t.i:=by unfold sat;rw[w2]
 cases h.ph with
 |p0 hd hn hx=>
  rw[s0 hd hn]
  refine⟨hpt,fun x _ _ _=>rfl,?_⟩
  show Pa s ws0 d g0 (t.ask (w.get t.dat)) (w.load t.c t.dat)
  rw[hdat,hx]
  unfold ask
  rcases h.wi with h2 |⟨h3,k0,k1,k2,k3⟩
  ·rw[if_pos h2];exact .p2 hd rfl hx rfl
  ·rw[if_neg (by omega),if_pos h3,w2,st_place hm k0 k1,if_neg (by omega)]
   exact .p1 hd rfl hx rfl h3 rfl
 |p1 hd hn hx hw hk hb'=>
  rw[s1 hd hn]
  refine⟨hpt,fun x _ _ _=>rfl,?_⟩
  show Pa s ws0 d g0 (t.other (w.get t.bat)) (w.load t.c t.bat)
  rcases h.wi with h2 |⟨h3,k0,k1,k2,k3⟩
  ·omega
  ·have hbat:t.bat=stB (g0 d):=by unfold bat;rw[w2,hb'];exact st_place hm k0 k1
   rw[hbat,h.st _ k0 k1 k2]
   unfold other
   rw[if_neg k3]
   exact .p2 hd rfl hx hw
 |p2 hd hn hx hw=>
  have hsw:(w.swap t.c t.dat t.was (putSt 3 t.c)).ws=upW w.ws (status s.p s.c s.m d) (putSt 3 t.c):=by
   rw[swap_yes (by rw[hdat,hw];exact hx)];unfold dat;rw[w2,w4]
  rw[s2 hd hn]
  refine⟨?_,fun x x0 x1 x2=>?_,?_⟩
  ·show Pt s ws0 d (w.swap t.c t.dat t.was (putSt 3 t.c)).ws
   rw[hsw];exact hpt.sta hm hcd.1 hcd.1 hcd.2
  ·show(w.swap t.c t.dat t.was (putSt 3 t.c)).get x=_
   rw[hdat,get_swap hcd.1 x0,if_neg x2]
  ·show Pa s ws0 d g0 (t.claim (w.get t.dat)) _
   unfold claim
   rw[if_pos (by rw[hdat,hw];exact hx)]
   refine .p3 hd rfl ?_
   have ha:t.at'=0:=by
    obtain⟨a1,a2,a3,a4⟩:=w1.of hd
    unfold Ar at a4;omega
   show BD s ws0 d _ t.at'
   rw[ha];intro q q0 q1;omega
 |p3 hd hn b=>
  obtain⟨a0,a1,-⟩:=bnd hd
  rw[s3 hd hn]
  refine⟨hpt,fun x _ _ _=>rfl,?_⟩
  show Pa s ws0 d g0 (t.bodies (w.get t.pat)) (w.load t.c t.pat)
  rw[hgp]
  unfold bodies
  by_cases e:t.isB (pgAt s w.ws t.at')=true
  ·rw[if_pos e]
   unfold isB at e
   rw[w2]at e
   simp only[Bool.and_eq_true,decide_eq_true_eq]at e
   exact .p4 hd rfl b e.2 (by show pgA t.s t.at' (pgAt s w.ws t.at')=pgA s t.at' (pgAt s w.ws t.at');rw[w2])
  ·rw[if_neg e]
   refine to3 (t:=t.read (pgAt s w.ws t.at')) w2 hd rfl (b.next fun ho=>?_) _ rfl
   rcases hpt.bd t.at' a0 a1 ho with e2 |⟨e2,-⟩
   ·exact e2
   ·refine absurd ?_ e
    unfold isB
    rw[w2,e2,pgK_ne (by rw[ho.1];decide),decide_eq_true ho.1];rfl
 |p4 hd hn b hk hA=>
  obtain⟨a0,a1,-,-,-,-,-,q4⟩:=bnd hd
  obtain⟨q0,q1⟩:=q4 hn
  have hhat:t.hat=page s.p s.c s.m t.pA:=by unfold hat;rw[w2]
  have hgh:w.get t.hat=pgAt s w.ws t.pA:=by rw[hhat];rfl
  have hcur:=hpt.cur a0 a1 (by rw[hk];decide)
  rw[s4 hd hn]
  refine⟨hpt,fun x _ _ _=>rfl,?_⟩
  show Pa s ws0 d g0 (t.head (w.get t.hat)) (w.load t.c t.hat)
  rw[hgh]
  unfold head
  by_cases e:t.own t.pA (pgAt s w.ws t.pA)=true
  ·rw[if_pos e]
   obtain⟨e1,e2⟩:=own_is e w2
   have hc2:=hpt.cur q0 (by omega) (by rw[e1];decide)
   refine .p5 hd rfl b ⟨by rw[← hcur];exact hk,?_⟩
   show HeldBy s ws0 d (pgA s t.at' (pgAt s ws0 t.at'))
   rw[← hcur,← hA]
   exact⟨by rw[← hc2];exact e1,by rw[← hc2,e2];exact w4⟩
  ·rw[if_neg e]
   refine to3 (t:=t) w2 hd rfl (b.next fun ho=>?_) _ rfl
   rcases hpt.bd t.at' a0 a1 ho with e2 |⟨e2,e3⟩
   ·exact e2
   ·refine absurd ?_ e
    rw[e2]at hA
    rw[← hA]at e3
    have h1:=ho.2
    rw[← hA]at h1
    rw[e3]
    exact own_of h1.1 (h1.2.trans w4.symm) w2
 |p5 hd hn b ho=>
  obtain⟨a0,a1,-⟩:=bnd hd
  rw[s5 hd hn]
  have hc1:=hpt.cut hm a0 a1 ho
  refine⟨?_,fun x x0 x1 x2=>?_,?_⟩
  ·show Pt s ws0 d (upW w.ws t.pat 0);rw[hpat];exact hc1
  ·exact get_far x0 (by rw[hpat,page_yes hm a0 a1];omega)
  ·refine to3 (t:=t) w2 hd rfl ?_ _ rfl
   show BD s ws0 d (upW w.ws t.pat 0) (t.at'+1)
   rw[hpat]
   intro q q0 q1 hq
   rw[pg_pg hm a0 a1 q0 (by omega)]
   split
   ·rfl
   ·exact b q q0 (by omega) hq
 |p6 hd hn b hh=>
  obtain⟨a0,a1,-⟩:=bnd hd
  rw[s6 hd hn]
  refine⟨hpt,fun x _ _ _=>rfl,?_⟩
  show Pa s ws0 d g0 (t.pages (w.get t.pat)) (w.load t.c t.pat)
  rw[hgp]
  unfold pages
  by_cases e:t.own t.at' (pgAt s w.ws t.at')=true
  ·rw[if_pos e]
   obtain⟨e1,e2⟩:=own_is e w2
   have hc2:=hpt.cur a0 a1 (by rw[e1];decide)
   exact .p7 hd rfl b hh ⟨by rw[← hc2];exact e1,by rw[← hc2,e2];exact w4⟩ (fun j j0 j1=>by have j1:j<0:=j1;omega)
  ·rw[if_neg e]
   refine to6 (t:=t) w2 hd rfl b (hh.next fun ho=>?_) _ rfl
   rcases hpt.hd t.at' a0 a1 ho with e2 |⟨e2,-⟩
   ·refine absurd ?_ e
    rw[e2];exact own_of ho.1 (ho.2.trans w4.symm) w2
   ·exact e2
 |p7 hd hn b hh ho z=>
  obtain⟨a0,a1,i0,-,i7,-⟩:=bnd hd
  have i1:=i7 hn
  rw[s7 hd hn]
  have hc1:=hpt.clr hm a0 a1 ho i0 i1
  have tb:∀ n,n≤s.p→BD s ws0 d w.ws n→BD s ws0 d (upW w.ws t.sat 0) n:=fun n hn b q q0 q1 hq=>by
   rw[hsat,pg_sl hm a0 a1 i0 i1 q0 (by omega)];exact b q q0 q1 hq
  have th:∀ n,n≤s.p→HD s ws0 d w.ws n→HD s ws0 d (upW w.ws t.sat 0) n:=fun n hn b q q0 q1 hq=>by
   rw[hsat,pg_sl hm a0 a1 i0 i1 q0 (by omega)];exact b q q0 q1 hq
  have hz:∀ j,0≤j→j<t.i+1→slAt s (upW w.ws t.sat 0) t.at' j=0:=fun j j0 j1=>by
   rw[hsat,sl_sl hm a0 a1 i0 i1 a0 j0 (by omega)]
   split
   ·rfl
   ·exact z j j0 (by omega)
  refine⟨?_,fun x x0 x1 x2=>?_,?_⟩
  ·show Pt s ws0 d (upW w.ws t.sat 0);rw[hsat];exact hc1
  ·exact get_far x0 (by rw[hsat,slot_yes hm a0 a1 i0 i1];omega)
  ·show Pa s ws0 d g0 t.clear _
   by_cases e:t.i+1=16
   ·exact .p8 hd (by show(if t.i+1=16 then(8:Int) else 7)=8;rw[if_pos e]) (tb _ (Int.le_refl _) b) (th _ (by show t.at'≤s.p;omega) hh) ho (fun j j0 j1=>hz j j0 (by omega))
   ·exact .p7 hd (by show(if t.i+1=16 then(8:Int) else 7)=7;rw[if_neg e]) (tb _ (Int.le_refl _) b) (th _ (by show t.at'≤s.p;omega) hh) ho hz
 |p8 hd hn b hh ho z=>
  obtain⟨a0,a1,-⟩:=bnd hd
  rw[s8 hd hn]
  have hc1:=hpt.emp hm a0 a1 ho b z
  refine⟨?_,fun x x0 x1 x2=>?_,?_⟩
  ·show Pt s ws0 d (upW w.ws t.pat 0);rw[hpat];exact hc1
  ·exact get_far x0 (by rw[hpat,page_yes hm a0 a1];omega)
  ·refine to6 (t:=t) w2 hd rfl ?_ ?_ _ rfl
   ·show BD s ws0 d (upW w.ws t.pat 0) s.p
    rw[hpat]
    intro q q0 q1 hq
    rw[pg_pg hm a0 a1 q0 (by omega)]
    split
    ·rfl
    ·exact b q q0 (by omega) hq
   ·show HD s ws0 d (upW w.ws t.pat 0) (t.at'+1)
    rw[hpat]
    intro q q0 q1 hq
    rw[pg_pg hm a0 a1 q0 (by omega)]
    split
    ·rfl
    ·exact hh q q0 (by omega) hq
 |p9 hd hn b hh m ha=>
  obtain⟨a0,a1,i0,-,-,i9,-⟩:=bnd hd
  have i1:=i9 hn
  have hmat:t.mat=mag s.p s.c s.m d t.i:=by unfold mat;rw[w2,w4]
  rw[s9 hd hn]
  have hc1:=hpt.mag hm hcd.1 hcd.2 i0 i1
  have tb:BD s ws0 d (upW w.ws t.mat 0) s.p:=fun q q0 q1 hq=>by
   rw[hmat,pg_mg hm hcd.1 hcd.2 i0 i1 q0 q1];exact b q q0 q1 hq
  have th:HD s ws0 d (upW w.ws t.mat 0) s.p:=fun q q0 q1 hq=>by
   rw[hmat,pg_mg hm hcd.1 hcd.2 i0 i1 q0 q1];exact hh q q0 q1 hq
  have hz:MD s d (upW w.ws t.mat 0) (t.i+1):=fun j j0 j1=>by
   rw[hmat,mg_mg hm hcd.1 hcd.2 i0 i1 hcd.1 j0 (by omega)]
   split
   ·rfl
   ·exact m j j0 (by omega)
  refine⟨?_,fun x x0 x1 x2=>?_,?_⟩
  ·show Pt s ws0 d (upW w.ws t.mat 0);rw[hmat];exact hc1
  ·have:=Int.mul_nonneg hcd.1 (by omega:0≤s.m)
   exact get_far x0 (by rw[hmat,mag_yes hm hcd.1 hcd.2 i0 i1];omega)
  ·show Pa s ws0 d g0 t.entry _
   unfold entry
   by_cases e:t.i+1=t.s.m
   ·rw[if_pos e]
    refine .p10 hd rfl tb th (by rw[← w2,← e];rw[w2];exact hz) ?_
    show SD s ws0 d _ t.at'
    rw[ha];intro q q0 q1;omega
   ·rw[if_neg e]
    exact .p9 hd hn tb th hz ha
 |p10 hd hn b hh m x=>
  obtain⟨a0,a1,-⟩:=bnd hd
  rw[s10 hd hn]
  refine⟨hpt,fun x _ _ _=>rfl,?_⟩
  show Pa s ws0 d g0 (t.supers (w.get t.pat)) (w.load t.c t.pat)
  rw[hgp]
  unfold supers
  by_cases e:t.isS (pgAt s w.ws t.at')=true
  ·rw[if_pos e]
   unfold isS at e
   rw[w2]at e
   simp only[Bool.and_eq_true,decide_eq_true_eq]at e
   have hc2:=hpt.cur a0 a1 (by rw[e.2];decide)
   exact .p11 hd rfl b hh m x (by show pgK s t.at' (pgAt s ws0 t.at')=2;rw[← hc2];exact e.2) (by show pgA t.s t.at' (pgAt s w.ws t.at')=pgA s t.at' (pgAt s ws0 t.at');rw[w2,hc2]) (fun j j0 j1=>by have j1:j<0:=j1;omega)
  ·rw[if_neg e]
   refine to10 (t:=t.read (pgAt s w.ws t.at')) w2 hd rfl b hh m (x.next fun hk=>?_) _ rfl
   exfalso
   have e2:=hpt.np t.at' a0 a1 (fun h2=>by have:=h2.1;rw[hk]at this;cases this) (fun h2=>by have:=h2.1;rw[hk]at this;cases this)
   refine e ?_
   unfold isS
   rw[w2,e2,pgK_ne (by rw[hk];decide),decide_eq_true hk];rfl
 |p11 hd hn b hh m x hk hA z=>
  obtain⟨a0,a1,i0,i16,-,-,i11,-⟩:=bnd hd
  have i1:=i11 (.inl hn)
  have sb:=slots_bd t.pA
  have hgs:w.get t.sat=slAt s w.ws t.at' t.i:=by rw[hsat];exact slot_at hm a0 a1 i0 (by omega)
  rw[s11 hd hn]
  refine⟨hpt,fun x _ _ _=>rfl,?_⟩
  show Pa s ws0 d g0 (t.slots' (w.get t.sat)) (w.load t.c t.sat)
  rw[hgs]
  unfold slots'
  by_cases e:slAt s w.ws t.at' t.i=way t.d
  ·rw[if_pos e]
   exact .p12 hd rfl b hh m x hk hA z (by rw[← w4];exact e)
  ·rw[if_neg e]
   refine slot_to w2 hd h.snd hpt ⟨a0,a1⟩ ⟨hcd.1,by omega⟩ b hh m x hk hA (fun j j0 j1=>?_) _ rfl
   by_cases ej:j=t.i
   ·subst ej;rw[← w4];exact e
   ·exact z j j0 (by omega)
 |p12 hd hn b hh m x hk hA z hw=>
  obtain⟨a0,a1,i0,i16,-,-,i11,-⟩:=bnd hd
  have i1:=i11 (.inr hn)
  have sb:=slots_bd t.pA
  have hAb:=Gv.ok_super (pgK_ne (by rw[hk];decide)) hk
  rw[s12 hd hn]
  have hc1:=hpt.opn hm hcd.1 a0 a1 hk i0 (by omega) hw (by omega) (by omega)
  have hsl:(w.store t.c t.sat (Ma.opn t.pA)).ws=upW w.ws (Pl.slot s.p s.c s.m t.at' t.i) (Ma.opn (pgA s t.at' (pgAt s ws0 t.at'))):=by rw[store_ws,hsat,hA]
  have wn:=way_ne d hcd.1 (by omega)
  have on:=opn_ne (pgA s t.at' (pgAt s ws0 t.at')) hAb.1 (by omega)
  have now:Ma.opn (pgA s t.at' (pgAt s ws0 t.at'))≠way d:=fun e=>by
   have:=congrArg slK e;rw[on.2.1,wn.2.1]at this;cases this
  refine⟨?_,fun x x0 x1 x2=>?_,?_⟩
  ·show Pt s ws0 d (w.store t.c t.sat (Ma.opn t.pA)).ws;rw[hsl];exact hc1
  ·exact get_far x0 (by rw[hsat,slot_yes hm a0 a1 i0 (by omega)];omega)
  ·show Pa s ws0 d g0 t.slot (w.store t.c t.sat (Ma.opn t.pA))
   refine slot_to (w:=w.store t.c t.sat (Ma.opn t.pA)) w2 hd h.snd (by rw[hsl];exact hc1) ⟨a0,a1⟩ ⟨hcd.1,by omega⟩ ?_ ?_ ?_ ?_ hk hA ?_ _ rfl
   ·rw[hsl];intro q q0 q1 hq;rw[pg_sl hm a0 a1 i0 (by omega) q0 q1];exact b q q0 q1 hq
   ·rw[hsl];intro q q0 q1 hq;rw[pg_sl hm a0 a1 i0 (by omega) q0 q1];exact hh q q0 q1 hq
   ·rw[hsl];intro j j0 j1;rw[mg_sl hm a0 a1 i0 (by omega) hcd.1 j0];exact m j j0 j1
   ·rw[hsl];intro q q0 q1 hq j j0 j1
    rw[sl_sl hm a0 a1 i0 (by omega) q0 j0 j1,if_neg (by omega)];exact x q q0 q1 hq j j0 j1
   ·rw[hsl];intro j j0 j1
    rw[sl_sl hm a0 a1 i0 (by omega) a0 j0 (by omega)]
    split
    ·exact now
    ·exact z j j0 (by omega)
 |p13 hd hn b hh m x=>
  obtain⟨a0,a1,-⟩:=bnd hd
  have hst:(w.store t.c t.dat (putSt 4 0)).ws=upW w.ws (status s.p s.c s.m d) (putSt 4 0):=by rw[store_ws];unfold dat;rw[w2,w4]
  have he:=(w1.of hd).2.1
  rw[s13 hd hn]
  refine⟨?_,fun x x0 x1 x2=>?_,?_⟩
  ·show Pt s ws0 d (w.store t.c t.dat (putSt 4 0)).ws;rw[hst];exact hpt.sta hm hcd.1 hcd.1 hcd.2
  ·show(w.store t.c t.dat (putSt 4 0)).get x=_
   rw[hdat,get_store hcd.1 x0,if_neg x2]
  ·refine .en rfl rfl ?_ ?_ ?_ ?_ ?_
   ·show(w.store t.c t.dat (putSt 4 0)).get d=_
    rw[hdat,get_store hcd.1 hcd.1,if_pos rfl]
   ·show BD s ws0 d (w.store t.c t.dat (putSt 4 0)).ws s.p
    rw[hst];intro q q0 q1 hq;rw[pg_st hm hcd.1 hcd.2 q0 q1];exact b q q0 q1 hq
   ·show HD s ws0 d (w.store t.c t.dat (putSt 4 0)).ws s.p
    rw[hst];intro q q0 q1 hq;rw[pg_st hm hcd.1 hcd.2 q0 q1];exact hh q q0 q1 hq
   ·show MD s d (w.store t.c t.dat (putSt 4 0)).ws s.m
    rw[hst];intro j j0 j1;rw[mg_st hm hcd.1 hcd.2 hcd.1 j0];exact m j j0 j1
   ·show SD s ws0 d (w.store t.c t.dat (putSt 4 0)).ws s.p
    rw[hst];intro q q0 q1 hq j j0 j1;rw[sl_st hm hcd.1 hcd.2 q0 j0];exact x q q0 q1 hq j j0 j1
 |en hd he hx b hh m x=>
  rw[step_dn hd]
  exact⟨hpt,fun _ _ _ _=>rfl,.en hd he hx b hh m x⟩
end Ad
end Go.Ma

namespace Go.Ma
open Go.Pl
section
variable {s:Sh} {ws0 ws:Nat→Int} {d q i n y:Int}
structure Gn (s:Sh) (ws0:Nat→Int) (d:Int) (ws:Nat→Int):Prop where
 pt:Pt s ws0 d ws
 b:BD s ws0 d ws s.p
 h:HD s ws0 d ws s.p
 m:MD s d ws s.m
 x:SD s ws0 d ws s.p
section
variable (hm:may s.p s.c s.m=true) (hsn:Snd s ws0) (d0:0≤d) (d1:d<s.c) (g:Gn s ws0 d ws)
include hm hsn d0 d1 g
theorem Gn.page (h0:0≤q) (h1:q<s.p):(¬ HeldBy s ws0 d q∧¬ BodyOf s ws0 d q∧pgAt s ws q=pgAt s ws0 q)∨((HeldBy s ws0 d q∨BodyOf s ws0 d q)∧pgAt s ws q=0∧pgAt s ws0 q≠0):=by
 by_cases hh:HeldBy s ws0 d q
 ·refine .inr ⟨.inl hh,g.h q h0 h1 hh,fun e=>?_⟩
  have:=hh.1;rw[e,pgK_zero]at this;cases this
 ·by_cases hb:BodyOf s ws0 d q
  ·refine .inr ⟨.inr hb,g.b q h0 h1 hb,fun e=>?_⟩
   have:=hb.1;rw[e,pgK_zero]at this;cases this
  ·exact .inl ⟨hh,hb,g.pt.np q h0 h1 hh hb⟩
theorem Gn.slot (h0:0≤q) (h1:q<s.p) (i0:0≤i) (i1:i<16):(¬ HeldBy s ws0 d q∧slAt s ws q i=slAt s ws0 q i∧¬ (pgK s q (pgAt s ws0 q)=2∧slAt s ws0 q i=way d))∨(¬ HeldBy s ws0 d q∧pgK s q (pgAt s ws0 q)=2∧slAt s ws0 q i=way d∧slAt s ws q i=opn (pgA s q (pgAt s ws0 q)))∨(HeldBy s ws0 d q∧slAt s ws q i=0):=by
 by_cases hh:HeldBy s ws0 d q
 ·refine .inr (.inr ⟨hh,?_⟩)
  rcases g.pt.hd q h0 h1 hh with e |⟨-,e⟩
  ·have e2:=g.h q h0 h1 hh
   rw[e]at e2
   have:=hh.1;rw[e2,pgK_zero]at this;cases this
  ·exact e i i0 i1
 ·rcases g.pt.sb q h0 h1 hh i i0 i1 with e |⟨e1,e2,e3⟩
  ·refine .inl ⟨hh,e,fun ⟨e1,e2⟩=>?_⟩
   exact g.x q h0 h1 e1 i i0 i1 (e.trans e2)
  ·exact .inr (.inl ⟨hh,e1,e2,e3⟩)
theorem Gn.snd:Snd s ws:=by
 have hb:=(may_iff _ _ _).1 hm
 have dw:=way_ne d d0 (by omega)
 refine⟨fun p h1=>?_,fun c i h1 h2 hx=>?_,fun c i c' i' h1 h2 h3 ha hx hy=>?_⟩
 ·obtain⟨e1,e2⟩:=hsn.pg p h1
  rcases Gn.page hm hsn d0 d1 g (q:=p) (by omega) h1 with⟨n1,n2,e⟩|⟨hx,e,-⟩
  ·rw[e]
   refine⟨e1,⟨fun k i hi=>?_,fun k k' i hi=>?_,fun k k' k4=>?_,fun k k' k4 k3 i i1 i2=>?_⟩⟩
   ·rcases Gn.slot hm hsn d0 d1 g (q:=p) (i:=i) (by omega) h1 (by omega) (by omega) with⟨-,e3,-⟩|⟨-,-,e4,e3⟩|⟨hh,-⟩
    ·rw[e3];exact e2.sup k i hi
    ·have hA:=Gv.ok_super e1 (beq_iff_eq.1 k)
     have on:=opn_ne (pgA s p (pgAt s ws0 p)) hA.1 (by omega)
     have hs:=e2.sup k i hi
     rw[e4]at hs
     unfold slB at hs ⊢
     rw[e3,on.2.1,on.2.2]
     by_cases hi2:((i:Nat):Int)<slots (pgA s p (pgAt s ws0 p))
     ·rw[decide_eq_true hi2];simp
     ·rw[decide_eq_false hi2]at hs
      have:way d=0:=by simpa using hs
      exact absurd this dw.1
    ·exact absurd hh n1
   ·rcases Gn.slot hm hsn d0 d1 g (q:=p) (i:=i) (by omega) h1 (by omega) (by omega) with⟨-,e3,-⟩|⟨-,e5,-,-⟩|⟨hh,-⟩
    ·rw[e3];exact e2.emp k k' i hi
    ·exact absurd (beq_iff_eq.2 e5) (by rw[k];decide)
    ·exact absurd hh n1
   ·have hbo:=Ad.ok_body e1 (beq_iff_eq.1 k4)
    have hbd:=e2.bod k k' k4
    rcases Gn.page hm hsn d0 d1 g (q:=pgA s p (pgAt s ws0 p)) hbo.1 (by omega) with⟨-,-,e3⟩|⟨hx,-,-⟩
    ·rw[e3];exact hbd
    ·exfalso
     rcases hx with hx | hx
     ·exact n2 ⟨beq_iff_eq.1 k4,hx⟩
     ·rw[hx.1]at hbd;simp at hbd
   ·have hl:=large_bd e1 (beq_iff_eq.1 k3)
    have he:=e2.lar k k' k4 k3 i i1 i2
    rcases Gn.page hm hsn d0 d1 g (q:=p+i) (by omega) (by omega) with⟨-,-,e3⟩|⟨hx,-,-⟩
    ·rw[e3];exact he
    ·exfalso
     rcases hx with hx | hx
     ·have:=hx.1;rw[he.1]at this;cases this
     ·have h5:=hx.2
      rw[he.2]at h5
      have:=h5.1;rw[beq_iff_eq.1 k3]at this;cases this
  ·rw[e,pgK_zero]
   refine⟨okPg_zero hm (by omega) h1,SpB.oth rfl (fun i hi=>?_) rfl rfl⟩
   rcases Gn.slot hm hsn d0 d1 g (q:=p) (i:=i) (by omega) h1 (by omega) (by omega) with⟨n1,e3,-⟩|⟨n1,e5,-,-⟩|⟨-,e3⟩
   ·rw[e3]
    rcases hx with hx | hx
    ·exact absurd hx n1
    ·exact e2.emp (by rw[hx.1];rfl) (by rw[hx.1];rfl) i hi
   ·exfalso
    rcases hx with hx | hx
    ·exact n1 hx
    ·have:=hx.1;rw[e5]at this;cases this
   ·exact e3
 ·by_cases hc:(c:Int)=d
  ·have:=g.m i (by omega) h2
   rw[← hc]at this
   exact absurd this hx
  ·rw[g.pt.mo c i (by omega) h1 hc (by omega) h2]at hx ⊢
   obtain⟨e1,e2,e3,e4⟩:=hsn.en c i h1 h2 hx
   have hE:=en_bd e1
   have hpg:pgAt s ws (enP s (mgAt s ws0 c i))=pgAt s ws0 (enP s (mgAt s ws0 c i)):=by
    rcases Gn.page hm hsn d0 d1 g (q:=enP s (mgAt s ws0 c i)) hE.1 hE.2.1 with⟨-,-,e5⟩|⟨hx,-,-⟩
    ·exact e5
    ·exfalso
     rcases hx with hx | hx
     ·have:=hx.1;rw[e2]at this;cases this
     ·have:=hx.1;rw[e2]at this;cases this
   refine⟨e1,by rw[hpg];exact e2,by rw[hpg];exact e3,?_⟩
   rcases Gn.slot hm hsn d0 d1 g (q:=enP s (mgAt s ws0 c i)) (i:=enS s (mgAt s ws0 c i)) hE.1 hE.2.1 hE.2.2.1 hE.2.2.2 with⟨-,e5,-⟩|⟨-,-,e6,-⟩|⟨hh,-⟩
   ·rw[e5];exact e4
   ·rw[e4]at e6
    exact absurd (way_inj (by omega) (by omega) d0 (by omega) e6) hc
   ·have:=hh.1;rw[e2]at this;cases this
 ·have hc':(c':Int)<s.c:=by unfold ahead at ha;omega
  have n1:(c:Int)≠d:=fun e=>by have:=g.m i (by omega) h2;rw[← e]at this;exact hx this
  have n2:(c':Int)≠d:=fun e=>by have:=g.m i' (by omega) h3;rw[← e]at this;exact hy this
  rw[g.pt.mo c i (by omega) h1 n1 (by omega) h2]at hx ⊢
  rw[g.pt.mo c' i' (by omega) hc' n2 (by omega) h3]at hy ⊢
  exact hsn.dj c i c' i' h1 h2 h3 ha hx hy
end
end
namespace Ad
variable {s:Sh} {ws0:Nat→Int} {c d:Int} {g0:Int→Int} {t:Ad} {w:Wd}
theorem Adp.fin (h:Adp s ws0 c d g0 t w) (hd:t.dn=true):t.err=0∧w.get d=putSt 4 0∧Gn s ws0 d w.ws:=by
 cases h.ph with
 | en _ he hx b hh m x=>exact⟨he,hx,h.pt,b,hh,m,x⟩
 | _ h1=>rw[hd]at h1;cases h1
end Ad
end Go.Ma

namespace Go.Ma
open Go.Pl
section
variable {s:Sh} {ws0 ws:Nat→Int} {d q i n y:Int}
theorem pgA_bd (s:Sh) (q x:Int):0≤pgA s q x∧pgA s q x≤255:=by
 unfold pgA
 split
 ·unfold pt;omega
 ·omega
variable (hm:may s.p s.c s.m=true) (hsn:Snd s ws0) (d0:0≤d) (d1:d<s.c) (g:Gn s ws0 d ws)
include hm hsn d0 d1 g
theorem Gn.mine (h0:0≤q) (h1:q<s.p) (b:Bool) (hb:b=true↔(HeldBy s ws0 d q∨BodyOf s ws0 d q)):(b=false∧pgAt s ws q=pgAt s ws0 q)∨(b=true∧pgAt s ws q=0∧pgAt s ws0 q≠0):=by
 rcases g.page hm hsn d0 d1 h0 h1 with⟨n1,n2,e⟩|⟨hx,e,f⟩
 ·refine .inl ⟨?_,e⟩
  cases b
  ·rfl
  ·rcases hb.1 rfl with h | h
   ·exact absurd h n1
   ·exact absurd h n2
 ·exact .inr ⟨hb.2 hx,e,f⟩
theorem Gn.own (h0:0≤q) (h1:q<s.p) (n1:¬ HeldBy s ws0 d q) (i0:0≤i) (i1:i<16) (b:Bool) (hb:b=true↔(pgK s q (pgAt s ws0 q)=2∧slK (slAt s ws0 q i)=2∧slA (slAt s ws0 q i)=d)):(b=false∧slAt s ws q i=slAt s ws0 q i)∨(b=true∧slAt s ws q i≠slAt s ws0 q i):=by
 have hb':=(may_iff _ _ _).1 hm
 have dw:=way_ne d d0 (by omega)
 rcases g.slot hm hsn d0 d1 h0 h1 i0 i1 with⟨-,e,f⟩|⟨-,e1,e2,e3⟩|⟨hh,-⟩
 ·refine .inl ⟨?_,e⟩
  cases b
  ·rfl
  ·obtain⟨k1,k2,k3⟩:=hb.1 rfl
   have:=is_way k2
   rw[k3]at this
   exact absurd ⟨k1,this⟩ f
 ·have hA:=pgA_bd s q (pgAt s ws0 q)
  have on:=opn_ne (pgA s q (pgAt s ws0 q)) hA.1 hA.2
  refine .inr ⟨hb.2 ⟨e1,by rw[e2];exact dw.2.1,by rw[e2];exact dw.2.2⟩,?_⟩
  rw[e2,e3]
  intro e
  have:=congrArg slK e
  rw[on.2.1,dw.2.1]at this;cases this
 ·exact absurd hh n1
end
end Go.Ma
