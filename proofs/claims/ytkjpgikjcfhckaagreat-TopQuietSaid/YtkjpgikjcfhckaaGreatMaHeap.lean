/-
 Who adopts: alone, two at once, in parts. Conditions: none.
-/
import Derived.Test.YtkjpgikjcfhckaaGreatMaB
import Derived.Test.YtkjpgikjcfhckaaGreatMaA
set_option linter.unusedVariables false
set_option linter.unusedSimpArgs false
namespace Go.Ma
open Go.Pl

def putSt (k b:Int):Int:=if 0≤k∧k≤4∧0≤b∧b≤255∧(k≠3→b=0) then k+16*b else 0
def stK (w:Int):Int:=if putSt (w % 16) (pt w 16)=w then w % 16 else 0
def stB (w:Int):Int:=if putSt (w % 16) (pt w 16)=w then pt w 16 else 0
theorem U_putSt (k b:Int):U (putSt k b):=by unfold putSt U;split<;>omega
theorem stB_bd (w:Int):0≤stB w∧stB w≤255:=by unfold stB pt;split<;>omega
structure Ad where
 s:Sh
 c:Int
 d:Int
 nx:Int
 was:Int
 by':Int
 at':Int
 i:Int
 pK:Int
 pA:Int
 pB:Int
 err:Int
 dn:Bool
 di:Int
 qK:Int
 qA:Int
 qB:Int
namespace Ad
def bad (s:Sh) (c d:Int):Bool:=decide (status s.p s.c s.m c<0) || (decide (status s.p s.c s.m d<0) || decide (c=d))
def new (s:Sh) (c d:Int):Ad:=⟨s,c,d,0,0,0,0,0,0,0,0,if bad s c d then 1 else 0,bad s c d,0,0,0,0⟩
def pat (t:Ad):Int:=page t.s.p t.s.c t.s.m t.at'
def hat (t:Ad):Int:=page t.s.p t.s.c t.s.m t.pA
def sat (t:Ad):Int:=slot t.s.p t.s.c t.s.m t.at' t.i
def dat (t:Ad):Int:=status t.s.p t.s.c t.s.m t.d
def bat (t:Ad):Int:=status t.s.p t.s.c t.s.m t.by'
def mat (t:Ad):Int:=mag t.s.p t.s.c t.s.m t.d t.i
def fin (t:Ad) (e:Int):Ad:={ t with err:=e,dn:=true }
def turn (t:Ad) (again next:Int):Ad:=
 if t.at'+1=t.s.p then { t with at':=0,i:=0,di:=0,nx:=if next=9∧t.s.m=0 then 10 else next } else { t with at':=t.at'+1,nx:=again }
def ask (t:Ad) (x:Int):Ad:=
 if stK x=2 then { t with was:=x,nx:=2 } else if stK x=3 then
  (if status t.s.p t.s.c t.s.m (stB x)<0 then { t with was:=x,err:=4,dn:=true } else { t with was:=x,by':=stB x,nx:=1,di:=stB x })
 else { t with was:=x,err:=5,dn:=true }
def other (t:Ad) (x:Int):Ad:=if stK x=1 then { t with nx:=2,err:=4,dn:=true } else { t with nx:=2 }
def claim (t:Ad) (x:Int):Ad:=if x=t.was then { t with nx:=3,di:=0 } else { t with nx:=3,di:=0,err:=4,dn:=true }
def own (t:Ad) (q x:Int):Bool:=okPg t.s q x && (decide (pgK t.s q x=1) && decide (pgA t.s q x=t.d))
def read (t:Ad) (x:Int):Ad:={ t with pK:=pgK t.s t.at' x,pA:=pgA t.s t.at' x,pB:=pgB t.s t.at' x }
def readQ (t:Ad) (x:Int):Ad:={ t with pK:=pgK t.s t.at' x,pA:=pgA t.s t.at' x,pB:=pgB t.s t.at' x,qK:=pgK t.s t.at' x,qA:=pgA t.s t.at' x,qB:=pgB t.s t.at' x }
def isB (t:Ad) (x:Int):Bool:=okPg t.s t.at' x && decide (pgK t.s t.at' x=4)
def isS (t:Ad) (x:Int):Bool:=okPg t.s t.at' x && decide (pgK t.s t.at' x=2)
def bodies (t:Ad) (x:Int):Ad:=if t.isB x then { t.readQ x with nx:=4 } else(t.read x).turn 3 6
def head (t:Ad) (x:Int):Ad:=if t.own t.pA x then { t with nx:=5 } else t.turn 3 6
def pages (t:Ad) (x:Int):Ad:=if t.own t.at' x then { t with nx:=7,i:=0,di:=0 } else t.turn 6 9
def clear (t:Ad):Ad:={ t with i:=t.i+1,di:=t.di+1,nx:=if t.i+1=16 then 8 else 7 }
def entry (t:Ad):Ad:=if t.i+1=t.s.m then { t with i:=0,di:=0,nx:=10 } else { t with i:=t.i+1,di:=t.di+1 }
def supers (t:Ad) (x:Int):Ad:=if t.isS x then { t.readQ x with nx:=11,i:=0,di:=0 } else(t.read x).turn 10 13
def slot (t:Ad):Ad:=if t.i+1=slots t.pA then { t with i:=0,di:=t.di+1,nx:=11 }.turn 10 13 else { t with i:=t.i+1,di:=t.di+1,nx:=11 }
def slots' (t:Ad) (x:Int):Ad:=if x=way t.d then { t with nx:=12 } else t.slot
def step (t:Ad) (w:Wd):Ad×Wd:=
 if t.dn then(t,w) else
 if t.nx=0 then(t.ask (w.get t.dat),w.load t.c t.dat) else
 if t.nx=1 then(t.other (w.get t.bat),w.load t.c t.bat) else
 if t.nx=2 then(t.claim (w.get t.dat),w.swap t.c t.dat t.was (putSt 3 t.c)) else
 if t.nx=3 then(t.bodies (w.get t.pat),w.load t.c t.pat) else
 if t.nx=4 then(t.head (w.get t.hat),w.load t.c t.hat) else
 if t.nx=5 then(t.turn 3 6,w.store t.c t.pat 0) else
 if t.nx=6 then(t.pages (w.get t.pat),w.load t.c t.pat) else
 if t.nx=7 then(t.clear,w.store t.c t.sat 0) else
 if t.nx=8 then(t.turn 6 9,w.store t.c t.pat 0) else
 if t.nx=9 then(t.entry,w.store t.c t.mat 0) else
 if t.nx=10 then(t.supers (w.get t.pat),w.load t.c t.pat) else
 if t.nx=11 then(t.slots' (w.get t.sat),w.load t.c t.sat) else
 if t.nx=12 then(t.slot,w.store t.c t.sat (opn t.pA)) else
 (t.fin 0,w.store t.c t.dat (putSt 4 0))

def Ar (p c' m c d nx b at' i pA di qA sl:Int):Prop:=
 0≤c∧c<c'∧0≤d∧d<c'∧0≤nx∧nx≤13∧0≤at'∧at'<p∧0≤i∧i≤16∧(nx=1→0≤b∧b<c'∧di=b)∧(nx=4→0≤pA∧pA<at'∧qA=pA)∧(nx=7→i<16∧di=i) ∧
  (nx=8→i=16∧di=16)∧(nx=9→i<m∧di=i)∧(nx=11∨nx=12→i<sl∧di=i∧0≤pA∧pA≤3∧qA=pA)∧(nx≤3∧at'=0→i=0)∧(nx≤2→at'=0)∧0≤di∧di≤255
structure wf (t:Ad):Prop where
 of:t.dn=false→may t.s.p t.s.c t.s.m=true∧t.err=0∧t.c≠t.d∧Ar t.s.p t.s.c t.s.m t.c t.d t.nx t.by' t.at' t.i t.pA t.di t.qA (slots t.pA)
variable {t:Ad} {w:Wd}
theorem new_wf (s:Sh) (c d:Int):(new s c d).wf:=by
 refine⟨fun hd=>?_⟩
 have hd:bad s c d=false:=hd
 have hb:=hd
 unfold bad at hb
 simp only[Bool.or_eq_false_iff,decide_eq_false_iff_not]at hb
 obtain⟨h1,h2,h3⟩:=hb
 rw[status_lt0]at h1 h2
 have h1:=Classical.not_not.1 h1
 have h2:=Classical.not_not.1 h2
 have hm:=(may_iff _ _ _).1 h1.1
 refine⟨h1.1,by show(if bad s c d=true then(1:Int) else 0)=0;rw[hd];rfl,h3,?_⟩
 show Ar s.p s.c s.m c d 0 0 0 0 0 0 0 (slots 0)
 unfold Ar
 omega
theorem turn_wf {again next:Int} (hm:may t.s.p t.s.c t.s.m=true) (he:t.err=0) (hcd:t.c≠t.d) (hc:0≤t.c∧t.c<t.s.c) (hd:0≤t.d∧t.d<t.s.c) (ha:0≤t.at'∧t.at'<t.s.p) (hi:0≤t.i∧t.i≤16) (hdi:0≤t.di∧t.di≤255)
  (h1:again=3∨again=6∨again=10) (h2:next=6∨next=9∨next=13):(t.turn again next).wf:=by
 have hb:=(may_iff _ _ _).1 hm
 unfold turn
 split
 ·refine⟨fun _=>⟨hm,he,hcd,?_⟩⟩
  have h3:(if next=9∧t.s.m=0 then(10:Int) else next)=6∨(if next=9∧t.s.m=0 then(10:Int) else next)=10∨(if next=9∧t.s.m=0 then(10:Int) else next)=13∨((if next=9∧t.s.m=0 then(10:Int) else next)=9∧t.s.m≠0):=by
   split<;>omega
  show Ar t.s.p t.s.c t.s.m t.c t.d (if next=9∧t.s.m=0 then(10:Int) else next) t.by' 0 0 t.pA 0 t.qA (slots t.pA)
  unfold Ar
  omega
 ·refine⟨fun _=>⟨hm,he,hcd,?_⟩⟩
  show Ar t.s.p t.s.c t.s.m t.c t.d again t.by' (t.at'+1) t.i t.pA t.di t.qA (slots t.pA)
  unfold Ar
  omega
theorem slot_wf (hm:may t.s.p t.s.c t.s.m=true) (he:t.err=0) (hcd:t.c≠t.d) (hc:0≤t.c∧t.c<t.s.c) (hd:0≤t.d∧t.d<t.s.c) (ha:0≤t.at'∧t.at'<t.s.p) (hi:0≤t.i∧t.i<slots t.pA∧t.di=t.i∧0≤t.pA∧t.pA≤3∧t.qA=t.pA):t.slot.wf:=by
 have sb:=slots_bd t.pA
 unfold slot
 split
 ·exact turn_wf (t:={ t with i:=0,di:=t.di+1,nx:=11 }) hm he hcd hc hd ha ⟨Int.le_refl _,by show(0:Int)≤16;decide⟩ ⟨by show 0≤t.di+1;omega,by show t.di+1≤255;omega⟩ (.inr (.inr rfl)) (.inr (.inr rfl))
 ·refine⟨fun _=>⟨hm,he,hcd,?_⟩⟩
  show Ar t.s.p t.s.c t.s.m t.c t.d 11 t.by' t.at' (t.i+1) t.pA (t.di+1) t.qA (slots t.pA)
  unfold Ar
  omega
theorem step_dn (h:t.dn=true):t.step w=(t,w):=by unfold step;rw[if_pos h]
theorem s0 (hd:t.dn=false) (hn:t.nx=0):t.step w=(t.ask (w.get t.dat),w.load t.c t.dat):=by
 unfold step;rw[if_neg (by rw[hd];decide),if_pos hn]
theorem s1 (hd:t.dn=false) (hn:t.nx=1):t.step w=(t.other (w.get t.bat),w.load t.c t.bat):=by
 unfold step;rw[if_neg (by rw[hd];decide),if_neg (by omega),if_pos hn]
theorem s2 (hd:t.dn=false) (hn:t.nx=2):t.step w=(t.claim (w.get t.dat),w.swap t.c t.dat t.was (putSt 3 t.c)):=by
 unfold step;rw[if_neg (by rw[hd];decide),if_neg (by omega),if_neg (by omega),if_pos hn]
theorem s3 (hd:t.dn=false) (hn:t.nx=3):t.step w=(t.bodies (w.get t.pat),w.load t.c t.pat):=by
 unfold step;rw[if_neg (by rw[hd];decide),if_neg (by omega),if_neg (by omega),if_neg (by omega),if_pos hn]
theorem s4 (hd:t.dn=false) (hn:t.nx=4):t.step w=(t.head (w.get t.hat),w.load t.c t.hat):=by
 unfold step;rw[if_neg (by rw[hd];decide),if_neg (by omega),if_neg (by omega),if_neg (by omega),if_neg (by omega),if_pos hn]
theorem s5 (hd:t.dn=false) (hn:t.nx=5):t.step w=(t.turn 3 6,w.store t.c t.pat 0):=by
 unfold step;rw[if_neg (by rw[hd];decide),if_neg (by omega),if_neg (by omega),if_neg (by omega),if_neg (by omega),if_neg (by omega),if_pos hn]
theorem s6 (hd:t.dn=false) (hn:t.nx=6):t.step w=(t.pages (w.get t.pat),w.load t.c t.pat):=by
 unfold step;rw[if_neg (by rw[hd];decide),if_neg (by omega),if_neg (by omega),if_neg (by omega),if_neg (by omega),if_neg (by omega),if_neg (by omega),if_pos hn]
theorem s7 (hd:t.dn=false) (hn:t.nx=7):t.step w=(t.clear,w.store t.c t.sat 0):=by
 unfold step;rw[if_neg (by rw[hd];decide),if_neg (by omega),if_neg (by omega),if_neg (by omega),if_neg (by omega),if_neg (by omega),if_neg (by omega),if_neg (by omega),if_pos hn]
theorem s8 (hd:t.dn=false) (hn:t.nx=8):t.step w=(t.turn 6 9,w.store t.c t.pat 0):=by
 unfold step;rw[if_neg (by rw[hd];decide),if_neg (by omega),if_neg (by omega),if_neg (by omega),if_neg (by omega),if_neg (by omega),if_neg (by omega),if_neg (by omega),if_neg (by omega),if_pos hn]
theorem s9 (hd:t.dn=false) (hn:t.nx=9):t.step w=(t.entry,w.store t.c t.mat 0):=by
 unfold step;rw[if_neg (by rw[hd];decide),if_neg (by omega),if_neg (by omega),if_neg (by omega),if_neg (by omega),if_neg (by omega),if_neg (by omega),if_neg (by omega),if_neg (by omega),if_neg (by omega),if_pos hn]
theorem s10 (hd:t.dn=false) (hn:t.nx=10):t.step w=(t.supers (w.get t.pat),w.load t.c t.pat):=by
 unfold step;rw[if_neg (by rw[hd];decide),if_neg (by omega),if_neg (by omega),if_neg (by omega),if_neg (by omega),if_neg (by omega),if_neg (by omega),if_neg (by omega),if_neg (by omega),if_neg (by omega),if_neg (by omega),if_pos hn]
theorem s11 (hd:t.dn=false) (hn:t.nx=11):t.step w=(t.slots' (w.get t.sat),w.load t.c t.sat):=by
 unfold step;rw[if_neg (by rw[hd];decide),if_neg (by omega),if_neg (by omega),if_neg (by omega),if_neg (by omega),if_neg (by omega),if_neg (by omega),if_neg (by omega),if_neg (by omega),if_neg (by omega),if_neg (by omega),if_neg (by omega),if_pos hn]
theorem s12 (hd:t.dn=false) (hn:t.nx=12):t.step w=(t.slot,w.store t.c t.sat (opn t.pA)):=by
 unfold step;rw[if_neg (by rw[hd];decide),if_neg (by omega),if_neg (by omega),if_neg (by omega),if_neg (by omega),if_neg (by omega),if_neg (by omega),if_neg (by omega),if_neg (by omega),if_neg (by omega),if_neg (by omega),if_neg (by omega),if_neg (by omega),if_pos hn]
theorem s13 (hd:t.dn=false) (hn:t.nx=13):t.step w=(t.fin 0,w.store t.c t.dat (putSt 4 0)):=by
 unfold step;rw[if_neg (by rw[hd];decide),if_neg (by omega),if_neg (by omega),if_neg (by omega),if_neg (by omega),if_neg (by omega),if_neg (by omega),if_neg (by omega),if_neg (by omega),if_neg (by omega),if_neg (by omega),if_neg (by omega),if_neg (by omega),if_neg (by omega)]
theorem step_cases (t:Ad) (w:Wd):(t.dn=true∧t.step w=(t,w))∨(t.dn=false ∧
    ((t.nx=0∧t.step w=(t.ask (w.get t.dat),w.load t.c t.dat)) ∨
     (t.nx=1∧t.step w=(t.other (w.get t.bat),w.load t.c t.bat)) ∨
     (t.nx=2∧t.step w=(t.claim (w.get t.dat),w.swap t.c t.dat t.was (putSt 3 t.c))) ∨
     (t.nx=3∧t.step w=(t.bodies (w.get t.pat),w.load t.c t.pat)) ∨
     (t.nx=4∧t.step w=(t.head (w.get t.hat),w.load t.c t.hat)) ∨
     (t.nx=5∧t.step w=(t.turn 3 6,w.store t.c t.pat 0)) ∨
     (t.nx=6∧t.step w=(t.pages (w.get t.pat),w.load t.c t.pat)) ∨
     (t.nx=7∧t.step w=(t.clear,w.store t.c t.sat 0)) ∨
     (t.nx=8∧t.step w=(t.turn 6 9,w.store t.c t.pat 0)) ∨
     (t.nx=9∧t.step w=(t.entry,w.store t.c t.mat 0)) ∨
     (t.nx=10∧t.step w=(t.supers (w.get t.pat),w.load t.c t.pat)) ∨
     (t.nx=11∧t.step w=(t.slots' (w.get t.sat),w.load t.c t.sat)) ∨
     (t.nx=12∧t.step w=(t.slot,w.store t.c t.sat (opn t.pA))) ∨
     ((t.nx<0∨12<t.nx)∧t.step w=(t.fin 0,w.store t.c t.dat (putSt 4 0))))):=by
  by_cases hd:t.dn=true
  · exact .inl ⟨hd,step_dn hd⟩
  have hd:t.dn=false:=by simpa using hd
  refine .inr ⟨hd,?_⟩
  unfold step
  rw[if_neg (by rw[hd];decide)]
  by_cases e0:t.nx=0
  · exact .inl ⟨e0,by rw[if_pos e0]⟩
  by_cases e1:t.nx=1
  · exact .inr (.inl ⟨e1,by rw[if_neg (by omega),if_pos e1]⟩)
  by_cases e2:t.nx=2
  · exact .inr (.inr (.inl ⟨e2,by rw[if_neg (by omega),if_neg (by omega),if_pos e2]⟩))
  by_cases e3:t.nx=3
  · exact .inr (.inr (.inr (.inl ⟨e3,by rw[if_neg (by omega),if_neg (by omega),if_neg (by omega),if_pos e3]⟩)))
  by_cases e4:t.nx=4
  · exact .inr (.inr (.inr (.inr (.inl ⟨e4,by rw[if_neg (by omega),if_neg (by omega),if_neg (by omega),if_neg (by omega),if_pos e4]⟩))))
  by_cases e5:t.nx=5
  · exact .inr (.inr (.inr (.inr (.inr (.inl ⟨e5,by rw[if_neg (by omega),if_neg (by omega),if_neg (by omega),if_neg (by omega),if_neg (by omega),if_pos e5]⟩)))))
  by_cases e6:t.nx=6
  · exact .inr (.inr (.inr (.inr (.inr (.inr (.inl ⟨e6,by rw[if_neg (by omega),if_neg (by omega),if_neg (by omega),if_neg (by omega),if_neg (by omega),if_neg (by omega),if_pos e6]⟩))))))
  by_cases e7:t.nx=7
  · exact .inr (.inr (.inr (.inr (.inr (.inr (.inr (.inl ⟨e7,by rw[if_neg (by omega),if_neg (by omega),if_neg (by omega),if_neg (by omega),if_neg (by omega),if_neg (by omega),if_neg (by omega),if_pos e7]⟩)))))))
  by_cases e8:t.nx=8
  · exact .inr (.inr (.inr (.inr (.inr (.inr (.inr (.inr (.inl ⟨e8,by rw[if_neg (by omega),if_neg (by omega),if_neg (by omega),if_neg (by omega),if_neg (by omega),if_neg (by omega),if_neg (by omega),if_neg (by omega),if_pos e8]⟩))))))))
  by_cases e9:t.nx=9
  · exact .inr (.inr (.inr (.inr (.inr (.inr (.inr (.inr (.inr (.inl ⟨e9,by rw[if_neg (by omega),if_neg (by omega),if_neg (by omega),if_neg (by omega),if_neg (by omega),if_neg (by omega),if_neg (by omega),if_neg (by omega),if_neg (by omega),if_pos e9]⟩)))))))))
  by_cases e10:t.nx=10
  · exact .inr (.inr (.inr (.inr (.inr (.inr (.inr (.inr (.inr (.inr (.inl ⟨e10,by rw[if_neg (by omega),if_neg (by omega),if_neg (by omega),if_neg (by omega),if_neg (by omega),if_neg (by omega),if_neg (by omega),if_neg (by omega),if_neg (by omega),if_neg (by omega),if_pos e10]⟩))))))))))
  by_cases e11:t.nx=11
  · exact .inr (.inr (.inr (.inr (.inr (.inr (.inr (.inr (.inr (.inr (.inr (.inl ⟨e11,by rw[if_neg (by omega),if_neg (by omega),if_neg (by omega),if_neg (by omega),if_neg (by omega),if_neg (by omega),if_neg (by omega),if_neg (by omega),if_neg (by omega),if_neg (by omega),if_neg (by omega),if_pos e11]⟩)))))))))))
  by_cases e12:t.nx=12
  · exact .inr (.inr (.inr (.inr (.inr (.inr (.inr (.inr (.inr (.inr (.inr (.inr (.inl ⟨e12,by rw[if_neg (by omega),if_neg (by omega),if_neg (by omega),if_neg (by omega),if_neg (by omega),if_neg (by omega),if_neg (by omega),if_neg (by omega),if_neg (by omega),if_neg (by omega),if_neg (by omega),if_neg (by omega),if_pos e12]⟩))))))))))))
  exact .inr (.inr (.inr (.inr (.inr (.inr (.inr (.inr (.inr (.inr (.inr (.inr (.inr (⟨by omega,by rw[if_neg (by omega),if_neg (by omega),if_neg (by omega),if_neg (by omega),if_neg (by omega),if_neg (by omega),if_neg (by omega),if_neg (by omega),if_neg (by omega),if_neg (by omega),if_neg (by omega),if_neg (by omega),if_neg (by omega)]⟩)))))))))))))
theorem step_wf (h:t.wf) (hw:∀ i,U (w.ws i)):(t.step w).1.wf:=by
 cases hd:t.dn
 rotate_left
 ·rw[step_dn hd];exact h
 obtain⟨hm,he,hcd,a⟩:=h.of hd
 have a0:=a
 unfold Ar at a
 have sb:=slots_bd t.pA
 have hb:=(may_iff _ _ _).1 hm
 have A:∀ u:Ad,u.dn=true→u.wf:=fun u hu=>⟨fun h=>by rw[hu]at h;cases h⟩
 have T:∀ again next:Int,(again=3∨again=6∨again=10)→(next=6∨next=9∨next=13)→(t.turn again next).wf:=fun again next h1 h2=>turn_wf hm he hcd (by omega) (by omega) (by omega) (by omega) (by omega) h1 h2
 rcases step_cases t w with⟨e,-⟩|⟨-,⟨hn,e⟩|⟨hn,e⟩|⟨hn,e⟩|⟨hn,e⟩|⟨hn,e⟩|⟨hn,e⟩|⟨hn,e⟩|⟨hn,e⟩|⟨hn,e⟩|⟨hn,e⟩|⟨hn,e⟩|⟨hn,e⟩|⟨hn,e⟩|⟨hn,e⟩⟩
 ·rw[hd]at e;cases e
 all_goals rw[e]
 ·show(t.ask _).wf
  unfold ask
  split
  ·refine⟨fun _=>⟨hm,he,hcd,?_⟩⟩
   show Ar t.s.p t.s.c t.s.m t.c t.d 2 t.by' t.at' t.i t.pA t.di t.qA (slots t.pA)
   unfold Ar;omega
  ·split
   ·split
    ·exact A _ rfl
    ·rename_i hs
     have b:=stB_bd (w.get t.dat)
     rw[status_lt0]at hs
     have hs:=(Classical.not_not.1 hs).2
     refine⟨fun _=>⟨hm,he,hcd,?_⟩⟩
     show Ar t.s.p t.s.c t.s.m t.c t.d 1 (stB (w.get t.dat)) t.at' t.i t.pA (stB (w.get t.dat)) t.qA (slots t.pA)
     unfold Ar;omega
   ·exact A _ rfl
 ·show(t.other _).wf
  unfold other
  split
  ·exact A _ rfl
  ·refine⟨fun _=>⟨hm,he,hcd,?_⟩⟩
   show Ar t.s.p t.s.c t.s.m t.c t.d 2 t.by' t.at' t.i t.pA t.di t.qA (slots t.pA)
   unfold Ar;omega
 ·show(t.claim _).wf
  unfold claim
  split
  ·refine⟨fun _=>⟨hm,he,hcd,?_⟩⟩
   show Ar t.s.p t.s.c t.s.m t.c t.d 3 t.by' t.at' t.i t.pA 0 t.qA (slots t.pA)
   unfold Ar;omega
  ·exact A _ rfl
 ·show(t.bodies _).wf
  unfold bodies
  split
  ·rename_i hB
   unfold isB at hB
   simp only[Bool.and_eq_true,decide_eq_true_eq]at hB
   have:=ok_body hB.1 hB.2
   refine⟨fun _=>⟨hm,he,hcd,?_⟩⟩
   show Ar t.s.p t.s.c t.s.m t.c t.d 4 t.by' t.at' t.i (pgA t.s t.at' (w.get t.pat)) t.di (pgA t.s t.at' (w.get t.pat)) (slots (pgA t.s t.at' (w.get t.pat)))
   unfold Ar;omega
  ·exact turn_wf (t:=t.read (w.get t.pat)) hm he hcd ⟨a.1,a.2.1⟩ ⟨a.2.2.1,a.2.2.2.1⟩ (by show 0≤t.at'∧t.at'<t.s.p;omega) (by show 0≤t.i∧t.i≤16;omega) (by show 0≤t.di∧t.di≤255;omega) (.inl rfl) (.inl rfl)
 ·show(t.head _).wf
  unfold head
  split
  ·refine⟨fun _=>⟨hm,he,hcd,?_⟩⟩
   show Ar t.s.p t.s.c t.s.m t.c t.d 5 t.by' t.at' t.i t.pA t.di t.qA (slots t.pA)
   unfold Ar;omega
  ·exact T _ _ (.inl rfl) (.inl rfl)
 ·exact T _ _ (.inl rfl) (.inl rfl)
 ·show(t.pages _).wf
  unfold pages
  split
  ·refine⟨fun _=>⟨hm,he,hcd,?_⟩⟩
   show Ar t.s.p t.s.c t.s.m t.c t.d 7 t.by' t.at' 0 t.pA 0 t.qA (slots t.pA)
   unfold Ar;omega
  ·exact T _ _ (.inr (.inl rfl)) (.inr (.inl rfl))
 ·refine⟨fun _=>⟨hm,he,hcd,?_⟩⟩
  have h3:((if t.i+1=16 then(8:Int) else 7)=8∧t.i+1=16)∨((if t.i+1=16 then(8:Int) else 7)=7∧t.i+1≠16):=by split<;>omega
  show Ar t.s.p t.s.c t.s.m t.c t.d (if t.i+1=16 then 8 else 7) t.by' t.at' (t.i+1) t.pA (t.di+1) t.qA (slots t.pA)
  unfold Ar;omega
 ·exact T _ _ (.inr (.inl rfl)) (.inr (.inl rfl))
 ·show(t.entry).wf
  unfold entry
  split
  ·refine⟨fun _=>⟨hm,he,hcd,?_⟩⟩
   show Ar t.s.p t.s.c t.s.m t.c t.d 10 t.by' t.at' 0 t.pA 0 t.qA (slots t.pA)
   unfold Ar;omega
  ·refine⟨fun _=>⟨hm,he,hcd,?_⟩⟩
   show Ar t.s.p t.s.c t.s.m t.c t.d t.nx t.by' t.at' (t.i+1) t.pA (t.di+1) t.qA (slots t.pA)
   unfold Ar;omega
 ·show(t.supers _).wf
  unfold supers
  split
  ·rename_i hS
   unfold isS at hS
   simp only[Bool.and_eq_true,decide_eq_true_eq]at hS
   have h1:=Gv.ok_super hS.1 hS.2
   have h2:=Gv.slot_of (o:=0) (k:=pgA t.s t.at' (w.get t.pat)) ⟨h1.1,h1.2.1⟩ ⟨by decide,by decide⟩
   have h3:(0:Int) / size (pgA t.s t.at' (w.get t.pat))=0:=Int.zero_ediv _
   refine⟨fun _=>⟨hm,he,hcd,?_⟩⟩
   show Ar t.s.p t.s.c t.s.m t.c t.d 11 t.by' t.at' 0 (pgA t.s t.at' (w.get t.pat)) 0 (pgA t.s t.at' (w.get t.pat)) (slots (pgA t.s t.at' (w.get t.pat)))
   unfold Ar;omega
  ·exact turn_wf (t:=t.read (w.get t.pat)) hm he hcd ⟨a.1,a.2.1⟩ ⟨a.2.2.1,a.2.2.2.1⟩ (by show 0≤t.at'∧t.at'<t.s.p;omega) (by show 0≤t.i∧t.i≤16;omega) (by show 0≤t.di∧t.di≤255;omega) (.inr (.inr rfl)) (.inr (.inr rfl))
 ·show(t.slots' _).wf
  unfold slots'
  split
  ·refine⟨fun _=>⟨hm,he,hcd,?_⟩⟩
   show Ar t.s.p t.s.c t.s.m t.c t.d 12 t.by' t.at' t.i t.pA t.di t.qA (slots t.pA)
   unfold Ar;omega
  ·exact slot_wf hm he hcd (by omega) (by omega) (by omega) (by omega)
 ·exact slot_wf hm he hcd (by omega) (by omega) (by omega) (by omega)
 ·exact A _ rfl

/-! ### Who it is stays -/
theorem turn_k (t:Ad) (a b:Int):(t.turn a b).s=t.s∧(t.turn a b).c=t.c∧(t.turn a b).d=t.d∧(t.turn a b).dn=t.dn∧(t.turn a b).err=t.err∧(t.turn a b).pA=t.pA∧(t.turn a b).was=t.was∧(t.turn a b).by'=t.by':=by
 unfold turn;split<;>exact⟨rfl,rfl,rfl,rfl,rfl,rfl,rfl,rfl⟩
theorem slot_k (t:Ad):t.slot.s=t.s∧t.slot.c=t.c∧t.slot.d=t.d∧t.slot.dn=t.dn∧t.slot.err=t.err:=by
 unfold slot;split
 ·have:=turn_k { t with i:=0,di:=t.di+1,nx:=11 } 10 13;exact⟨this.1,this.2.1,this.2.2.1,this.2.2.2.1,this.2.2.2.2.1⟩
 ·exact⟨rfl,rfl,rfl,rfl,rfl⟩
theorem step_k (t:Ad) (w:Wd):(t.step w).1.s=t.s∧(t.step w).1.c=t.c∧(t.step w).1.d=t.d:=by
 have T:=fun (t:Ad) a b=>(⟨(turn_k t a b).1,(turn_k t a b).2.1,(turn_k t a b).2.2.1⟩:(t.turn a b).s=t.s∧(t.turn a b).c=t.c∧(t.turn a b).d=t.d)
 rcases step_cases t w with⟨-,e⟩|⟨-,⟨-,e⟩|⟨-,e⟩|⟨-,e⟩|⟨-,e⟩|⟨-,e⟩|⟨-,e⟩|⟨-,e⟩|⟨-,e⟩|⟨-,e⟩|⟨-,e⟩|⟨-,e⟩|⟨-,e⟩|⟨-,e⟩|⟨-,e⟩⟩<;>rw[e]
 ·exact⟨rfl,rfl,rfl⟩
 ·show(t.ask _).s=_∧(t.ask _).c=_∧(t.ask _).d=_
  unfold ask;split
  ·exact⟨rfl,rfl,rfl⟩
  ·split
   ·split<;>exact⟨rfl,rfl,rfl⟩
   ·exact⟨rfl,rfl,rfl⟩
 ·show(t.other _).s=_∧(t.other _).c=_∧(t.other _).d=_
  unfold other;split<;>exact⟨rfl,rfl,rfl⟩
 ·show(t.claim _).s=_∧(t.claim _).c=_∧(t.claim _).d=_
  unfold claim;split<;>exact⟨rfl,rfl,rfl⟩
 ·show(t.bodies _).s=_∧(t.bodies _).c=_∧(t.bodies _).d=_
  unfold bodies;split
  ·exact⟨rfl,rfl,rfl⟩
  ·exact T (t.read _) 3 6
 ·show(t.head _).s=_∧(t.head _).c=_∧(t.head _).d=_
  unfold head;split
  ·exact⟨rfl,rfl,rfl⟩
  ·exact T t 3 6
 ·exact T t 3 6
 ·show(t.pages _).s=_∧(t.pages _).c=_∧(t.pages _).d=_
  unfold pages;split
  ·exact⟨rfl,rfl,rfl⟩
  ·exact T t 6 9
 ·exact⟨rfl,rfl,rfl⟩
 ·exact T t 6 9
 ·show(t.entry).s=_∧(t.entry).c=_∧(t.entry).d=_
  unfold entry;split<;>exact⟨rfl,rfl,rfl⟩
 ·show(t.supers _).s=_∧(t.supers _).c=_∧(t.supers _).d=_
  unfold supers;split
  ·exact⟨rfl,rfl,rfl⟩
  ·exact T (t.read _) 10 13
 ·show(t.slots' _).s=_∧(t.slots' _).c=_∧(t.slots' _).d=_
  unfold slots';split
  ·exact⟨rfl,rfl,rfl⟩
  ·exact⟨(slot_k t).1,(slot_k t).2.1,(slot_k t).2.2.1⟩
 ·exact⟨(slot_k t).1,(slot_k t).2.1,(slot_k t).2.2.1⟩
 ·exact⟨rfl,rfl,rfl⟩
theorem step_of {s:Sh} (h:w.of s):(t.step w).2.of s:=by
 rcases step_cases t w with⟨-,e⟩|⟨-,⟨-,e⟩|⟨-,e⟩|⟨-,e⟩|⟨-,e⟩|⟨-,e⟩|⟨-,e⟩|⟨-,e⟩|⟨-,e⟩|⟨-,e⟩|⟨-,e⟩|⟨-,e⟩|⟨-,e⟩|⟨-,e⟩|⟨-,e⟩⟩<;>rw[e]
 ·exact h
 ·exact Wd.of_load h _ _
 ·exact Wd.of_load h _ _
 ·exact Wd.of_swap h (U_putSt ..) _ _ _
 ·exact Wd.of_load h _ _
 ·exact Wd.of_load h _ _
 ·exact Wd.of_store h U_0 _ _
 ·exact Wd.of_load h _ _
 ·exact Wd.of_store h U_0 _ _
 ·exact Wd.of_store h U_0 _ _
 ·exact Wd.of_store h U_0 _ _
 ·exact Wd.of_load h _ _
 ·exact Wd.of_load h _ _
 ·exact Wd.of_store h (U_opn _) _ _
 ·exact Wd.of_store h (U_putSt ..) _ _
/-! ### How long -/
def lf (p m nx at' i sl:Int):Int:=
 if nx=0 then 54*p+m+4 else if nx=1 then 54*p+m+3 else if nx=2 then 54*p+m+2 else if nx=3 then 3*(p - at')+51*p+m+1 else if nx=4 then 3*(p - at')+51*p+m else
 if nx=5 then 3*(p - at')+51*p+m - 1 else if nx=6 then 18*(p - at')+33*p+m+1 else if nx=7 then 18*(p - at')+33*p+m - i else if nx=8 then 18*(p - at')+33*p+m - 16 else
 if nx=9 then m - i+33*p+1 else if nx=10 then 33*(p - at')+1 else if nx=11 then 33*(p - at') - 32+2*(sl - i) else if nx=12 then 33*(p - at') - 33+2*(sl - i) else 1
def left (t:Ad):Int:=if t.dn then 0 else lf t.s.p t.s.m t.nx t.at' t.i (slots t.pA)
theorem left_eq (hd:t.dn=false) {n:Int} (hn:t.nx=n):t.left=lf t.s.p t.s.m n t.at' t.i (slots t.pA):=by unfold left;rw[hd,hn];rfl
theorem left_0 (hd:t.dn=true):t.left=0:=by unfold left;rw[if_pos hd]
theorem turn36 (hd:t.dn=false):(t.turn 3 6).left=3*(t.s.p - t.at')+51*t.s.p+t.s.m - 2:=by
 rw[show(t.turn 3 6).left=if t.dn then 0 else lf t.s.p t.s.m (t.turn 3 6).nx (t.turn 3 6).at' (t.turn 3 6).i (slots t.pA) by unfold left;rw[(turn_k t 3 6).1,(turn_k t 3 6).2.2.2.1,(turn_k t 3 6).2.2.2.2.2.1],hd,if_neg (by decide)]
 unfold turn
 split
 ·show 18*(t.s.p - 0)+33*t.s.p+t.s.m+1=_;omega
 ·show 3*(t.s.p - (t.at'+1))+51*t.s.p+t.s.m+1=_;omega
theorem turn69 (hd:t.dn=false):(t.turn 6 9).left=18*(t.s.p - t.at')+33*t.s.p+t.s.m - 17:=by
 rw[show(t.turn 6 9).left=if t.dn then 0 else lf t.s.p t.s.m (t.turn 6 9).nx (t.turn 6 9).at' (t.turn 6 9).i (slots t.pA) by unfold left;rw[(turn_k t 6 9).1,(turn_k t 6 9).2.2.2.1,(turn_k t 6 9).2.2.2.2.2.1],hd,if_neg (by decide)]
 unfold turn
 split
 ·by_cases h:t.s.m=0
  ·show lf t.s.p t.s.m (if(9:Int)=9∧t.s.m=0 then 10 else 9) 0 0 (slots t.pA)=_
   rw[if_pos ⟨rfl,h⟩]
   show 33*(t.s.p - 0)+1=_;omega
  ·show lf t.s.p t.s.m (if(9:Int)=9∧t.s.m=0 then 10 else 9) 0 0 (slots t.pA)=_
   rw[if_neg (by omega)]
   show t.s.m - 0+33*t.s.p+1=_;omega
 ·show 18*(t.s.p - (t.at'+1))+33*t.s.p+t.s.m+1=_;omega
theorem turn1013 (hd:t.dn=false):(t.turn 10 13).left=33*(t.s.p - t.at') - 32:=by
 rw[show(t.turn 10 13).left=if t.dn then 0 else lf t.s.p t.s.m (t.turn 10 13).nx (t.turn 10 13).at' (t.turn 10 13).i (slots t.pA) by unfold left;rw[(turn_k t 10 13).1,(turn_k t 10 13).2.2.2.1,(turn_k t 10 13).2.2.2.2.2.1],hd,if_neg (by decide)]
 unfold turn
 split
 ·show(1:Int)=_;omega
 ·show 33*(t.s.p - (t.at'+1))+1=_;omega
theorem slot_left (hd:t.dn=false):t.slot.left≤33*(t.s.p - t.at') - 34+2*(slots t.pA - t.i):=by
 unfold slot
 split
 ·rw[turn1013 (t:={ t with i:=0,di:=t.di+1,nx:=11 }) hd]
  show 33*(t.s.p - t.at') - 32≤_;omega
 ·rw[left_eq (t:={ t with i:=t.i+1,di:=t.di+1,nx:=11 }) hd rfl]
  show 33*(t.s.p - t.at') - 32+2*(slots t.pA - (t.i+1))≤_;omega
theorem left_pos (h:t.wf) (hd:t.dn=false):0<t.left:=by
 obtain⟨hm,he,hcd,a⟩:=h.of hd
 have hb:=(may_iff _ _ _).1 hm
 unfold Ar at a
 rcases (by omega:t.nx=0∨t.nx=1∨t.nx=2∨t.nx=3∨t.nx=4∨t.nx=5∨t.nx=6∨t.nx=7∨t.nx=8∨t.nx=9∨t.nx=10∨t.nx=11∨t.nx=12∨t.nx=13) with hn | hn | hn | hn | hn | hn | hn | hn | hn | hn | hn | hn | hn | hn<;>rw[left_eq hd hn]
 ·show(0:Int)<54*t.s.p+t.s.m+4;omega
 ·show(0:Int)<54*t.s.p+t.s.m+3;omega
 ·show(0:Int)<54*t.s.p+t.s.m+2;omega
 ·show(0:Int)<3*(t.s.p - t.at')+51*t.s.p+t.s.m+1;omega
 ·show(0:Int)<3*(t.s.p - t.at')+51*t.s.p+t.s.m;omega
 ·show(0:Int)<3*(t.s.p - t.at')+51*t.s.p+t.s.m - 1;omega
 ·show(0:Int)<18*(t.s.p - t.at')+33*t.s.p+t.s.m+1;omega
 ·show(0:Int)<18*(t.s.p - t.at')+33*t.s.p+t.s.m - t.i;omega
 ·show(0:Int)<18*(t.s.p - t.at')+33*t.s.p+t.s.m - 16;omega
 ·show(0:Int)<t.s.m - t.i+33*t.s.p+1;omega
 ·show(0:Int)<33*(t.s.p - t.at')+1;omega
 ·show(0:Int)<33*(t.s.p - t.at') - 32+2*(slots t.pA - t.i);omega
 ·show(0:Int)<33*(t.s.p - t.at') - 33+2*(slots t.pA - t.i);omega
 ·show(0:Int)<1;omega
theorem left_nn (h:t.wf):0≤t.left:=by
 cases hd:t.dn
 ·have:=left_pos h hd;omega
 ·rw[left_0 hd];exact Int.le_refl _
theorem left_dn (h:t.wf) (hl:t.left≤0):t.dn=true:=by
 cases hd:t.dn
 ·have:=left_pos h hd;omega
 ·rfl
theorem step_left (h:t.wf) (hd:t.dn=false):(t.step w).1.left<t.left:=by
 obtain⟨hm,he,hcd,a⟩:=h.of hd
 have hb:=(may_iff _ _ _).1 hm
 unfold Ar at a
 have sb:=slots_bd t.pA
 have Z:∀ u:Ad,u.dn=true→0<t.left→u.left<t.left:=fun u hu h0=>by rw[left_0 hu];exact h0
 have P:0<t.left:=left_pos h hd
 rcases step_cases t w with⟨e,-⟩|⟨-,⟨hn,e⟩|⟨hn,e⟩|⟨hn,e⟩|⟨hn,e⟩|⟨hn,e⟩|⟨hn,e⟩|⟨hn,e⟩|⟨hn,e⟩|⟨hn,e⟩|⟨hn,e⟩|⟨hn,e⟩|⟨hn,e⟩|⟨hn,e⟩|⟨hn,e⟩⟩
 ·rw[hd]at e;cases e
 all_goals rw[e]
 ·rw[left_eq hd hn]at P Z ⊢
  show(t.ask _).left<54*t.s.p+t.s.m+4
  unfold ask
  split
  ·rw[left_eq (t:={ t with was:=w.get t.dat,nx:=2 }) hd rfl]
   show 54*t.s.p+t.s.m+2<_;omega
  ·split
   ·split
    ·exact Z _ rfl P
    ·rw[left_eq (t:={ t with was:=w.get t.dat,by':=stB (w.get t.dat),nx:=1,di:=stB (w.get t.dat) }) hd rfl]
     show 54*t.s.p+t.s.m+3<_;omega
   ·exact Z _ rfl P
 ·rw[left_eq hd hn]at P Z ⊢
  show(t.other _).left<54*t.s.p+t.s.m+3
  unfold other
  split
  ·exact Z _ rfl P
  ·rw[left_eq (t:={ t with nx:=2 }) hd rfl]
   show 54*t.s.p+t.s.m+2<_;omega
 ·rw[left_eq hd hn]at P Z ⊢
  show(t.claim _).left<54*t.s.p+t.s.m+2
  unfold claim
  split
  ·rw[left_eq (t:={ t with nx:=3,di:=0 }) hd rfl]
   show 3*(t.s.p - t.at')+51*t.s.p+t.s.m+1<_;omega
  ·exact Z _ rfl P
 ·rw[left_eq hd hn]at P Z ⊢
  show(t.bodies _).left<3*(t.s.p - t.at')+51*t.s.p+t.s.m+1
  unfold bodies
  split
  ·rw[left_eq (t:={ t.readQ (w.get t.pat) with nx:=4 }) hd rfl]
   show 3*(t.s.p - t.at')+51*t.s.p+t.s.m<_;omega
  ·rw[turn36 (t:=t.read (w.get t.pat)) hd]
   show 3*(t.s.p - t.at')+51*t.s.p+t.s.m - 2<_;omega
 ·rw[left_eq hd hn]at P Z ⊢
  show(t.head _).left<3*(t.s.p - t.at')+51*t.s.p+t.s.m
  unfold head
  split
  ·rw[left_eq (t:={ t with nx:=5 }) hd rfl]
   show 3*(t.s.p - t.at')+51*t.s.p+t.s.m - 1<_;omega
  ·rw[turn36 hd];omega
 ·rw[left_eq hd hn]at P Z ⊢
  show(t.turn 3 6).left<3*(t.s.p - t.at')+51*t.s.p+t.s.m - 1
  rw[turn36 hd];omega
 ·rw[left_eq hd hn]at P Z ⊢
  show(t.pages _).left<18*(t.s.p - t.at')+33*t.s.p+t.s.m+1
  unfold pages
  split
  ·rw[left_eq (t:={ t with nx:=7,i:=0,di:=0 }) hd rfl]
   show 18*(t.s.p - t.at')+33*t.s.p+t.s.m - 0<_;omega
  ·rw[turn69 hd];omega
 ·rw[left_eq hd hn]at P Z ⊢
  show t.clear.left<18*(t.s.p - t.at')+33*t.s.p+t.s.m - t.i
  by_cases h16:t.i+1=16
  ·rw[left_eq (t:=t.clear) (n:=8) hd (if_pos h16)]
   show 18*(t.s.p - t.at')+33*t.s.p+t.s.m - 16<_;omega
  ·rw[left_eq (t:=t.clear) (n:=7) hd (if_neg h16)]
   show 18*(t.s.p - t.at')+33*t.s.p+t.s.m - (t.i+1)<_;omega
 ·rw[left_eq hd hn]at P Z ⊢
  show(t.turn 6 9).left<18*(t.s.p - t.at')+33*t.s.p+t.s.m - 16
  rw[turn69 hd];omega
 ·rw[left_eq hd hn]at P Z ⊢
  show t.entry.left<t.s.m - t.i+33*t.s.p+1
  unfold entry
  split
  ·rw[left_eq (t:={ t with i:=0,di:=0,nx:=10 }) hd rfl]
   show 33*(t.s.p - t.at')+1<_;omega
  ·rw[left_eq (t:={ t with i:=t.i+1,di:=t.di+1 }) hd hn]
   show t.s.m - (t.i+1)+33*t.s.p+1<_;omega
 ·rw[left_eq hd hn]at P Z ⊢
  show(t.supers _).left<33*(t.s.p - t.at')+1
  unfold supers
  split
  ·rw[left_eq (t:={ t.readQ (w.get t.pat) with nx:=11,i:=0,di:=0 }) hd rfl]
   have:=slots_bd (pgA t.s t.at' (w.get t.pat))
   show 33*(t.s.p - t.at') - 32+2*(slots (pgA t.s t.at' (w.get t.pat)) - 0)<_;omega
  ·rw[turn1013 (t:=t.read (w.get t.pat)) hd]
   show 33*(t.s.p - t.at') - 32<_;omega
 ·rw[left_eq hd hn]at P Z ⊢
  show(t.slots' _).left<33*(t.s.p - t.at') - 32+2*(slots t.pA - t.i)
  unfold slots'
  split
  ·rw[left_eq (t:={ t with nx:=12 }) hd rfl]
   show 33*(t.s.p - t.at') - 33+2*(slots t.pA - t.i)<_;omega
  ·have:=slot_left (t:=t) hd;omega
 ·rw[left_eq hd hn]at P Z ⊢
  show t.slot.left<33*(t.s.p - t.at') - 33+2*(slots t.pA - t.i)
  have:=slot_left (t:=t) hd;omega
 ·exact Z _ rfl P
theorem new_left (s:Sh) (c d:Int) (hp:0≤s.p∧0≤s.m):(new s c d).left≤54*s.p+s.m+4:=by
 unfold left
 split
 ·omega
 ·show 54*s.p+s.m+4≤_;omega
end Ad
end Go.Ma
namespace Go.Ma
open Go.Pl

structure PgInv (n:Nat) (s:Sh) (full:Int→Prop) (ts:Nat→Pc) (w:Wd):Prop where
 of:w.of s
 ok:may s.p s.c s.m=true
 nc:(n:Int)≤s.c
 wf:∀ c,c<n→(ts c).wf∧(ts c).s=s∧(ts c).c=c
 fd:∀ c,c<n→(ts c).fd=true→(ts c).dn=true
 own:∀ c,c<n→(ts c).fd=true→0≤(ts c).pg∧(ts c).pg<s.p∧¬ full (ts c).pg∧w.get (s.c+(ts c).pg)=held c
 fl:∀ q,0≤q→q<s.p→full q→w.get (s.c+q)≠0
 em:∀ q,0≤q→q<s.p→¬ full q→w.get (s.c+q)=0∨∃ c,c<n∧(ts c).fd=true∧(ts c).pg=q
 seen:∀ c,c<n→(ts c).fd=false→∀ j,0≤j→j<(ts c).many→w.get (s.c+((ts c).f+j) % s.p)≠0
 fin:∀ c,c<n→(ts c).dn=true→(ts c).fd=false→0≤(ts c).f∧(ts c).f<s.p∧(ts c).many=s.p

def upT {T:Type} (ts:Nat→T) (c:Nat) (t:T):Nat→T:=fun d=>if d=c then t else ts d
namespace PgInv
variable {n:Nat} {s:Sh} {full:Int→Prop} {ts:Nat→Pc} {w:Wd}

end PgInv
end Go.Ma
namespace Go.Ma
open Go.Pl
namespace Ad
variable {s:Sh} {a b t:Ad} {w:Wd} {ca cb d:Int}
theorem st_place {s:Sh} (hm:may s.p s.c s.m=true) {i:Int} (h0:0≤i) (h1:i<s.c):status s.p s.c s.m i=i:=by
 unfold status within;rw[hm];simp;omega
def On (t:Ad):Prop:=t.dn=false∧3≤t.nx∧t.nx≤13
/-! ### Two -/
def Try (t:Ad):Prop:=t.dn=false∧(t.nx=0∨(t.nx=2∧t.was=2))
def Lost (t:Ad) (o:Int):Prop:=(t.dn=false∧(t.nx=0∨(t.nx=2∧t.was=2)∨(t.nx=1∧t.by'=o)))∨(t.dn=true∧(t.err=4∨t.err=5))
def Ahead (x ca:Int) (a b:Ad):Prop:=(x=3+16*ca∧a.On∧b.Lost ca)∨(x=4∧(a.dn=true∧a.err=0)∧b.Lost ca)
structure Two (s:Sh) (ca cb d:Int) (a b:Ad) (w:Wd):Prop where
 of:w.of s
 ok:may s.p s.c s.m=true
 ch:0≤ca∧ca<s.c∧0≤cb∧cb<s.c∧0≤d∧d<s.c∧ca≠d∧cb≠d
 wa:a.wf∧a.s=s∧a.c=ca∧a.d=d
 wb:b.wf∧b.s=s∧b.c=cb∧b.d=d
 va:w.get ca=1
 vb:w.get cb=1
 ph:(w.get d=2∧a.Try∧b.Try)∨Ahead (w.get d) ca a b∨Ahead (w.get d) cb b a
end Ad
end Go.Ma
set_option linter.unusedSectionVars false
namespace Go.Ma
open Go.Pl

section
variable (s:Sh) (ws0:Nat→Int) (d:Int)
def HeldBy (q:Int):Prop:=pgK s q (pgAt s ws0 q)=1∧pgA s q (pgAt s ws0 q)=d
def BodyOf (q:Int):Prop:=pgK s q (pgAt s ws0 q)=4∧HeldBy s ws0 d (pgA s q (pgAt s ws0 q))
structure Pt (ws:Nat→Int):Prop where
 np:∀ q,0≤q→q<s.p→¬ HeldBy s ws0 d q→¬ BodyOf s ws0 d q→pgAt s ws q=pgAt s ws0 q
 bd:∀ q,0≤q→q<s.p→BodyOf s ws0 d q→pgAt s ws q=0∨(pgAt s ws q=pgAt s ws0 q∧pgAt s ws (pgA s q (pgAt s ws0 q))=pgAt s ws0 (pgA s q (pgAt s ws0 q)))
 hd:∀ q,0≤q→q<s.p→HeldBy s ws0 d q→pgAt s ws q=pgAt s ws0 q∨(pgAt s ws q=0∧∀ i,0≤i→i<16→slAt s ws q i=0)
 sb:∀ q,0≤q→q<s.p→¬ HeldBy s ws0 d q→∀ i,0≤i→i<16→slAt s ws q i=slAt s ws0 q i∨(pgK s q (pgAt s ws0 q)=2∧slAt s ws0 q i=way d∧slAt s ws q i=opn (pgA s q (pgAt s ws0 q)))
 mo:∀ c i,0≤c→c<s.c→c≠d→0≤i→i<s.m→mgAt s ws c i=mgAt s ws0 c i
 md:∀ i,0≤i→i<s.m→mgAt s ws d i=mgAt s ws0 d i∨mgAt s ws d i=0
def BD (ws:Nat→Int) (n:Int):Prop:=∀ q,0≤q→q<n→BodyOf s ws0 d q→pgAt s ws q=0
def HD (ws:Nat→Int) (n:Int):Prop:=∀ q,0≤q→q<n→HeldBy s ws0 d q→pgAt s ws q=0
def MD (ws:Nat→Int) (n:Int):Prop:=∀ i,0≤i→i<n→mgAt s ws d i=0
def SD (ws:Nat→Int) (n:Int):Prop:=∀ q,0≤q→q<n→pgK s q (pgAt s ws0 q)=2→∀ i,0≤i→i<16→slAt s ws q i≠way d
end
section
variable {s:Sh} {ws0 ws:Nat→Int} {d q i n y:Int}
section
variable (hm:may s.p s.c s.m=true)
include hm
end
end
end Go.Ma

namespace Go.Ma
open Go.Pl
section
variable {s:Sh} {ws0 ws:Nat→Int} {d q i n y:Int}
end

namespace Ad
inductive Pa (s:Sh) (ws0:Nat→Int) (d:Int) (g0:Int→Int) (t:Ad) (w:Wd):Prop
 | p0 (hd:t.dn=false) (hn:t.nx=0) (hx:w.get d=g0 d)
 | p1 (hd:t.dn=false) (hn:t.nx=1) (hx:w.get d=g0 d) (hw:t.was=g0 d) (hk:stK (g0 d)=3) (hb:t.by'=stB (g0 d))
 | p2 (hd:t.dn=false) (hn:t.nx=2) (hx:w.get d=g0 d) (hw:t.was=g0 d)
 | p3 (hd:t.dn=false) (hn:t.nx=3) (b:BD s ws0 d w.ws t.at')
 | p4 (hd:t.dn=false) (hn:t.nx=4) (b:BD s ws0 d w.ws t.at') (hk:pgK s t.at' (pgAt s w.ws t.at')=4) (hA:t.pA=pgA s t.at' (pgAt s w.ws t.at'))
 | p5 (hd:t.dn=false) (hn:t.nx=5) (b:BD s ws0 d w.ws t.at') (ho:BodyOf s ws0 d t.at')
 | p6 (hd:t.dn=false) (hn:t.nx=6) (b:BD s ws0 d w.ws s.p) (h:HD s ws0 d w.ws t.at')
 | p7 (hd:t.dn=false) (hn:t.nx=7) (b:BD s ws0 d w.ws s.p) (h:HD s ws0 d w.ws t.at') (ho:HeldBy s ws0 d t.at') (z:∀ j,0≤j→j<t.i→slAt s w.ws t.at' j=0)
 | p8 (hd:t.dn=false) (hn:t.nx=8) (b:BD s ws0 d w.ws s.p) (h:HD s ws0 d w.ws t.at') (ho:HeldBy s ws0 d t.at') (z:∀ j,0≤j→j<16→slAt s w.ws t.at' j=0)
 | p9 (hd:t.dn=false) (hn:t.nx=9) (b:BD s ws0 d w.ws s.p) (h:HD s ws0 d w.ws s.p) (m:MD s d w.ws t.i) (ha:t.at'=0)
 | p10 (hd:t.dn=false) (hn:t.nx=10) (b:BD s ws0 d w.ws s.p) (h:HD s ws0 d w.ws s.p) (m:MD s d w.ws s.m) (x:SD s ws0 d w.ws t.at')
 | p11 (hd:t.dn=false) (hn:t.nx=11) (b:BD s ws0 d w.ws s.p) (h:HD s ws0 d w.ws s.p) (m:MD s d w.ws s.m) (x:SD s ws0 d w.ws t.at') (hk:pgK s t.at' (pgAt s ws0 t.at')=2) (hA:t.pA=pgA s t.at' (pgAt s ws0 t.at')) (z:∀ j,0≤j→j<t.i→slAt s w.ws t.at' j≠way d)
 | p12 (hd:t.dn=false) (hn:t.nx=12) (b:BD s ws0 d w.ws s.p) (h:HD s ws0 d w.ws s.p) (m:MD s d w.ws s.m) (x:SD s ws0 d w.ws t.at') (hk:pgK s t.at' (pgAt s ws0 t.at')=2) (hA:t.pA=pgA s t.at' (pgAt s ws0 t.at')) (z:∀ j,0≤j→j<t.i→slAt s w.ws t.at' j≠way d) (hw:slAt s w.ws t.at' t.i=way d)
 | p13 (hd:t.dn=false) (hn:t.nx=13) (b:BD s ws0 d w.ws s.p) (h:HD s ws0 d w.ws s.p) (m:MD s d w.ws s.m) (x:SD s ws0 d w.ws s.p)
 | en (hd:t.dn=true) (he:t.err=0) (hx:w.get d=putSt 4 0) (b:BD s ws0 d w.ws s.p) (h:HD s ws0 d w.ws s.p) (m:MD s d w.ws s.m) (x:SD s ws0 d w.ws s.p)
def Win (s:Sh) (g0:Int→Int) (d:Int):Prop:=stK (g0 d)=2∨(stK (g0 d)=3∧0≤stB (g0 d)∧stB (g0 d)<s.c∧stB (g0 d)≠d∧stK (g0 (stB (g0 d)))≠1)
structure Adp (s:Sh) (ws0:Nat→Int) (c d:Int) (g0:Int→Int) (t:Ad) (w:Wd):Prop where
 of:w.of s
 ok:may s.p s.c s.m=true
 wf:t.wf∧t.s=s∧t.c=c∧t.d=d
 cd:0≤d∧d<s.c
 wi:Win s g0 d
 snd:Snd s ws0
 pt:Pt s ws0 d w.ws
 st:∀ x,0≤x→x<s.c→x≠d→w.get x=g0 x
 ph:Pa s ws0 d g0 t w
variable {s:Sh} {ws0:Nat→Int} {c d:Int} {g0:Int→Int} {t:Ad} {w:Wd}
section
variable (hts:t.s=s) (hd:t.dn=false)
include hts hd
end
end Ad
end Go.Ma

namespace Go.Ma
open Go.Pl
namespace Ad
variable {s:Sh} {ws0:Nat→Int} {c d:Int} {g0:Int→Int} {t:Ad} {w:Wd}
end Ad
end Go.Ma

namespace Go.Ma
open Go.Pl
section
variable {s:Sh} {ws0 ws:Nat→Int} {d q i n y:Int}
structure Gn (s:Sh) (ws0:Nat→Int) (d:Int) (ws:Nat→Int):Prop where
 pt:Pt s ws0 d ws
 b:BD s ws0 d ws s.p
 h:HD s ws0 d ws s.p
 m:MD s d ws s.m
 x:SD s ws0 d ws s.p
section
variable (hm:may s.p s.c s.m=true) (hsn:Snd s ws0) (d0:0≤d) (d1:d<s.c) (g:Gn s ws0 d ws)
include hm hsn d0 d1 g
end
end
namespace Ad
variable {s:Sh} {ws0:Nat→Int} {c d:Int} {g0:Int→Int} {t:Ad} {w:Wd}
end Ad
end Go.Ma

namespace Go.Ma
open Go.Pl
section
variable {s:Sh} {ws0 ws:Nat→Int} {d q i n y:Int}
variable (hm:may s.p s.c s.m=true) (hsn:Snd s ws0) (d0:0≤d) (d1:d<s.c) (g:Gn s ws0 d ws)
include hm hsn d0 d1 g
end
end Go.Ma
