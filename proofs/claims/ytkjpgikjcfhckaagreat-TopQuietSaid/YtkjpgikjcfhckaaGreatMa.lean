/-
 The shared words and the small machines of chapters 8 to 12, the program's and the document's, as plain functions. Conditions: none.
-/
import Derived.Test.YtkjpgikjcfhckaaGreatPl
set_option linter.unusedVariables false
namespace Go.Ma
open Go.Pl

structure Sh where
 p:Int
 c:Int
 m:Int

def U (x:Int):Prop:=0≤x∧x≤18446744073709551615

structure Wd where
 n:Nat
 ws:Nat→Int
 st:Int
 cl:Int
 kd:Int
 pl:Int
 was:Int
 pt:Int
 ok:Bool
def Wd.get (w:Wd) (a:Int):Int:=w.ws a.toNat
def Wd.load (w:Wd) (c a:Int):Wd:={ w with st:=w64 (w.st+1),cl:=c,kd:=0,pl:=a,was:=w.get a,pt:=0,ok:=true }
def Wd.put (w:Wd) (a y:Int):Wd:={ w with ws:=fun j=>if j=a.toNat then y else w.ws j }
def Wd.store (w:Wd) (c a y:Int):Wd:={ w with ws:=fun j=>if j=a.toNat then y else w.ws j,st:=w64 (w.st+1),cl:=c,kd:=1,pl:=a,was:=w.get a,pt:=y,ok:=true }
def Wd.swap (w:Wd) (c a x y:Int):Wd:={ w with ws:=fun j=>if j=a.toNat then(if w.get a == x then y else w.get a) else w.ws j,st:=w64 (w.st+1),cl:=c,kd:=2,pl:=a,was:=w.get a,pt:=y,ok:=w.get a == x }
def Wd.add (w:Wd) (c a y:Int):Wd:={ w with ws:=fun j=>if j=a.toNat then wu (w.get a+y) else w.ws j,st:=w64 (w.st+1),cl:=c,kd:=3,pl:=a,was:=w.get a,pt:=y,ok:=true }
structure Wd.of (w:Wd) (s:Sh):Prop where
 n:(w.n:Int)=words s.p s.c s.m
 u:∀ i,U (w.ws i)

/-! ### What words say -/
def putPg (k a b:Int):Int:=if 0≤k∧k≤4∧0≤a∧a≤255∧0≤b∧b≤255∧(k=0→a=0)∧(k≠2→b=0) then k+16*a+4096*b else 0
def putSl (k a:Int):Int:=if 0≤k∧k≤3∧0≤a∧a≤255∧(k=0→a=0) then k+16*a else 0
def putEn (p i k:Int):Int:=if 0≤p∧p≤255∧0≤i∧i≤255∧0≤k∧k≤255 then 1+16*p+4096*i+1048576*k else 0
def pt (w d:Int):Int:=w / d % 256
def fits (s:Sh) (at' k a b:Int):Bool:=
 if k=1 then decide (a<s.c) else if k=2 then decide (a<4) && decide (b<s.c) else if k=3 then decide (1≤a) && (decide (a≤8) && decide (a≤s.p - at'))
 else if k=4 then decide (a<at') && decide (at' - 8<a) else true
def okPg (s:Sh) (at' w:Int):Bool:=decide (putPg (w % 16) (pt w 16) (pt w 4096)=w) && (decide (0≤page s.p s.c s.m at') && fits s at' (w % 16) (pt w 16) (pt w 4096))
def pgK (s:Sh) (at' w:Int):Int:=if okPg s at' w then w % 16 else 0
def pgA (s:Sh) (at' w:Int):Int:=if okPg s at' w then pt w 16 else 0
def pgB (s:Sh) (at' w:Int):Int:=if okPg s at' w then pt w 4096 else 0
def okSl (w:Int):Bool:=decide (putSl (w % 16) (pt w 16)=w)
def slK (w:Int):Int:=if okSl w then w % 16 else 0
def slA (w:Int):Int:=if okSl w then pt w 16 else 0
def okEn (s:Sh) (w:Int):Bool:=decide (putEn (pt w 16) (pt w 4096) (pt w 1048576)=w) && (decide (0≤page s.p s.c s.m (pt w 16)) && decide (pt w 4096<slots (pt w 1048576)))
def enP (s:Sh) (w:Int):Int:=if okEn s w then pt w 16 else 0
def enS (s:Sh) (w:Int):Int:=if okEn s w then pt w 4096 else 0
def enK (s:Sh) (w:Int):Int:=if okEn s w then pt w 1048576 else 0
def held (c:Int):Int:=putPg 1 c 0
def super (k c:Int):Int:=putPg 2 k c
def opn (k:Int):Int:=putSl 1 k
def way (c:Int):Int:=putSl 2 c
def taken (k:Int):Int:=putSl 3 k

/-! ### The program's machines -/
def good (s:Sh) (c k:Int):Bool:=decide (0≤status s.p s.c s.m c) && decide (0<slots k)

structure Tk where
 s:Sh
 c:Int
 k:Int
 i:Int
 ep:Int
 es:Int
 ek:Int
 hit:Bool
 fd:Bool
 dn:Bool
def Tk.new (s:Sh) (c k:Int):Tk:=⟨s,c,k,0,0,0,0,false,false,!good s c k || decide (s.m=0)⟩
def Tk.at' (t:Tk):Int:=mag t.s.p t.s.c t.s.m t.c t.i
def Tk.hits (t:Tk) (w:Wd):Bool:=okEn t.s (w.get t.at') && decide (enK t.s (w.get t.at')=t.k)
def Tk.step (t:Tk) (w:Wd):Tk×Wd:=
 if t.dn then(t,w) else
 if t.hit then({ t with fd:=true,dn:=true },w.store t.c t.at' 0) else
 if t.hits w then({ t with ep:=enP t.s (w.get t.at'),es:=enS t.s (w.get t.at'),ek:=enK t.s (w.get t.at'),hit:=true },w.load t.c t.at') else
 ({ t with i:=t.i+1,dn:=decide (t.i+1=t.s.m) },w.load t.c t.at')
structure Tk.wf (t:Tk):Prop where
 of:t.dn=false→may t.s.p t.s.c t.s.m=true∧0≤t.c∧t.c<t.s.c∧0≤t.i∧t.i<t.s.m

structure Pu where
 s:Sh
 c:Int
 i:Int
 ep:Int
 es:Int
 ek:Int
 hit:Bool
 put:Bool
 dn:Bool
def Pu.new (s:Sh) (c p i k:Int):Pu:=⟨s,c,0,p,i,k,false,false,!(good s c k && decide (0≤page s.p s.c s.m p) && decide (0≤i) && decide (i<slots k)) || decide (s.m=0)⟩
def Pu.at' (t:Pu):Int:=mag t.s.p t.s.c t.s.m t.c t.i
def Pu.step (t:Pu) (w:Wd):Pu×Wd:=
 if t.dn then(t,w) else
 if t.hit then({ t with put:=true,dn:=true },w.store t.c t.at' (putEn t.ep t.es t.ek)) else
 if w.get t.at'=0 then({ t with hit:=true },w.load t.c t.at') else
 ({ t with i:=t.i+1,dn:=decide (t.i+1=t.s.m) },w.load t.c t.at')
structure Pu.wf (t:Pu):Prop where
 of:t.dn=false→may t.s.p t.s.c t.s.m=true∧0≤t.c∧t.c<t.s.c∧0≤t.i∧t.i<t.s.m

structure Sc where
 s:Sh
 c:Int
 k:Int
 f:Int
 many:Int
 i:Int
 nx:Int
 fd:Bool
 dn:Bool
def Sc.new (s:Sh) (c k f:Int):Sc:=⟨s,c,k,f,0,0,0,false,!(good s c k && decide (0≤page s.p s.c s.m f))⟩
def Sc.pg (t:Sc):Int:=(t.f+t.many) % t.s.p
def Sc.turn (t:Sc):Sc:={ t with many:=t.many+1,i:=0,nx:=0,dn:=decide (t.many+1=t.s.p) }
def Sc.miss (t:Sc):Sc:=if t.i+1=slots t.k then { t with i:=t.i+1,nx:=1 }.turn else { t with i:=t.i+1,nx:=1 }
def Sc.at' (t:Sc):Int:=slot t.s.p t.s.c t.s.m t.pg t.i
def Sc.pat (t:Sc):Int:=page t.s.p t.s.c t.s.m t.pg
def Sc.mine (t:Sc) (w:Wd):Bool:=okPg t.s t.pg (w.get t.pat) && decide (pgK t.s t.pg (w.get t.pat)=2) && decide (pgA t.s t.pg (w.get t.pat)=t.k)
def Sc.step (t:Sc) (w:Wd):Sc×Wd:=
 if t.dn then(t,w) else
 if t.nx=0 then(if t.mine w then { t with nx:=1 } else t.turn,w.load t.c t.pat) else
 if t.nx=1 then(if w.get t.at'=opn t.k then { t with nx:=2 } else t.miss,w.load t.c t.at') else
 (if w.get t.at'=opn t.k then { t with fd:=true,dn:=true } else t.miss,w.swap t.c t.at' (opn t.k) (way t.c))
structure Sc.wf (t:Sc):Prop where
 of:t.dn=false→may t.s.p t.s.c t.s.m=true∧0≤t.c∧t.c<t.s.c∧0≤t.f∧t.f<t.s.p∧0≤t.many∧t.many<t.s.p∧0≤t.i∧t.i<slots t.k∧0≤t.nx∧t.nx≤2

structure Pc where
 s:Sh
 c:Int
 f:Int
 many:Int
 em:Bool
 fd:Bool
 dn:Bool
def Pc.new (s:Sh) (c f:Int):Pc:=⟨s,c,f,0,false,false,decide (status s.p s.c s.m c<0) || decide (page s.p s.c s.m f<0)⟩
def Pc.pg (t:Pc):Int:=(t.f+t.many) % t.s.p
def Pc.at' (t:Pc):Int:=page t.s.p t.s.c t.s.m t.pg
def Pc.next (t:Pc):Pc:={ t with em:=false,many:=t.many+1,dn:=decide (t.many+1=t.s.p) }
def Pc.step (t:Pc) (w:Wd):Pc×Wd:=
 if t.dn then(t,w) else
 if t.em then(if w.get t.at'=0 then { t with fd:=true,dn:=true } else t.next,w.swap t.c t.at' 0 (held t.c)) else
 (if w.get t.at'=0 then { t with em:=true } else t.next,w.load t.c t.at')
structure Pc.wf (t:Pc):Prop where
 of:t.dn=false→may t.s.p t.s.c t.s.m=true∧0≤t.c∧t.c<t.s.c∧0≤t.f∧t.f<t.s.p∧0≤t.many∧t.many<t.s.p

structure St where
 s:Sh
 c:Int
 p:Int
 k:Int
 i:Int
 bk:Bool
 hd:Bool
 dn:Bool
def St.new (s:Sh) (c p k:Int):St:=⟨s,c,p,k,0,false,false,!(good s c k && decide (0≤page s.p s.c s.m p))⟩
def St.at' (t:St) (i:Int):Int:=slot t.s.p t.s.c t.s.m t.p i
def St.pat (t:St):Int:=page t.s.p t.s.c t.s.m t.p
def St.step (t:St) (w:Wd):St×Wd:=
 if t.dn then(t,w) else
 if t.bk then({ t with i:=t.i - 1,dn:=decide (t.i - 1=0) },w.store t.c (t.at' (t.i - 1)) (opn t.k)) else
 if t.i=slots t.k then({ t with hd:=true,dn:=true },w.store t.c t.pat (held t.c)) else
 (if w.get (t.at' t.i)=opn t.k then { t with i:=t.i+1 } else { t with bk:=true,dn:=decide (t.i=0) },w.swap t.c (t.at' t.i) (opn t.k) (way t.c))
structure St.wf (t:St):Prop where
 of:t.dn=false→may t.s.p t.s.c t.s.m=true∧0≤t.c∧t.c<t.s.c∧0≤t.p∧t.p<t.s.p∧0<slots t.k∧0≤t.i∧t.i≤slots t.k∧(t.bk=true→0<t.i)

structure Bi where
 s:Sh
 c:Int
 p:Int
 k:Int
 i:Int
 bd:Bool
 dn:Bool
def Bi.new (s:Sh) (c p k:Int):Bi:=⟨s,c,p,k,0,false,!(good s c k && decide (0≤page s.p s.c s.m p))⟩
def Bi.at' (t:Bi):Int:=slot t.s.p t.s.c t.s.m t.p t.i
def Bi.pat (t:Bi):Int:=page t.s.p t.s.c t.s.m t.p
def Bi.step (t:Bi) (w:Wd):Bi×Wd:=
 if t.dn then(t,w) else
 if t.bd then({ t with i:=t.i - 1,dn:=decide (t.i - 1=0) },w.store t.c t.at' (opn t.k)) else
 if t.i=16 then({ t with bd:=true,i:=slots t.k - 1 },w.store t.c t.pat (super t.k t.c)) else
 ({ t with i:=t.i+1 },w.store t.c t.at' (if t.i<slots t.k then way t.c else 0))
structure Bi.wf (t:Bi):Prop where
 of:t.dn=false→may t.s.p t.s.c t.s.m=true∧0≤t.c∧t.c<t.s.c∧0≤t.p∧t.p<t.s.p∧0<slots t.k∧0≤t.i∧t.i≤16∧(t.bd=true→0<t.i∧t.i<slots t.k)

/-! ### What stays -/
theorem U_putPg (k a b:Int):U (putPg k a b):=by unfold putPg U;split<;>omega
theorem U_putSl (k a:Int):U (putSl k a):=by unfold putSl U;split<;>omega
theorem U_putEn (p i k:Int):U (putEn p i k):=by unfold putEn U;split<;>omega
theorem U_held (c:Int):U (held c):=U_putPg ..
theorem U_super (k c:Int):U (super k c):=U_putPg ..
theorem U_opn (k:Int):U (opn k):=U_putSl ..
theorem U_way (k:Int):U (way k):=U_putSl ..
theorem U_0:U 0:=by unfold U;omega
theorem Wd.of_load {w:Wd} {s:Sh} (h:w.of s) (c a:Int):(w.load c a).of s:=⟨h.n,h.u⟩
theorem Wd.of_store {w:Wd} {s:Sh} (h:w.of s) {y:Int} (hy:U y) (c a:Int):(w.store c a y).of s:=
 ⟨h.n,fun i=>by show U (if _ then _ else _);split;exact hy;exact h.u i⟩
theorem Wd.of_swap {w:Wd} {s:Sh} (h:w.of s) {y:Int} (hy:U y) (c a x:Int):(w.swap c a x y).of s:=
 ⟨h.n,fun i=>by
  show U (if _ then(if _ then _ else _) else _)
  split
  ·split
   ·exact hy
   ·exact h.u _
  ·exact h.u i⟩
theorem Wd.U_get {w:Wd} {s:Sh} (h:w.of s) (a:Int):U (w.get a):=h.u _
theorem mod_bd {a p:Int} (h:0<p):0≤a % p∧a % p<p:=⟨Int.emod_nonneg _ (by omega),Int.emod_lt_of_pos _ h⟩

theorem page_in {s:Sh} {w:Wd} (h:w.of s) (hm:may s.p s.c s.m=true) {i:Int} (h0:0≤i) (h1:i<s.p):0≤page s.p s.c s.m i∧page s.p s.c s.m i<w.n:=by
 rw[page_yes hm h0 h1,h.n]
 obtain⟨a1,a2,a3,a4,a5,a6⟩:=(may_iff _ _ _).1 hm
 have:=mul_bd s.c s.m (by omega) a4 a5 a6
 unfold words;rw[if_pos hm];omega
theorem slot_in {s:Sh} {w:Wd} (h:w.of s) (hm:may s.p s.c s.m=true) {i j:Int} (h0:0≤i) (h1:i<s.p) (h2:0≤j) (h3:j<16):0≤slot s.p s.c s.m i j∧slot s.p s.c s.m i j<w.n:=by
 rw[slot_yes hm h0 h1 h2 h3,h.n]
 obtain⟨a1,a2,a3,a4,a5,a6⟩:=(may_iff _ _ _).1 hm
 have:=mul_bd s.c s.m (by omega) a4 a5 a6
 unfold words;rw[if_pos hm];omega
theorem mag_in {s:Sh} {w:Wd} (h:w.of s) (hm:may s.p s.c s.m=true) {i j:Int} (h0:0≤i) (h1:i<s.c) (h2:0≤j) (h3:j<s.m):0≤mag s.p s.c s.m i j∧mag s.p s.c s.m i j<w.n:=by
 rw[mag_yes hm h0 h1 h2 h3,h.n]
 obtain⟨a1,a2,a3,a4,a5,a6⟩:=(may_iff _ _ _).1 hm
 have e:(s.c - 1 - i)*s.m=s.c*s.m - s.m - i*s.m:=by rw[Int.sub_mul,Int.sub_mul,Int.one_mul]
 have e2:0≤(s.c - 1 - i)*s.m:=Int.mul_nonneg (by omega) (by omega)
 have e3:0≤i*s.m:=Int.mul_nonneg h0 (by omega)
 unfold words;rw[if_pos hm];omega

end Go.Ma
