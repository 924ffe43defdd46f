/-
 Plain mathematics of shapes, sizes and places (chapter 3): no program in sight. Conditions: none.
-/
import Derived.WalkKit
namespace Go.Pl

def w64 (n:Int):Int:=IntKind.i64.wrap n
theorem wrap_w64 (n:Int):IntKind.i64.wrap n=w64 n:=rfl
theorem w64_eq {n:Int} (h:-9223372036854775808≤n) (h':n≤9223372036854775807):w64 n=n:=by
 unfold w64;rw[IntKind.wrap_i64];omega
def wu (n:Int):Int:=IntKind.u64.wrap n
theorem wrap_wu (n:Int):IntKind.u64.wrap n=wu n:=rfl
theorem wu_eq {n:Int} (h:0≤n) (h':n≤18446744073709551615):wu n=n:=by
 unfold wu;rw[IntKind.wrap_u64];omega

def within (n lo hi:Int):Bool:=decide (lo≤n) && decide (n≤hi)
def may (p c m:Int):Bool:=within p 1 64 && within c 1 12 && within m 0 8
def size (k:Int):Int:=if k=0 then 4 else if k=1 then 8 else if k=2 then 16 else if k=3 then 32 else 0
def slots (k:Int):Int:=if k=0 then 16 else if k=1 then 8 else if k=2 then 4 else if k=3 then 2 else 0
def small (n:Int):Bool:=within n 1 32
def large (n:Int):Bool:=within n 33 512
def cls (n:Int):Int:=if small n then(if n≤4 then 0 else if n≤8 then 1 else if n≤16 then 2 else 3) else 0
def pages (n:Int):Int:=if large n then(n - 1) / 64+1 else 0
def len (n:Int):Int:=if small n then size (cls n) else pages n*64
def fine (n:Int):Bool:=small n || large n
def words (p c m:Int):Int:=if may p c m then c+p+p*16+c*m else 0
def status (p c m i:Int):Int:=if may p c m && within i 0 (c - 1) then i else -1
def page (p c m i:Int):Int:=if may p c m && within i 0 (p - 1) then c+i else -1
def slot (p c m i j:Int):Int:=if may p c m && within i 0 (p - 1) && within j 0 15 then c+p+i*16+j else -1
def mag (p c m i j:Int):Int:=if may p c m && within i 0 (c - 1) && within j 0 (m - 1) then c+p+p*16+i*m+j else -1
def there (p c m a:Int):Bool:=may p c m && within a 0 (p*64 - 1)
def sp (p c m a:Int):Int:=if there p c m a then a / 64 else 0
def so (p c m a:Int):Int:=if there p c m a then a % 64 else 0

theorem win_iff (n lo hi:Int):within n lo hi=true↔lo≤n∧n≤hi:=by simp [within]
theorem win_no (n lo hi:Int):within n lo hi=false↔n<lo∨hi<n:=by
 rw[← Bool.not_eq_true,win_iff];omega
theorem may_iff (p c m:Int):may p c m=true↔1≤p∧p≤64∧1≤c∧c≤12∧0≤m∧m≤8:=by
 simp [may,within];omega
theorem may_no (p c m:Int):may p c m=false↔¬ (1≤p∧p≤64∧1≤c∧c≤12∧0≤m∧m≤8):=by
 rw[← Bool.not_eq_true,may_iff]

theorem mul_bd (c m:Int) (h1:0≤c) (h2:c≤12) (h3:0≤m) (h4:m≤8):0≤c*m∧c*m≤96:=
 ⟨Int.mul_nonneg h1 h3,by have:=Int.mul_le_mul h2 h4 h3 (by decide:(0:Int)≤12);omega⟩

theorem class_cases {k:Int} (h:within k 0 3=true):k=0∨k=1∨k=2∨k=3:=by
 rw[win_iff]at h;omega
theorem size_no {k:Int} (h:within k 0 3=false):size k=0:=by
 rw[win_no]at h;unfold size
 rw[if_neg (by omega),if_neg (by omega),if_neg (by omega),if_neg (by omega)]
theorem slots_no {k:Int} (h:within k 0 3=false):slots k=0:=by
 rw[win_no]at h;unfold slots
 rw[if_neg (by omega),if_neg (by omega),if_neg (by omega),if_neg (by omega)]
theorem size_bd (k:Int):0≤size k∧size k≤32:=by unfold size;split<;>(try split)<;>(try split)<;>(try split)<;>omega
theorem slots_bd (k:Int):0≤slots k∧slots k≤16:=by unfold slots;split<;>(try split)<;>(try split)<;>(try split)<;>omega
theorem cls_bd (n:Int):0≤cls n∧cls n≤3:=by unfold cls;split<;>(try split)<;>(try split)<;>(try split)<;>omega
theorem cls_first {n k:Int} (hn:small n=true) (h0:0≤k) (h:k≤cls n):size k<n↔k<cls n:=by
 have hb:=cls_bd n
 unfold small at hn
 have hw:=(win_iff _ _ _).1 hn
 have e:cls n=if n≤4 then 0 else if n≤8 then 1 else if n≤16 then 2 else 3:=by unfold cls small;rw[if_pos hn]
 rw[e]at h hb ⊢
 unfold size
 rcases (by omega:k=0∨k=1∨k=2∨k=3) with rfl | rfl | rfl | rfl<;>simp<;>(repeat' split at h)<;>(repeat' split)<;>omega
theorem pages_bd (n:Int):0≤pages n∧pages n≤8:=by
 unfold pages;split
 ·rename_i h;unfold large at h;rw[win_iff]at h;omega
 ·omega

theorem status_yes {p c m i:Int} (h:may p c m=true) (h0:0≤i) (h1:i<c):status p c m i=i:=by
 unfold status;rw[h,(win_iff i 0 (c - 1)).2 ⟨h0,by omega⟩];rfl
theorem status_no {p c m i:Int} (h:¬ (may p c m=true∧0≤i∧i<c)):status p c m i=-1:=by
 unfold status;rw[if_neg];intro e;rw[Bool.and_eq_true,win_iff]at e;exact h ⟨e.1,e.2.1,by omega⟩
theorem page_yes {p c m i:Int} (h:may p c m=true) (h0:0≤i) (h1:i<p):page p c m i=c+i:=by
 unfold page;rw[h,(win_iff i 0 (p - 1)).2 ⟨h0,by omega⟩];rfl
theorem page_no {p c m i:Int} (h:¬ (may p c m=true∧0≤i∧i<p)):page p c m i=-1:=by
 unfold page;rw[if_neg];intro e;rw[Bool.and_eq_true,win_iff]at e;exact h ⟨e.1,e.2.1,by omega⟩
theorem slot_yes {p c m i j:Int} (h:may p c m=true) (h0:0≤i) (h1:i<p) (h2:0≤j) (h3:j<16):slot p c m i j=c+p+i*16+j:=by
 unfold slot;rw[h,(win_iff i 0 (p - 1)).2 ⟨h0,by omega⟩,(win_iff j 0 15).2 ⟨h2,by omega⟩];rfl
theorem mag_yes {p c m i j:Int} (h:may p c m=true) (h0:0≤i) (h1:i<c) (h2:0≤j) (h3:j<m):mag p c m i j=c+p+p*16+i*m+j:=by
 unfold mag;rw[h,(win_iff i 0 (c - 1)).2 ⟨h0,by omega⟩,(win_iff j 0 (m - 1)).2 ⟨h2,by omega⟩];rfl
theorem mag_no {p c m i j:Int} (h:¬ (may p c m=true∧0≤i∧i<c∧0≤j∧j<m)):mag p c m i j=-1:=by
 unfold mag;rw[if_neg];intro e;rw[Bool.and_eq_true,Bool.and_eq_true,win_iff,win_iff]at e;exact h ⟨e.1.1,e.1.2.1,by omega,e.2.1,by omega⟩
theorem page_lt0 (p c m i:Int):page p c m i<0↔¬ (may p c m=true∧0≤i∧i<p):=by
 constructor
 ·intro h e
  rw[page_yes e.1 e.2.1 e.2.2]at h
  have:=(may_iff _ _ _).1 e.1;omega
 ·intro h;rw[page_no h];decide
theorem status_lt0 (p c m i:Int):status p c m i<0↔¬ (may p c m=true∧0≤i∧i<c):=by
 constructor
 ·intro h e
  rw[status_yes e.1 e.2.1 e.2.2]at h
  omega
 ·intro h;rw[status_no h];decide

end Go.Pl
