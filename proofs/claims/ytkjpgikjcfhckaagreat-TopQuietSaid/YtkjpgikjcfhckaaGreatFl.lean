/-
 A share of so many, in floats: whatever the share is, it is a whole number that is not negative. Conditions: none.
-/
import Derived.Laws.FloatArith
set_option linter.unusedVariables false
set_option linter.unusedSimpArgs false
namespace Go.Fl
open Go Ieee
theorem cut_le (w:Toward) (b:Bool) (n d:Nat):w.cut b n d≤n / (1 <<< min d (n.log2+2))+1:=by
 unfold Toward.cut
 simp only
 have:∀ c:Bool,c.toNat≤1:=fun c=>by cases c<;>decide
 exact Nat.add_le_add_left (this _) _
theorem zero_le (b:Bool) (n d:Nat):Toward.zero.cut b n d≤n:=by
 unfold Toward.cut
 simp only[Bool.toNat_false,Nat.add_zero]
 exact Nat.div_le_self _ _
theorem toInt_bd (neg:Bool) (rung:Nat) (h:rung<1075*2 ^ 52) (hz:neg=true→rung=0) :
  ∃ v,floatToIntVal .f64 (double.word neg rung) .i64=some v∧0≤v:=by
 have hs:double.signWeight=2 ^ 63:=by decide
 have hb:double.binade=2 ^ 52:=by decide
 have hi:double.infRung=2047*2 ^ 52:=by decide
 have hl:double.leastPlace=-1074:=by decide
 have key:∀ (s:Bool) (m:Nat) (p:Int),p≤0→m<2 ^ 53→(s=true→m=0)→∃ v,(Datum.number s m p).toInt .zero=some v∧0≤v∧v<2 ^ 53:=by
  intro s m p hp hm hs
  have e1:p.toNat=0:=by omega
  refine⟨_,rfl,?_,?_⟩
  ·have h1:=zero_le s (m <<< p.toNat) (-p).toNat
   rw[e1,Nat.shiftLeft_zero]at h1
   cases s
   ·unfold signed;simp
   ·have:=hs rfl
    subst this
    rw[e1,Nat.shiftLeft_zero]
    have h2:Toward.zero.cut true 0 (-p).toNat=0:=by omega
    rw[h2];decide
  ·have h1:=zero_le s (m <<< p.toNat) (-p).toNat
   rw[e1,Nat.shiftLeft_zero]at h1
   rw[e1,Nat.shiftLeft_zero]
   unfold signed
   rw[Nat.shiftLeft_zero]
   split
   ·omega
   ·omega
 have fin:∀ d:Datum,FloatKind.f64.decode (double.word neg rung)=d→(∃ v,d.toInt .zero=some v∧0≤v∧v<2 ^ 53)→∃ v,floatToIntVal .f64 (double.word neg rung) .i64=some v∧0≤v:=by
  rintro d hd ⟨v,h1,h2,h3⟩
  refine⟨v,?_,h2⟩
  unfold floatToIntVal
  rw[hd,h1]
  have a1:IntKind.i64.min=-9223372036854775808:=by decide
  have a2:IntKind.i64.max=9223372036854775807:=by decide
  simp only[a1,a2]
  rw[if_pos (by omega)]
 have hneg:(double.word neg rung) / double.signWeight % 2=neg.toNat∧(double.word neg rung) % double.signWeight=rung:=by
  rw[hs]
  unfold Format.word
  rw[hs]
  cases neg
  ·simp only[Bool.false_eq_true,if_false,Bool.toNat_false];omega
  ·simp only[if_true,Bool.toNat_true];omega
 have hdec:FloatKind.f64.decode (double.word neg rung)=double.read (double.word neg rung):=rfl
 have hn2:(neg.toNat == 1)=neg:=by cases neg<;>rfl
 refine fin _ rfl ?_
 rw[hdec]
 unfold Format.read
 rw[hneg.1,hneg.2,hn2,hb,hi,hl]
 simp only
 split
 ·refine key _ _ _ (by omega) (by omega) hz
 ·rw[if_pos (by omega)]
  refine key _ _ _ (by omega) (by omega) fun hx=>?_
  have:=hz hx
  omega
theorem log_lt {m k:Nat} (h0:m≠0) (h:m<2 ^ k):m.log2<k:=(Nat.log2_lt h0).2 h
theorem near_bd (neg:Bool) (m:Nat) (e:Int) (hm:m<2 ^ 110) (he:e≤-98) (hz:neg=true→m=0) :
  ∃ rung,double.nearest neg m e=double.word neg rung∧rung<1075*2 ^ 52∧(neg=true→rung=0):=by
 unfold Format.nearest
 by_cases h0:m=0
 ·rw[if_pos h0];exact⟨0,rfl,by omega,fun _=>rfl⟩
 have hb:double.binade=2 ^ 52:=by decide
 have hi:double.infRung=2047*2 ^ 52:=by decide
 have hl:double.leastPlace=-1074:=by decide
 have hfb:double.fractionBits=52:=rfl
 rw[if_neg h0,hb,hi,hl,hfb]
 simp only
 have hlog:=log_lt h0 hm
 have hself:=Nat.lt_log2_self (n:=m)
 obtain⟨g,hg⟩:∃ g,m.log2=g:=⟨_,rfl⟩
 rw[hg]at hlog hself ⊢
 obtain⟨la,hla⟩:∃ la,max (e+(g:Int) - ((52:Nat):Int)) (-1074)=la:=⟨_,rfl⟩
 have hla1:la≤-41∧-1074≤la∧e+g - 52≤la:=by omega
 rw[hla]
 have hc:=cut_le .even neg (m <<< (e - la).toNat) (la - e).toNat
 have hk:Toward.even.cut neg (m <<< (e - la).toNat) (la - e).toNat≤2 ^ 53:=by
  refine Nat.le_trans hc ?_
  have:(m <<< (e - la).toNat) / (1 <<< min (la - e).toNat ((m <<< (e - la).toNat).log2+2))<2 ^ 53:=by
   by_cases hle:e≤la
   ·have e1:(e - la).toNat=0:=by omega
    rw[e1,Nat.shiftLeft_zero,hg,Nat.one_shiftLeft]
    obtain⟨d,hd⟩:∃ d,(la - e).toNat=d:=⟨_,rfl⟩
    rw[hd]
    refine Nat.div_lt_of_lt_mul ?_
    refine Nat.lt_of_lt_of_le hself ?_
    rw[← Nat.pow_add]
    exact Nat.pow_le_pow_right (by decide) (by omega)
   ·have e1:(la - e).toNat=0:=by omega
    rw[e1,Nat.zero_min,Nat.shiftLeft_zero,Nat.div_one,Nat.shiftLeft_eq]
    obtain⟨d,hd⟩:∃ d,(e - la).toNat=d:=⟨_,rfl⟩
    rw[hd]
    have h1:m*2 ^ d<2 ^ (g+1)*2 ^ d:=(Nat.mul_lt_mul_right (Nat.two_pow_pos d)).2 hself
    rw[← Nat.pow_add]at h1
    exact Nat.lt_of_lt_of_le h1 (Nat.pow_le_pow_right (by decide) (by omega))
  omega
 generalize Toward.even.cut neg (m <<< (e - la).toNat) (la - e).toNat=K at hk
 refine⟨_,rfl,?_,fun hx=>absurd (hz hx) h0⟩
 refine Nat.lt_of_le_of_lt (Nat.min_le_left _ _) ?_
 have h2:(la - -1074).toNat≤1033:=by omega
 have h3:=Nat.mul_le_mul_right (2 ^ 52) h2
 omega
theorem below (x:Nat) (h0:double.order x 0≠some .lt) (h1:double.order x 4607182418800017408=some .lt) :
  ∃ s m i,double.read x=.number s m i∧m<2 ^ 53∧i≤-52∧(s=true→m=0):=by
 unfold Format.order at h0 h1
 have r0:double.read 0=.number false 0 (-1074):=by decide
 have r1:double.read 4607182418800017408=.number false 4503599627370496 (-52):=by decide
 rw[r0]at h0
 rw[r1]at h1
 cases hx:double.read x with
 | nan=>rw[hx]at h1;cases h1
 |infinity s=>
  rw[hx]at h0 h1
  cases s
  ·cases h1
  ·exact absurd rfl h0
 |number s m i=>
  have hb:double.binade=2 ^ 52:=by decide
  have hl:double.leastPlace=-1074:=by decide
  have hmi:m<2 ^ 53∧(i=-1074∨(2 ^ 52≤m)):=by
   unfold Format.read at hx
   rw[hb,hl]at hx
   simp only at hx
   split at hx
   ·injection hx with e1 e2 e3;omega
   ·split at hx
    ·injection hx with e1 e2 e3;omega
    ·split at hx<;>cases hx
  rw[hx]at h0 h1
  have h0':compare (signed s m (i - min i (-1074)).toNat) (signed false 0 (-1074 - min i (-1074)).toNat)≠.lt:=fun h=>h0 (congrArg some h)
  have h1':compare (signed s m (i - min i (-52)).toNat) (signed false 4503599627370496 (-52 - min i (-52)).toNat)=.lt:=by injection h1
  rw[Int.compare_eq_lt]at h1'
  rw[Ne,Int.compare_eq_lt]at h0'
  refine⟨s,m,i,rfl,hmi.1,?_,fun hs=>?_⟩
  ·by_cases hc:i≤-52
   ·exact hc
   exfalso
   have hm:2 ^ 52≤m:=by omega
   cases s
   ·have e1:min i (-52)=-52:=by omega
    rw[e1]at h1'
    unfold signed at h1'
    simp only[Bool.false_eq_true,if_false]at h1'
    rw[show(-52 - -52:Int).toNat=0 by decide,Nat.shiftLeft_zero,Nat.shiftLeft_eq]at h1'
    have:=Nat.le_mul_of_pos_right m (Nat.two_pow_pos (i - -52).toNat)
    omega
   ·unfold signed at h0'
    simp only[if_true,Bool.false_eq_true,if_false,Nat.shiftLeft_eq]at h0'
    have:=Nat.le_mul_of_pos_right m (Nat.two_pow_pos (i - min i (-1074)).toNat)
    omega
  ·subst hs
   unfold signed at h0'
   simp only[if_true,Bool.false_eq_true,if_false,Nat.shiftLeft_eq]at h0'
   have:=Nat.le_mul_of_pos_right m (Nat.two_pow_pos (i - min i (-1074)).toNat)
   omega
def few (n:Nat):Bool:=match double.read (floatOfInt .f64 n) with
 | .number false m i=>decide (m<2 ^ 53) && decide (i≤-46)
 | _=>false
theorem few_all:∀ n:Fin 65,few n.val=true∨n.val=0:=by decide +kernel
theorem share {x n:Nat} (hn:1≤n∧n≤64) (h0:double.order x 0≠some .lt) (h1:double.order x 4607182418800017408=some .lt) :
  ∃ r v,floatBits .mul .f64 x (floatOfInt .f64 n)=some r∧floatToIntVal .f64 r .i64=some v∧0≤v:=by
 obtain⟨s,m,i,hr,hm,hi,hs⟩:=below x h0 h1
 have hf:=(few_all ⟨n,by omega⟩).resolve_right (by show n≠0;omega)
 unfold few at hf
 dsimp only at hf
 split at hf
 ·rename_i mn j hj
  simp only[Bool.and_eq_true,decide_eq_true_eq]at hf
  have hmm:m*mn<2 ^ 110:=by
   have h2:m*mn≤(2 ^ 53)*(2 ^ 53):=Nat.mul_le_mul (by omega) (by omega)
   have h3:(2:Nat) ^ 53*2 ^ 53<2 ^ 110:=by decide
   omega
  have hse:(s ^^ false)=s:=by cases s<;>rfl
  obtain⟨rung,e1,e2,e3⟩:=near_bd s (m*mn) (i+j) hmm (by omega) (fun h=>by rw[hs h,Nat.zero_mul])
  obtain⟨v,v1,v2⟩:=toInt_bd s rung e2 e3
  refine⟨double.word s rung,v,?_,v1,v2⟩
  show double.mul x (floatOfInt .f64 n)=_
  unfold Format.mul
  rw[hr,hj]
  show some (double.nearest (s ^^ false) (m*mn) (i+j))=_
  rw[hse,e1]
 ·cases hf
end Go.Fl
