/- The law NamesBack holds for every text and every number: it returns true, and its arguments read as before. No condition. Part 36: Cnt Cnt2 HeldF BkA. -/
import Derived.Deep.CutBlock
import Derived.Test.YtoepemlnlpamlaaGreatBakk13
import Derived.Test.YtoepemlnlpamlaaGreatBakk14
import Derived.Test.YtoepemlnlpamlaaGreatBakk15
import Derived.Test.YtoepemlnlpamlaaGreatBakk16
import Derived.Test.YtoepemlnlpamlaaGreatBakk18
import Derived.Test.YtoepemlnlpamlaaGreatBakk22
import Derived.Test.YtoepemlnlpamlaaGreatBakk23
import Derived.Test.YtoepemlnlpamlaaGreatBakk24
import Derived.Test.YtoepemlnlpamlaaGreatBakk28
import Derived.Test.YtoepemlnlpamlaaGreatBakk33
import Derived.Test.YtoepemlnlpamlaaGreatBakk34
import Derived.Test.YtoepemlnlpamlaaGreatBakk35
set_option maxRecDepth 100000
set_option maxHeartbeats 4000000
namespace Go.Proofs.YtoepemlnlpamlaaGreat
section
variable {s:aP}{l:List jl}
theorem bT{p:PS}:(ay l p).k=p.k+1:=by simp[ay]
theorem gK{p:PS}{w:aP}:p.k<=(aG s l p w).k:=by
 unfold aG;split
 ·rw[bT];omega
 ·rw[lZ];exact aaD _
theorem cnt_acc{p:PS}{w:aP}:p.k<=(bC s l p w).k:=by
 unfold bC;split
 ·rw[bT];omega
 ·exact aaD _
theorem tO{p:PS}:p.k<=(cK l p).k:=by
 unfold cK;split
 ·rw[bT];omega
 ·rw[lZ];exact aaD _
theorem bP{p:PS}{f:Nat}{k:Int}{t:aP}{kids:List aa}:ah (aH l p f k t kids)=1+ag kids:=rfl
theorem cnt_typ{p:PS}:p.k<=(qa s l p).2.k/\ah (qa s l p).1=1:=by
 unfold qa;split
 ·exact⟨by rw[bT];omega,rfl⟩
 split
 ·simp only
  split
  ·refine⟨?_,rfl⟩
   simp only;split
   ·refine aaE ?_ gK
    rw[bT,bT,bT];omega
   ·refine aaE ?_ gK
    rw[lZ,bT,bT];omega
  ·exact⟨by rw[bT];omega,rfl⟩
 split
 ·exact⟨by rw[bT];omega,rfl⟩
 ·exact⟨by rw[lZ];exact aaD _,rfl⟩
theorem Md{p:PS}:p.k<=(ib s l p).2.k/\ah (ib s l p).1=1:=by
 unfold ib;split
 ·have h:=cnt_typ (s:=s) (l:=l) (p:=ay l p)
  rw[bT]at h;exact⟨by omega,h.2⟩
 ·exact⟨aaD _,rfl⟩
theorem Tn{p:PS}:p.k<=(jL s l p).2.k/\ah (jL s l p).1=1/\(bG l p=0->p.k<(jL s l p).2.k):=by
 unfold jL;refine⟨tO,rfl,fun h=>?_⟩;simp only;unfold cK;rw[if_pos h,bT];omega
theorem iw{r:Option (List aa×PS)}{f:aa->PS->Option (List aa×PS)}{y:List aa×PS}(h:one r f=some y):∃x p,r=some ([x],p)/\f x p=some y:=by
 unfold one at h;split at h
 ·exact⟨_,_,rfl,h⟩
 ·cases h
theorem zL{r:Option (List aa×PS)}{f:List aa->PS->Option (List aa×PS)}{y:List aa×PS}(h:xH r f=some y):∃x p,r=some (x,p)/\f x p=some y:=by
 unfold xH at h;split at h
 ·exact⟨_,_,rfl,h⟩
 ·cases h
theorem QP{first:Nat}:∀{f:Nat}{p q:PS},pU s l first f p=some q->p.k<=q.k/\(jN s l p=false->p.k=first->p.k<q.k)
 | 0,p,q,h=>by rw[pU]at h;cases h
 | f+1,p,q,h=>by
  rw[pU]at h;split at h
  ·split at h
   ·cases h
    rw[bT];exact⟨by omega,fun _ _=>by omega⟩
   ·have:=(QP h).1
    rw[bT]at this;exact⟨by omega,fun _ _=>by omega⟩
  ·rename_i hc
   cases h
   refine⟨aaD _,fun h1 h2=>?_⟩;simp[h1,h2]at hc
theorem R3{f:Nat}{p q:PS}{x:aa}(h:mR s l f p=some (x,q)):p.k<=q.k/\ah x=1/\(jN s l p=false->p.k<q.k):=by
 unfold mR at h;split at h
 ·cases h
 ·rename_i q1 hq
  cases h
  have:=QP hq;rw[lZ,Mx]at this;exact⟨this.1,rfl,fun h=>this.2 h rfl⟩
def cst:Fn->Nat
 | .qL _ _ t=>ah t
 | .mM kids=>ag kids
 | .nJ kids=>ag kids
 | .stmt=>4
 | .branch=>4
 | _=>1
theorem aI(t:aa):ag [t]=ah t:=by simp[ag]
theorem lW(t u:aa):ag [t,u]=ah t+ah u:=by simp[ag]
theorem kV(t u v:aa):ag [t,u,v]=ah t+(ah u+ah v):=by simp[ag]
theorem pJ(a:List aa)(t:aa):ag (a++[t])=ag a+ah t:=by rw[uV,aI]
def PrgF(s:aP)(l:List jl)(p q:PS)(x:List aa):Fn->Prop
 | .stmt=>(jN s l p=false->p.k<q.k)/\(p.k<q.k->ag x<=16*(q.k - p.k))
 | .branch=>p.k<q.k/\ag x<=16*(q.k - p.k)
 | .place=>bG l p=0->p.k<q.k/\ag x+15<=16*(q.k - p.k)
 | _=>True
def CntP(s:aP)(l:List jl)(fn:Fn)(p:PS)(x:List aa)(q:PS):Prop:=p.k<=q.k/\ag x<=cst fn+16*(q.k - p.k)/\PrgF s l p q x fn
theorem par_cnt:∀(f:Nat) (fn:Fn) (p:PS) (x:List aa) (q:PS),aJ s l f fn p=some (x,q)->CntP s l fn p x q:=by
 intro f
 induction f with
 | zero=>intro fn p x q h;rw[aJ]at h;cases h
 | succ f ih=>
  have E:∀lv p x q,aJ s l f (.expr lv) p=some (x,q)->p.k<=q.k/\ag x<=1+16*(q.k - p.k):=fun lv p x q h=>⟨(ih _ _ _ _ h).1,(ih _ _ _ _ h).2.1⟩
  have EL:∀lv g t p x q,aJ s l f (.qL lv g t) p=some (x,q)->p.k<=q.k/\ag x<=ah t+16*(q.k - p.k):=fun lv g t p x q h=>⟨(ih _ _ _ _ h).1,(ih _ _ _ _ h).2.1⟩
  have O:∀p x q,aJ s l f .operand p=some (x,q)->p.k<=q.k/\ag x<=1+16*(q.k - p.k):=fun p x q h=>⟨(ih _ _ _ _ h).1,(ih _ _ _ _ h).2.1⟩
  have AR:∀p x q,aJ s l f .args p=some (x,q)->p.k<=q.k/\ag x<=1+16*(q.k - p.k):=fun p x q h=>⟨(ih _ _ _ _ h).1,(ih _ _ _ _ h).2.1⟩
  have AL:∀kids p x q,aJ s l f (.mM kids) p=some (x,q)->p.k<=q.k/\ag x<=ag kids+16*(q.k - p.k):=fun kids p x q h=>⟨(ih _ _ _ _ h).1,(ih _ _ _ _ h).2.1⟩
  have PL:∀p x q,aJ s l f .place p=some (x,q)->p.k<=q.k/\ag x<=1+16*(q.k - p.k)/\(bG l p=0->p.k<q.k/\ag x+15<=16*(q.k - p.k)):=fun p x q h=>ih _ _ _ _ h
  have ST:∀p x q,aJ s l f .stmt p=some (x,q)->p.k<=q.k/\ag x<=4+16*(q.k - p.k)/\(jN s l p=false->p.k<q.k)/\(p.k<q.k->ag x<=16*(q.k - p.k)):=fun p x q h=>ih _ _ _ _ h
  have BL:∀p x q,aJ s l f .block p=some (x,q)->p.k<=q.k/\ag x<=1+16*(q.k - p.k):=fun p x q h=>⟨(ih _ _ _ _ h).1,(ih _ _ _ _ h).2.1⟩
  have BK:∀kids p x q,aJ s l f (.nJ kids) p=some (x,q)->p.k<=q.k/\ag x<=ag kids+16*(q.k - p.k):=fun kids p x q h=>⟨(ih _ _ _ _ h).1,(ih _ _ _ _ h).2.1⟩
  have BR:∀p x q,aJ s l f .branch p=some (x,q)->p.k<=q.k/\ag x<=4+16*(q.k - p.k)/\p.k<q.k/\ag x<=16*(q.k - p.k):=fun p x q h=>ih _ _ _ _ h
  have fin:∀{a b:List aa×PS},some a=some b->a=b:=fun h=>by injection h
  intro fn p x q h
  cases fn with
  | expr lv=>
   rw[aJ]at h;split at h
   ·split at h
    ·obtain⟨y,q1,h1,h2⟩:=iw h
     cases h2
     have a1:=E _ _ _ _ h1;rw[bT,aI]at a1;exact⟨by omega,by rw[aI,bP,aI];show _<=1+_;omega,trivial⟩
    ·have a1:=E _ _ _ _ h
     exact⟨a1.1,a1.2,trivial⟩
   split at h
   ·split at h
    ·obtain⟨y,q1,h1,h2⟩:=iw h
     cases h2
     have a1:=E _ _ _ _ h1;rw[bT,aI]at a1;exact⟨by omega,by rw[aI,bP,aI];show _<=1+_;omega,trivial⟩
    ·have a1:=O _ _ _ h
     exact⟨a1.1,a1.2,trivial⟩
   ·obtain⟨y,q1,h1,h2⟩:=iw h
    have a1:=E _ _ _ _ h1;have a2:=EL _ _ _ _ _ _ h2;rw[aI]at a1;exact⟨by omega,by show _<=1+_;omega,trivial⟩
  | qL lv first t=>
   rw[aJ]at h;split at h
   ·obtain⟨y,q1,h1,h2⟩:=iw h
    have a1:=E _ _ _ _ h1;rw[bT,aI]at a1;try simp only at h2
    split at h2
    ·cases h2
     exact⟨by omega,by rw[aI,bP,lW];show _<=ah t+_;omega,trivial⟩
    ·have a2:=EL _ _ _ _ _ _ h2
     rw[bP,lW]at a2;exact⟨by omega,by show _<=ah t+_;omega,trivial⟩
   ·cases h
    exact⟨aaD _,by rw[aI];exact Nat.le_add_right _ _,trivial⟩
  | operand=>
   rw[aJ]at h;split at h
   ·cases h
    exact⟨by rw[bT];omega,by rw[aI,bP,ag];exact Nat.le_add_right _ _,trivial⟩
   split at h
   ·cases h
    exact⟨by rw[bT];omega,by rw[aI,bP,ag];exact Nat.le_add_right _ _,trivial⟩
   split at h
   ·obtain⟨y,q1,h1,h2⟩:=zL h
    cases h2
    have a1:=AR _ _ _ h1;rw[bT]at a1;exact⟨by omega,by rw[aI,bP];show _<=1+_;omega,trivial⟩
   split at h
   ·have a1:=PL _ _ _ h
    exact⟨a1.1,a1.2.1,trivial⟩
   split at h
   ·obtain⟨y,q1,h1,h2⟩:=iw h
    obtain⟨y2,q2,h3,h4⟩:=zL h2;cases h4
    have a1:=E _ _ _ _ h1;have a2:=AL _ _ _ _ h3;have a3:=gK (s:=s) (l:=l) (p:=q2) (w:=[93]);rw[bT,aI]at a1;rw[aI]at a2;exact⟨by omega,by rw[aI,bP];show _<=1+_;omega,trivial⟩
   split at h
   ·cases h
    have a1:=gK (s:=s) (l:=l) (p:=ay l p) (w:=[40]);have a2:=Tn (s:=s) (l:=l) (p:=aG s l (ay l p) [40]);have a3:=gK (s:=s) (l:=l) (p:=(jL s l (aG s l (ay l p) [40])).2) (w:=[41]);rw[bT]at a1;exact⟨by omega,by rw[aI,bP,aI,a2.2.1];show _<=1+_;omega,trivial⟩
   split at h
   ·obtain⟨y,q1,h1,h2⟩:=iw h
    cases h2
    have a1:=E _ _ _ _ h1;have a3:=gK (s:=s) (l:=l) (p:=q1) (w:=[41]);rw[bT,aI]at a1;exact⟨by omega,by rw[aI];show _<=1+_;omega,trivial⟩
   ·cases h
    exact⟨by rw[lZ];exact aaD _,by rw[aI,bP,ag];exact Nat.le_add_right _ _,trivial⟩
  | args=>
   rw[aJ]at h;try simp only at h
   split at h
   ·cases h
    have a3:=gK (s:=s) (l:=l) (p:=ay l p) (w:=[41]);rw[bT]at a3;exact⟨by omega,by rw[ag];exact Nat.zero_le _,trivial⟩
   ·obtain⟨y,q1,h1,h2⟩:=iw h
    obtain⟨y2,q2,h3,h4⟩:=zL h2;cases h4
    have a1:=E _ _ _ _ h1;have a2:=AL _ _ _ _ h3;have a3:=gK (s:=s) (l:=l) (p:=q2) (w:=[41]);rw[bT,aI]at a1;rw[aI]at a2;exact⟨by omega,by show _<=1+_;omega,trivial⟩
  | mM kids=>
   rw[aJ]at h;split at h
   ·obtain⟨y,q1,h1,h2⟩:=iw h
    have a1:=E _ _ _ _ h1;have a2:=AL _ _ _ _ h2;rw[bT,aI]at a1;rw[pJ]at a2;exact⟨by omega,by show _<=ag kids+_;omega,trivial⟩
   ·cases h
    exact⟨aaD _,Nat.le_add_right _ _,trivial⟩
  | place=>
   rw[aJ]at h;try simp only at h
   have a0:=Tn (s:=s) (l:=l) (p:=p);split at h
   ·obtain⟨y,q1,h1,h2⟩:=iw h
    cases h2
    have a1:=E _ _ _ _ h1;have a3:=gK (s:=s) (l:=l) (p:=q1) (w:=[93]);rw[bT,aI]at a1;exact⟨by omega,by rw[aI,bP,lW,a0.2.1];show _<=1+_;omega,fun hk=>by have:=a0.2.2 hk;refine⟨by omega,?_⟩;rw[aI,bP,lW,a0.2.1];omega⟩
   split at h
   ·cases h
    have a3:=tO (l:=l) (p:=ay l (jL s l p).2);rw[bT]at a3;exact⟨by omega,by rw[aI,bP,aI,a0.2.1];show _<=1+_;omega,fun hk=>by have:=a0.2.2 hk;refine⟨by omega,?_⟩;rw[aI,bP,aI,a0.2.1];omega⟩
   ·cases h
    exact⟨a0.1,by rw[aI,a0.2.1];exact Nat.le_add_right _ _,fun hk=>by have:=a0.2.2 hk;refine⟨this,?_⟩;rw[aI,a0.2.1];omega⟩
  | stmt=>
   rw[aJ]at h;split at h
   ·try simp only at h
    obtain⟨y,q1,h1,h2⟩:=iw h;cases h2
    have b1:=tO (l:=l) (p:=ay l p);have b2:=Md (s:=s) (l:=l) (p:=cK l (ay l p));have b3:=gK (s:=s) (l:=l) (p:=(ib s l (cK l (ay l p))).2) (w:=[61]);have a1:=E _ _ _ _ h1;have a3:=gK (s:=s) (l:=l) (p:=q1) (w:=[59]);rw[bT]at b1;rw[aI]at a1;exact⟨by omega,by rw[aI,bP,lW,b2.2];show _<=4+_;omega,fun _=>by omega,fun _=>by rw[aI,bP,lW,b2.2];omega⟩
   split at h
   ·have a1:=BR _ _ _ h
    exact⟨a1.1,a1.2.1,fun _=>a1.2.2.1,fun _=>a1.2.2.2⟩
   split at h
   ·obtain⟨y,q1,h1,h2⟩:=iw h
    obtain⟨y2,q2,h3,h4⟩:=iw h2;cases h4
    have a1:=E _ _ _ _ h1;have a2:=BL _ _ _ h3;rw[bT,aI]at a1;rw[aI]at a2;exact⟨by omega,by rw[aI,bP,lW];show _<=4+_;omega,fun _=>by omega,fun _=>by rw[aI,bP,lW];omega⟩
   split at h
   ·try simp only at h
    obtain⟨y,q1,h1,h2⟩:=iw h;obtain⟨y2,q2,h3,h4⟩:=iw h2;obtain⟨y3,q3,h5,h6⟩:=iw h4;cases h6
    have b1:=tO (l:=l) (p:=ay l p);have b3:=gK (s:=s) (l:=l) (p:=cK l (ay l p)) (w:=[61]);have b4:=gK (s:=s) (l:=l) (p:=q1) (w:=[116,111]);have a1:=E _ _ _ _ h1;have a2:=E _ _ _ _ h3;have a3:=BL _ _ _ h5;rw[bT]at b1;rw[aI]at a1 a2 a3;exact⟨by omega,by rw[aI,bP,kV];show _<=4+_;omega,fun _=>by omega,fun _=>by rw[aI,bP,kV];omega⟩
   split at h
   ·try simp only at h
    split at h
    ·obtain⟨y,q1,h1,h2⟩:=iw h
     cases h2
     have a1:=E _ _ _ _ h1;have a3:=gK (s:=s) (l:=l) (p:=q1) (w:=[59]);rw[bT,aI]at a1;exact⟨by omega,by rw[aI,bP,aI];show _<=4+_;omega,fun _=>by omega,fun _=>by rw[aI,bP,aI];omega⟩
    ·cases h
     have a3:=gK (s:=s) (l:=l) (p:=ay l p) (w:=[59]);rw[bT]at a3;exact⟨by omega,by rw[aI,bP,aI,bP,ag];show _<=4+_;omega,fun _=>by omega,fun _=>by rw[aI,bP,aI,bP,ag];omega⟩
   split at h
   ·obtain⟨y,q1,h1,h2⟩:=iw h
    cases h2
    have a1:=E _ _ _ _ h1;have a3:=gK (s:=s) (l:=l) (p:=q1) (w:=[59]);rw[bT,aI]at a1;exact⟨by omega,by rw[aI,bP,aI];show _<=4+_;omega,fun _=>by omega,fun _=>by rw[aI,bP,aI];omega⟩
   split at h
   ·obtain⟨y,q1,h1,h2⟩:=zL h
    cases h2
    have a1:=AR _ _ _ h1;have a3:=gK (s:=s) (l:=l) (p:=q1) (w:=[59]);rw[bT]at a1;exact⟨by omega,by rw[aI,bP];show _<=4+_;omega,fun _=>by omega,fun _=>by rw[aI,bP];omega⟩
   split at h
   ·rename_i hk0
    obtain⟨y,q1,h1,h2⟩:=iw h;obtain⟨y2,q2,h3,h4⟩:=iw h2;cases h4
    have a1:=PL _ _ _ h1;have b1:=gK (s:=s) (l:=l) (p:=q1) (w:=[61]);have a2:=E _ _ _ _ h3;have b2:=gK (s:=s) (l:=l) (p:=q2) (w:=[59]);have b3:=a1.2.2 hk0;rw[aI]at a1 a2;exact⟨by omega,by rw[aI,bP,lW];show _<=4+_;omega,fun _=>by omega,fun _=>by rw[aI,bP,lW];omega⟩
   ·split at h
    ·cases h
    ·rename_i hsk
     cases h
     have a1:=R3 hsk;exact⟨a1.1,by rw[aI,a1.2.1];show _<=4+_;omega,a1.2.2,fun _=>by rw[aI,a1.2.1];omega⟩
  | block=>
   rw[aJ]at h;split at h
   ·obtain⟨y,q1,h1,h2⟩:=zL h
    cases h2
    have a1:=BK _ _ _ _ h1;have a3:=gK (s:=s) (l:=l) (p:=q1) (w:=[125]);rw[bT,ag]at a1;exact⟨by omega,by rw[aI,bP];show _<=1+_;omega,trivial⟩
   ·cases h
    exact⟨by rw[lZ];exact aaD _,by rw[aI,bP,ag];exact Nat.le_add_right _ _,trivial⟩
  | nJ kids=>
   rw[aJ]at h;split at h
   ·cases h
    exact⟨aaD _,Nat.le_add_right _ _,trivial⟩
   ·rename_i hst
    obtain⟨y,q1,h1,h2⟩:=iw h;have a1:=ST _ _ _ h1;have a2:=BK _ _ _ _ h2;have a3:=a1.2.2.1 (by simpa using hst);have a4:=a1.2.2.2 a3;rw[aI]at a4;rw[pJ]at a2;exact⟨by omega,by show _<=ag kids+_;omega,trivial⟩
  | branch=>
   rw[aJ]at h;obtain⟨y,q1,h1,h2⟩:=iw h;obtain⟨y2,q2,h3,h4⟩:=iw h2;have a1:=E _ _ _ _ h1;have a2:=BL _ _ _ h3;rw[bT,aI]at a1;rw[aI]at a2;try simp only at h4
   split at h4
   ·split at h4
    ·obtain⟨y3,q3,h5,h6⟩:=iw h4
     cases h6
     have a3:=BR _ _ _ h5;rw[bT,aI]at a3;have a4:=a3.2.2.2;exact⟨by omega,by rw[aI,bP,kV];show _<=4+_;omega,by show p.k<_;omega,by rw[aI,bP,kV];omega⟩
    ·obtain⟨y3,q3,h5,h6⟩:=iw h4
     cases h6
     have a3:=BL _ _ _ h5;rw[bT,aI]at a3;exact⟨by omega,by rw[aI,bP,kV];show _<=4+_;omega,by show p.k<_;omega,by rw[aI,bP,kV];omega⟩
   ·cases h4
    exact⟨by omega,by rw[aI,bP,kV,bP,ag];show _<=4+_;omega,by show p.k<_;omega,by rw[aI,bP,kV,bP,ag];omega⟩
end
section
variable {s:aP}{l:List jl}
theorem Nk{p:PS}:p.k<=(ja s l p).2.k/\ah (ja s l p).1=2:=by
 unfold ja;have h1:=gK (s:=s) (l:=l) (p:=cK l p) (w:=[58]);have h2:=tO (l:=l) (p:=p);simp only;split
 ·exact⟨by rw[bT];omega,rfl⟩
 ·exact⟨by rw[lZ];omega,rfl⟩
theorem KO:∀(f:Nat) (p:PS) (kids y:List aa) (q:PS),kr s l f p kids=some (y,q)->p.k<=q.k/\ag y<=ag kids+16*(q.k - p.k)
 | 0,p,kids,y,q,h=>by rw[kr]at h;cases h
 | f+1,p,kids,y,q,h=>by
  rw[kr]at h;split at h
  ·have a1:=KO f _ _ _ _ h
   have a2:=Nk (s:=s) (l:=l) (p:=ay l p);rw[bT]at a2;rw[pJ,a2.2]at a1;exact⟨by omega,by omega⟩
  ·cases h
   exact⟨aaD _,Nat.le_add_right _ _⟩
theorem VJ{f:Nat}{p:PS}{x:aa}{q:PS}(h:lK s l f p=some (x,q)):p.k<=q.k/\ah x<=16*(q.k - p.k):=by
 unfold lK at h;try simp only at h
 split at h
 ·cases h
 ·rename_i kids p3 hf
  cases h
  have a1:=KO _ _ _ _ _ hf;have a2:=Nk (s:=s) (l:=l) (p:=aG s l (cK l (ay l p)) [123]);have a3:=gK (s:=s) (l:=l) (p:=cK l (ay l p)) (w:=[123]);have a4:=tO (l:=l) (p:=ay l p);have a5:=gK (s:=s) (l:=l) (p:=p3) (w:=[125]);rw[bT]at a4;rw[aI,a2.2]at a1;exact⟨by omega,by rw[bP];omega⟩
theorem Nj{p:PS}:p.k<=(fH s l p).2.k/\ah (fH s l p).1=2:=by
 unfold fH;have h1:=cnt_acc (s:=s) (l:=l) (p:=p) (w:=[118,97,114]);have h2:=tO (l:=l) (p:=bC s l p [118,97,114]);have h3:=Md (s:=s) (l:=l) (p:=cK l (bC s l p [118,97,114]));simp only;exact⟨by omega,by rw[bP,aI,h3.2]⟩
theorem KN:∀(f:Nat) (p:PS) (kids y:List aa) (q:PS),jd s l f p kids=some (y,q)->p.k<=q.k/\ag y<=ag kids+16*(q.k - p.k)
 | 0,p,kids,y,q,h=>by rw[jd]at h;cases h
 | f+1,p,kids,y,q,h=>by
  rw[jd]at h;split at h
  ·have a1:=KN f _ _ _ _ h
   have a2:=Nj (s:=s) (l:=l) (p:=ay l p);rw[bT]at a2;rw[pJ,a2.2]at a1;exact⟨by omega,by omega⟩
  ·cases h
   exact⟨aaD _,Nat.le_add_right _ _⟩
theorem R4{f:Nat}{p:PS}{x:aa}{q:PS}(h:nN s l f p=some (x,q)):p.k<=q.k/\ah x<=3+16*(q.k - p.k):=by
 unfold nN at h;try simp only at h
 have a1:=gK (s:=s) (l:=l) (p:=p) (w:=[40]);split at h
 ·cases h
 ·rename_i kids p2 hf
  cases h
  have a5:=gK (s:=s) (l:=l) (p:=p2) (w:=[41]);split at hf
  ·cases hf
   exact⟨by omega,by rw[bP,ag];omega⟩
  ·have a2:=KN _ _ _ _ _ hf
   have a3:=Nj (s:=s) (l:=l) (p:=aG s l p [40]);rw[aI,a3.2]at a2;exact⟨by omega,by rw[bP];omega⟩
theorem Z6{f:Nat}{p:PS}{x:aa}{q:PS}(h:qm s l f p=some (x,q)):p.k<=q.k/\ah x<=16*(q.k - p.k):=by
 unfold qm at h;try simp only at h
 split at h
 ·cases h
 ·rename_i y p2 hp
  split at h
  ·rename_i b p3 hb
   cases h
   have a1:=R4 hp;have a2:=tO (l:=l) (p:=ay l p);have a3:=Md (s:=s) (l:=l) (p:=p2);have a4:=par_cnt _ _ _ _ _ hb;have a5:=a4.1;have a6:ag [b]<=1+16*(q.k - (ib s l p2).2.k):=a4.2.1;rw[bT]at a2;rw[aI]at a6;exact⟨by omega,by rw[bP,kV,a3.2];omega⟩
  ·cases h
theorem Di(he:mX l)(hend:oQ s l):∀(f:Nat) (p:PS) (kids y:List aa) (q:PS),p.k<l.length->jw s l f p kids=some (y,q)->q.k<l.length/\ag y+16*p.k<=ag kids+16*q.k
 | 0,p,kids,y,q,_,h=>by rw[jw]at h;cases h
 | f+1,p,kids,y,q,hp,h=>by
  rw[jw]at h;split at h
  ·cases h
   exact⟨hp,aaD _⟩
  rename_i h5
  split at h
  ·split at h
   ·cases h
   ·rename_i x q1 hr
    have hle:=Ex he hr hp h5;have a1:=VJ hr;have a2:=Di he hend f _ _ _ _ hle.1.2 h;rw[pJ]at a2;exact⟨a2.1,by omega⟩
  rename_i hrec
  split at h
  ·split at h
   ·cases h
   ·rename_i x q1 hr
    have hle:=JY he hend hr hp h5;have a1:=Z6 hr;have a2:=Di he hend f _ _ _ _ hle.1.2 h;rw[pJ]at a2;exact⟨a2.1,by omega⟩
  rename_i hproc
  split at h
  ·cases h
  ·rename_i q1 hn
   have hle:=ED he hn (by rw[lZ];exact hp);rw[EG,zo,zo,lZ]at hle;have hlt:=hle.2 (by simp[h5,hrec,hproc]);have a2:=Di he hend f _ _ _ _ hle.1.2 h;rw[pJ,bP,ag]at a2;exact⟨a2.1,by omega⟩
end
theorem WQ{f:Nat}{s:aP}{t:aa}{ds:List Dg}(h:lL f s=some (t,ds))(hs:s.length<=4096):ah t<=1000000:=by
 unfold lL at h;split at h
 ·cases h
 ·rename_i kids p hp
  cases h
  have hl:(iK s).length<=s.length+1:=aaE (List.length_filter_le _ _) (xQ s);rw[ah];by_cases h0:(iK s).length=0
  ·cases f with
   | zero=>rw[jw]at hp;cases hp
   | succ f=>
    rw[jw,if_pos (by have:iK s=[]:=List.length_eq_zero_iff.1 h0;rw[this];rfl)]at hp;cases hp
    rw[ag];omega
  ·have:=Di (Dj (Bi s)) (GZ s (Bi s)) f ⟨0,0,[]⟩ [] kids p (show 0<(iK s).length by omega) hp
   rw[ag]at this;omega
open Go.RowKit
inductive yz where
 | done
 | soft (k:Nat) (t:yz)
 | hard (k:Nat) (t:yz)
 | fork (i:Nat) (s:yz) (j:Nat) (t:yz)
def yz.len:yz->Nat
 | .done=>0
 | .soft _ t=>t.len+1
 | .hard _ t=>t.len+1
 | .fork _ s _ _=>s.len+1
section
variable {P:Program}{ops:Array Oper}{Q:Exit->Act->World->Prop}{md:Region.Mode}{S:World->Prop}{ex:List Nat}
def uG(P:Program)(ops:Array Oper)(Q:Exit->Act->World->Prop)(S:World->Prop)(ex:List Nat):yz->Act->World->Prop
 | .done,a,w=>Q .normal a w
 | .soft k t,a,w=> ∃o,ops[k]? =some o/\∃v,YieldsIf P ops S o v a/\S w/\uG P ops Q S ex t (a.put o.dst v) w
 | .hard k t,a,w=> ∃o,ops[k]? =some o/\Region.wanted o (yielded ops a.tmps)=true/\o.wp P a w (fun a' w'=>(ex.contains k=false->S w')/\uG P ops Q S ex t a' w') Q
 | .fork i s j t,a,w=>(∃o,ops[i]? =some o/\Region.wanted o (yielded ops a.tmps)=true/\o.wp P a w (fun a' w'=>(ex.contains i=false->S w')/\uG P ops Q S ex s a' w') Q) /\
  (∃o,ops[j]? =some o/\Region.wanted o (yielded ops a.tmps)=true/\o.wp P a w (fun a' w'=>(ex.contains j=false->S w')/\uG P ops Q S ex t a' w') Q)
def xW(md:Region.Mode)(ops:Array Oper)(ex:List Nat):yz->Array Bool->Bool
 | .done,listed=>(Region.ready md ops listed).isEmpty
 | .soft k t,listed=>Region.free md ops listed k&&(Region.ready md ops listed).contains k&&ex.all (fun j=>Region.waitsFor md ops j k)&&xW md ops ex t (listed.setIfInBounds k true)
 | .hard k t,listed=>(Region.ready md ops listed==[k])&&xW md ops ex t (listed.setIfInBounds k true)
 | .fork i s j t,listed=>(Region.ready md ops listed==[i,j])&&(s.len==t.len)&&xW md ops ex s (listed.setIfInBounds i true)&&xW md ops ex t (listed.setIfInBounds j true)
theorem Oc(hs:Region.noSelect ops=true)(hQ:∀c a b w,Q (.panic c) a w->Q (.panic c) b w):∀(t:yz) (listed:Array Bool) (a:Act) (w:World),
 xW md ops ex t listed=true->uG P ops Q S ex t a w->xY P md ops Q S ex t.len listed a w:=by
 intro t
 induction t with
 | done=>
  intro listed a w hB h;exact⟨by simpa [xW] using hB,by simpa [uG] using h⟩
 | soft k t ih=>
  intro listed a w hB h;simp only[xW,aaF]at hB;obtain⟨⟨⟨h1,h2⟩,h3⟩,h4⟩:=hB;obtain⟨o,hok,v,hy,hS,h5⟩:=h;refine vT hok (Region.noSelect_spec hs) (fun j hj=>?_) (fun c a w hq=>hQ c _ _ w hq) t.len listed a w (Region.free_spec hok h1) (by simpa using h2) hy hS (ih _ _ w h4 h5);exact List.all_eq_true.1 h3 j hj
 | hard k t ih=>
  intro listed a w hB h;simp only[xW,aaF,beq_iff_eq]at hB;obtain⟨h1,h2⟩:=hB;obtain⟨o,hok,hg,h5⟩:=h;refine⟨fun h0=>(by rw[h0]at h1;cases h1),fun i hi=>?_⟩;rw[h1]at hi;simp at hi;subst hi;unfold wpOp;simp only[hok,hg,if_true];refine .inl (Oper.wp_mono (fun a' w' h6=>⟨fun hn=>h6.1 (by simpa using hn),ih (listed.setIfInBounds i true) a' w' h2 h6.2⟩) h5)
 | fork i s j t ihs iht=>
  intro listed a w hB h;simp only[xW,aaF,beq_iff_eq]at hB;obtain⟨⟨⟨h1,h0⟩,h2⟩,h3⟩:=hB;obtain⟨⟨o,hok,hg,h5⟩,⟨o',hok',hg',h5'⟩⟩:=h;refine⟨fun h0=>(by rw[h0]at h1;cases h1),fun q hq=>?_⟩;rw[h1]at hq;simp at hq;rcases hq with rfl|rfl
  ·unfold wpOp
   simp only[hok,hg,if_true];exact .inl (Oper.wp_mono (fun a' w' h6=>⟨fun hn=>h6.1 (by simpa using hn),ihs (listed.setIfInBounds q true) a' w' h2 h6.2⟩) h5)
  ·unfold wpOp
   simp only[hok',hg',if_true];refine .inl (Oper.wp_mono (fun a' w' h6=>⟨fun hn=>h6.1 (by simpa using hn),?_⟩) h5');have:=iht (listed.setIfInBounds q true) a' w' h3 h6.2;rw[h0];exact this
theorem zz{id:Nat}{a:Act}{w:World}{l:List Oper}(S:World->Prop)(ex:List Nat)(t:yz)(hm:P.follows .mixedOrders=true)(hs:Region.noSelect l.toArray=true)
 (hl:t.len=l.length) (hB:xW .any l.toArray ex t (Array.replicate l.length false)=true) (h:uG P l.toArray (NoPanic Q) S ex t a w.drew):(Code.region id l.toArray true).wp P Q a w:=by
 refine wp_region_noPanic (wp_region_any hm (vS (S:=S) (ex:=ex) _ _ _ _ ?_));have:=Oc (P:=P) (S:=S) (md:=.any) hs (Q:=NoPanic Q) (fun c a b w hq=>(hq:False).elim) t (Array.replicate l.length false) a w.drew hB h;simpa [hl] using this
theorem xx{a:Act}{w:World}(h:Q .normal a w):uG P ops (NoPanic Q) S ex .done a w:=h
theorem qh{k:Nat}{t:yz}{o:Oper}{a:Act}{w:World}{v:Value}(ho:ops[k]? =some o)(hg:Region.wanted o (yielded ops a.tmps)=true)(hS:S w)(hy:∀w',S w'->(execOp a.eval o).run P w'= .ok (.value v) w')
 (h:uG P ops Q S ex t (a.put o.dst v) w):uG P ops Q S ex (.soft k t) a w:=
 ⟨o,ho,v,.inl ⟨hg,hy⟩,hS,h⟩
def F6(P:Program)(ops:Array Oper)(Q:Exit->Act->World->Prop)(S:World->Prop)(ex:List Nat)(k:Nat)(t:yz)(a:Act)(w:World):Prop:=
 ∃o,ops[k]? =some o/\Region.wanted o (yielded ops a.tmps)=true/\o.wp P a w (fun a' w'=>(ex.contains k=false->S w')/\uG P ops Q S ex t a' w') Q
theorem yw{k:Nat}{t:yz}{o:Oper}{a:Act}{w w':World}{v:Value}(ho:ops[k]? =some o)(hg:Region.wanted o (yielded ops a.tmps)=true)(hr:(execOp a.eval o).run P w= .ok (.value v) w')(hS:ex.contains k=false->S w')
 (h:uG P ops Q S ex t (a.put o.dst v) w'):F6 P ops Q S ex k t a w:=
 ⟨o,ho,hg,by unfold Oper.wp;rw[hr];exact⟨hS,h⟩⟩
theorem wI{k:Nat}{t:yz}{o:Oper}{a:Act}{w w':World}(ho:ops[k]? =some o)(hg:Region.wanted o (yielded ops a.tmps)=true)(hr:(execOp a.eval o).run P w= .ok .skip w')(hS:ex.contains k=false->S w')
 (h:uG P ops Q S ex t (a.put o.dst undef) w'):F6 P ops Q S ex k t a w:=
 ⟨o,ho,hg,by unfold Oper.wp;rw[hr];exact⟨hS,h⟩⟩
theorem ma{k:Nat}{t:yz}{o:Oper}{a:Act}{w:World}{f:FuncId}{args:Array Value}(ho:ops[k]? =some o)(hg:Region.wanted o (yielded ops a.tmps)=true)
 (hr:(execOp a.eval o).run P w= .ok (.enter f args) w) (h:Calls P f args w fun e w'=> ∃v,e= .returned v/\(ex.contains k=false->S w')/\uG P ops Q S ex t (a.put o.dst v) w'):F6 P ops Q S ex k t a w:=
 ⟨o,ho,hg,by unfold Oper.wp;rw[hr];exact h.mono (fun e w' ⟨v,he,h1,h2⟩=>by subst he;exact⟨h1,h2⟩)⟩
theorem jK{k:Nat}{t:yz}{a:Act}{w:World}(h:F6 P ops Q S ex k t a w):uG P ops Q S ex (.hard k t) a w:=h
theorem Ef{i j:Nat}{s t:yz}{a:Act}{w:World}(h:F6 P ops Q S ex i s a w)(k:F6 P ops Q S ex j t a w):uG P ops Q S ex (.fork i s j t) a w:=⟨h,k⟩
end
theorem eqI_any(A1 A2:Option Addr)(n1 n2 c1 c2:Nat)(l1 l2:List Int)(w:World)(h1:bW 1 dM w w.heap.size A1 l1)(h2:bW 1 dM w w.heap.size A2 l2)(hl1:l1.length=n1)(hl2:l2.length=n2)(hn:n1<=1000000):
 Calls Tryz.prog 55 #[.slice A1 n1 c1,.slice A2 n2 c2] w fun e w'=>e= .returned (.bool (decide (l1=l2)))/\Below w.heap.size w w':=by
 by_cases hne:n1=n2
 ·subst hne
  have H1:=kH h1;have H2:=kH h2;have rG:=kH hl1;have HL2:=kH hl2;clear h1 h2 hl1 hl2;go_enter Tryz.func55,Tryz.ntmps55
  go_wp2_with fail
  go_loopg [13] n1 (fun gk s wr=> ∃k:Nat,k+gk=n1/\s= .int .i64 k/\Below w.heap.size w wr/\l1.take k=l2.take k)
  case atStart=>exact⟨0,by omega,rfl,Below.refl _ _,rfl⟩
  case round=>
   obtain⟨k,hk,rfl,hB,ht⟩:=hrel;have hk':k<=n1:=by omega
   have HK:=kH hk;have HT:=kH ht;clear hk ht;by_cases hlt:k<n1
   ·have e1:l1[k]? =some (l1[k]'(by rw[rG.out];exact hlt)):=aaH _
    have e2:l2[k]? =some (l2[k]'(by rw[HL2.out];exact hlt)):=aaH _;generalize l1[k]'(by rw[rG.out];exact hlt)=x at e1
    generalize l2[k]'(by rw[HL2.out];exact hlt)=y at e2
    obtain⟨b1,o1,hA1,hb1,hc1⟩:=(H1.out.below hB (aaD _)) k _ e1;obtain⟨b2,o2,hA2,hb2,hc2⟩:=(H2.out.below hB (aaD _)) k _ e2;subst hA1;subst hA2;have hx:wr.cell? ⟨b1,o1+k,none⟩=some (.int .i64 x):=by simpa using hc1 0 _ rfl
    have hy:wr.cell? ⟨b2,o2+k,none⟩=some (.int .i64 y):=by simpa using hc2 0 _ rfl
    have E1:=kH e1;have E2:=kH e2;have hkn:(k:Int)<(n1:Int):=by omega
    have hwr:IntKind.i64.wrap ((k:Int)+1)=(k:Int)+1:=IntWalk.i64_in _ (by omega);clear hc1 hc2 e1 e2;by_cases hxy:x=y
    ·subst hxy
     go_wp2_with fail
     go_quiet (fail)
     go_wp2_with fail
     go_roundg (gk - 1)
     case measure=>have:=HK.out;omega
     case rel=>exact⟨k+1,by have:=HK.out;omega,by simp,by(repeat (first|exact Below.refl _ _|assumption|refine Below.trans ?_ (Below.mono (by assumption) (by first|omega|(simp;done)|(simp;omega)))|refine Below.alloc ?_ (by first|omega|(simp;done)|(simp;omega)) _|refine Below.setCell ?_ (by first|omega|(simp;done)|(simp;omega)) _|refine Below.drew ?_|refine aY ?_ _)),Ht HT.out E1.out E2.out rfl⟩
    ·have hxb:(x !=y)=true:=by simpa using hxy
     have hres:decide (l1=l2)=false:=by
      refine decide_eq_false fun e=>?_
      have:=E1.out;rw[e,E2.out]at this;cases this
      exact hxy rfl
     have aM:=kH hres;clear hres hxy;go_wp2_with fail
     go_quiet (fail)
     go_wp2_with fail
     go_ret
     rw[aM.out];exact⟨rfl,by(repeat (first|exact Below.refl _ _|assumption|refine Below.trans ?_ (Below.mono (by assumption) (by first|omega|(simp;done)|(simp;omega)))|refine Below.alloc ?_ (by first|omega|(simp;done)|(simp;omega)) _|refine Below.setCell ?_ (by first|omega|(simp;done)|(simp;omega)) _|refine Below.drew ?_|refine aY ?_ _))⟩
   ·have hres:decide (l1=l2)=true:=by
     have h:=HT.out;rw[List.take_of_length_le (by rw[rG.out];omega),List.take_of_length_le (by rw[HL2.out];omega)]at h;exact decide_eq_true h
    have aM:=kH hres;clear hres;go_wp2_with fail
    go_ret
    rw[aM.out];exact⟨rfl,by(repeat (first|exact Below.refl _ _|assumption|refine Below.trans ?_ (Below.mono (by assumption) (by first|omega|(simp;done)|(simp;omega)))|refine Below.alloc ?_ (by first|omega|(simp;done)|(simp;omega)) _|refine Below.setCell ?_ (by first|omega|(simp;done)|(simp;omega)) _|refine Below.drew ?_|refine aY ?_ _))⟩
 ·have hb:(n1 !=n2)=true:=by simpa using hne
  have hres:decide (l1=l2)=false:=decide_eq_false (fun e=>hne (by rw[<- hl1,<- hl2,e]));have aM:=kH hres;have hb2:((n1:Int) !=(n2:Int))=true:=by simp;omega
  clear hres h1 h2 hl1 hl2;go_enter Tryz.func55,Tryz.ntmps55
  go_wp2_with fail
  go_ret
  rw[aM.out];exact⟨rfl,by(repeat (first|exact Below.refl _ _|assumption|refine Below.trans ?_ (Below.mono (by assumption) (by first|omega|(simp;done)|(simp;omega)))|refine Below.alloc ?_ (by first|omega|(simp;done)|(simp;omega)) _|refine Below.setCell ?_ (by first|omega|(simp;done)|(simp;omega)) _|refine Below.drew ?_|refine aY ?_ _))⟩
def rZ(d:Int)(l:List Int)(k:Nat):List Int:=((List.range k).filter fun i=>decide (l[i]? =some d)).map fun(i:Nat)=>(i:Int)
theorem YJ(d:Int)(l:List Int)(k:Nat)(u:Int)(h:l[k]? =some u):rZ d l (k+1)=if u=d then rZ d l k++[(k:Int)] else rZ d l k:=by
 unfold rZ;rw[List.range_succ,List.filter_append,List.map_append];by_cases hu:u=d
 ·rw[if_pos hu,<- hu,List.filter_cons_of_pos (by rw[h];simp)];rfl
 ·rw[if_neg hu,List.filter_cons_of_neg (by rw[h];simpa using hu)];simp
theorem usN_mem(d:Int)(l:List Int)(n:Nat):(rZ d l l.length).any (fun y=>decide ((n:Int)=y))=decide (l[n]? =some d):=by
 unfold rZ;by_cases h:l[n]? =some d
 ·rw[decide_eq_true h,List.any_eq_true]
  have hlt:=(aaJ.1 h).1;exact⟨(n:Int),List.mem_map.2 ⟨n,List.mem_filter.2 ⟨List.mem_range.2 hlt,decide_eq_true h⟩,rfl⟩,by simp⟩
 ·rw[decide_eq_false h,List.any_eq_false]
  intro y hy;obtain⟨m,hm,rfl⟩:=List.mem_map.1 hy;have:=of_decide_eq_true (List.mem_filter.1 hm).2;intro e;have e1:(n:Int)=(m:Int):=of_decide_eq_true e;have e2:n=m:=by omega
  exact h (by rw[e2];exact this)
theorem LF(d:Int)(l:List Int)(k:Nat):(rZ d l k).length<=k:=by
 unfold rZ;rw[List.length_map];exact aaE (List.length_filter_le _ _) (by rw[List.length_range];exact aaD _)
theorem Jj(dA:Option Addr)(nd dc:Nat)(uA:Option Addr)(nu uc:Nat)(us:List Int)(d:Int)(w:World)(h1:bW 1 dM w w.heap.size uA us)(hl:us.length=nu)(hn:nu<=1000000)(hd0:0<=d)(hd1:d<(nd:Int)):
 Calls Tryz.prog 30 #[.agg #[.slice dA nd dc,.slice uA nu uc],.int .i64 d] w fun e w'=> ∃A n c,e= .returned (.slice A n c)/\(rZ d us nu).length=n/\aL w' w.heap.size 3 1 (.slice A n c) n (iE (rZ d us nu))/\Below w.heap.size w w':=by
 obtain⟨i0,hi0,hz0,hz1,hz2⟩:=info_parts IQ;have HR:=kH h1;have HL:=kH hl;clear h1 hl;go_enter Tryz.func30,Tryz.ntmps30
 go_wp2_with fail
 obtain⟨W1,hW1⟩:∃W,w.alloc (.cells #[.slice dA nd dc,.slice uA nu uc] 30)=W:=⟨_,rfl⟩
 have hb1:Below w.heap.size w W1:=by rw[<- hW1];exact af _ _
 have hT1:ai W1 w.heap.size 30 #[.slice dA nd dc,.slice uA nu uc]:=by rw[<- hW1];exact ai.new w _ _
 have HB1:=kH hb1;have HT1:=kH hT1;have HR1:=kH (HR.out.below hb1 (aaD _));have nV:Hid (w.heap.size<W1.heap.size):=kH hT1.lt;rw[hW1];clear hW1 hb1 hT1;go_loopg [5,11] nu (fun gk s5 s11 wr=> ∃(k:Nat) (A:Option Addr) (n c:Nat),k+gk=nu/\s5= .slice A n c/\s11= .int .i64 (k:Int)/\(rZ d us k).length=n/\aL wr (w.heap.size+1) 3 1 (.slice A n c) n (iE (rZ d us k))/\Below (w.heap.size+1) W1 wr)
 case atStart=>exact⟨0,none,0,0,by omega,rfl,rfl,rfl,aL.nil _ _ _ _,Below.refl _ _⟩
 case round=>
  obtain⟨k,A,n,c,hk,rfl,rfl,hln,hO,hB⟩:=hrel;have hT:=HT1.out.below hB (by omega);have f0:=hT.cell 0;have f1:=hT.cell 1;have lt:=hT.lt;have HK:=kH hk;have HO:=kH hO;have HB:=kH hB;have HLN:=kH hln;have hk':k<=nu:=by omega
  have hnn:n<=k:=by rw[<- hln];exact LF d us k
  have HWR:Hid (w.heap.size+1<=wr.heap.size):=kH (by have:=nV.out;have:=hB.size;omega);by_cases hlt:k<nu
  ·obtain⟨u,hu⟩:∃u,us[k]? =some u:=⟨_,aaH (by rw[HL.out];exact hlt)⟩
   obtain⟨b1,o1,hA1,hb1,hc1⟩:=(HR1.out.below (hB.mono (Nat.le_succ _)) (aaD _)) k _ hu;subst hA1;have hx:wr.cell? ⟨b1,o1+k,none⟩=some (.int .i64 u):=by simpa using hc1 0 _ rfl
   have hbb:b1<wr.heap.size:=by omega
   have hU:=YJ d us k u hu;have hkn:(k:Int)<(nu:Int):=by omega
   have hwr:IntKind.i64.wrap ((k:Int)+1)=(k:Int)+1:=IntWalk.i64_in _ (by omega);clear hc1 hu hB hO hln hk hT;by_cases hud:u=d
   ·rw[if_pos hud]at hU
    have HU:=kH hU;clear hU;subst hud;go_wp2_with (at_builtin;go_must (refine dm _ rfl (.tmp 30) (.tmp 32) _ rfl (w.heap.size+1) 3 i0 _ 1 8 Tryz.underlying28 hi0 hz0 hz1 hz2 rfl (.slice A n c) n (iE (rZ u us k)) rfl (HO.out.alloc _) ⟨wr.heap.size,0,none⟩ 1 1 [.int .i64 (k:Int)] rfl rfl (CQ _ _ _ (by go_simp)) (by simp[Value.oneCell']) (by simp only[maxLen];omega) (by omega) (by simp;have:=HWR.out;omega) ?_);intro vn w6 hown hgrow hat;obtain⟨A6,c6,kP,-,-⟩:=hown.shape;subst kP;have HOWN:=kH hown;have nW:=kH hgrow;clear hown hgrow hat)
    have hrow:=HO.out.lt;have yQ:Below (w.heap.size+1) W1 w6:=(HB.out.trans ((af _ _).mono HWR.out)).trans (((az.refl (fun g=>w.heap.size+1<=g) _).grown nW.out (fun g hg=>.inl (hrow g hg).1)).toBelow (by have:=HWR.out;simp;omega) (fun g hg=>hg));have hU:=HU.out;go_roundg (gk - 1)
    case measure=>have:=HK.out;omega
    case rel=>exact⟨k+1,A6,n+1,c6,by have:=HK.out;omega,rfl,by simp,by rw[hU,aaO,HLN.out];rfl,by rw[hU];simpa [iE] using HOWN.out,yQ⟩
   ·rw[if_neg hud]at hU
    have HU2:=kH hU;have hub:(u==d)=false:=by simpa using hud
    clear hU hud;go_wp2_with fail
    go_roundg (gk - 1)
    case measure=>have:=HK.out;omega
    case rel=>exact⟨k+1,A,n,c,by have:=HK.out;omega,rfl,by simp,by rw[HU2.out];exact HLN.out,by rw[HU2.out];exact HO.out,HB.out⟩
  ·have hke:k=nu:=by omega
   subst hke;have HE:Hid ((rZ d us k).length=n/\aL wr w.heap.size 3 1 (.slice A n c) n (iE (rZ d us k))/\Below w.heap.size w wr):=kH ⟨hln,hO.mono (Nat.le_succ _),HB1.out.trans (hB.mono (Nat.le_succ _))⟩;clear hB hO hln hk hT;go_wp2_with fail
   go_ret
   exact⟨_,_,_,rfl,HE.out⟩
end Go.Proofs.YtoepemlnlpamlaaGreat
