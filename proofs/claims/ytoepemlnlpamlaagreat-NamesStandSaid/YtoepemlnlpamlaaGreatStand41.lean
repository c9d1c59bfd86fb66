/- The law NamesStand holds: for every text and every number the law returns true, and its arguments read as before. No condition. Part 41: Cnt Cnt2 LawT LawF Std1. -/
import Derived.Test.YtoepemlnlpamlaaGreatStand12
import Derived.Test.YtoepemlnlpamlaaGreatStand14
import Derived.Test.YtoepemlnlpamlaaGreatStand15
import Derived.Test.YtoepemlnlpamlaaGreatStand21
import Derived.Test.YtoepemlnlpamlaaGreatStand37
import Derived.Test.YtoepemlnlpamlaaGreatStand38
import Derived.Test.YtoepemlnlpamlaaGreatStand40
set_option maxRecDepth 100000
set_option maxHeartbeats 4000000
namespace Go.Proofs.YtoepemlnlpamlaaGreat
section
variable {s:bE}{l:List jP}
theorem dx{p:PS}:(aC l p).k=p.k+1:=by simp[aC]
theorem iC{p:PS}{w:bE}:p.k<=(aH s l p w).k:=by
 unfold aH;split
 ·rw[dx];omega
 ·rw[mI];exact aab _
theorem cnt_acc{p:PS}{w:bE}:p.k<=(bN s l p w).k:=by
 unfold bN;split
 ·rw[dx];omega
 ·exact aab _
theorem tX{p:PS}:p.k<=(dG l p).k:=by
 unfold dG;split
 ·rw[dx];omega
 ·rw[mI];exact aab _
theorem cB{p:PS}{f:Nat}{k:Int}{t:bE}{kids:List aa}:ai (aI l p f k t kids)=1+ag kids:=rfl
theorem cnt_typ{p:PS}:p.k<=(qU s l p).2.k/\ai (qU s l p).1=1:=by
 unfold qU;split
 ·exact⟨by rw[dx];omega,rfl⟩
 split
 ·simp only
  split
  ·refine⟨?_,rfl⟩
   simp only;split
   ·refine aac ?_ iC
    rw[dx,dx,dx];omega
   ·refine aac ?_ iC
    rw[mI,dx,dx];omega
  ·exact⟨by rw[dx];omega,rfl⟩
 split
 ·exact⟨by rw[dx];omega,rfl⟩
 ·exact⟨by rw[mI];exact aab _,rfl⟩
theorem Lx{p:PS}:p.k<=(jb s l p).2.k/\ai (jb s l p).1=1:=by
 unfold jb;split
 ·have h:=cnt_typ (s:=s) (l:=l) (p:=aC l p)
  rw[dx]at h;exact⟨by omega,h.2⟩
 ·exact⟨aab _,rfl⟩
theorem Sk{p:PS}:p.k<=(kW s l p).2.k/\ai (kW s l p).1=1/\(bP l p=0->p.k<(kW s l p).2.k):=by
 unfold kW;refine⟨tX,rfl,fun h=>?_⟩;simp only;unfold dG;rw[if_pos h,dx];omega
theorem iT{r:Option (List aa×PS)}{f:aa->PS->Option (List aa×PS)}{y:List aa×PS}(h:pW r f=some y):∃x p,r=some ([x],p)/\f x p=some y:=by
 unfold pW at h;split at h
 ·exact⟨_,_,rfl,h⟩
 ·cases h
theorem zZ{r:Option (List aa×PS)}{f:List aa->PS->Option (List aa×PS)}{y:List aa×PS}(h:yP r f=some y):∃x p,r=some (x,p)/\f x p=some y:=by
 unfold yP at h;split at h
 ·exact⟨_,_,rfl,h⟩
 ·cases h
theorem Ql{first:Nat}:∀{f:Nat}{p q:PS},qp s l first f p=some q->p.k<=q.k/\(ko s l p=false->p.k=first->p.k<q.k)
 | 0,p,q,h=>by rw[qp]at h;cases h
 | f+1,p,q,h=>by
  rw[qp]at h;split at h
  ·split at h
   ·cases h
    rw[dx];exact⟨by omega,fun _ _=>by omega⟩
   ·have:=(Ql h).1
    rw[dx]at this;exact⟨by omega,fun _ _=>by omega⟩
  ·rename_i hc
   cases h
   refine⟨aab _,fun h1 h2=>?_⟩;simp[h1,h2]at hc
theorem Rp{f:Nat}{p q:PS}{x:aa}(h:pU s l f p=some (x,q)):p.k<=q.k/\ai x=1/\(ko s l p=false->p.k<q.k):=by
 unfold pU at h;split at h
 ·cases h
 ·rename_i q1 hq
  cases h
  have:=Ql hq;rw[mI,L6]at this;exact⟨this.1,rfl,fun h=>this.2 h rfl⟩
def cst:Fn->Nat
 | .sS _ _ t=>ai t
 | .oq kids=>ag kids
 | .qi kids=>ag kids
 | .stmt=>4
 | .branch=>4
 | _=>1
theorem aJ(t:aa):ag [t]=ai t:=by simp[ag]
theorem mF(t u:aa):ag [t,u]=ai t+ai u:=by simp[ag]
theorem lN(t u v:aa):ag [t,u,v]=ai t+(ai u+ai v):=by simp[ag]
theorem qg(a:List aa)(t:aa):ag (a++[t])=ag a+ai t:=by rw[uV,aJ]
def PrgF(s:bE)(l:List jP)(p q:PS)(x:List aa):Fn->Prop
 | .stmt=>(ko s l p=false->p.k<q.k)/\(p.k<q.k->ag x<=16*(q.k - p.k))
 | .branch=>p.k<q.k/\ag x<=16*(q.k - p.k)
 | .place=>bP l p=0->p.k<q.k/\ag x+15<=16*(q.k - p.k)
 | _=>True
def CntP(s:bE)(l:List jP)(fn:Fn)(p:PS)(x:List aa)(q:PS):Prop:=p.k<=q.k/\ag x<=cst fn+16*(q.k - p.k)/\PrgF s l p q x fn
theorem par_cnt:∀(f:Nat) (fn:Fn) (p:PS) (x:List aa) (q:PS),aO s l f fn p=some (x,q)->CntP s l fn p x q:=by
 intro f
 induction f with
 | zero=>intro fn p x q h;rw[aO]at h;cases h
 | succ f ih=>
  have E:∀lv p x q,aO s l f (.expr lv) p=some (x,q)->p.k<=q.k/\ag x<=1+16*(q.k - p.k):=fun lv p x q h=>⟨(ih _ _ _ _ h).1,(ih _ _ _ _ h).2.1⟩
  have EL:∀lv g t p x q,aO s l f (.sS lv g t) p=some (x,q)->p.k<=q.k/\ag x<=ai t+16*(q.k - p.k):=fun lv g t p x q h=>⟨(ih _ _ _ _ h).1,(ih _ _ _ _ h).2.1⟩
  have O:∀p x q,aO s l f .operand p=some (x,q)->p.k<=q.k/\ag x<=1+16*(q.k - p.k):=fun p x q h=>⟨(ih _ _ _ _ h).1,(ih _ _ _ _ h).2.1⟩
  have AR:∀p x q,aO s l f .args p=some (x,q)->p.k<=q.k/\ag x<=1+16*(q.k - p.k):=fun p x q h=>⟨(ih _ _ _ _ h).1,(ih _ _ _ _ h).2.1⟩
  have AL:∀kids p x q,aO s l f (.oq kids) p=some (x,q)->p.k<=q.k/\ag x<=ag kids+16*(q.k - p.k):=fun kids p x q h=>⟨(ih _ _ _ _ h).1,(ih _ _ _ _ h).2.1⟩
  have PL:∀p x q,aO s l f .place p=some (x,q)->p.k<=q.k/\ag x<=1+16*(q.k - p.k)/\(bP l p=0->p.k<q.k/\ag x+15<=16*(q.k - p.k)):=fun p x q h=>ih _ _ _ _ h
  have ST:∀p x q,aO s l f .stmt p=some (x,q)->p.k<=q.k/\ag x<=4+16*(q.k - p.k)/\(ko s l p=false->p.k<q.k)/\(p.k<q.k->ag x<=16*(q.k - p.k)):=fun p x q h=>ih _ _ _ _ h
  have BL:∀p x q,aO s l f .block p=some (x,q)->p.k<=q.k/\ag x<=1+16*(q.k - p.k):=fun p x q h=>⟨(ih _ _ _ _ h).1,(ih _ _ _ _ h).2.1⟩
  have BK:∀kids p x q,aO s l f (.qi kids) p=some (x,q)->p.k<=q.k/\ag x<=ag kids+16*(q.k - p.k):=fun kids p x q h=>⟨(ih _ _ _ _ h).1,(ih _ _ _ _ h).2.1⟩
  have BR:∀p x q,aO s l f .branch p=some (x,q)->p.k<=q.k/\ag x<=4+16*(q.k - p.k)/\p.k<q.k/\ag x<=16*(q.k - p.k):=fun p x q h=>ih _ _ _ _ h
  have fin:∀{a b:List aa×PS},some a=some b->a=b:=fun h=>by injection h
  intro fn p x q h
  cases fn with
  | expr lv=>
   rw[aO]at h;split at h
   ·split at h
    ·obtain⟨y,q1,h1,h2⟩:=iT h
     cases h2
     have a1:=E _ _ _ _ h1;rw[dx,aJ]at a1;exact⟨by omega,by rw[aJ,cB,aJ];show _<=1+_;omega,trivial⟩
    ·have a1:=E _ _ _ _ h
     exact⟨a1.1,a1.2,trivial⟩
   split at h
   ·split at h
    ·obtain⟨y,q1,h1,h2⟩:=iT h
     cases h2
     have a1:=E _ _ _ _ h1;rw[dx,aJ]at a1;exact⟨by omega,by rw[aJ,cB,aJ];show _<=1+_;omega,trivial⟩
    ·have a1:=O _ _ _ h
     exact⟨a1.1,a1.2,trivial⟩
   ·obtain⟨y,q1,h1,h2⟩:=iT h
    have a1:=E _ _ _ _ h1;have a2:=EL _ _ _ _ _ _ h2;rw[aJ]at a1;exact⟨by omega,by show _<=1+_;omega,trivial⟩
  | sS lv first t=>
   rw[aO]at h;split at h
   ·obtain⟨y,q1,h1,h2⟩:=iT h
    have a1:=E _ _ _ _ h1;rw[dx,aJ]at a1;try simp only at h2
    split at h2
    ·cases h2
     exact⟨by omega,by rw[aJ,cB,mF];show _<=ai t+_;omega,trivial⟩
    ·have a2:=EL _ _ _ _ _ _ h2
     rw[cB,mF]at a2;exact⟨by omega,by show _<=ai t+_;omega,trivial⟩
   ·cases h
    exact⟨aab _,by rw[aJ];exact Nat.le_add_right _ _,trivial⟩
  | operand=>
   rw[aO]at h;split at h
   ·cases h
    exact⟨by rw[dx];omega,by rw[aJ,cB,ag];exact Nat.le_add_right _ _,trivial⟩
   split at h
   ·cases h
    exact⟨by rw[dx];omega,by rw[aJ,cB,ag];exact Nat.le_add_right _ _,trivial⟩
   split at h
   ·obtain⟨y,q1,h1,h2⟩:=zZ h
    cases h2
    have a1:=AR _ _ _ h1;rw[dx]at a1;exact⟨by omega,by rw[aJ,cB];show _<=1+_;omega,trivial⟩
   split at h
   ·have a1:=PL _ _ _ h
    exact⟨a1.1,a1.2.1,trivial⟩
   split at h
   ·obtain⟨y,q1,h1,h2⟩:=iT h
    obtain⟨y2,q2,h3,h4⟩:=zZ h2;cases h4
    have a1:=E _ _ _ _ h1;have a2:=AL _ _ _ _ h3;have a3:=iC (s:=s) (l:=l) (p:=q2) (w:=[93]);rw[dx,aJ]at a1;rw[aJ]at a2;exact⟨by omega,by rw[aJ,cB];show _<=1+_;omega,trivial⟩
   split at h
   ·cases h
    have a1:=iC (s:=s) (l:=l) (p:=aC l p) (w:=[40]);have a2:=Sk (s:=s) (l:=l) (p:=aH s l (aC l p) [40]);have a3:=iC (s:=s) (l:=l) (p:=(kW s l (aH s l (aC l p) [40])).2) (w:=[41]);rw[dx]at a1;exact⟨by omega,by rw[aJ,cB,aJ,a2.2.1];show _<=1+_;omega,trivial⟩
   split at h
   ·obtain⟨y,q1,h1,h2⟩:=iT h
    cases h2
    have a1:=E _ _ _ _ h1;have a3:=iC (s:=s) (l:=l) (p:=q1) (w:=[41]);rw[dx,aJ]at a1;exact⟨by omega,by rw[aJ];show _<=1+_;omega,trivial⟩
   ·cases h
    exact⟨by rw[mI];exact aab _,by rw[aJ,cB,ag];exact Nat.le_add_right _ _,trivial⟩
  | args=>
   rw[aO]at h;try simp only at h
   split at h
   ·cases h
    have a3:=iC (s:=s) (l:=l) (p:=aC l p) (w:=[41]);rw[dx]at a3;exact⟨by omega,by rw[ag];exact Nat.zero_le _,trivial⟩
   ·obtain⟨y,q1,h1,h2⟩:=iT h
    obtain⟨y2,q2,h3,h4⟩:=zZ h2;cases h4
    have a1:=E _ _ _ _ h1;have a2:=AL _ _ _ _ h3;have a3:=iC (s:=s) (l:=l) (p:=q2) (w:=[41]);rw[dx,aJ]at a1;rw[aJ]at a2;exact⟨by omega,by show _<=1+_;omega,trivial⟩
  | oq kids=>
   rw[aO]at h;split at h
   ·obtain⟨y,q1,h1,h2⟩:=iT h
    have a1:=E _ _ _ _ h1;have a2:=AL _ _ _ _ h2;rw[dx,aJ]at a1;rw[qg]at a2;exact⟨by omega,by show _<=ag kids+_;omega,trivial⟩
   ·cases h
    exact⟨aab _,Nat.le_add_right _ _,trivial⟩
  | place=>
   rw[aO]at h;try simp only at h
   have a0:=Sk (s:=s) (l:=l) (p:=p);split at h
   ·obtain⟨y,q1,h1,h2⟩:=iT h
    cases h2
    have a1:=E _ _ _ _ h1;have a3:=iC (s:=s) (l:=l) (p:=q1) (w:=[93]);rw[dx,aJ]at a1;exact⟨by omega,by rw[aJ,cB,mF,a0.2.1];show _<=1+_;omega,fun hk=>by have:=a0.2.2 hk;refine⟨by omega,?_⟩;rw[aJ,cB,mF,a0.2.1];omega⟩
   split at h
   ·cases h
    have a3:=tX (l:=l) (p:=aC l (kW s l p).2);rw[dx]at a3;exact⟨by omega,by rw[aJ,cB,aJ,a0.2.1];show _<=1+_;omega,fun hk=>by have:=a0.2.2 hk;refine⟨by omega,?_⟩;rw[aJ,cB,aJ,a0.2.1];omega⟩
   ·cases h
    exact⟨a0.1,by rw[aJ,a0.2.1];exact Nat.le_add_right _ _,fun hk=>by have:=a0.2.2 hk;refine⟨this,?_⟩;rw[aJ,a0.2.1];omega⟩
  | stmt=>
   rw[aO]at h;split at h
   ·try simp only at h
    obtain⟨y,q1,h1,h2⟩:=iT h;cases h2
    have b1:=tX (l:=l) (p:=aC l p);have b2:=Lx (s:=s) (l:=l) (p:=dG l (aC l p));have b3:=iC (s:=s) (l:=l) (p:=(jb s l (dG l (aC l p))).2) (w:=[61]);have a1:=E _ _ _ _ h1;have a3:=iC (s:=s) (l:=l) (p:=q1) (w:=[59]);rw[dx]at b1;rw[aJ]at a1;exact⟨by omega,by rw[aJ,cB,mF,b2.2];show _<=4+_;omega,fun _=>by omega,fun _=>by rw[aJ,cB,mF,b2.2];omega⟩
   split at h
   ·have a1:=BR _ _ _ h
    exact⟨a1.1,a1.2.1,fun _=>a1.2.2.1,fun _=>a1.2.2.2⟩
   split at h
   ·obtain⟨y,q1,h1,h2⟩:=iT h
    obtain⟨y2,q2,h3,h4⟩:=iT h2;cases h4
    have a1:=E _ _ _ _ h1;have a2:=BL _ _ _ h3;rw[dx,aJ]at a1;rw[aJ]at a2;exact⟨by omega,by rw[aJ,cB,mF];show _<=4+_;omega,fun _=>by omega,fun _=>by rw[aJ,cB,mF];omega⟩
   split at h
   ·try simp only at h
    obtain⟨y,q1,h1,h2⟩:=iT h;obtain⟨y2,q2,h3,h4⟩:=iT h2;obtain⟨y3,q3,h5,h6⟩:=iT h4;cases h6
    have b1:=tX (l:=l) (p:=aC l p);have b3:=iC (s:=s) (l:=l) (p:=dG l (aC l p)) (w:=[61]);have b4:=iC (s:=s) (l:=l) (p:=q1) (w:=[116,111]);have a1:=E _ _ _ _ h1;have a2:=E _ _ _ _ h3;have a3:=BL _ _ _ h5;rw[dx]at b1;rw[aJ]at a1 a2 a3;exact⟨by omega,by rw[aJ,cB,lN];show _<=4+_;omega,fun _=>by omega,fun _=>by rw[aJ,cB,lN];omega⟩
   split at h
   ·try simp only at h
    split at h
    ·obtain⟨y,q1,h1,h2⟩:=iT h
     cases h2
     have a1:=E _ _ _ _ h1;have a3:=iC (s:=s) (l:=l) (p:=q1) (w:=[59]);rw[dx,aJ]at a1;exact⟨by omega,by rw[aJ,cB,aJ];show _<=4+_;omega,fun _=>by omega,fun _=>by rw[aJ,cB,aJ];omega⟩
    ·cases h
     have a3:=iC (s:=s) (l:=l) (p:=aC l p) (w:=[59]);rw[dx]at a3;exact⟨by omega,by rw[aJ,cB,aJ,cB,ag];show _<=4+_;omega,fun _=>by omega,fun _=>by rw[aJ,cB,aJ,cB,ag];omega⟩
   split at h
   ·obtain⟨y,q1,h1,h2⟩:=iT h
    cases h2
    have a1:=E _ _ _ _ h1;have a3:=iC (s:=s) (l:=l) (p:=q1) (w:=[59]);rw[dx,aJ]at a1;exact⟨by omega,by rw[aJ,cB,aJ];show _<=4+_;omega,fun _=>by omega,fun _=>by rw[aJ,cB,aJ];omega⟩
   split at h
   ·obtain⟨y,q1,h1,h2⟩:=zZ h
    cases h2
    have a1:=AR _ _ _ h1;have a3:=iC (s:=s) (l:=l) (p:=q1) (w:=[59]);rw[dx]at a1;exact⟨by omega,by rw[aJ,cB];show _<=4+_;omega,fun _=>by omega,fun _=>by rw[aJ,cB];omega⟩
   split at h
   ·rename_i hk0
    obtain⟨y,q1,h1,h2⟩:=iT h;obtain⟨y2,q2,h3,h4⟩:=iT h2;cases h4
    have a1:=PL _ _ _ h1;have b1:=iC (s:=s) (l:=l) (p:=q1) (w:=[61]);have a2:=E _ _ _ _ h3;have b2:=iC (s:=s) (l:=l) (p:=q2) (w:=[59]);have b3:=a1.2.2 hk0;rw[aJ]at a1 a2;exact⟨by omega,by rw[aJ,cB,mF];show _<=4+_;omega,fun _=>by omega,fun _=>by rw[aJ,cB,mF];omega⟩
   ·split at h
    ·cases h
    ·rename_i hsk
     cases h
     have a1:=Rp hsk;exact⟨a1.1,by rw[aJ,a1.2.1];show _<=4+_;omega,a1.2.2,fun _=>by rw[aJ,a1.2.1];omega⟩
  | block=>
   rw[aO]at h;split at h
   ·obtain⟨y,q1,h1,h2⟩:=zZ h
    cases h2
    have a1:=BK _ _ _ _ h1;have a3:=iC (s:=s) (l:=l) (p:=q1) (w:=[125]);rw[dx,ag]at a1;exact⟨by omega,by rw[aJ,cB];show _<=1+_;omega,trivial⟩
   ·cases h
    exact⟨by rw[mI];exact aab _,by rw[aJ,cB,ag];exact Nat.le_add_right _ _,trivial⟩
  | qi kids=>
   rw[aO]at h;split at h
   ·cases h
    exact⟨aab _,Nat.le_add_right _ _,trivial⟩
   ·rename_i hst
    obtain⟨y,q1,h1,h2⟩:=iT h;have a1:=ST _ _ _ h1;have a2:=BK _ _ _ _ h2;have a3:=a1.2.2.1 (by simpa using hst);have a4:=a1.2.2.2 a3;rw[aJ]at a4;rw[qg]at a2;exact⟨by omega,by show _<=ag kids+_;omega,trivial⟩
  | branch=>
   rw[aO]at h;obtain⟨y,q1,h1,h2⟩:=iT h;obtain⟨y2,q2,h3,h4⟩:=iT h2;have a1:=E _ _ _ _ h1;have a2:=BL _ _ _ h3;rw[dx,aJ]at a1;rw[aJ]at a2;try simp only at h4
   split at h4
   ·split at h4
    ·obtain⟨y3,q3,h5,h6⟩:=iT h4
     cases h6
     have a3:=BR _ _ _ h5;rw[dx,aJ]at a3;have a4:=a3.2.2.2;exact⟨by omega,by rw[aJ,cB,lN];show _<=4+_;omega,by show p.k<_;omega,by rw[aJ,cB,lN];omega⟩
    ·obtain⟨y3,q3,h5,h6⟩:=iT h4
     cases h6
     have a3:=BL _ _ _ h5;rw[dx,aJ]at a3;exact⟨by omega,by rw[aJ,cB,lN];show _<=4+_;omega,by show p.k<_;omega,by rw[aJ,cB,lN];omega⟩
   ·cases h4
    exact⟨by omega,by rw[aJ,cB,lN,cB,ag];show _<=4+_;omega,by show p.k<_;omega,by rw[aJ,cB,lN,cB,ag];omega⟩
end
section
variable {s:bE}{l:List jP}
theorem MW{p:PS}:p.k<=(jS s l p).2.k/\ai (jS s l p).1=2:=by
 unfold jS;have h1:=iC (s:=s) (l:=l) (p:=dG l p) (w:=[58]);have h2:=tX (l:=l) (p:=p);simp only;split
 ·exact⟨by rw[dx];omega,rfl⟩
 ·exact⟨by rw[mI];omega,rfl⟩
theorem KA:∀(f:Nat) (p:PS) (kids y:List aa) (q:PS),mf s l f p kids=some (y,q)->p.k<=q.k/\ag y<=ag kids+16*(q.k - p.k)
 | 0,p,kids,y,q,h=>by rw[mf]at h;cases h
 | f+1,p,kids,y,q,h=>by
  rw[mf]at h;split at h
  ·have a1:=KA f _ _ _ _ h
   have a2:=MW (s:=s) (l:=l) (p:=aC l p);rw[dx]at a2;rw[qg,a2.2]at a1;exact⟨by omega,by omega⟩
  ·cases h
   exact⟨aab _,Nat.le_add_right _ _⟩
theorem Vb{f:Nat}{p:PS}{x:aa}{q:PS}(h:nE s l f p=some (x,q)):p.k<=q.k/\ai x<=16*(q.k - p.k):=by
 unfold nE at h;try simp only at h
 split at h
 ·cases h
 ·rename_i kids p3 hf
  cases h
  have a1:=KA _ _ _ _ _ hf;have a2:=MW (s:=s) (l:=l) (p:=aH s l (dG l (aC l p)) [123]);have a3:=iC (s:=s) (l:=l) (p:=dG l (aC l p)) (w:=[123]);have a4:=tX (l:=l) (p:=aC l p);have a5:=iC (s:=s) (l:=l) (p:=p3) (w:=[125]);rw[dx]at a4;rw[aJ,a2.2]at a1;exact⟨by omega,by rw[cB];omega⟩
theorem MV{p:PS}:p.k<=(gZ s l p).2.k/\ai (gZ s l p).1=2:=by
 unfold gZ;have h1:=cnt_acc (s:=s) (l:=l) (p:=p) (w:=[118,97,114]);have h2:=tX (l:=l) (p:=bN s l p [118,97,114]);have h3:=Lx (s:=s) (l:=l) (p:=dG l (bN s l p [118,97,114]));simp only;exact⟨by omega,by rw[cB,aJ,h3.2]⟩
theorem Kz:∀(f:Nat) (p:PS) (kids y:List aa) (q:PS),jX s l f p kids=some (y,q)->p.k<=q.k/\ag y<=ag kids+16*(q.k - p.k)
 | 0,p,kids,y,q,h=>by rw[jX]at h;cases h
 | f+1,p,kids,y,q,h=>by
  rw[jX]at h;split at h
  ·have a1:=Kz f _ _ _ _ h
   have a2:=MV (s:=s) (l:=l) (p:=aC l p);rw[dx]at a2;rw[qg,a2.2]at a1;exact⟨by omega,by omega⟩
  ·cases h
   exact⟨aab _,Nat.le_add_right _ _⟩
theorem Rq{f:Nat}{p:PS}{x:aa}{q:PS}(h:qz s l f p=some (x,q)):p.k<=q.k/\ai x<=3+16*(q.k - p.k):=by
 unfold qz at h;try simp only at h
 have a1:=iC (s:=s) (l:=l) (p:=p) (w:=[40]);split at h
 ·cases h
 ·rename_i kids p2 hf
  cases h
  have a5:=iC (s:=s) (l:=l) (p:=p2) (w:=[41]);split at hf
  ·cases hf
   exact⟨by omega,by rw[cB,ag];omega⟩
  ·have a2:=Kz _ _ _ _ _ hf
   have a3:=MV (s:=s) (l:=l) (p:=aH s l p [40]);rw[aJ,a3.2]at a2;exact⟨by omega,by rw[cB];omega⟩
theorem Zh{f:Nat}{p:PS}{x:aa}{q:PS}(h:rX s l f p=some (x,q)):p.k<=q.k/\ai x<=16*(q.k - p.k):=by
 unfold rX at h;try simp only at h
 split at h
 ·cases h
 ·rename_i y p2 hp
  split at h
  ·rename_i b p3 hb
   cases h
   have a1:=Rq hp;have a2:=tX (l:=l) (p:=aC l p);have a3:=Lx (s:=s) (l:=l) (p:=p2);have a4:=par_cnt _ _ _ _ _ hb;have a5:=a4.1;have a6:ag [b]<=1+16*(q.k - (jb s l p2).2.k):=a4.2.1;rw[dx]at a2;rw[aJ]at a6;exact⟨by omega,by rw[cB,lN,a3.2];omega⟩
  ·cases h
theorem Dz(he:nL l)(hend:pM s l):∀(f:Nat) (p:PS) (kids y:List aa) (q:PS),p.k<l.length->j3 s l f p kids=some (y,q)->q.k<l.length/\ag y+16*p.k<=ag kids+16*q.k
 | 0,p,kids,y,q,_,h=>by rw[j3]at h;cases h
 | f+1,p,kids,y,q,hp,h=>by
  rw[j3]at h;split at h
  ·cases h
   exact⟨hp,aab _⟩
  rename_i h5
  split at h
  ·split at h
   ·cases h
   ·rename_i x q1 hr
    have hle:=EH he hr hp h5;have a1:=Vb hr;have a2:=Dz he hend f _ _ _ _ hle.1.2 h;rw[qg]at a2;exact⟨a2.1,by omega⟩
  rename_i hrec
  split at h
  ·split at h
   ·cases h
   ·rename_i x q1 hr
    have hle:=JN he hend hr hp h5;have a1:=Zh hr;have a2:=Dz he hend f _ _ _ _ hle.1.2 h;rw[qg]at a2;exact⟨a2.1,by omega⟩
  rename_i hproc
  split at h
  ·cases h
  ·rename_i q1 hn
   have hle:=EM he hn (by rw[mI];exact hp);rw[ER,zK,zK,mI]at hle;have hlt:=hle.2 (by simp[h5,hrec,hproc]);have a2:=Dz he hend f _ _ _ _ hle.1.2 h;rw[qg,cB,ag]at a2;exact⟨a2.1,by omega⟩
end
theorem VY{f:Nat}{s:bE}{t:aa}{ds:List Dg}(h:qE f s=some (t,ds))(hs:s.length<=4096):ai t<=1000000:=by
 unfold qE at h;split at h
 ·cases h
 ·rename_i kids p hp
  cases h
  have hl:(mG s).length<=s.length+1:=aac (List.length_filter_le _ _) (xV s);rw[ai];by_cases h0:(mG s).length=0
  ·cases f with
   | zero=>rw[j3]at hp;cases hp
   | succ f=>
    rw[j3,if_pos (by have:mG s=[]:=List.length_eq_zero_iff.1 h0;rw[this];rfl)]at hp;cases hp
    rw[ag];omega
  ·have:=Dz (DC (BQ s)) (G6 s (BQ s)) f ⟨0,0,[]⟩ [] kids p (show 0<(mG s).length by omega) hp
   rw[ag]at this;omega
open Go.RowKit
def Qw(w:World)(e:Ending)(w':World):Prop:=
 ∃t A c DA dn dc eno,e= .returned (.tuple #[bB t A c,.slice DA (dn:Nat) dc,.int .i64 eno])/\ai t<=1000000/\aF w' (fun g=>w.heap.size<=g) t [.int .i64 t.kind,.string t.text,.int .i64 t.at_,.int .i64 t.end_,.slice A t.kids.length c]/\Below w.heap.size w w'
theorem Ug(s:ByteArray)(w:World)(hs:4096<s.size):Calls Tryz.prog 37 #[.string s] w (Qw w):=by
 have hgt:(4096:Int)<s.size:=by omega
 have HE:Hid (∀w',Below w.heap.size w w'->Qw w (.returned (.tuple #[.agg #[.int .i64 0,.string ⟨#[]⟩,.int .i64 0,.int .i64 0,.slice none 0 0],.slice none 0 0,.int .i64 8])) w'):=kH (fun w' hb=>⟨.node 0 ⟨#[]⟩ 0 0 [],none,0,none,0,0,8,rfl,by decide,⟨none,0,[],rfl,aP.nil _ _ _ _,fun g hg=>by(cases hg),rfl⟩,hb⟩);go_enter Tryz.func37,Tryz.ntmps37
 go_wp2_with fail
 try simp only[Exit.inBlock,Exit.then]
 refine bodyPost_ret (v:=.tuple #[.agg #[.int .i64 0,.string ⟨#[]⟩,.int .i64 0,.int .i64 0,.slice none 0 0],.slice none 0 0,.int .i64 8]) (by simp[results,Tryz.results37,go_sem]) rfl ?_;exact HE.out _ (by(repeat (first|exact Below.refl _ _|assumption|refine Below.trans ?_ (Below.mono (by assumption) (by first|omega|(simp;done)|(simp;omega)))|refine Below.alloc ?_ (by first|omega|(simp;done)|(simp;omega)) _|refine Below.setCell ?_ (by first|omega|(simp;done)|(simp;omega)) _|refine Below.drew ?_|refine bq ?_ _)))
theorem Uh(s:ByteArray)(w:World):Calls Tryz.prog 37 #[.string s] w (Qw w):=by
 by_cases hs:s.size<=4096
 ·refine(Mj s w hs).mono ?_
  rintro e w' ⟨f,t,ds,hp,ht⟩;obtain⟨k,x,a,z,A,n,c,DA,dn,dc,rfl,hT,-,-,hb⟩:=ht;obtain⟨A',c',h1,-⟩:=(aF.at_ t _ hT).five;have h2:=h1;simp only[List.cons.injEq,Value.int.injEq,Value.string.injEq,Value.slice.injEq,true_and,and_true]at h2;obtain⟨rfl,rfl,rfl,rfl,rfl,rfl,rfl⟩:=h2;exact⟨t,A,c,DA,dn,dc,0,rfl,VY hp (by rw[dm];exact hs),hT,hb⟩
 ·exact Ug s w (by omega)
def TreeL(w:World)(e:Ending)(w':World):Prop:=
 ∃t A c b,e= .returned (.tuple #[bB t A c,.bool b])/\ai t<=1000000/\t.kids.length<=c/\aK w' w'.heap.size A 0 t.kids/\Below w.heap.size w w'
theorem XX(s:ByteArray)(w:World):Calls Tryz.prog 22 #[.string s] w (TreeL w):=by
 obtain⟨W0,hW0⟩:∃W0,w.alloc (.cells #[.int .i64 0,.string ⟨#[]⟩,.int .i64 0,.int .i64 0,.slice none 0 0] 24)=W0:=⟨_,rfl⟩
 have hb0:Below w.heap.size w W0:=by rw[<- hW0];exact ae _ _
 have hR0:ak W0 w.heap.size 24 #[.int .i64 0,.string ⟨#[]⟩,.int .i64 0,.int .i64 0,.slice none 0 0]:=by rw[<- hW0];exact ak.new _ _ _
 have HP:=kH (Uh s W0);have HB0:=kH hb0;have XD:=kH hR0;clear hb0 hR0;go_enter Tryz.func22,Tryz.ntmps22
 go_wp2_with (rw[hW0])
 clear hW0;refine HP.out.mono ?_;rintro e1 w1 ⟨t,A,c,DA,dn,dc,eno,rfl,hcn,hT,hb1⟩;obtain⟨k0,x0,a0,z0,n0,-,-,-,-,-,ji⟩:=gD t A c;rw[ji];obtain⟨W1,hW1⟩:∃W1,w1.alloc (.cells #[.int .i64 k0,.string x0,.int .i64 a0,.int .i64 z0,.slice A n0 c] 24)=W1:=⟨_,rfl⟩
 have hbW:Below w1.heap.size w1 W1:=by rw[<- hW1];exact ae _ _
 have wT:ak W1 w1.heap.size 24 #[.int .i64 k0,.string x0,.int .i64 a0,.int .i64 z0,.slice A n0 c]:=by rw[<- hW1];exact ak.new _ _ _
 have eP:=(XD.out.below hb1 XD.out.lt).below hbW (XD.out.below hb1 XD.out.lt).lt;have hBW:Below w.heap.size w W1:=HB0.out.trans ((hb1.trans (hbW.mono hb1.size)).mono HB0.out.size);have n0':=wT.cell 0;have n1:=wT.cell 1;have n2:=wT.cell 2;have n3:=wT.cell 3;have n4:=wT.cell 4;have ln:=wT.lt;have r0:=eP.cell 0;have r1:=eP.cell 1;have r2:=eP.cell 2;have r3:=eP.cell 3;have r4:=eP.cell 4;have g0:=eP.frozen 0;have g1:=eP.frozen 1;have g2:=eP.frozen 2;have g3:=eP.frozen 3;have g4:=eP.frozen 4;have lr:=eP.lt
 have hZ:ak (bZ W1 w.heap.size (.int .i64 k0) (.string x0) (.int .i64 a0) (.int .i64 z0) (.slice A n0 c)) w.heap.size 24 #[.int .i64 k0,.string x0,.int .i64 a0,.int .i64 z0,.slice A n0 c]:=by
  have:=((((eP.gY 0 (.int .i64 k0)).gY 1 (.string x0)).gY 2 (.int .i64 a0)).gY 3 (.int .i64 z0)).gY 4 (.slice A n0 c);unfold bZ;simpa using this
 have D5:aA (fun g=>g=w.heap.size) W1 (bZ W1 w.heap.size (.int .i64 k0) (.string x0) (.int .i64 a0) (.int .i64 z0) (.slice A n0 c)):=by
  unfold bZ;exact((((aA.setCell (S:=fun g=>g=w.heap.size) (aA.refl _ W1) (p:=⟨w.heap.size,0,none⟩) (.inl rfl) _).setCell (p:=⟨w.heap.size,1,none⟩) (.inl rfl) _).setCell (p:=⟨w.heap.size,2,none⟩) (.inl rfl) _).setCell (p:=⟨w.heap.size,3,none⟩) (.inl rfl) _).setCell (p:=⟨w.heap.size,4,none⟩) (.inl rfl) _
 have WJ:aF (bZ W1 w.heap.size (.int .i64 k0) (.string x0) (.int .i64 a0) (.int .i64 z0) (.slice A n0 c)) (fun g=>W0.heap.size<=g) t [.int .i64 t.kind,.string t.text,.int .i64 t.at_,.int .i64 t.end_,.slice A t.kids.length c]:=by
  refine aF.keeps ?_ t _ (aF.keeps (dB.of_below hbW) t _ hT);intro g cs hP hg;have hlt:=(aae.1 hg).1;refine D5.block g hlt (fun e=>?_);have h1:W0.heap.size<=g:=hP;have h2:=XD.out.lt;omega
 have hat:=aF.at_ t _ WJ;have hcap:=hat.cap;obtain⟨A',c',h1,hkZ⟩:=hat.five;simp only[List.cons.injEq,Value.slice.injEq,true_and,and_true]at h1;obtain⟨rfl,rfl⟩:=h1;have HE:Hid (∀b,TreeL w (.returned (.tuple #[.agg #[.int .i64 k0,.string x0,.int .i64 a0,.int .i64 z0,.slice A n0 c],.bool b])) (bZ W1 w.heap.size (.int .i64 k0) (.string x0) (.int .i64 a0) (.int .i64 z0) (.slice A n0 c))):=kH (fun b=>⟨t,A,c,b,by rw[ji],hcn,hcap,hkZ,hBW.trans (D5.toBelow hBW.size (fun g hg=>by rw[hg];exact aab _))⟩);have HZ:=kH hZ;clear WJ hat hcap hkZ D5 hZ hBW eP wT hbW hT hcn ji hb1 HP;by_cases c1:s.size<=500
 ·have c1':(s.size:Int)<=500:=by omega
  by_cases c2:eno=0
  ·subst c2
   by_cases c3:dn=0
   ·subst c3
    go_wp2_with (rw[hW1])
    have hz:=HZ.out;have he:=HE.out true;unfold bZ at hz he;clear r0 r1 r2 r3 r4;generalize ((((W1.setCell ⟨w.heap.size,0,none⟩ (.int .i64 k0)).setCell ⟨w.heap.size,1,none⟩ (.string x0)).setCell ⟨w.heap.size,2,none⟩ (.int .i64 a0)).setCell ⟨w.heap.size,3,none⟩ (.int .i64 z0)).setCell ⟨w.heap.size,4,none⟩ (.slice A n0 c)=WZ at hz he⊢
    have r0:=hz.cell 0;have r1:=hz.cell 1;have r2:=hz.cell 2;have r3:=hz.cell 3;have r4:=hz.cell 4;refine bodyPost_ret (v:=.tuple #[.agg #[.int .i64 k0,.string x0,.int .i64 a0,.int .i64 z0,.slice A n0 c],.bool true]) (by simp[results,Tryz.results22,go_sem,r0,r1,r2,r3,r4]) rfl ?_;exact he
   ·have c3':((dn:Int)==0)=false:=by simp;omega
    go_wp2_with (rw[hW1])
    have hz:=HZ.out;have he:=HE.out false;unfold bZ at hz he;clear r0 r1 r2 r3 r4;generalize ((((W1.setCell ⟨w.heap.size,0,none⟩ (.int .i64 k0)).setCell ⟨w.heap.size,1,none⟩ (.string x0)).setCell ⟨w.heap.size,2,none⟩ (.int .i64 a0)).setCell ⟨w.heap.size,3,none⟩ (.int .i64 z0)).setCell ⟨w.heap.size,4,none⟩ (.slice A n0 c)=WZ at hz he⊢
    have r0:=hz.cell 0;have r1:=hz.cell 1;have r2:=hz.cell 2;have r3:=hz.cell 3;have r4:=hz.cell 4;refine bodyPost_ret (v:=.tuple #[.agg #[.int .i64 k0,.string x0,.int .i64 a0,.int .i64 z0,.slice A n0 c],.bool false]) (by simp[results,Tryz.results22,go_sem,r0,r1,r2,r3,r4]) rfl ?_;exact he
  ·have c2':(eno==0)=false:=by simp[c2]
   go_wp2_with (rw[hW1])
   have hz:=HZ.out;have he:=HE.out false;unfold bZ at hz he;clear r0 r1 r2 r3 r4;generalize ((((W1.setCell ⟨w.heap.size,0,none⟩ (.int .i64 k0)).setCell ⟨w.heap.size,1,none⟩ (.string x0)).setCell ⟨w.heap.size,2,none⟩ (.int .i64 a0)).setCell ⟨w.heap.size,3,none⟩ (.int .i64 z0)).setCell ⟨w.heap.size,4,none⟩ (.slice A n0 c)=WZ at hz he⊢
   have r0:=hz.cell 0;have r1:=hz.cell 1;have r2:=hz.cell 2;have r3:=hz.cell 3;have r4:=hz.cell 4;refine bodyPost_ret (v:=.tuple #[.agg #[.int .i64 k0,.string x0,.int .i64 a0,.int .i64 z0,.slice A n0 c],.bool false]) (by simp[results,Tryz.results22,go_sem,r0,r1,r2,r3,r4]) rfl ?_;exact he
 ·have c1':¬((s.size:Int)<=500):=by omega
  go_wp2_with (rw[hW1])
  have hz:=HZ.out;have he:=HE.out false;unfold bZ at hz he;clear r0 r1 r2 r3 r4;generalize ((((W1.setCell ⟨w.heap.size,0,none⟩ (.int .i64 k0)).setCell ⟨w.heap.size,1,none⟩ (.string x0)).setCell ⟨w.heap.size,2,none⟩ (.int .i64 a0)).setCell ⟨w.heap.size,3,none⟩ (.int .i64 z0)).setCell ⟨w.heap.size,4,none⟩ (.slice A n0 c)=WZ at hz he⊢
  have r0:=hz.cell 0;have r1:=hz.cell 1;have r2:=hz.cell 2;have r3:=hz.cell 3;have r4:=hz.cell 4;refine bodyPost_ret (v:=.tuple #[.agg #[.int .i64 k0,.string x0,.int .i64 a0,.int .i64 z0,.slice A n0 c],.bool false]) (by simp[results,Tryz.results22,go_sem,r0,r1,r2,r3,r4]) rfl ?_;exact he
theorem JQ:∀(p:List Nat),xW p=p.flatMap nG
 | []=>rfl
 | i::p=>by
  rw[List.flatMap_cons,<- JQ p];rfl
end Go.Proofs.YtoepemlnlpamlaaGreat
namespace Go.Proofs.YtoepemlnlpamlaaGreat
def kT(r:RS)(m:Nat)(k:Int):RS:={ r with uses:=r.uses.set m k }
theorem M3(r:RS){m n:Nat}(h:m≠n)(k c:Int)(t:aa):jk (kT r m k) c n t=kT (jk r c n t) m k:=by
 unfold jk kT;simp only;rw[List.set_comm _ _ h]
theorem AZ(r:RS){m n:Nat}(h:m≠n)(k c:Int)(t:aa)(a:Bool):bF (kT r m k) c n t a=kT (bF r c n t a) m k:=by
 cases a
 ·exact M3 r h k c t
 ·rfl
theorem Zq9(r:RS)(m:Nat)(k:Int)(i:Bool)(v:List Int):aB (kT r m k) i v=kT (aB r i v) m k:=rfl
theorem Qs(r:RS)(m:Nat)(k o:Int):({ kT r m k with owner:=o }:RS)=kT { r with owner:=o } m k:=rfl
theorem I9(G:bD)(r:RS){m n:Nat}(h:m≠n)(k c:Int)(t:aa)(s:aT):aD G (kT r m k) c n t s=(kT (aD G r c n t s).1 m k,(aD G r c n t s).2):=by
 unfold aD;split
 ·rfl
 ·rw[M3 r h]
theorem AY(r:RS){m n:Nat}(h:m≠n)(k:Int)(t:aa)(q:Option Int):gB (kT r m k) n t q=kT (gB r n t q) m k:=by
 cases q with
 | none=>rfl
 | some j=>
  unfold gB kT;simp only;rw[List.set_comm _ _ h]
theorem Xl(G:bD)(s:aT)(r u:RS){m:Nat}(h:m≠r.next)(k:Int)(t:aa):ik G s (kT r m k) (kT u m k) t=kT (ik G s r u t) m k:=by
 unfold ik;have hn:(kT r m k).next=r.next:=rfl;rw[hn];split
 ·exact AY u h k t _
 split
 ·exact AY u h k t _
 split
 ·exact AY u h k t _
 split
 ·exact AY u h k t _
 split
 ·exact AY u h k t _
 ·rfl
theorem zY(r:RS)(i:Bool)(v:List Int)(c:Int)(t:aa)(b:Bool):(bF (aB r i v) c r.next t b).next=r.next+1:=by cases b<;>rfl
theorem IP(G:bD)(r:RS)(i:Bool)(v:List Int)(c:Int)(t:aa)(s:aT):(aD G (aB r i v) c r.next t s).1.next=r.next+1:=by
 unfold aD;split<;>rfl
mutual
theorem VF(G:bD)(m:Nat)(k0:Int):∀(t:aa) (i:Bool) (s:aT) (r:RS),m<r.next->aL G i t s (kT r m k0)=(kT (aL G i t s r).1 m k0,(aL G i t s r).2)
 | .node k x a e kids,i,s,r,hm=>by
  have hne:m≠r.next:=by omega
  have hn:(kT r m k0).next=r.next:=rfl;rw[di,di];simp only[Zq9,hn];by_cases h3:k=3
  ·rw[if_pos h3,if_pos h3,AZ _ hne,Qs]
   exact jA G m k0 kids i 0 kids.length s _ (by show m<(bF _ _ _ _ _).next;rw[zY];omega)
  rw[if_neg h3,if_neg h3];by_cases h4:k=4
  ·rw[if_pos h4,if_pos h4,AZ _ hne]
   exact jA G m k0 kids i 0 kids.length s _ (by rw[zY];omega)
  rw[if_neg h4,if_neg h4];by_cases h5:k=5
  ·rw[if_pos h5,if_pos h5,AZ _ hne,Qs]
   have hm2:m<({ bF (aB r i (ah (aj s))) 2 r.next (.node k x a e kids) (decide ((bY G.globals x).getD 0≠(r.next:Int))) with owner:=(r.next:Int) }:RS).next:=by show m<(bF _ _ _ _ _).next;rw[zY];omega
   rw[jA G m k0 kids false 0 2 [[]] _ hm2];simp only;rw[jA G m k0 kids true 2 1 _ _ (Nat.lt_of_lt_of_le hm2 (bS G kids false 0 2 [[]] _).next)]
  rw[if_neg h5,if_neg h5];by_cases Qd:k=7\/k=8
  ·rw[if_pos Qd,if_pos Qd,I9 G _ hne]
   exact jA G m k0 kids i 0 kids.length _ _ (by rw[IP];omega)
  rw[if_neg Qd,if_neg Qd];by_cases h11:k=11
  ·rw[if_pos h11,if_pos h11,jA G m k0 kids i 0 kids.length ([]::s) _ (by show m<r.next+1;omega)]
  rw[if_neg h11,if_neg h11];by_cases h12:k=12
  ·rw[if_pos h12,if_pos h12,I9 G _ hne]
   simp only;rw[jA G m k0 kids i 0 2 s _ (by rw[IP];omega)]
  rw[if_neg h12,if_neg h12];by_cases h16:k=16
  ·rw[if_pos h16,if_pos h16,I9 G _ hne]
   simp only;have hm2:m<(aD G (aB r i (ah (aj s))) 5 r.next (.node k x a e kids) ([]::s)).1.next:=by rw[IP];omega
   rw[jA G m k0 kids i 0 2 s _ hm2];simp only;rw[jA G m k0 kids i 2 1 _ _ (Nat.lt_of_lt_of_le hm2 (bS G kids i 0 2 s _).next)]
  rw[if_neg h16,if_neg h16,Xl G s r _ hne];exact jA G m k0 kids i 0 kids.length s _ (by rw[Ex];omega)
theorem jA(G:bD)(m:Nat)(k0:Int):∀(ts:List aa) (i:Bool) (f n:Nat) (s:aT) (r:RS),m<r.next->af G i ts f n s (kT r m k0)=(kT (af G i ts f n s r).1 m k0,(af G i ts f n s r).2)
 | [],_,_,_,s,r,_=>by rw[af,af]
 | t::ts,i,f+1,n,s,r,hm=>by
  rw[af,af];exact jA G m k0 ts i f n s r hm
 | t::ts,i,0,0,s,r,_=>by rw[af,af]
 | t::ts,i,0,n+1,s,r,hm=>by
  rw[af,af,VF G m k0 t i s r hm];exact jA G m k0 ts i 0 n _ _ (Nat.lt_of_lt_of_le hm (j5 G t i s r).next)
end
end Go.Proofs.YtoepemlnlpamlaaGreat
