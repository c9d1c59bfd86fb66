/- The law NamesFreeAt holds: for every text and every number the law returns true, and its arguments read as before. No condition. Part 42: Cnt Cnt2 LawT. -/
import Derived.Test.YtoepemlnlpamlaaGreatFreeAt12
import Derived.Test.YtoepemlnlpamlaaGreatFreeAt14
import Derived.Test.YtoepemlnlpamlaaGreatFreeAt15
import Derived.Test.YtoepemlnlpamlaaGreatFreeAt21
import Derived.Test.YtoepemlnlpamlaaGreatFreeAt41
namespace Go.Proofs.YtoepemlnlpamlaaGreat
set_option maxRecDepth 100000
set_option maxHeartbeats 4000000
section
variable {s:Bytes} {l:List Tok}
theorem cnt_read {p:PS}:(readM l p).k=p.k+1:=by simp[readM]
theorem cnt_exp {p:PS} {w:Bytes}:p.k≤(expectM s l p w).k:=by
 unfold expectM;split
 ·rw[cnt_read];omega
 ·rw[repM_k];exact Nat.le_refl _
theorem cnt_acc {p:PS} {w:Bytes}:p.k≤(acceptM s l p w).k:=by
 unfold acceptM;split
 ·rw[cnt_read];omega
 ·exact Nat.le_refl _
theorem cnt_name {p:PS}:p.k≤(nameP l p).k:=by
 unfold nameP;split
 ·rw[cnt_read];omega
 ·rw[repM_k];exact Nat.le_refl _
theorem cnt_node {p:PS} {f:Nat} {k:Int} {t:Bytes} {kids:List Tree}:countM (nodeM l p f k t kids)=1+countsM kids:=rfl
theorem cnt_typ {p:PS}:p.k≤(typM s l p).2.k∧countM (typM s l p).1=1:=by
 unfold typM;split
 ·exact⟨by rw[cnt_read];omega,rfl⟩
 split
 ·simp only
  split
  ·refine⟨?_,rfl⟩
   simp only;split
   ·refine Nat.le_trans ?_ cnt_exp
    rw[cnt_read,cnt_read,cnt_read];omega
   ·refine Nat.le_trans ?_ cnt_exp
    rw[repM_k,cnt_read,cnt_read];omega
  ·exact⟨by rw[cnt_read];omega,rfl⟩
 split
 ·exact⟨by rw[cnt_read];omega,rfl⟩
 ·exact⟨by rw[repM_k];exact Nat.le_refl _,rfl⟩
theorem cnt_opt {p:PS}:p.k≤(optM s l p).2.k∧countM (optM s l p).1=1:=by
 unfold optM;split
 ·have h:=cnt_typ (s:=s) (l:=l) (p:=readM l p)
  rw[cnt_read]at h;exact⟨by omega,h.2⟩
 ·exact⟨Nat.le_refl _,rfl⟩
theorem cnt_var {p:PS}:p.k≤(varM s l p).2.k∧countM (varM s l p).1=1∧(kindM l p=0→p.k < (varM s l p).2.k):=by
 unfold varM;refine⟨cnt_name,rfl,fun h=>?_⟩;simp only;unfold nameP;rw[if_pos h,cnt_read];omega
theorem one_inv {r:Option (List Tree × PS)} {f:Tree→PS→Option (List Tree × PS)} {y:List Tree × PS} (h:one r f=some y):∃ x p,r=some ([x],p)∧f x p=some y:=by
 unfold one at h;split at h
 ·exact⟨_,_,rfl,h⟩
 ·cases h
theorem many_inv {r:Option (List Tree × PS)} {f:List Tree→PS→Option (List Tree × PS)} {y:List Tree × PS} (h:many r f=some y):∃ x p,r=some (x,p)∧f x p=some y:=by
 unfold many at h;split at h
 ·exact⟨_,_,rfl,h⟩
 ·cases h
theorem cnt_skip {first:Nat}:∀ {f:Nat} {p q:PS},skipL s l first f p=some q→p.k≤q.k∧(stopsM s l p=false→p.k=first→p.k < q.k)
 | 0,p,q,h=>by rw[skipL]at h;cases h
 | f+1,p,q,h=>by
  rw[skipL]at h;split at h
  ·split at h
   ·cases h
    rw[cnt_read];exact⟨by omega,fun _ _=>by omega⟩
   ·have:=(cnt_skip h).1
    rw[cnt_read]at this;exact⟨by omega,fun _ _=>by omega⟩
  ·rename_i hc
   cases h
   refine⟨Nat.le_refl _,fun h1 h2=>?_⟩;simp[h1,h2]at hc
theorem cnt_skipped {f:Nat} {p q:PS} {x:Tree} (h:skippedM s l f p=some (x,q)):p.k≤q.k∧countM x=1∧(stopsM s l p=false→p.k < q.k):=by
 unfold skippedM at h;split at h
 ·cases h
 ·rename_i q1 hq
  cases h
  have:=cnt_skip hq;rw[repM_k,stops_rep]at this;exact⟨this.1,rfl,fun h=>this.2 h rfl⟩
def cst:Fn→Nat
 | .exprL _ _ t=>countM t
 | .argsL kids=>countsM kids
 | .blockL kids=>countsM kids
 | .stmt=>4
 | .branch=>4
 | _=>1
theorem countsM_one (t:Tree):countsM [t] = countM t:=by simp[countsM]
theorem countsM_two (t u:Tree):countsM [t,u] = countM t+countM u:=by simp[countsM]
theorem countsM_three (t u v:Tree):countsM [t,u,v] = countM t+(countM u+countM v):=by simp[countsM]
theorem countsM_snoc (a:List Tree) (t:Tree):countsM (a ++ [t])=countsM a+countM t:=by rw[counts_append,countsM_one]
def PrgF (s:Bytes) (l:List Tok) (p q:PS) (x:List Tree):Fn→Prop
 | .stmt=>(stopsM s l p=false→p.k < q.k)∧(p.k < q.k→countsM x≤16 * (q.k - p.k))
 | .branch=>p.k < q.k∧countsM x≤16 * (q.k - p.k)
 | .place=>kindM l p=0→p.k < q.k∧countsM x+15≤16 * (q.k - p.k)
 | _=>True
def CntP (s:Bytes) (l:List Tok) (fn:Fn) (p:PS) (x:List Tree) (q:PS):Prop:=p.k≤q.k∧countsM x≤cst fn+16 * (q.k - p.k)∧PrgF s l p q x fn
theorem par_cnt:∀ (f:Nat) (fn:Fn) (p:PS) (x:List Tree) (q:PS),parM s l f fn p=some (x,q)→CntP s l fn p x q:=by
 intro f
 induction f with
 | zero=>intro fn p x q h;rw[parM]at h;cases h
 | succ f ih =>
  have E:∀ lv p x q,parM s l f (.expr lv) p=some (x,q)→p.k≤q.k∧countsM x≤1+16 * (q.k - p.k):=fun lv p x q h=>⟨(ih _ _ _ _ h).1,(ih _ _ _ _ h).2.1⟩
  have EL:∀ lv g t p x q,parM s l f (.exprL lv g t) p=some (x,q)→p.k≤q.k∧countsM x≤countM t+16 * (q.k - p.k):=fun lv g t p x q h=>⟨(ih _ _ _ _ h).1,(ih _ _ _ _ h).2.1⟩
  have O:∀ p x q,parM s l f .operand p=some (x,q)→p.k≤q.k∧countsM x≤1+16 * (q.k - p.k):=fun p x q h=>⟨(ih _ _ _ _ h).1,(ih _ _ _ _ h).2.1⟩
  have AR:∀ p x q,parM s l f .args p=some (x,q)→p.k≤q.k∧countsM x≤1+16 * (q.k - p.k):=fun p x q h=>⟨(ih _ _ _ _ h).1,(ih _ _ _ _ h).2.1⟩
  have AL:∀ kids p x q,parM s l f (.argsL kids) p=some (x,q)→p.k≤q.k∧countsM x≤countsM kids+16 * (q.k - p.k):=fun kids p x q h=>⟨(ih _ _ _ _ h).1,(ih _ _ _ _ h).2.1⟩
  have PL:∀ p x q,parM s l f .place p=some (x,q)→p.k≤q.k∧countsM x≤1+16 * (q.k - p.k)∧(kindM l p=0→p.k < q.k∧countsM x+15≤16 * (q.k - p.k)):=fun p x q h=>ih _ _ _ _ h
  have ST:∀ p x q,parM s l f .stmt p=some (x,q)→p.k≤q.k∧countsM x≤4+16 * (q.k - p.k)∧(stopsM s l p=false→p.k < q.k)∧(p.k < q.k→countsM x≤16 * (q.k - p.k)):=fun p x q h=>ih _ _ _ _ h
  have BL:∀ p x q,parM s l f .block p=some (x,q)→p.k≤q.k∧countsM x≤1+16 * (q.k - p.k):=fun p x q h=>⟨(ih _ _ _ _ h).1,(ih _ _ _ _ h).2.1⟩
  have BK:∀ kids p x q,parM s l f (.blockL kids) p=some (x,q)→p.k≤q.k∧countsM x≤countsM kids+16 * (q.k - p.k):=fun kids p x q h=>⟨(ih _ _ _ _ h).1,(ih _ _ _ _ h).2.1⟩
  have BR:∀ p x q,parM s l f .branch p=some (x,q)→p.k≤q.k∧countsM x≤4+16 * (q.k - p.k)∧p.k < q.k∧countsM x≤16 * (q.k - p.k):=fun p x q h=>ih _ _ _ _ h
  have fin:∀ {a b:List Tree × PS},some a=some b→a=b:=fun h=>by injection h
  intro fn p x q h
  cases fn with
  | expr lv =>
   rw[parM]at h;split at h
   ·split at h
    ·obtain⟨y,q1,h1,h2⟩:=one_inv h
     cases h2
     have a1:=E _ _ _ _ h1;rw[cnt_read,countsM_one]at a1;exact⟨by omega,by rw[countsM_one,cnt_node,countsM_one];show _≤1+_;omega,trivial⟩
    ·have a1:=E _ _ _ _ h
     exact⟨a1.1,a1.2,trivial⟩
   split at h
   ·split at h
    ·obtain⟨y,q1,h1,h2⟩:=one_inv h
     cases h2
     have a1:=E _ _ _ _ h1;rw[cnt_read,countsM_one]at a1;exact⟨by omega,by rw[countsM_one,cnt_node,countsM_one];show _≤1+_;omega,trivial⟩
    ·have a1:=O _ _ _ h
     exact⟨a1.1,a1.2,trivial⟩
   ·obtain⟨y,q1,h1,h2⟩:=one_inv h
    have a1:=E _ _ _ _ h1;have a2:=EL _ _ _ _ _ _ h2;rw[countsM_one]at a1;exact⟨by omega,by show _≤1+_;omega,trivial⟩
  | exprL lv first t =>
   rw[parM]at h;split at h
   ·obtain⟨y,q1,h1,h2⟩:=one_inv h
    have a1:=E _ _ _ _ h1;rw[cnt_read,countsM_one]at a1
    try simp only at h2
    split at h2
    ·cases h2
     exact⟨by omega,by rw[countsM_one,cnt_node,countsM_two];show _≤countM t+_;omega,trivial⟩
    ·have a2:=EL _ _ _ _ _ _ h2
     rw[cnt_node,countsM_two]at a2;exact⟨by omega,by show _≤countM t+_;omega,trivial⟩
   ·cases h
    exact⟨Nat.le_refl _,by rw[countsM_one];exact Nat.le_add_right _ _,trivial⟩
  | operand =>
   rw[parM]at h;split at h
   ·cases h
    exact⟨by rw[cnt_read];omega,by rw[countsM_one,cnt_node,countsM];exact Nat.le_add_right _ _,trivial⟩
   split at h
   ·cases h
    exact⟨by rw[cnt_read];omega,by rw[countsM_one,cnt_node,countsM];exact Nat.le_add_right _ _,trivial⟩
   split at h
   ·obtain⟨y,q1,h1,h2⟩:=many_inv h
    cases h2
    have a1:=AR _ _ _ h1;rw[cnt_read]at a1;exact⟨by omega,by rw[countsM_one,cnt_node];show _≤1+_;omega,trivial⟩
   split at h
   ·have a1:=PL _ _ _ h
    exact⟨a1.1,a1.2.1,trivial⟩
   split at h
   ·obtain⟨y,q1,h1,h2⟩:=one_inv h
    obtain⟨y2,q2,h3,h4⟩:=many_inv h2
    cases h4
    have a1:=E _ _ _ _ h1;have a2:=AL _ _ _ _ h3;have a3:=cnt_exp (s:=s) (l:=l) (p:=q2) (w:=[93]);rw[cnt_read,countsM_one]at a1;rw[countsM_one]at a2;exact⟨by omega,by rw[countsM_one,cnt_node];show _≤1+_;omega,trivial⟩
   split at h
   ·cases h
    have a1:=cnt_exp (s:=s) (l:=l) (p:=readM l p) (w:=[40]);have a2:=cnt_var (s:=s) (l:=l) (p:=expectM s l (readM l p) [40]);have a3:=cnt_exp (s:=s) (l:=l) (p:=(varM s l (expectM s l (readM l p) [40])).2) (w:=[41]);rw[cnt_read]at a1;exact⟨by omega,by rw[countsM_one,cnt_node,countsM_one,a2.2.1];show _≤1+_;omega,trivial⟩
   split at h
   ·obtain⟨y,q1,h1,h2⟩:=one_inv h
    cases h2
    have a1:=E _ _ _ _ h1;have a3:=cnt_exp (s:=s) (l:=l) (p:=q1) (w:=[41]);rw[cnt_read,countsM_one]at a1;exact⟨by omega,by rw[countsM_one];show _≤1+_;omega,trivial⟩
   ·cases h
    exact⟨by rw[repM_k];exact Nat.le_refl _,by rw[countsM_one,cnt_node,countsM];exact Nat.le_add_right _ _,trivial⟩
  | args =>
   rw[parM]at h
   try simp only at h
   split at h
   ·cases h
    have a3:=cnt_exp (s:=s) (l:=l) (p:=readM l p) (w:=[41]);rw[cnt_read]at a3;exact⟨by omega,by rw[countsM];exact Nat.zero_le _,trivial⟩
   ·obtain⟨y,q1,h1,h2⟩:=one_inv h
    obtain⟨y2,q2,h3,h4⟩:=many_inv h2
    cases h4
    have a1:=E _ _ _ _ h1;have a2:=AL _ _ _ _ h3;have a3:=cnt_exp (s:=s) (l:=l) (p:=q2) (w:=[41]);rw[cnt_read,countsM_one]at a1;rw[countsM_one]at a2;exact⟨by omega,by show _≤1+_;omega,trivial⟩
  | argsL kids =>
   rw[parM]at h;split at h
   ·obtain⟨y,q1,h1,h2⟩:=one_inv h
    have a1:=E _ _ _ _ h1;have a2:=AL _ _ _ _ h2;rw[cnt_read,countsM_one]at a1;rw[countsM_snoc]at a2;exact⟨by omega,by show _≤countsM kids+_;omega,trivial⟩
   ·cases h
    exact⟨Nat.le_refl _,Nat.le_add_right _ _,trivial⟩
  | place =>
   rw[parM]at h
   try simp only at h
   have a0:=cnt_var (s:=s) (l:=l) (p:=p);split at h
   ·obtain⟨y,q1,h1,h2⟩:=one_inv h
    cases h2
    have a1:=E _ _ _ _ h1;have a3:=cnt_exp (s:=s) (l:=l) (p:=q1) (w:=[93]);rw[cnt_read,countsM_one]at a1;exact⟨by omega,by rw[countsM_one,cnt_node,countsM_two,a0.2.1];show _≤1+_;omega,fun hk=>by have:=a0.2.2 hk;refine⟨by omega,?_⟩;rw[countsM_one,cnt_node,countsM_two,a0.2.1];omega⟩
   split at h
   ·cases h
    have a3:=cnt_name (l:=l) (p:=readM l (varM s l p).2);rw[cnt_read]at a3;exact⟨by omega,by rw[countsM_one,cnt_node,countsM_one,a0.2.1];show _≤1+_;omega,fun hk=>by have:=a0.2.2 hk;refine⟨by omega,?_⟩;rw[countsM_one,cnt_node,countsM_one,a0.2.1];omega⟩
   ·cases h
    exact⟨a0.1,by rw[countsM_one,a0.2.1];exact Nat.le_add_right _ _,fun hk=>by have:=a0.2.2 hk;refine⟨this,?_⟩;rw[countsM_one,a0.2.1];omega⟩
  | stmt =>
   rw[parM]at h;split at h
   ·try simp only at h
    obtain⟨y,q1,h1,h2⟩:=one_inv h
    cases h2
    have b1:=cnt_name (l:=l) (p:=readM l p);have b2:=cnt_opt (s:=s) (l:=l) (p:=nameP l (readM l p));have b3:=cnt_exp (s:=s) (l:=l) (p:=(optM s l (nameP l (readM l p))).2) (w:=[61]);have a1:=E _ _ _ _ h1;have a3:=cnt_exp (s:=s) (l:=l) (p:=q1) (w:=[59]);rw[cnt_read]at b1;rw[countsM_one]at a1;exact⟨by omega,by rw[countsM_one,cnt_node,countsM_two,b2.2];show _≤4+_;omega,fun _=>by omega,fun _=>by rw[countsM_one,cnt_node,countsM_two,b2.2];omega⟩
   split at h
   ·have a1:=BR _ _ _ h
    exact⟨a1.1,a1.2.1,fun _=>a1.2.2.1,fun _=>a1.2.2.2⟩
   split at h
   ·obtain⟨y,q1,h1,h2⟩:=one_inv h
    obtain⟨y2,q2,h3,h4⟩:=one_inv h2
    cases h4
    have a1:=E _ _ _ _ h1;have a2:=BL _ _ _ h3;rw[cnt_read,countsM_one]at a1;rw[countsM_one]at a2;exact⟨by omega,by rw[countsM_one,cnt_node,countsM_two];show _≤4+_;omega,fun _=>by omega,fun _=>by rw[countsM_one,cnt_node,countsM_two];omega⟩
   split at h
   ·try simp only at h
    obtain⟨y,q1,h1,h2⟩:=one_inv h;obtain⟨y2,q2,h3,h4⟩:=one_inv h2;obtain⟨y3,q3,h5,h6⟩:=one_inv h4
    cases h6
    have b1:=cnt_name (l:=l) (p:=readM l p);have b3:=cnt_exp (s:=s) (l:=l) (p:=nameP l (readM l p)) (w:=[61]);have b4:=cnt_exp (s:=s) (l:=l) (p:=q1) (w:=[116,111]);have a1:=E _ _ _ _ h1;have a2:=E _ _ _ _ h3;have a3:=BL _ _ _ h5;rw[cnt_read]at b1;rw[countsM_one]at a1 a2 a3;exact⟨by omega,by rw[countsM_one,cnt_node,countsM_three];show _≤4+_;omega,fun _=>by omega,fun _=>by rw[countsM_one,cnt_node,countsM_three];omega⟩
   split at h
   ·try simp only at h
    split at h
    ·obtain⟨y,q1,h1,h2⟩:=one_inv h
     cases h2
     have a1:=E _ _ _ _ h1;have a3:=cnt_exp (s:=s) (l:=l) (p:=q1) (w:=[59]);rw[cnt_read,countsM_one]at a1;exact⟨by omega,by rw[countsM_one,cnt_node,countsM_one];show _≤4+_;omega,fun _=>by omega,fun _=>by rw[countsM_one,cnt_node,countsM_one];omega⟩
    ·cases h
     have a3:=cnt_exp (s:=s) (l:=l) (p:=readM l p) (w:=[59]);rw[cnt_read]at a3;exact⟨by omega,by rw[countsM_one,cnt_node,countsM_one,cnt_node,countsM];show _≤4+_;omega,fun _=>by omega,fun _=>by rw[countsM_one,cnt_node,countsM_one,cnt_node,countsM];omega⟩
   split at h
   ·obtain⟨y,q1,h1,h2⟩:=one_inv h
    cases h2
    have a1:=E _ _ _ _ h1;have a3:=cnt_exp (s:=s) (l:=l) (p:=q1) (w:=[59]);rw[cnt_read,countsM_one]at a1;exact⟨by omega,by rw[countsM_one,cnt_node,countsM_one];show _≤4+_;omega,fun _=>by omega,fun _=>by rw[countsM_one,cnt_node,countsM_one];omega⟩
   split at h
   ·obtain⟨y,q1,h1,h2⟩:=many_inv h
    cases h2
    have a1:=AR _ _ _ h1;have a3:=cnt_exp (s:=s) (l:=l) (p:=q1) (w:=[59]);rw[cnt_read]at a1;exact⟨by omega,by rw[countsM_one,cnt_node];show _≤4+_;omega,fun _=>by omega,fun _=>by rw[countsM_one,cnt_node];omega⟩
   split at h
   ·rename_i hk0
    obtain⟨y,q1,h1,h2⟩:=one_inv h;obtain⟨y2,q2,h3,h4⟩:=one_inv h2
    cases h4
    have a1:=PL _ _ _ h1;have b1:=cnt_exp (s:=s) (l:=l) (p:=q1) (w:=[61]);have a2:=E _ _ _ _ h3;have b2:=cnt_exp (s:=s) (l:=l) (p:=q2) (w:=[59]);have b3:=a1.2.2 hk0;rw[countsM_one]at a1 a2;exact⟨by omega,by rw[countsM_one,cnt_node,countsM_two];show _≤4+_;omega,fun _=>by omega,fun _=>by rw[countsM_one,cnt_node,countsM_two];omega⟩
   ·split at h
    ·cases h
    ·rename_i hsk
     cases h
     have a1:=cnt_skipped hsk;exact⟨a1.1,by rw[countsM_one,a1.2.1];show _≤4+_;omega,a1.2.2,fun _=>by rw[countsM_one,a1.2.1];omega⟩
  | block =>
   rw[parM]at h;split at h
   ·obtain⟨y,q1,h1,h2⟩:=many_inv h
    cases h2
    have a1:=BK _ _ _ _ h1;have a3:=cnt_exp (s:=s) (l:=l) (p:=q1) (w:=[125]);rw[cnt_read,countsM]at a1;exact⟨by omega,by rw[countsM_one,cnt_node];show _≤1+_;omega,trivial⟩
   ·cases h
    exact⟨by rw[repM_k];exact Nat.le_refl _,by rw[countsM_one,cnt_node,countsM];exact Nat.le_add_right _ _,trivial⟩
  | blockL kids =>
   rw[parM]at h;split at h
   ·cases h
    exact⟨Nat.le_refl _,Nat.le_add_right _ _,trivial⟩
   ·rename_i hst
    obtain⟨y,q1,h1,h2⟩:=one_inv h;have a1:=ST _ _ _ h1;have a2:=BK _ _ _ _ h2;have a3:=a1.2.2.1 (by simpa using hst);have a4:=a1.2.2.2 a3;rw[countsM_one]at a4;rw[countsM_snoc]at a2;exact⟨by omega,by show _≤countsM kids+_;omega,trivial⟩
  | branch =>
   rw[parM]at h;obtain⟨y,q1,h1,h2⟩:=one_inv h;obtain⟨y2,q2,h3,h4⟩:=one_inv h2;have a1:=E _ _ _ _ h1;have a2:=BL _ _ _ h3;rw[cnt_read,countsM_one]at a1;rw[countsM_one]at a2
   try simp only at h4
   split at h4
   ·split at h4
    ·obtain⟨y3,q3,h5,h6⟩:=one_inv h4
     cases h6
     have a3:=BR _ _ _ h5;rw[cnt_read,countsM_one]at a3;have a4:=a3.2.2.2;exact⟨by omega,by rw[countsM_one,cnt_node,countsM_three];show _≤4+_;omega,by show p.k < _;omega,by rw[countsM_one,cnt_node,countsM_three];omega⟩
    ·obtain⟨y3,q3,h5,h6⟩:=one_inv h4
     cases h6
     have a3:=BL _ _ _ h5;rw[cnt_read,countsM_one]at a3;exact⟨by omega,by rw[countsM_one,cnt_node,countsM_three];show _≤4+_;omega,by show p.k < _;omega,by rw[countsM_one,cnt_node,countsM_three];omega⟩
   ·cases h4
    exact⟨by omega,by rw[countsM_one,cnt_node,countsM_three,cnt_node,countsM];show _≤4+_;omega,by show p.k < _;omega,by rw[countsM_one,cnt_node,countsM_three,cnt_node,countsM];omega⟩
end
end Go.Proofs.YtoepemlnlpamlaaGreat
namespace Go.Proofs.YtoepemlnlpamlaaGreat
set_option maxRecDepth 100000
set_option maxHeartbeats 4000000
section
variable {s:Bytes} {l:List Tok}
theorem cnt_field {p:PS}:p.k≤(fieldM s l p).2.k∧countM (fieldM s l p).1=2:=by
 unfold fieldM;have h1:=cnt_exp (s:=s) (l:=l) (p:=nameP l p) (w:=[58]);have h2:=cnt_name (l:=l) (p:=p);simp only;split
 ·exact⟨by rw[cnt_read];omega,rfl⟩
 ·exact⟨by rw[repM_k];omega,rfl⟩
theorem cnt_fields:∀ (f:Nat) (p:PS) (kids y:List Tree) (q:PS),fieldsM s l f p kids=some (y,q)→p.k≤q.k∧countsM y≤countsM kids+16 * (q.k - p.k)
 | 0,p,kids,y,q,h=>by rw[fieldsM]at h;cases h
 | f+1,p,kids,y,q,h=>by
  rw[fieldsM]at h;split at h
  ·have a1:=cnt_fields f _ _ _ _ h
   have a2:=cnt_field (s:=s) (l:=l) (p:=readM l p);rw[cnt_read]at a2;rw[countsM_snoc,a2.2]at a1;exact⟨by omega,by omega⟩
  ·cases h
   exact⟨Nat.le_refl _,Nat.le_add_right _ _⟩
theorem cnt_record {f:Nat} {p:PS} {x:Tree} {q:PS} (h:recordM s l f p=some (x,q)):p.k≤q.k∧countM x≤16 * (q.k - p.k):=by
 unfold recordM at h
 try simp only at h
 split at h
 ·cases h
 ·rename_i kids p3 hf
  cases h
  have a1:=cnt_fields _ _ _ _ _ hf;have a2:=cnt_field (s:=s) (l:=l) (p:=expectM s l (nameP l (readM l p)) [123]);have a3:=cnt_exp (s:=s) (l:=l) (p:=nameP l (readM l p)) (w:=[123]);have a4:=cnt_name (l:=l) (p:=readM l p);have a5:=cnt_exp (s:=s) (l:=l) (p:=p3) (w:=[125]);rw[cnt_read]at a4;rw[countsM_one,a2.2]at a1;exact⟨by omega,by rw[cnt_node];omega⟩
theorem cnt_param {p:PS}:p.k≤(paramM s l p).2.k∧countM (paramM s l p).1=2:=by
 unfold paramM;have h1:=cnt_acc (s:=s) (l:=l) (p:=p) (w:=[118,97,114]);have h2:=cnt_name (l:=l) (p:=acceptM s l p [118,97,114]);have h3:=cnt_opt (s:=s) (l:=l) (p:=nameP l (acceptM s l p [118,97,114]));simp only;exact⟨by omega,by rw[cnt_node,countsM_one,h3.2]⟩
theorem cnt_params:∀ (f:Nat) (p:PS) (kids y:List Tree) (q:PS),paramsL s l f p kids=some (y,q)→p.k≤q.k∧countsM y≤countsM kids+16 * (q.k - p.k)
 | 0,p,kids,y,q,h=>by rw[paramsL]at h;cases h
 | f+1,p,kids,y,q,h=>by
  rw[paramsL]at h;split at h
  ·have a1:=cnt_params f _ _ _ _ h
   have a2:=cnt_param (s:=s) (l:=l) (p:=readM l p);rw[cnt_read]at a2;rw[countsM_snoc,a2.2]at a1;exact⟨by omega,by omega⟩
  ·cases h
   exact⟨Nat.le_refl _,Nat.le_add_right _ _⟩
theorem cnt_paramsM {f:Nat} {p:PS} {x:Tree} {q:PS} (h:paramsM s l f p=some (x,q)):p.k≤q.k∧countM x≤3+16 * (q.k - p.k):=by
 unfold paramsM at h
 try simp only at h
 have a1:=cnt_exp (s:=s) (l:=l) (p:=p) (w:=[40]);split at h
 ·cases h
 ·rename_i kids p2 hf
  cases h
  have a5:=cnt_exp (s:=s) (l:=l) (p:=p2) (w:=[41]);split at hf
  ·cases hf
   exact⟨by omega,by rw[cnt_node,countsM];omega⟩
  ·have a2:=cnt_params _ _ _ _ _ hf
   have a3:=cnt_param (s:=s) (l:=l) (p:=expectM s l p [40]);rw[countsM_one,a3.2]at a2;exact⟨by omega,by rw[cnt_node];omega⟩
theorem cnt_proc {f:Nat} {p:PS} {x:Tree} {q:PS} (h:procM s l f p=some (x,q)):p.k≤q.k∧countM x≤16 * (q.k - p.k):=by
 unfold procM at h
 try simp only at h
 split at h
 ·cases h
 ·rename_i y p2 hp
  split at h
  ·rename_i b p3 hb
   cases h
   have a1:=cnt_paramsM hp;have a2:=cnt_name (l:=l) (p:=readM l p);have a3:=cnt_opt (s:=s) (l:=l) (p:=p2);have a4:=par_cnt _ _ _ _ _ hb;have a5:=a4.1;have a6:countsM [b]≤1+16 * (q.k - (optM s l p2).2.k):=a4.2.1;rw[cnt_read]at a2;rw[countsM_one]at a6;exact⟨by omega,by rw[cnt_node,countsM_three,a3.2];omega⟩
  ·cases h
theorem cnt_prog (he:Ends l) (hend:EndsEmpty s l):∀ (f:Nat) (p:PS) (kids y:List Tree) (q:PS),p.k < l.length→progL s l f p kids=some (y,q)→q.k < l.length∧countsM y+16 * p.k≤countsM kids+16 * q.k
 | 0,p,kids,y,q,_,h=>by rw[progL]at h;cases h
 | f+1,p,kids,y,q,hp,h=>by
  rw[progL]at h;split at h
  ·cases h
   exact⟨hp,Nat.le_refl _⟩
  rename_i h5
  split at h
  ·split at h
   ·cases h
   ·rename_i x q1 hr
    have hle:=record_props he hr hp h5;have a1:=cnt_record hr;have a2:=cnt_prog he hend f _ _ _ _ hle.1.2 h;rw[countsM_snoc]at a2;exact⟨a2.1,by omega⟩
  rename_i hrec
  split at h
  ·split at h
   ·cases h
   ·rename_i x q1 hr
    have hle:=proc_props he hend hr hp h5;have a1:=cnt_proc hr;have a2:=cnt_prog he hend f _ _ _ _ hle.1.2 h;rw[countsM_snoc]at a2;exact⟨a2.1,by omega⟩
  rename_i hproc
  split at h
  ·cases h
  ·rename_i q1 hn
   have hle:=noDecl_props he hn (by rw[repM_k];exact hp);rw[kindM_rep,isM_rep,isM_rep,repM_k]at hle;have hlt:=hle.2 (by simp[h5,hrec,hproc]);have a2:=cnt_prog he hend f _ _ _ _ hle.1.2 h;rw[countsM_snoc,cnt_node,countsM]at a2;exact⟨a2.1,by omega⟩
end
theorem parse_cnt {f:Nat} {s:Bytes} {t:Tree} {ds:List Dg} (h:parseM f s=some (t,ds)) (hs:s.length≤4096):countM t≤1000000:=by
 unfold parseM at h;split at h
 ·cases h
 ·rename_i kids p hp
  cases h
  have hl:(startL s).length≤s.length+1:=Nat.le_trans (List.length_filter_le _ _) (scanAll_len s);rw[countM]
  by_cases h0:(startL s).length=0
  ·cases f with
   | zero=>rw[progL]at hp;cases hp
   | succ f =>
    rw[progL,if_pos (by have:startL s = []:=List.length_eq_zero_iff.1 h0;rw[this];rfl)]at hp
    cases hp
    rw[countsM];omega
  ·have:=cnt_prog (chain_ends (start_chain s)) (chain_empty s (start_chain s)) f ⟨0,0,[]⟩ [] kids p (show 0 < (startL s).length by omega) hp
   rw[countsM]at this;omega
end Go.Proofs.YtoepemlnlpamlaaGreat
namespace Go.Proofs.YtoepemlnlpamlaaGreat
set_option maxRecDepth 100000
set_option maxHeartbeats 4000000
open Go.RowKit
def ParseL (w:World) (e:Ending) (w':World):Prop :=
 ∃ t A c DA dn dc eno,e = .returned (.tuple #[nodeV t A c,.slice DA (dn:Nat) dc,.int .i64 eno])∧countM t≤1000000∧TreeOwn w' (fun g=>w.heap.size≤g) t [.int .i64 t.kind,.string t.text,.int .i64 t.at_,.int .i64 t.end_,.slice A t.kids.length c]∧Below w.heap.size w w'
theorem parse_long (s:ByteArray) (w:World) (hs:4096 < s.size):Calls Tryz.prog 37 #[.string s] w (ParseL w):=by
 have hgt:(4096:Int) < s.size:=by omega
 have HE:Hid (∀ w',Below w.heap.size w w'→ParseL w (.returned (.tuple #[.agg #[.int .i64 0,.string ⟨#[]⟩,.int .i64 0,.int .i64 0,.slice none 0 0],.slice none 0 0,.int .i64 8])) w'):=kH (fun w' hb=>⟨.node 0 ⟨#[]⟩ 0 0 [],none,0,none,0,0,8,rfl,by decide,⟨none,0,[],rfl,OwnS.nil _ _ _ _,fun g hg=>by (cases hg),rfl⟩,hb⟩)
 go_enter Tryz.func37,Tryz.ntmps37
 go_wp2_with fail
 try simp only[Exit.inBlock,Exit.then]
 refine bodyPost_ret (v:=.tuple #[.agg #[.int .i64 0,.string ⟨#[]⟩,.int .i64 0,.int .i64 0,.slice none 0 0],.slice none 0 0,.int .i64 8]) (by simp[results,Tryz.results37,go_sem]) rfl ?_;exact HE.out _ (by (repeat (first | exact Below.refl _ _ | assumption | refine Below.trans ?_ (Below.mono (by assumption) (by first | omega | (simp;done) | (simp;omega))) | refine Below.alloc ?_ (by first | omega | (simp;done) | (simp;omega)) _ | refine Below.setCell ?_ (by first | omega | (simp;done) | (simp;omega)) _ | refine Below.drew ?_ | refine below_drewN ?_ _)))
theorem parseL_any (s:ByteArray) (w:World):Calls Tryz.prog 37 #[.string s] w (ParseL w):=by
 by_cases hs:s.size≤4096
 ·refine(parse_any s w hs).mono ?_
  rintro e w' ⟨f,t,ds,hp,ht⟩;obtain⟨k,x,a,z,A,n,c,DA,dn,dc,rfl,hT,-,-,hb⟩:=ht;obtain⟨A',c',h1,-⟩:=(TreeOwn.at_ t _ hT).five;have h2:=h1;simp only[List.cons.injEq,Value.int.injEq,Value.string.injEq,Value.slice.injEq,true_and,and_true]at h2;obtain⟨rfl,rfl,rfl,rfl,rfl,rfl,rfl⟩:=h2;exact⟨t,A,c,DA,dn,dc,0,rfl,parse_cnt hp (by rw[len_size];exact hs),hT,hb⟩
 ·exact parse_long s w (by omega)
def TreeL (w:World) (e:Ending) (w':World):Prop :=
 ∃ t A c b,e = .returned (.tuple #[nodeV t A c,.bool b])∧countM t≤1000000∧t.kids.length≤c∧KidsAt w' w'.heap.size A 0 t.kids∧Below w.heap.size w w'
theorem tree_any (s:ByteArray) (w:World):Calls Tryz.prog 22 #[.string s] w (TreeL w):=by
 obtain⟨W0,hW0⟩:∃ W0,w.alloc (.cells #[.int .i64 0,.string ⟨#[]⟩,.int .i64 0,.int .i64 0,.slice none 0 0] 24)=W0:=⟨_,rfl⟩
 have hb0:Below w.heap.size w W0:=by rw[← hW0];exact below_alloc _ _
 have hR0:Blk W0 w.heap.size 24 #[.int .i64 0,.string ⟨#[]⟩,.int .i64 0,.int .i64 0,.slice none 0 0]:=by rw[← hW0];exact Blk.new _ _ _
 have HP:=kH (parseL_any s W0);have HB0:=kH hb0;have HR0:=kH hR0;clear hb0 hR0
 go_enter Tryz.func22,Tryz.ntmps22
 go_wp2_with (rw[hW0])
 clear hW0;refine HP.out.mono ?_;rintro e1 w1 ⟨t,A,c,DA,dn,dc,eno,rfl,hcn,hT,hb1⟩;obtain⟨k0,x0,a0,z0,n0,-,-,-,-,-,hnv⟩:=node_named t A c;rw[hnv]
 obtain⟨W1,hW1⟩:∃ W1,w1.alloc (.cells #[.int .i64 k0,.string x0,.int .i64 a0,.int .i64 z0,.slice A n0 c] 24)=W1:=⟨_,rfl⟩
 have hbW:Below w1.heap.size w1 W1:=by rw[← hW1];exact below_alloc _ _
 have hNW:Blk W1 w1.heap.size 24 #[.int .i64 k0,.string x0,.int .i64 a0,.int .i64 z0,.slice A n0 c]:=by rw[← hW1];exact Blk.new _ _ _
 have hR1:=(HR0.out.below hb1 HR0.out.lt).below hbW (HR0.out.below hb1 HR0.out.lt).lt;have hBW:Below w.heap.size w W1:=HB0.out.trans ((hb1.trans (hbW.mono hb1.size)).mono HB0.out.size);have n0':=hNW.cell 0;have n1:=hNW.cell 1;have n2:=hNW.cell 2;have n3:=hNW.cell 3;have n4:=hNW.cell 4;have ln:=hNW.lt;have r0:=hR1.cell 0;have r1:=hR1.cell 1;have r2:=hR1.cell 2;have r3:=hR1.cell 3;have r4:=hR1.cell 4;have g0:=hR1.frozen 0;have g1:=hR1.frozen 1;have g2:=hR1.frozen 2;have g3:=hR1.frozen 3;have g4:=hR1.frozen 4;have lr:=hR1.lt
 have hZ:Blk (set5 W1 w.heap.size (.int .i64 k0) (.string x0) (.int .i64 a0) (.int .i64 z0) (.slice A n0 c)) w.heap.size 24 #[.int .i64 k0,.string x0,.int .i64 a0,.int .i64 z0,.slice A n0 c]:=by
  have:=((((hR1.set_ 0 (.int .i64 k0)).set_ 1 (.string x0)).set_ 2 (.int .i64 a0)).set_ 3 (.int .i64 z0)).set_ 4 (.slice A n0 c);unfold set5
  simpa using this
 have hsZ:Since (fun g=>g=w.heap.size) W1 (set5 W1 w.heap.size (.int .i64 k0) (.string x0) (.int .i64 a0) (.int .i64 z0) (.slice A n0 c)):=by
  unfold set5;exact((((Since.setCell (S:=fun g=>g=w.heap.size) (Since.refl _ W1) (p:=⟨w.heap.size,0,none⟩) (.inl rfl) _).setCell (p:=⟨w.heap.size,1,none⟩) (.inl rfl) _).setCell (p:=⟨w.heap.size,2,none⟩) (.inl rfl) _).setCell (p:=⟨w.heap.size,3,none⟩) (.inl rfl) _).setCell (p:=⟨w.heap.size,4,none⟩) (.inl rfl) _
 have hTZ:TreeOwn (set5 W1 w.heap.size (.int .i64 k0) (.string x0) (.int .i64 a0) (.int .i64 z0) (.slice A n0 c)) (fun g=>W0.heap.size≤g) t [.int .i64 t.kind,.string t.text,.int .i64 t.at_,.int .i64 t.end_,.slice A t.kids.length c]:=by
  refine TreeOwn.keeps ?_ t _ (TreeOwn.keeps (KeepsN.of_below hbW) t _ hT);intro g cs hP hg;have hlt:=(Array.getElem?_eq_some_iff.1 hg).1;refine hsZ.block g hlt (fun e=>?_);have h1:W0.heap.size≤g:=hP;have h2:=HR0.out.lt;omega
 have hat:=TreeOwn.at_ t _ hTZ;have hcap:=hat.cap;obtain⟨A',c',h1,hkZ⟩:=hat.five;simp only[List.cons.injEq,Value.slice.injEq,true_and,and_true]at h1;obtain⟨rfl,rfl⟩:=h1;have HE:Hid (∀ b,TreeL w (.returned (.tuple #[.agg #[.int .i64 k0,.string x0,.int .i64 a0,.int .i64 z0,.slice A n0 c],.bool b])) (set5 W1 w.heap.size (.int .i64 k0) (.string x0) (.int .i64 a0) (.int .i64 z0) (.slice A n0 c))):=kH (fun b=>⟨t,A,c,b,by rw[hnv],hcn,hcap,hkZ,hBW.trans (hsZ.toBelow hBW.size (fun g hg=>by rw[hg];exact Nat.le_refl _))⟩);have HZ:=kH hZ;clear hTZ hat hcap hkZ hsZ hZ hBW hR1 hNW hbW hT hcn hnv hb1 HP
 by_cases c1:s.size≤500
 ·have c1':(s.size:Int)≤500:=by omega
  by_cases c2:eno=0
  ·subst c2
   by_cases c3:dn=0
   ·subst c3
    go_wp2_with (rw[hW1])
    have hz:=HZ.out;have he:=HE.out true;unfold set5 at hz he;clear r0 r1 r2 r3 r4
    generalize ((((W1.setCell ⟨w.heap.size,0,none⟩ (.int .i64 k0)).setCell ⟨w.heap.size,1,none⟩ (.string x0)).setCell ⟨w.heap.size,2,none⟩ (.int .i64 a0)).setCell ⟨w.heap.size,3,none⟩ (.int .i64 z0)).setCell ⟨w.heap.size,4,none⟩ (.slice A n0 c)=WZ at hz he ⊢
    have r0:=hz.cell 0;have r1:=hz.cell 1;have r2:=hz.cell 2;have r3:=hz.cell 3;have r4:=hz.cell 4;refine bodyPost_ret (v:=.tuple #[.agg #[.int .i64 k0,.string x0,.int .i64 a0,.int .i64 z0,.slice A n0 c],.bool true]) (by simp[results,Tryz.results22,go_sem,r0,r1,r2,r3,r4]) rfl ?_;exact he
   ·have c3':((dn:Int) == 0)=false:=by simp;omega
    go_wp2_with (rw[hW1])
    have hz:=HZ.out;have he:=HE.out false;unfold set5 at hz he;clear r0 r1 r2 r3 r4
    generalize ((((W1.setCell ⟨w.heap.size,0,none⟩ (.int .i64 k0)).setCell ⟨w.heap.size,1,none⟩ (.string x0)).setCell ⟨w.heap.size,2,none⟩ (.int .i64 a0)).setCell ⟨w.heap.size,3,none⟩ (.int .i64 z0)).setCell ⟨w.heap.size,4,none⟩ (.slice A n0 c)=WZ at hz he ⊢
    have r0:=hz.cell 0;have r1:=hz.cell 1;have r2:=hz.cell 2;have r3:=hz.cell 3;have r4:=hz.cell 4;refine bodyPost_ret (v:=.tuple #[.agg #[.int .i64 k0,.string x0,.int .i64 a0,.int .i64 z0,.slice A n0 c],.bool false]) (by simp[results,Tryz.results22,go_sem,r0,r1,r2,r3,r4]) rfl ?_;exact he
  ·have c2':(eno == 0)=false:=by simp[c2]
   go_wp2_with (rw[hW1])
   have hz:=HZ.out;have he:=HE.out false;unfold set5 at hz he;clear r0 r1 r2 r3 r4
   generalize ((((W1.setCell ⟨w.heap.size,0,none⟩ (.int .i64 k0)).setCell ⟨w.heap.size,1,none⟩ (.string x0)).setCell ⟨w.heap.size,2,none⟩ (.int .i64 a0)).setCell ⟨w.heap.size,3,none⟩ (.int .i64 z0)).setCell ⟨w.heap.size,4,none⟩ (.slice A n0 c)=WZ at hz he ⊢
   have r0:=hz.cell 0;have r1:=hz.cell 1;have r2:=hz.cell 2;have r3:=hz.cell 3;have r4:=hz.cell 4;refine bodyPost_ret (v:=.tuple #[.agg #[.int .i64 k0,.string x0,.int .i64 a0,.int .i64 z0,.slice A n0 c],.bool false]) (by simp[results,Tryz.results22,go_sem,r0,r1,r2,r3,r4]) rfl ?_;exact he
 ·have c1':¬ ((s.size:Int)≤500):=by omega
  go_wp2_with (rw[hW1])
  have hz:=HZ.out;have he:=HE.out false;unfold set5 at hz he;clear r0 r1 r2 r3 r4
  generalize ((((W1.setCell ⟨w.heap.size,0,none⟩ (.int .i64 k0)).setCell ⟨w.heap.size,1,none⟩ (.string x0)).setCell ⟨w.heap.size,2,none⟩ (.int .i64 a0)).setCell ⟨w.heap.size,3,none⟩ (.int .i64 z0)).setCell ⟨w.heap.size,4,none⟩ (.slice A n0 c)=WZ at hz he ⊢
  have r0:=hz.cell 0;have r1:=hz.cell 1;have r2:=hz.cell 2;have r3:=hz.cell 3;have r4:=hz.cell 4;refine bodyPost_ret (v:=.tuple #[.agg #[.int .i64 k0,.string x0,.int .i64 a0,.int .i64 z0,.slice A n0 c],.bool false]) (by simp[results,Tryz.results22,go_sem,r0,r1,r2,r3,r4]) rfl ?_;exact he
end Go.Proofs.YtoepemlnlpamlaaGreat
