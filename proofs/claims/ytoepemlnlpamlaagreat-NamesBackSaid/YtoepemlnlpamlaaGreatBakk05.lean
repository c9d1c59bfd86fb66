/- The law NamesBack holds for every text and every number: it returns true, and its arguments read as before. No condition. Part 5: ParE ParW Scan. -/
import Derived.Test.YtoepemlnlpamlaaGreatBakk04
set_option maxRecDepth 100000
set_option maxHeartbeats 4000000
namespace Go.Proofs.YtoepemlnlpamlaaGreat
section
variable {s:aP}{l:List jl}
def mX(l:List jl):Prop:=∀k,k<l.length->(gq l k).kind≠5->k+1<l.length
def Le(l:List jl)(p q:PS):Prop:=p.k<=q.k/\q.k<l.length
theorem Le.trans{p q r:PS}(h:Le l p q)(h2:Le l q r):Le l p r:=⟨aaE h.1 h2.1,h2.2⟩
theorem eO{p:PS}{w:aP}(h:bB s l p w=true):bG l p≠5:=by
 unfold bB at h;simp at h;exact h.1
theorem le_refl{p:PS}(hp:p.k<l.length):Le l p p:=⟨aaD _,hp⟩
theorem dB(he:mX l){p:PS}(hp:p.k<l.length)(h:bG l p≠5):Le l p (ay l p)/\p.k<(ay l p).k:=by
 have:=he p.k hp h;exact⟨⟨by simp[ay],this⟩,by simp[ay]⟩
theorem lZ{p:PS}{c:Int}{t:aP}:(gZ l p c t).k=p.k:=by
 unfold gZ;split
 ·split<;>rfl
 ·rfl
theorem wh{p:PS}{c:Int}{t:aP}(hp:p.k<l.length):Le l p (gZ l p c t):=by
 unfold Le;rw[lZ];exact⟨aaD _,hp⟩
theorem dY(he:mX l){p:PS}{w:aP}(hp:p.k<l.length):Le l p (aG s l p w):=by
 unfold aG;split
 ·rename_i h;exact(dB he hp (eO h)).1
 ·exact wh hp
theorem Xe(he:mX l){p:PS}{w:aP}(hp:p.k<l.length):Le l p (bC s l p w):=by
 unfold bC;split
 ·rename_i h;exact(dB he hp (eO h)).1
 ·exact le_refl hp
theorem um(he:mX l){p:PS}(hp:p.k<l.length):Le l p (cK l p):=by
 unfold cK;split
 ·rename_i h;exact(dB he hp (by rw[h];decide)).1
 ·exact wh hp
theorem le_typ(he:mX l){p:PS}(hp:p.k<l.length):Le l p (qa s l p).2:=by
 unfold qa;split
 ·rename_i h;exact(dB he hp (eO h)).1
 split
 ·rename_i h
  have h1:=(dB he hp (eO h)).1;try simp only
  split
  ·rename_i h2
   have h3:=h1.trans (dB he h1.2 (eO h2)).1;try simp only
   split
   ·rename_i h4
    have h5:=h3.trans (dB he h3.2 (by rw[h4];decide)).1;exact h5.trans (dY he h5.2)
   ·have h5:=h3.trans (wh (c:=4) (t:=[110,117,109,98,101,114]) h3.2)
    exact h5.trans (dY he h5.2)
  ·exact h1
 split
 ·rename_i h;exact(dB he hp (by rw[h];decide)).1
 ·exact wh hp
theorem Po(he:mX l){p:PS}(hp:p.k<l.length):Le l p (ib s l p).2:=by
 unfold ib;split
 ·rename_i h
  have h1:=(dB he hp (eO h)).1;exact h1.trans (le_typ he h1.2)
 ·exact le_refl hp
theorem Xd(he:mX l){p:PS}(hp:p.k<l.length):Le l p (jL s l p).2:=um he hp
theorem lt_var(he:mX l){p:PS}(hp:p.k<l.length)(h:bG l p=0):p.k<(jL s l p).2.k:=by
 unfold jL cK;simp only;rw[if_pos h];exact(dB he hp (by rw[h];decide)).2
theorem Mx{p:PS}{c:Int}{t:aP}:jN s l (gZ l p c t)=jN s l p:=by
 unfold jN bB bG;rw[lZ]
theorem YS(he:mX l)(first:Nat):∀(n:Nat) (p:PS),p.k<l.length->l.length - p.k<=n->∃f q,pU s l first f p=some q/\Le l p q/\(jN s l p=false->p.k=first->p.k<q.k):=by
 intro n
 induction n with
 | zero=>intro p h1 h2;omega
 | succ n ih=>
  intro p h1 h2;by_cases hc:(!jN s l p&&(decide (p.k=first) || !zq s l p))=true
  ·have hst:jN s l p=false:=by simp at hc;exact hc.1
   have hk:bG l p≠5:=by
    intro h5;unfold jN at hst;simp[h5]at hst
   have hr:=dB he h1 hk;by_cases hw:bE s l p.k=[59]
   ·refine⟨1,ay l p,?_,hr.1,fun _ _=>hr.2⟩
    rw[pU,if_pos hc,if_pos hw]
   ·obtain⟨f,q,h3,h4,_⟩:=ih (ay l p) hr.1.2 (by have:=hr.2;omega)
    refine⟨f+1,q,?_,hr.1.trans h4,fun _ _=>by have:=h4.1;have:=hr.2;omega⟩;rw[pU,if_pos hc,if_neg hw];exact h3
  ·refine⟨1,p,?_,le_refl h1,fun hs hf=>?_⟩
   ·rw[pU,if_neg hc]
   ·simp[hs,hf]at hc
theorem Uc(he:mX l){p:PS}(hp:p.k<l.length):∃f x q,mR s l f p=some (x,q)/\Le l p q/\(jN s l p=false->p.k<q.k):=by
 obtain⟨f,q,h1,h2,h3⟩:=YS (s:=s) he p.k l.length (gZ l p 6 []) (wh hp).2 (by omega);rw[Mx,lZ]at h3;refine⟨f,aH l q p.k 1 [] [],q,?_,(wh hp).trans h2,fun h=>h3 h rfl⟩;unfold mR;rw[h1]
def oQ(s:aP)(l:List jl):Prop:=∀k,(gq l k).kind=5->bE s l k=[]
theorem G5(he:oQ s l){p:PS}(h:nR s l p=[40]):bG l (ay l p)≠5:=by
 intro h5;have:=he (p.k+1) h5;unfold nR at h;split at h
 ·rw[this]at h;cases h
 ·cases h
def nC:Fn->Nat
 | .expr lv=>40 - 2*lv
 | .qL _ _ _=>0
 | .operand=>20
 | .args=>5
 | .mM _=>0
 | .place=>10
 | .stmt=>60
 | .block=>45
 | .nJ _=>70
 | .branch=>50
def Ye(l:List jl)(p:PS):Fn->Prop
 | .expr lv=>1<=lv/\lv<=7
 | .qL lv _ _=>lv<=6
 | .args=>bG l p≠5
 | .branch=>bG l p≠5
 | _=>True
def Oy:Fn->Bool
 | .args=>false
 | .mM _=>false
 | .nJ _=>false
 | _=>true
def Yc(x:List aa)(fn:Fn):Prop:=Oy fn=true->∃t,x=[t]
def K3(s:aP)(l:List jl)(p q:PS):Fn->Prop
 | .stmt=>jN s l p=false->p.k<q.k
 | .branch=>p.k<q.k
 | .place=>bG l p=0->p.k<q.k
 | _=>True
def Rp(s:aP)(l:List jl)(fn:Fn)(p:PS):Prop:=∃f x q,aJ s l f fn p=some (x,q)/\Le l p q/\Yc x fn/\K3 s l p q fn
theorem dX{fn:Fn}{p:PS}{f:Nat}{x:aa}{q:PS}(hl:Le l p q)(h:aJ s l f fn p=some ([x],q))(hp:K3 s l p q fn):Rp s l fn p:=⟨f,[x],q,h,hl,fun _=>⟨x,rfl⟩,hp⟩
theorem zt{fn:Fn}{p:PS}{f:Nat}{x:List aa}{q:PS}(hl:Le l p q)(h:aJ s l f fn p=some (x,q))(hs:Oy fn=false)(hp:K3 s l p q fn):Rp s l fn p:=⟨f,x,q,h,hl,fun h1=>(by rw[hs]at h1;cases h1),hp⟩
theorem qX{fn:Fn}{p:PS}(h:Rp s l fn p)(hs:Oy fn=true):∃f t q,(∀f',f<=f'->aJ s l f' fn p=some ([t],q))/\Le l p q/\K3 s l p q fn:=by
 obtain⟨f,x,q,h1,h2,h3,h4⟩:=h;obtain⟨t,rfl⟩:=h3 hs;exact⟨f,t,q,fun f' hf=>FW hf h1,h2,h4⟩
theorem vC{fn:Fn}{p:PS}(h:Rp s l fn p):∃f x q,(∀f',f<=f'->aJ s l f' fn p=some (x,q))/\Le l p q:=by
 obtain⟨f,x,q,h1,h2,_,_⟩:=h;exact⟨f,x,q,fun f' hf=>FW hf h1,h2⟩
theorem WS(he:mX l)(hend:oQ s l):∀(n:Nat) (fn:Fn) (p:PS),p.k<l.length->Ye l p fn->(l.length - p.k)*100+nC fn<n->Rp s l fn p:=by
 intro n
 induction n with
 | zero=>intro fn p _ _ h;omega
 | succ n ih=>
  intro fn p hp hr hn
  have E:∀(lv:Nat) (q:PS),q.k<l.length->1<=lv->lv<=7->(l.length - q.k)*100+(40 - 2*lv)<n->∃f t q',(∀f',f<=f'->aJ s l f' (.expr lv) q=some ([t],q'))/\Le l q q':=fun lv q hq h1 h7 h=>by
   obtain⟨f,t,q',h2,h3,_⟩:=qX (ih (.expr lv) q hq ⟨h1,h7⟩ h) rfl;exact⟨f,t,q',h2,h3⟩
  have B:∀(q:PS),q.k<l.length->(l.length - q.k)*100+45<n->∃f t q',(∀f',f<=f'->aJ s l f' .block q=some ([t],q'))/\Le l q q':=fun q hq h=>by
   obtain⟨f,t,q',h2,h3,_⟩:=qX (ih .block q hq trivial h) rfl;exact⟨f,t,q',h2,h3⟩
  cases fn with
  | expr lv=>
   obtain⟨h1,h7⟩:=hr;simp only[nC]at hn;by_cases h3:lv=3
   ·subst h3
    by_cases hw:bB s l p [110,111,116]=true
    ·have hrd:=dB he hp (eO hw)
     obtain⟨f,t,q,h4,h5⟩:=E 3 (ay l p) hrd.1.2 (by omega) (by omega) (by have:=hrd.2;omega);refine dX (x:=aH l q p.k 28 [110,111,116] [t]) (f:=f+1) (hrd.1.trans h5) ?_ (by trivial);rw[aJ,if_pos rfl,if_pos hw,gz (h4 f (aaD _))]
    ·obtain⟨f,t,q,h4,h5⟩:=E 4 p hp (by omega) (by omega) (by omega)
     refine dX (x:=t) (f:=f+1) (h5) ?_ (by trivial);rw[aJ,if_pos rfl,if_neg hw];exact h4 f (aaD _)
   ·by_cases h77:lv=7
    ·subst h77
     by_cases hw:bB s l p [45]=true
     ·have hrd:=dB he hp (eO hw)
      obtain⟨f,t,q,h4,h5⟩:=E 7 (ay l p) hrd.1.2 (by omega) (by omega) (by have:=hrd.2;omega);refine dX (x:=aH l q p.k 28 [45] [t]) (f:=f+1) (hrd.1.trans h5) ?_ (by trivial);rw[aJ,if_neg h3,if_pos rfl,if_pos hw,gz (h4 f (aaD _))]
     ·obtain⟨f,t,q,h4,h5,_⟩:=qX (ih .operand p hp trivial (by simp only[nC];omega)) rfl
      refine dX (x:=t) (f:=f+1) (h5) ?_ (by trivial);rw[aJ,if_neg h3,if_pos rfl,if_neg hw];exact h4 f (aaD _)
    ·obtain⟨f,t,q,h4,h5⟩:=E (lv+1) p hp (by omega) (by omega) (by omega)
     obtain⟨f2,t2,q2,h6,QH,_⟩:=qX (ih (.qL lv p.k t) q h5.2 (show lv<=6 by omega) (by simp only[nC];have:=h5.1;omega)) rfl;refine dX (x:=t2) (f:=max f f2+1) (h5.trans QH) ?_ (by trivial);rw[aJ,if_neg h3,if_neg h77,gz (h4 _ (Nat.le_max_left _ _))];exact h6 _ (Nat.le_max_right _ _)
  | qL lv first x=>
   have hr':lv<=6:=hr;simp only[nC]at hn;by_cases ho:xR s l p lv=true
   ·have hk:bG l p≠5:=by unfold xR at ho;simp at ho;exact ho.1
    have hrd:=dB he hp hk;obtain⟨f,t,q,h4,h5⟩:=E (lv+1) (ay l p) hrd.1.2 (by omega) (by omega) (by have:=hrd.2;omega);by_cases h44:lv=4
    ·refine dX (x:=aH l q first 29 (bE s l p.k) [x,t]) (f:=f+1) (hrd.1.trans h5) ?_ (by trivial)
     rw[aJ,if_pos ho,gz (h4 f (aaD _))];try simp only
     rw[if_pos h44]
    ·obtain⟨f2,t2,q2,h6,QH,_⟩:=qX (ih (.qL lv first (aH l q first 29 (bE s l p.k) [x,t])) q h5.2 hr' (by simp only[nC];have:=h5.1;have:=hrd.2;omega)) rfl
     refine dX (x:=t2) (f:=max f f2+1) ((hrd.1.trans h5).trans QH) ?_ (by trivial);rw[aJ,if_pos ho,gz (h4 _ (Nat.le_max_left _ _))];try simp only
     rw[if_neg h44];exact h6 _ (Nat.le_max_right _ _)
   ·refine dX (x:=x) (f:=1) (le_refl hp) ?_ (by trivial)
    rw[aJ,if_neg ho]
  | operand=>
   simp only[nC]at hn;by_cases h1:bG l p=2
   ·refine dX (x:=aH l (ay l p) p.k 24 (eG (bE s l p.k)) []) (f:=1) ((dB he hp (by rw[h1];decide)).1) ?_ (by trivial)
    rw[aJ,if_pos h1]
   by_cases h2:(bB s l p [116,114,117,101] || bB s l p [102,97,108,115,101])=true
   ·have hk:bG l p≠5:=by
     rw[Bool.or_eq_true]at h2;rcases h2 with h2|h2<;>exact eO h2
    refine dX (x:=aH l (ay l p) p.k 25 (bE s l p.k) []) (f:=1) ((dB he hp hk).1) ?_ (by trivial);rw[aJ,if_neg h1,if_pos h2]
   by_cases h3:(decide (bG l p=0)&&decide (nR s l p=[40]))=true
   ·have h3':=h3
    simp at h3';have hrd:=dB he hp (by rw[h3'.1];decide);have hk2:=G5 hend h3'.2;obtain⟨f,x,q,h4,h5⟩:=vC (ih .args (ay l p) hrd.1.2 hk2 (by simp only[nC];have:=hrd.2;omega));refine dX (x:=aH l q p.k 27 (bE s l p.k) x) (f:=f+1) (hrd.1.trans h5) ?_ (by trivial);rw[aJ,if_neg h1,if_neg h2,if_pos h3,zn (h4 f (aaD _))]
   by_cases h4:bG l p=0
   ·obtain⟨f,t,q,h5,h6,_⟩:=qX (ih .place p hp trivial (by simp only[nC];omega)) rfl
    refine dX (x:=t) (f:=f+1) (h6) ?_ (by trivial);rw[aJ,if_neg h1,if_neg h2,if_neg h3,if_pos h4];exact h5 f (aaD _)
   by_cases h5:bB s l p [91]=true
   ·have hrd:=dB he hp (eO h5)
    obtain⟨f,t,q,h6,h7⟩:=E 1 (ay l p) hrd.1.2 (by omega) (by omega) (by have:=hrd.2;omega);obtain⟨f2,x2,q2,h8,h9⟩:=vC (ih (.mM [t]) q h7.2 trivial (by simp only[nC];have:=hrd.2;have:=h7.1;omega));refine dX (x:=aH l (aG s l q2 [93]) p.k 26 [] x2) (f:=max f f2+1) ((hrd.1.trans h7).trans (h9.trans (dY (s:=s) (w:=[93]) he h9.2))) ?_ (by trivial);rw[aJ,if_neg h1,if_neg h2,if_neg h3,if_neg h4,if_pos h5,gz (h6 _ (Nat.le_max_left _ _)),zn (h8 _ (Nat.le_max_right _ _))]
   by_cases h6:bB s l p [108,101,110]=true
   ·have hrd:=dB he hp (eO h6)
    have a1:=dY (s:=s) (w:=[40]) he hrd.1.2;have a2:=Xd (s:=s) he a1.2;have a3:=dY (s:=s) (w:=[41]) he a2.2;refine dX (x:=aH l (aG s l (jL s l (aG s l (ay l p) [40])).2 [41]) p.k 23 [] [(jL s l (aG s l (ay l p) [40])).1]) (f:=1) (((hrd.1.trans a1).trans a2).trans a3) ?_ (by trivial);rw[aJ,if_neg h1,if_neg h2,if_neg h3,if_neg h4,if_neg h5,if_pos h6]
   by_cases h7:bB s l p [40]=true
   ·have hrd:=dB he hp (eO h7)
    obtain⟨f,t,q,h8,h9⟩:=E 1 (ay l p) hrd.1.2 (by omega) (by omega) (by have:=hrd.2;omega);refine dX (x:=t) (f:=f+1) ((hrd.1.trans h9).trans (dY (s:=s) (w:=[41]) he h9.2)) ?_ (by trivial);rw[aJ,if_neg h1,if_neg h2,if_neg h3,if_neg h4,if_neg h5,if_neg h6,if_pos h7,gz (h8 f (aaD _))]
   ·refine dX (x:=aH l (gZ l p 5 []) p.k 1 [] []) (f:=1) (wh (c:=5) (t:=[]) hp) ?_ (by trivial)
    rw[aJ,if_neg h1,if_neg h2,if_neg h3,if_neg h4,if_neg h5,if_neg h6,if_neg h7]
  | args=>
   have hk:bG l p≠5:=hr;simp only[nC]at hn;have hrd:=dB he hp hk;by_cases h1:bB s l (ay l p) [41]=true
   ·refine zt (x:=[]) (f:=1) (hrd.1.trans (dY (s:=s) (w:=[41]) he hrd.1.2)) ?_ rfl (by trivial)
    rw[aJ];rw[if_pos h1]
   ·obtain⟨f,t,q,h6,h7⟩:=E 1 (ay l p) hrd.1.2 (by omega) (by omega) (by have:=hrd.2;omega)
    obtain⟨f2,x2,q2,h8,h9⟩:=vC (ih (.mM [t]) q h7.2 trivial (by simp only[nC];have:=hrd.2;have:=h7.1;omega));refine zt (x:=x2) (f:=max f f2+1) ((hrd.1.trans h7).trans (h9.trans (dY (s:=s) (w:=[41]) he h9.2))) ?_ rfl (by trivial);rw[aJ];try simp only
    rw[if_neg h1,gz (h6 _ (Nat.le_max_left _ _)),zn (h8 _ (Nat.le_max_right _ _))]
  | mM kids=>
   simp only[nC]at hn;by_cases h1:bB s l p [44]=true
   ·have hrd:=dB he hp (eO h1)
    obtain⟨f,t,q,h6,h7⟩:=E 1 (ay l p) hrd.1.2 (by omega) (by omega) (by have:=hrd.2;omega);obtain⟨f2,x2,q2,h8,h9⟩:=vC (ih (.mM (kids++[t])) q h7.2 trivial (by simp only[nC];have:=hrd.2;have:=h7.1;omega));refine zt (x:=x2) (f:=max f f2+1) ((hrd.1.trans h7).trans h9) ?_ rfl (by trivial);rw[aJ,if_pos h1,gz (h6 _ (Nat.le_max_left _ _))];exact h8 _ (Nat.le_max_right _ _)
   ·refine zt (x:=kids) (f:=1) (le_refl hp) ?_ rfl (by trivial)
    rw[aJ,if_neg h1]
  | place=>
   simp only[nC]at hn;have hv:=Xd (s:=s) he hp;have hlt:=fun h=>lt_var (s:=s) he hp h
   by_cases h1:bB s l (jL s l p).2 [91]=true
   ·have hrd:=dB he hv.2 (eO h1)
    obtain⟨f,t,q,h6,h7⟩:=E 1 (ay l (jL s l p).2) hrd.1.2 (by omega) (by omega) (by have:=hrd.2;have:=hv.1;omega);refine dX (x:=aH l (aG s l q [93]) p.k 21 [] [(jL s l p).1,t]) (f:=f+1) (((hv.trans hrd.1).trans h7).trans (dY (s:=s) (w:=[93]) he h7.2)) ?_ (fun h=>by have:=hlt h;have:=((hrd.1.trans h7).trans (dY (s:=s) (w:=[93]) he h7.2)).1;omega);rw[aJ];try simp only
    rw[if_pos h1,gz (h6 f (aaD _))]
   by_cases h2:bB s l (jL s l p).2 [46]=true
   ·have hrd:=dB he hv.2 (eO h2)
    refine dX (x:=aH l (cK l (ay l (jL s l p).2)) p.k 22 (cB s l (ay l (jL s l p).2)) [(jL s l p).1]) (f:=1) ((hv.trans hrd.1).trans (um he hrd.1.2)) ?_ (fun h=>by have:=hlt h;have:=(hrd.1.trans (um he hrd.1.2)).1;omega);rw[aJ];rw[if_neg h1,if_pos h2]
   ·refine dX (x:=(jL s l p).1) (f:=1) hv ?_ hlt
    rw[aJ];rw[if_neg h1,if_neg h2]
  | stmt=>
   simp only[nC]at hn;by_cases h1:bB s l p [118,97,114]=true
   ·have hrd:=dB he hp (eO h1)
    have a1:=um he hrd.1.2;have a2:=Po (s:=s) he a1.2;have a3:=dY (s:=s) (w:=[61]) he a2.2;have hall:=((hrd.1.trans a1).trans a2).trans a3;have hlt:p.k<(aG s l (ib s l (cK l (ay l p))).2 [61]).k:=by have:=hrd.2;have:=((a1.trans a2).trans a3).1;omega
    obtain⟨f,t,q,h6,h7⟩:=E 1 (aG s l (ib s l (cK l (ay l p))).2 [61]) a3.2 (by omega) (by omega) (by omega);have h8:=dY (s:=s) (w:=[59]) he h7.2;refine dX (x:=aH l (aG s l q [59]) p.k 12 (cB s l (ay l p)) [(ib s l (cK l (ay l p))).1,t]) (f:=f+1) ((hall.trans h7).trans h8) ?_ (fun _=>?_)
    ·rw[aJ]
     try simp only
     rw[if_pos h1,gz (h6 f (aaD _))]
    ·have:=h7.1;have:=h8.1;omega
   by_cases h2:bB s l p [105,102]=true
   ·obtain⟨f,t,q,h6,h7,h8⟩:=qX (ih .branch p hp (eO h2) (by simp only[nC];omega)) rfl
    refine dX (x:=t) (f:=f+1) h7 ?_ (fun _=>h8);rw[aJ];try simp only
    rw[if_neg h1,if_pos h2];exact h6 f (aaD _)
   by_cases h3:bB s l p [119,104,105,108,101]=true
   ·have hrd:=dB he hp (eO h3)
    obtain⟨f1,t1,q1,a1,b1⟩:=E 1 (ay l p) hrd.1.2 (by omega) (by omega) (by have:=hrd.2;omega);obtain⟨f2,t2,q2,a2,b2⟩:=B q1 b1.2 (by have:=hrd.2;have:=b1.1;omega);refine dX (x:=aH l q2 p.k 15 [] [t1,t2]) (f:=max f1 f2+1) ((hrd.1.trans b1).trans b2) ?_ (fun _=>?_)
    ·rw[aJ]
     try simp only
     rw[if_neg h1,if_neg h2,if_pos h3,gz (a1 _ (Nat.le_max_left _ _)),gz (a2 _ (Nat.le_max_right _ _))]
    ·have:=hrd.2;have:=b1.1;have:=b2.1;omega
   by_cases h4:bB s l p [102,111,114]=true
   ·have hrd:=dB he hp (eO h4)
    have a1:=um he hrd.1.2;have a2:=dY (s:=s) (w:=[61]) he a1.2;obtain⟨f1,t1,q1,c1,b1⟩:=E 1 (aG s l (cK l (ay l p)) [61]) a2.2 (by omega) (by omega) (by have:=hrd.2;have:=(a1.trans a2).1;omega);have a3:=dY (s:=s) (w:=[116,111]) he b1.2;obtain⟨f2,t2,q2,c2,b2⟩:=E 1 (aG s l q1 [116,111]) a3.2 (by omega) (by omega) (by have:=hrd.2;have:=(((a1.trans a2).trans b1).trans a3).1;omega);obtain⟨f3,t3,q3,c3,b3⟩:=B q2 b2.2 (by have:=hrd.2;have:=((((a1.trans a2).trans b1).trans a3).trans b2).1;omega);refine dX (x:=aH l q3 p.k 16 (cB s l (ay l p)) [t1,t2,t3]) (f:=max f1 (max f2 f3)+1) ((((((hrd.1.trans a1).trans a2).trans b1).trans a3).trans b2).trans b3) ?_ (fun _=>?_)
    ·rw[aJ]
     try simp only
     rw[if_neg h1,if_neg h2,if_neg h3,if_pos h4,gz (c1 _ (Nat.le_max_left _ _)),gz (c2 _ (aaE (Nat.le_max_left _ _) (Nat.le_max_right _ _))),gz (c3 _ (aaE (Nat.le_max_right _ _) (Nat.le_max_right _ _)))]
    ·have:=hrd.2;have:=(((((a1.trans a2).trans b1).trans a3).trans b2).trans b3).1;omega
   by_cases h5:bB s l p [114,101,116,117,114,110]=true
   ·have hrd:=dB he hp (eO h5)
    by_cases h6:(CF s l (ay l p) || bB s l (ay l p) [110,111,116] || bB s l (ay l p) [45])=true
    ·obtain⟨f1,t1,q1,c1,b1⟩:=E 1 (ay l p) hrd.1.2 (by omega) (by omega) (by have:=hrd.2;omega)
     have a3:=dY (s:=s) (w:=[59]) he b1.2;refine dX (x:=aH l (aG s l q1 [59]) p.k 17 [] [t1]) (f:=f1+1) ((hrd.1.trans b1).trans a3) ?_ (fun _=>?_)
     ·rw[aJ]
      try simp only
      rw[if_neg h1,if_neg h2,if_neg h3,if_neg h4,if_pos h5,if_pos h6,gz (c1 _ (aaD _))]
     ·have:=hrd.2;have:=(b1.trans a3).1;omega
    ·have a3:=dY (s:=s) (w:=[59]) he hrd.1.2
     refine dX (x:=aH l (aG s l (ay l p) [59]) p.k 17 [] [aH l (ay l p) (ay l p).k 0 [] []]) (f:=1) (hrd.1.trans a3) ?_ (fun _=>?_)
     ·rw[aJ]
      try simp only
      rw[if_neg h1,if_neg h2,if_neg h3,if_neg h4,if_pos h5,if_neg h6]
     ·have:=hrd.2;have:=a3.1;omega
   by_cases h6:bB s l p [97,115,115,101,114,116]=true
   ·have hrd:=dB he hp (eO h6)
    obtain⟨f1,t1,q1,c1,b1⟩:=E 1 (ay l p) hrd.1.2 (by omega) (by omega) (by have:=hrd.2;omega);have a3:=dY (s:=s) (w:=[59]) he b1.2;refine dX (x:=aH l (aG s l q1 [59]) p.k 18 [] [t1]) (f:=f1+1) ((hrd.1.trans b1).trans a3) ?_ (fun _=>?_)
    ·rw[aJ]
     try simp only
     rw[if_neg h1,if_neg h2,if_neg h3,if_neg h4,if_neg h5,if_pos h6,gz (c1 _ (aaD _))]
    ·have:=hrd.2;have:=(b1.trans a3).1;omega
   by_cases h7:(decide (bG l p=0)&&decide (nR s l p=[40]))=true
   ·have QH:=h7
    simp at QH;have hrd:=dB he hp (by rw[QH.1];decide);have hk2:=G5 hend QH.2;obtain⟨f,x,q,h8,h9⟩:=vC (ih .args (ay l p) hrd.1.2 hk2 (by simp only[nC];have:=hrd.2;omega));have a3:=dY (s:=s) (w:=[59]) he h9.2;refine dX (x:=aH l (aG s l q [59]) p.k 19 (bE s l p.k) x) (f:=f+1) ((hrd.1.trans h9).trans a3) ?_ (fun _=>?_)
    ·rw[aJ]
     try simp only
     rw[if_neg h1,if_neg h2,if_neg h3,if_neg h4,if_neg h5,if_neg h6,if_pos h7,zn (h8 f (aaD _))]
    ·have:=hrd.2;have:=(h9.trans a3).1;omega
   by_cases h8:bG l p=0
   ·obtain⟨f1,t1,q1,c1,b1,hpl⟩:=qX (ih .place p hp trivial (by simp only[nC];omega)) rfl
    have hlt:p.k<q1.k:=hpl h8;have a1:=dY (s:=s) (w:=[61]) he b1.2;obtain⟨f2,t2,q2,c2,b2⟩:=E 1 (aG s l q1 [61]) a1.2 (by omega) (by omega) (by have:=a1.1;omega);have a3:=dY (s:=s) (w:=[59]) he b2.2;refine dX (x:=aH l (aG s l q2 [59]) p.k 13 [] [t1,t2]) (f:=max f1 f2+1) (((b1.trans a1).trans b2).trans a3) ?_ (fun _=>?_)
    ·rw[aJ]
     try simp only
     rw[if_neg h1,if_neg h2,if_neg h3,if_neg h4,if_neg h5,if_neg h6,if_neg h7,if_pos h8,gz (c1 _ (Nat.le_max_left _ _)),gz (c2 _ (Nat.le_max_right _ _))]
    ·have:=((a1.trans b2).trans a3).1;omega
   ·obtain⟨f,x,q,c1,c2,c3⟩:=Uc (s:=s) he hp
    refine dX (x:=x) (f:=f+1) c2 ?_ c3;rw[aJ];try simp only
    rw[if_neg h1,if_neg h2,if_neg h3,if_neg h4,if_neg h5,if_neg h6,if_neg h7,if_neg h8,c1]
  | block=>
   simp only[nC]at hn;by_cases h1:bB s l p [123]=true
   ·have hrd:=dB he hp (eO h1)
    obtain⟨f2,x2,q2,h8,h9⟩:=vC (ih (.nJ []) (ay l p) hrd.1.2 trivial (by simp only[nC];have:=hrd.2;omega));refine dX (x:=aH l (aG s l q2 [125]) p.k 11 [] x2) (f:=f2+1) ((hrd.1.trans h9).trans (dY (s:=s) (w:=[125]) he h9.2)) ?_ (by trivial);rw[aJ,if_pos h1,zn (h8 _ (aaD _))]
   ·refine dX (x:=aH l (gZ l p 4 [123]) p.k 11 [] []) (f:=1) (wh (c:=4) (t:=[123]) hp) ?_ (by trivial)
    rw[aJ,if_neg h1]
  | nJ kids=>
   simp only[nC]at hn;by_cases h1:jN s l p=true
   ·refine zt (x:=kids) (f:=1) (le_refl hp) ?_ rfl (by trivial)
    rw[aJ,if_pos h1]
   ·have h1':jN s l p=false:=by simpa using h1
    obtain⟨f,t,q,h6,h7,h8⟩:=qX (ih .stmt p hp trivial (by simp only[nC];omega)) rfl;have hlt:p.k<q.k:=h8 h1';obtain⟨f2,x2,q2,h9,h10⟩:=vC (ih (.nJ (kids++[t])) q h7.2 trivial (by simp only[nC];omega));refine zt (x:=x2) (f:=max f f2+1) (h7.trans h10) ?_ rfl (by trivial);rw[aJ,if_neg h1,gz (h6 _ (Nat.le_max_left _ _))];exact h9 _ (Nat.le_max_right _ _)
  | branch=>
   have hk:bG l p≠5:=hr;simp only[nC]at hn;have hrd:=dB he hp hk;obtain⟨f1,t1,q1,a1,b1⟩:=E 1 (ay l p) hrd.1.2 (by omega) (by omega) (by have:=hrd.2;omega);obtain⟨f2,t2,q2,a2,b2⟩:=B q1 b1.2 (by have:=hrd.2;have:=b1.1;omega);have hq2:p.k<q2.k:=by have:=hrd.2;have:=b1.1;have:=b2.1;omega
   have hle:=(hrd.1.trans b1).trans b2;by_cases h1:bB s l q2 [101,108,115,101]=true
   ·have hr2:=dB he b2.2 (eO h1)
    by_cases h2:bB s l (ay l q2) [105,102]=true
    ·obtain⟨f3,t3,q3,a3,b3,c3⟩:=qX (ih .branch (ay l q2) hr2.1.2 (eO h2) (by simp only[nC];have:=hr2.2;omega)) rfl
     refine dX (x:=aH l q3 p.k 14 [] [t1,t2,t3]) (f:=max f1 (max f2 f3)+1) ((hle.trans hr2.1).trans b3) ?_ ?_
     ·rw[aJ,gz (a1 _ (Nat.le_max_left _ _)),gz (a2 _ (aaE (Nat.le_max_left _ _) (Nat.le_max_right _ _))),if_pos h1,if_pos h2,gz (a3 _ (aaE (Nat.le_max_right _ _) (Nat.le_max_right _ _)))]
     ·have:=b3.1;have:=hr2.2;show p.k<q3.k;omega
    ·obtain⟨f3,t3,q3,a3,b3⟩:=B (ay l q2) hr2.1.2 (by have:=hr2.2;omega)
     refine dX (x:=aH l q3 p.k 14 [] [t1,t2,t3]) (f:=max f1 (max f2 f3)+1) ((hle.trans hr2.1).trans b3) ?_ ?_
     ·rw[aJ,gz (a1 _ (Nat.le_max_left _ _)),gz (a2 _ (aaE (Nat.le_max_left _ _) (Nat.le_max_right _ _))),if_pos h1,if_neg h2,gz (a3 _ (aaE (Nat.le_max_right _ _) (Nat.le_max_right _ _)))]
     ·have:=b3.1;have:=hr2.2;show p.k<q3.k;omega
   ·refine dX (x:=aH l q2 p.k 14 [] [t1,t2,aH l q2 q2.k 0 [] []]) (f:=max f1 f2+1) (hle) ?_ hq2
    rw[aJ,gz (a1 _ (Nat.le_max_left _ _)),gz (a2 _ (Nat.le_max_right _ _)),if_neg h1]
end
open Go.RowKit
def jM(t:jl):List Value:=[.int .i64 (t.kind:Int),.int .i64 (t.from_:Int),.int .i64 (t.at_:Int),.int .i64 (t.end_:Int)]
def bR(d:Dg):List Value:=[.int .i64 d.code,.int .i64 d.at_,.int .i64 d.end_,.string d.text,.slice none 0 0]
def uR(l:List jl)(p:PS):Prop:=(p.ds.Pairwise fun a b=>a.at_<b.at_)/\∀d∈p.ds,0<=d.at_/\d.at_<=((gq l p.k).at_:Int)
theorem Pf:∀(ds:List Dg) (lo hi:Int),lo<=hi+1->(ds.Pairwise fun a b=>a.at_<b.at_)->(∀d∈ds,lo<=d.at_/\d.at_<=hi)->(ds.length:Int)<=hi - lo+1
 | [],lo,hi,h0,_,_=>by simp;omega
 | d::ds,lo,hi,_,hp,hb=>by
  rw[List.pairwise_cons]at hp;have hd:=hb d (by simp);have:=Pf ds (d.at_+1) hi (by omega) hp.2 (fun x hx=>⟨by have:=hp.1 x hx;omega,(hb x (by simp[hx])).2⟩);simp only[aaQ];omega
theorem uR.len{l:List jl}{p:PS}(h:uR l p){m:Nat}(hm:(gq l p.k).at_<=m):p.ds.length<=m+1:=by
 have:=Pf p.ds 0 (m:Int) (by omega) h.1 (fun d hd=>⟨(h.2 d hd).1,by have:=(h.2 d hd).2;omega⟩);omega
theorem uR.rep{l:List jl}{p:PS}(h:uR l p)(c:Int)(t:aP):uR l (gZ l p c t):=by
 have push:(∀d∈p.ds,d.at_<((gq l p.k).at_:Int))->uR l { p with ds:=p.ds++[⟨c,(gq l p.k).at_,(gq l p.k).end_,aU t⟩] }:=fun hlt=>by
  refine⟨?_,fun d hd=>?_⟩
  ·rw[List.pairwise_append]
   exact⟨h.1,List.pairwise_singleton _ _,fun a ha b hb=>by simp at hb;subst hb;exact hlt a ha⟩
  ·simp only[List.mem_append,List.mem_singleton]at hd
   rcases hd with hd|rfl
   ·exact h.2 d hd
   ·exact⟨by simp only;omega,by simp only;omega⟩
 unfold gZ;split
 ·rename_i d hd
  split
  ·exact h
  ·rename_i hne
   refine push fun x hx=>?_
   have ET:=List.mem_of_getLast? hd
   have hle:x.at_<=d.at_:=by
    rw[List.getLast?_eq_some_iff]at hd;obtain⟨ys,hys⟩:=hd;have hp:=h.1;rw[hys]at hp hx;rw[List.pairwise_append]at hp;simp only[List.mem_append,List.mem_singleton]at hx;rcases hx with hx|rfl
    ·have:=hp.2.2 x hx d (by simp);omega
    ·omega
   have:=(h.2 d ET).2;omega
 ·rename_i hn
  refine push fun x hx=>?_
  rw[List.getLast?_eq_none_iff]at hn;rw[hn]at hx;cases hx
theorem uR.read{l:List jl}{p:PS}(h:uR l p)(hm:(gq l p.k).at_<=(gq l (p.k+1)).at_):uR l (ay l p):=
 ⟨h.1,fun d hd=>⟨(h.2 d hd).1,by have:=(h.2 d hd).2;show d.at_<=((gq l (p.k+1)).at_:Int);omega⟩⟩
structure PE where
 gp:Nat
 lo:Nat
 s:ByteArray
 l:List jl
 A:Option Addr
 n:Nat
 c:Nat
def PE.bs(E:PE):aP:=E.s.data.toList
structure PE.Ok (E:PE):Prop where
 len:E.l.length=E.n
 most:E.n<=5000
 size:E.s.size<=4096
 tok:∀t∈E.l,t.from_<=t.at_/\t.at_<=t.end_/\t.end_<=E.s.size/\t.kind<=5
 ends:mX E.l
 empty:oQ E.bs E.l
 mono:∀k,k+1<E.l.length->(gq E.l k).at_<=(gq E.l (k+1)).at_
 low:E.lo<=E.gp
structure PV where
 st:PS
 lv:Value
structure PW (w:World) (E:PE) (v:PV):Prop where
 blk:ai w E.gp 130 #[.string E.s,.slice E.A E.n E.c,.int .i64 (v.st.k:Int),.int .i64 (v.st.last:Int),v.lv]
 own:aL w E.lo 78 5 v.lv v.st.ds.length (v.st.ds.flatMap bR)
 toks:aL w E.lo 186 4 (.slice E.A E.n E.c) E.n (E.l.flatMap jM)
 at_:v.st.k<E.n
 good:uR E.l v.st
 last:v.st.last<=4096
structure PM (E:PE) (w:World) (v:PV) (w':World) (v':PV):Prop where
 since:az (fun g=>g=E.gp\/v.lv.ownBlock=some g) w w'
 fresh:v'.lv.ownBlock=v.lv.ownBlock\/∀g,v'.lv.ownBlock=some g->w.heap.size<=g
theorem PM.trans{E:PE}{w w1 w2:World}{v v1 v2:PV}(h:PM E w v w1 v1)(k:PM E w1 v1 w2 v2):PM E w v w2 v2:=by
 refine⟨h.since.step k.since (fun g hg=>?_),?_⟩
 ·rcases hg with hg|hg
  ·exact .inl (.inl hg)
  ·rcases h.fresh with h1|h1
   ·exact .inl (.inr (h1 ▸ hg))
   ·exact .inr (h1 g hg)
 ·rcases k.fresh with h1|h1
  ·rw[h1]
   exact h.fresh
  ·exact .inr fun g hg=>aaE h.since.size (h1 g hg)
theorem PM.of_below{E:PE}{w w':World}{v:PV}(hb:Below w.heap.size w w'):PM E w v w' v:=⟨(az.refl _ w).below hb,.inl rfl⟩
theorem PW.below{w w':World}{E:PE}{v:PV}(h:PW w E v)(hb:Below w.heap.size w w'):PW w' E v:=
 ⟨h.blk.below hb h.blk.lt,h.own.below hb (fun g hg=>(h.own.lt g hg).2),h.toks.below hb (fun g hg=>(h.toks.lt g hg).2),h.at_,h.good,h.last⟩
theorem PM.dL{P:Nat->Prop}{E:PE}{w w':World}{v v':PV}(hm:PM E w v w' v')(h:PW w E v):bO P w w':=fun g cs _ hc=>by
 refine hm.since.block g (aaG.1 hc).1 ?_;rintro(rfl|hg)
 ·have:=h.blk
  unfold ai at this;rw[hc]at this;simp at this
 ·obtain⟨cs',hc'⟩:=h.own.typed hg
  rw[hc]at hc';simp at hc'
theorem PM.below{E:PE}{w w':World}{v v':PV}(hm:PM E w v w' v')(h:PW w E v){B:Nat}(hB:B<=E.lo)(hlo:E.lo<=E.gp):Below B w w':=
 hm.since.toBelow (by have:=h.blk.lt;omega) (fun g hg=>by
  rcases hg with rfl|hg
  ·omega
  ·have:=(h.own.lt g hg).1;omega)
theorem PW.tok{w:World}{E:PE}{v:PV}(h:PW w E v)(hE:E.Ok){k:Nat}(hk:k<E.n):∃b off,E.A=some ⟨b,off,none⟩/\b<w.heap.size /\
 w.cell? ⟨b,off+k*4,none⟩=some (.int .i64 ((gq E.l k).kind:Int))/\w.cell? ⟨b,off+k*4+1,none⟩=some (.int .i64 ((gq E.l k).from_:Int)) /\
 w.cell? ⟨b,off+k*4+2,none⟩=some (.int .i64 ((gq E.l k).at_:Int))/\w.cell? ⟨b,off+k*4+3,none⟩=some (.int .i64 ((gq E.l k).end_:Int)):=by
 have hr:=h.toks.rowAt (cells:=jM) (l:=E.l) rfl rfl (by intro c _;rfl) hE.len;have hkl:k<E.l.length:=by rw[hE.len];exact hk
 have hg:E.l[k]? =some (gq E.l k):=by
  unfold gq;rw[List.getD_eq_getElem?_getD,aaH hkl];rfl
 obtain⟨b,off,hA,hb,hc⟩:=hr k _ hg;exact⟨b,off,hA,hb,hc 0 _ rfl,hc 1 _ rfl,hc 2 _ rfl,hc 3 _ rfl⟩
theorem PE.Ok.get{E:PE}(hE:E.Ok)(k:Nat):(gq E.l k).at_<=(gq E.l k).end_/\(gq E.l k).end_<=E.s.size/\(gq E.l k).kind<=5:=by
 unfold gq;rw[List.getD_eq_getElem?_getD]
 cases hk:E.l[k]? with
 | none=>simp[YK]
 | some t=>
  have:=hE.tok t (aaP hk);exact⟨this.2.1,this.2.2.1,this.2.2.2⟩
theorem Oq:(Tryz.prog.info? 186).map (fun i=>(i.zero,i.size,i.bytes))=some (some (.agg #[.int .i64 0,.int .i64 0,.int .i64 0,.int .i64 0]),4,32):=by kernel_rfl
theorem vI(w:World)(g:Nat)(a b c d:Value)(h0:w.cell? ⟨g,0,none⟩=some a)(h1:w.cell? ⟨g,1,none⟩=some b)(h2:w.cell? ⟨g,2,none⟩=some c)(h3:w.cell? ⟨g,3,none⟩=some d):
 ∀j v,[a,b,c,d][j]? =some v->w.cell? ((⟨g,0,none⟩:Addr).add j)=some v:=by
 intro j v hj
 match j,hj with
 | 0,hj=>simp at hj;subst hj;exact h0
 | 1,hj=>simp at hj;subst hj;exact h1
 | 2,hj=>simp at hj;subst hj;exact h2
 | 3,hj=>simp at hj;subst hj;exact h3
 | j+4,hj=>simp at hj
def ScanRes(w:World)(l:List jl)(e:Ending)(w':World):Prop:=
 ∃v,e= .returned (.tuple #[v,.int .i64 0])/\aL w' w.heap.size 186 4 v l.length (l.flatMap jM)/\Below w.heap.size w w'
theorem QW(s:ByteArray)(w:World)(hs:s.size<=4096):Calls Tryz.prog 123 #[.string s] w (ScanRes w (qO s.data.toList)):=by
 obtain⟨i0,hi0,hz0,hz1,hz2⟩:=info_parts Oq;have hgt:¬(4096:Int)<s.size:=by omega
 go_enter Tryz.func123,Tryz.ntmps123
 go_wp2_with fail
 go_loopg [4,5] (s.size) (fun gk s4 s5 wr=> ∃(f k:Nat) (pre:List jl),k+gk=s.size/\s5= .int .i64 k/\qO s.data.toList=pre++ug s.data.toList f k/\s.size<f+k/\aL wr w.heap.size 186 4 s4 pre.length (pre.flatMap jM)/\pre.length<=k/\Below w.heap.size w wr)
 case atStart=>exact⟨s.size+1,0,[],by omega,rfl,by rw[qO,bS];rfl,by omega,aL.block (n:=0) (cur:=#[]) (aaD _) (ai.new w 186 #[]) (by simp[maxLen]) rfl,aaD _,by(repeat (first|exact Below.refl _ _|assumption|refine Below.trans ?_ (Below.mono (by assumption) (by first|omega|(simp;done)|(simp;omega)))|refine Below.alloc ?_ (by first|omega|(simp;done)|(simp;omega)) _|refine Below.setCell ?_ (by first|omega|(simp;done)|(simp;omega)) _|refine Below.drew ?_|refine aY ?_ _))⟩
 case round=>
  obtain⟨f,k,pre,hk,rfl,hsc,hf,hO,hpl,hB⟩:=hrel;have hk':k<=s.size:=by omega
  obtain⟨f,rfl⟩:∃g,f=g+1:=⟨f - 1,by omega⟩
  obtain⟨k1,hk1⟩:∃x,j6 s.data.toList (s.size+1) k=x:=⟨_,rfl⟩
  have hspec:=Cy (s:=s.data.toList) (s.size+1) k (by rw[bS];exact hk') (by rw[bS];omega);rw[hk1,bS]at hspec;obtain⟨hle,hle2,hstop⟩:=hspec;have hskip:∀w:World,Calls Tryz.prog 179 #[.string s,.int .i64 (k:Int)] w fun e w'=>e= .returned (.int .i64 (k1:Int))/\w=w':=fun w=>by rw[<- hk1];exact YR s k w hk' hs
  have hstep:ug s.data.toList (f+1) k=if s.size<=k1 then [⟨5,k,k1,k1⟩] else⟨(gy s.data.toList k1).1,k,k1,(gy s.data.toList k1).2⟩::ug s.data.toList f (gy s.data.toList k1).2:=by
   rw[ug,bS,hk1]
  have HK:=kH hk;have Ym:=kH hsc;have HO:=kH hO;have HSKIP:=kH hskip;have Ba:=kH hstep;have HSTOP:=kH hstop;obtain⟨n,hn⟩:∃x,pre.length=x:=⟨_,rfl⟩
  obtain⟨A4,c4,hv4,-,-⟩:=hO.shape;subst hv4;rw[hn]at HO hpl⊢;have HN:=kH hn;clear hk hsc hO hskip hstep hstop hk1 hn;have hbs:=hB.size;by_cases hlt:k1<s.size
  ·have hne:((k1:Int)==s.size)=false:=by simp;omega
   have ht:=Bh (s:=s.data.toList) (a:=k1) (by rw[bS];exact hlt) (HSTOP.out hlt).1 (HSTOP.out hlt).2;rw[bS]at ht;have hst:ug s.data.toList (f+1) k=⟨(gy s.data.toList k1).1,k,k1,(gy s.data.toList k1).2⟩::ug s.data.toList f (gy s.data.toList k1).2:=by rw[Ba.out,if_neg (by omega)]
   have htk:=fun w=>Wz s k1 w hlt hs
   obtain⟨⟨tk,te⟩,SK⟩:∃x,gy s.data.toList k1=x:=⟨_,rfl⟩
   rw[SK]at ht hst;simp only[SK]at htk;simp only at ht hst;obtain⟨ht1,ht2,ht3⟩:=ht;have HST:=kH hst;have AZ:=kH htk;clear hst htk SK;go_wp2_with fail
   refine(HSKIP.out _).mono ?_;rintro e w' ⟨rfl,rfl⟩;go_wp2_with fail
   refine(AZ.out _).mono ?_;rintro e w2 ⟨rfl,hb2⟩;have hz2':=hb2.size;have hown2:=HO.out.below hb2 (fun g hg=>(HO.out.lt g hg).2);have xm:=kH hown2;clear hown2;go_wp2_with (at_builtin;go_must (refine dm _ rfl (.tmp 33) (.tmp 39) _ rfl w.heap.size 186 i0 _ 4 32 Tryz.underlying128 hi0 hz0 hz1 hz2 rfl (.slice A4 n c4) n (pre.flatMap jM) rfl (xm.out.alloc _) ⟨w2.heap.size,0,none⟩ 1 1 (jM ⟨tk,k,k1,te⟩) rfl rfl (vI _ _ _ _ _ _ (by go_simp) (by go_simp) (by go_simp) (by go_simp)) (by simp[jM,Value.oneCell']) (by simp only[maxLen];omega) (by omega) (by simp;omega) ?_);intro v5 w5 hown5 Qb hat5)
   have Zq:=fun g hg=>(xm.out.lt g hg).1
   go_roundg (s.size - te)
   case measure=>have:=HK.out;omega
   case rel=>
    refine⟨f,te,pre++[⟨tk,k,k1,te⟩],by omega,rfl,?_,by omega,?_,by simp[HN.out];omega,?_⟩
    ·rw[Ym.out,HST.out,List.append_assoc]
     rfl
    ·rw[aaO,HN.out,List.flatMap_append]
     simpa using hown5
    ·exact hB.trans ((((az.refl (fun g=>w.heap.size<=g) wr).below hb2).alloc (.cells #[.int .i64 (tk:Int),.int .i64 (k:Int),.int .i64 (k1:Int),.int .i64 (te:Int)] 186) |>.grown Qb (fun g hg=>.inl (Zq g hg))).toBelow hbs (fun g h=>h))
  ·have hke:k1=s.size:=by omega
   have hst:qO s.data.toList=pre++[⟨5,k,s.size,s.size⟩]:=by rw[Ym.out,Ba.out,if_pos (by omega),hke]
   have HST:=kH hst;clear hst;subst hke;have heq:((s.size:Int)==s.size)=true:=by simp
   go_wp2_with fail
   refine(HSKIP.out _).mono ?_;rintro e w' ⟨rfl,rfl⟩;go_wp2_with (at_builtin;go_must (refine dm _ rfl (.tmp 20) (.tmp 25) _ rfl w.heap.size 186 i0 _ 4 32 Tryz.underlying128 hi0 hz0 hz1 hz2 rfl (.slice A4 n c4) n (pre.flatMap jM) rfl (HO.out.alloc _) ⟨wr.heap.size,0,none⟩ 1 1 (jM ⟨5,k,s.size,s.size⟩) rfl rfl (vI _ _ _ _ _ _ (by go_simp) (by go_simp) (by go_simp) (by go_simp)) (by simp[jM,Value.oneCell']) (by simp only[maxLen];omega) (by omega) (by simp;omega) ?_);intro v5 w5 hown5 Qb hat5)
   have Zq:=fun g hg=>(HO.out.lt g hg).1
   go_ret2
   refine⟨v5,rfl,?_,?_⟩
   ·rw[HST.out,aaO,HN.out,List.flatMap_append]
    simpa using hown5
   ·exact hB.trans ((((az.refl (fun g=>w.heap.size<=g) wr).alloc (.cells #[.int .i64 5,.int .i64 (k:Int),.int .i64 (s.size:Int),.int .i64 (s.size:Int)] 186)).grown Qb (fun g hg=>.inl (Zq g hg))).toBelow hbs (fun g h=>h))
end Go.Proofs.YtoepemlnlpamlaaGreat
