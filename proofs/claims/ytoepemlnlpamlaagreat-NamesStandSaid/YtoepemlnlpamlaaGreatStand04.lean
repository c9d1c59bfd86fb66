/- The law NamesStand holds: for every text and every number the law returns true, and its arguments read as before. No condition. Part 4: ParE ParW Scan. -/
import Derived.Test.YtoepemlnlpamlaaGreatStand03
set_option maxRecDepth 100000
set_option maxHeartbeats 4000000
namespace Go.Proofs.YtoepemlnlpamlaaGreat
section
variable {s:bE}{l:List jP}
def nL(l:List jP):Prop:=∀k,k<l.length->(iG l k).kind≠5->k+1<l.length
def Le(l:List jP)(p q:PS):Prop:=p.k<=q.k/\q.k<l.length
theorem Le.trans{p q r:PS}(h:Le l p q)(h2:Le l q r):Le l p r:=⟨aac h.1 h2.1,h2.2⟩
theorem fF{p:PS}{w:bE}(h:bM s l p w=true):bP l p≠5:=by
 unfold bM at h;simp at h;exact h.1
theorem le_refl{p:PS}(hp:p.k<l.length):Le l p p:=⟨aab _,hp⟩
theorem dS(he:nL l){p:PS}(hp:p.k<l.length)(h:bP l p≠5):Le l p (aC l p)/\p.k<(aC l p).k:=by
 have:=he p.k hp h;exact⟨⟨by simp[aC],this⟩,by simp[aC]⟩
theorem mI{p:PS}{c:Int}{t:bE}:(iK l p c t).k=p.k:=by
 unfold iK;split
 ·split<;>rfl
 ·rfl
theorem wI{p:PS}{c:Int}{t:bE}(hp:p.k<l.length):Le l p (iK l p c t):=by
 unfold Le;rw[mI];exact⟨aab _,hp⟩
theorem eU(he:nL l){p:PS}{w:bE}(hp:p.k<l.length):Le l p (aH s l p w):=by
 unfold aH;split
 ·rename_i h;exact(dS he hp (fF h)).1
 ·exact wI hp
theorem Wm(he:nL l){p:PS}{w:bE}(hp:p.k<l.length):Le l p (bN s l p w):=by
 unfold bN;split
 ·rename_i h;exact(dS he hp (fF h)).1
 ·exact le_refl hp
theorem uw(he:nL l){p:PS}(hp:p.k<l.length):Le l p (dG l p):=by
 unfold dG;split
 ·rename_i h;exact(dS he hp (by rw[h];decide)).1
 ·exact wI hp
theorem le_typ(he:nL l){p:PS}(hp:p.k<l.length):Le l p (qU s l p).2:=by
 unfold qU;split
 ·rename_i h;exact(dS he hp (fF h)).1
 split
 ·rename_i h
  have h1:=(dS he hp (fF h)).1;try simp only
  split
  ·rename_i h2
   have h3:=h1.trans (dS he h1.2 (fF h2)).1;try simp only
   split
   ·rename_i h4
    have h5:=h3.trans (dS he h3.2 (by rw[h4];decide)).1;exact h5.trans (eU he h5.2)
   ·have h5:=h3.trans (wI (c:=4) (t:=[110,117,109,98,101,114]) h3.2)
    exact h5.trans (eU he h5.2)
  ·exact h1
 split
 ·rename_i h;exact(dS he hp (by rw[h];decide)).1
 ·exact wI hp
theorem OT(he:nL l){p:PS}(hp:p.k<l.length):Le l p (jb s l p).2:=by
 unfold jb;split
 ·rename_i h
  have h1:=(dS he hp (fF h)).1;exact h1.trans (le_typ he h1.2)
 ·exact le_refl hp
theorem Wl(he:nL l){p:PS}(hp:p.k<l.length):Le l p (kW s l p).2:=uw he hp
theorem lt_var(he:nL l){p:PS}(hp:p.k<l.length)(h:bP l p=0):p.k<(kW s l p).2.k:=by
 unfold kW dG;simp only;rw[if_pos h];exact(dS he hp (by rw[h];decide)).2
theorem L6{p:PS}{c:Int}{t:bE}:ko s l (iK l p c t)=ko s l p:=by
 unfold ko bM bP;rw[mI]
theorem Yd(he:nL l)(first:Nat):∀(n:Nat) (p:PS),p.k<l.length->l.length - p.k<=n->∃f q,qp s l first f p=some q/\Le l p q/\(ko s l p=false->p.k=first->p.k<q.k):=by
 intro n
 induction n with
 | zero=>intro p h1 h2;omega
 | succ n ih=>
  intro p h1 h2;by_cases hc:(!ko s l p&&(decide (p.k=first) || !zL s l p))=true
  ·have hst:ko s l p=false:=by simp at hc;exact hc.1
   have hk:bP l p≠5:=by
    intro h5;unfold ko at hst;simp[h5]at hst
   have hr:=dS he h1 hk;by_cases hw:bR s l p.k=[59]
   ·refine⟨1,aC l p,?_,hr.1,fun _ _=>hr.2⟩
    rw[qp,if_pos hc,if_pos hw]
   ·obtain⟨f,q,h3,h4,_⟩:=ih (aC l p) hr.1.2 (by have:=hr.2;omega)
    refine⟨f+1,q,?_,hr.1.trans h4,fun _ _=>by have:=h4.1;have:=hr.2;omega⟩;rw[qp,if_pos hc,if_neg hw];exact h3
  ·refine⟨1,p,?_,le_refl h1,fun hs hf=>?_⟩
   ·rw[qp,if_neg hc]
   ·simp[hs,hf]at hc
theorem Ty(he:nL l){p:PS}(hp:p.k<l.length):∃f x q,pU s l f p=some (x,q)/\Le l p q/\(ko s l p=false->p.k<q.k):=by
 obtain⟨f,q,h1,h2,h3⟩:=Yd (s:=s) he p.k l.length (iK l p 6 []) (wI hp).2 (by omega);rw[L6,mI]at h3;refine⟨f,aI l q p.k 1 [] [],q,?_,(wI hp).trans h2,fun h=>h3 h rfl⟩;unfold pU;rw[h1]
def pM(s:bE)(l:List jP):Prop:=∀k,(iG l k).kind=5->bR s l k=[]
theorem G7(he:pM s l){p:PS}(h:oo s l p=[40]):bP l (aC l p)≠5:=by
 intro h5;have:=he (p.k+1) h5;unfold oo at h;split at h
 ·rw[this]at h;cases h
 ·cases h
def nT:Fn->Nat
 | .expr lv=>40 - 2*lv
 | .sS _ _ _=>0
 | .operand=>20
 | .args=>5
 | .oq _=>0
 | .place=>10
 | .stmt=>60
 | .block=>45
 | .qi _=>70
 | .branch=>50
def Xq(l:List jP)(p:PS):Fn->Prop
 | .expr lv=>1<=lv/\lv<=7
 | .sS lv _ _=>lv<=6
 | .args=>bP l p≠5
 | .branch=>bP l p≠5
 | _=>True
def N9:Fn->Bool
 | .args=>false
 | .oq _=>false
 | .qi _=>false
 | _=>true
def Xo(x:List aa)(fn:Fn):Prop:=N9 fn=true->∃t,x=[t]
def KN(s:bE)(l:List jP)(p q:PS):Fn->Prop
 | .stmt=>ko s l p=false->p.k<q.k
 | .branch=>p.k<q.k
 | .place=>bP l p=0->p.k<q.k
 | _=>True
def QU(s:bE)(l:List jP)(fn:Fn)(p:PS):Prop:=∃f x q,aO s l f fn p=some (x,q)/\Le l p q/\Xo x fn/\KN s l p q fn
theorem eT{fn:Fn}{p:PS}{f:Nat}{x:aa}{q:PS}(hl:Le l p q)(h:aO s l f fn p=some ([x],q))(hp:KN s l p q fn):QU s l fn p:=⟨f,[x],q,h,hl,fun _=>⟨x,rfl⟩,hp⟩
theorem zM{fn:Fn}{p:PS}{f:Nat}{x:List aa}{q:PS}(hl:Le l p q)(h:aO s l f fn p=some (x,q))(hs:N9 fn=false)(hp:KN s l p q fn):QU s l fn p:=⟨f,x,q,h,hl,fun h1=>(by rw[hs]at h1;cases h1),hp⟩
theorem ry{fn:Fn}{p:PS}(h:QU s l fn p)(hs:N9 fn=true):∃f t q,(∀f',f<=f'->aO s l f' fn p=some ([t],q))/\Le l p q/\KN s l p q fn:=by
 obtain⟨f,x,q,h1,h2,h3,h4⟩:=h;obtain⟨t,rfl⟩:=h3 hs;exact⟨f,t,q,fun f' hf=>F8 hf h1,h2,h4⟩
theorem vD{fn:Fn}{p:PS}(h:QU s l fn p):∃f x q,(∀f',f<=f'->aO s l f' fn p=some (x,q))/\Le l p q:=by
 obtain⟨f,x,q,h1,h2,_,_⟩:=h;exact⟨f,x,q,fun f' hf=>F8 hf h1,h2⟩
theorem VZ(he:nL l)(hend:pM s l):∀(n:Nat) (fn:Fn) (p:PS),p.k<l.length->Xq l p fn->(l.length - p.k)*100+nT fn<n->QU s l fn p:=by
 intro n
 induction n with
 | zero=>intro fn p _ _ h;omega
 | succ n ih=>
  intro fn p hp hr hn
  have E:∀(lv:Nat) (q:PS),q.k<l.length->1<=lv->lv<=7->(l.length - q.k)*100+(40 - 2*lv)<n->∃f t q',(∀f',f<=f'->aO s l f' (.expr lv) q=some ([t],q'))/\Le l q q':=fun lv q hq h1 h7 h=>by
   obtain⟨f,t,q',h2,h3,_⟩:=ry (ih (.expr lv) q hq ⟨h1,h7⟩ h) rfl;exact⟨f,t,q',h2,h3⟩
  have B:∀(q:PS),q.k<l.length->(l.length - q.k)*100+45<n->∃f t q',(∀f',f<=f'->aO s l f' .block q=some ([t],q'))/\Le l q q':=fun q hq h=>by
   obtain⟨f,t,q',h2,h3,_⟩:=ry (ih .block q hq trivial h) rfl;exact⟨f,t,q',h2,h3⟩
  cases fn with
  | expr lv=>
   obtain⟨h1,h7⟩:=hr;simp only[nT]at hn;by_cases h3:lv=3
   ·subst h3
    by_cases hw:bM s l p [110,111,116]=true
    ·have hrd:=dS he hp (fF hw)
     obtain⟨f,t,q,h4,h5⟩:=E 3 (aC l p) hrd.1.2 (by omega) (by omega) (by have:=hrd.2;omega);refine eT (x:=aI l q p.k 28 [110,111,116] [t]) (f:=f+1) (hrd.1.trans h5) ?_ (by trivial);rw[aO,if_pos rfl,if_pos hw,iq (h4 f (aab _))]
    ·obtain⟨f,t,q,h4,h5⟩:=E 4 p hp (by omega) (by omega) (by omega)
     refine eT (x:=t) (f:=f+1) (h5) ?_ (by trivial);rw[aO,if_pos rfl,if_neg hw];exact h4 f (aab _)
   ·by_cases h77:lv=7
    ·subst h77
     by_cases hw:bM s l p [45]=true
     ·have hrd:=dS he hp (fF hw)
      obtain⟨f,t,q,h4,h5⟩:=E 7 (aC l p) hrd.1.2 (by omega) (by omega) (by have:=hrd.2;omega);refine eT (x:=aI l q p.k 28 [45] [t]) (f:=f+1) (hrd.1.trans h5) ?_ (by trivial);rw[aO,if_neg h3,if_pos rfl,if_pos hw,iq (h4 f (aab _))]
     ·obtain⟨f,t,q,h4,h5,_⟩:=ry (ih .operand p hp trivial (by simp only[nT];omega)) rfl
      refine eT (x:=t) (f:=f+1) (h5) ?_ (by trivial);rw[aO,if_neg h3,if_pos rfl,if_neg hw];exact h4 f (aab _)
    ·obtain⟨f,t,q,h4,h5⟩:=E (lv+1) p hp (by omega) (by omega) (by omega)
     obtain⟨f2,t2,q2,h6,Qe,_⟩:=ry (ih (.sS lv p.k t) q h5.2 (show lv<=6 by omega) (by simp only[nT];have:=h5.1;omega)) rfl;refine eT (x:=t2) (f:=max f f2+1) (h5.trans Qe) ?_ (by trivial);rw[aO,if_neg h3,if_neg h77,iq (h4 _ (Nat.le_max_left _ _))];exact h6 _ (Nat.le_max_right _ _)
  | sS lv first x=>
   have hr':lv<=6:=hr;simp only[nT]at hn;by_cases ho:xX s l p lv=true
   ·have hk:bP l p≠5:=by unfold xX at ho;simp at ho;exact ho.1
    have hrd:=dS he hp hk;obtain⟨f,t,q,h4,h5⟩:=E (lv+1) (aC l p) hrd.1.2 (by omega) (by omega) (by have:=hrd.2;omega);by_cases h44:lv=4
    ·refine eT (x:=aI l q first 29 (bR s l p.k) [x,t]) (f:=f+1) (hrd.1.trans h5) ?_ (by trivial)
     rw[aO,if_pos ho,iq (h4 f (aab _))];try simp only
     rw[if_pos h44]
    ·obtain⟨f2,t2,q2,h6,Qe,_⟩:=ry (ih (.sS lv first (aI l q first 29 (bR s l p.k) [x,t])) q h5.2 hr' (by simp only[nT];have:=h5.1;have:=hrd.2;omega)) rfl
     refine eT (x:=t2) (f:=max f f2+1) ((hrd.1.trans h5).trans Qe) ?_ (by trivial);rw[aO,if_pos ho,iq (h4 _ (Nat.le_max_left _ _))];try simp only
     rw[if_neg h44];exact h6 _ (Nat.le_max_right _ _)
   ·refine eT (x:=x) (f:=1) (le_refl hp) ?_ (by trivial)
    rw[aO,if_neg ho]
  | operand=>
   simp only[nT]at hn;by_cases h1:bP l p=2
   ·refine eT (x:=aI l (aC l p) p.k 24 (gV (bR s l p.k)) []) (f:=1) ((dS he hp (by rw[h1];decide)).1) ?_ (by trivial)
    rw[aO,if_pos h1]
   by_cases h2:(bM s l p [116,114,117,101] || bM s l p [102,97,108,115,101])=true
   ·have hk:bP l p≠5:=by
     rw[Bool.or_eq_true]at h2;rcases h2 with h2|h2<;>exact fF h2
    refine eT (x:=aI l (aC l p) p.k 25 (bR s l p.k) []) (f:=1) ((dS he hp hk).1) ?_ (by trivial);rw[aO,if_neg h1,if_pos h2]
   by_cases h3:(decide (bP l p=0)&&decide (oo s l p=[40]))=true
   ·have h3':=h3
    simp at h3';have hrd:=dS he hp (by rw[h3'.1];decide);have hk2:=G7 hend h3'.2;obtain⟨f,x,q,h4,h5⟩:=vD (ih .args (aC l p) hrd.1.2 hk2 (by simp only[nT];have:=hrd.2;omega));refine eT (x:=aI l q p.k 27 (bR s l p.k) x) (f:=f+1) (hrd.1.trans h5) ?_ (by trivial);rw[aO,if_neg h1,if_neg h2,if_pos h3,zJ (h4 f (aab _))]
   by_cases h4:bP l p=0
   ·obtain⟨f,t,q,h5,h6,_⟩:=ry (ih .place p hp trivial (by simp only[nT];omega)) rfl
    refine eT (x:=t) (f:=f+1) (h6) ?_ (by trivial);rw[aO,if_neg h1,if_neg h2,if_neg h3,if_pos h4];exact h5 f (aab _)
   by_cases h5:bM s l p [91]=true
   ·have hrd:=dS he hp (fF h5)
    obtain⟨f,t,q,h6,h7⟩:=E 1 (aC l p) hrd.1.2 (by omega) (by omega) (by have:=hrd.2;omega);obtain⟨f2,x2,q2,h8,h9⟩:=vD (ih (.oq [t]) q h7.2 trivial (by simp only[nT];have:=hrd.2;have:=h7.1;omega));refine eT (x:=aI l (aH s l q2 [93]) p.k 26 [] x2) (f:=max f f2+1) ((hrd.1.trans h7).trans (h9.trans (eU (s:=s) (w:=[93]) he h9.2))) ?_ (by trivial);rw[aO,if_neg h1,if_neg h2,if_neg h3,if_neg h4,if_pos h5,iq (h6 _ (Nat.le_max_left _ _)),zJ (h8 _ (Nat.le_max_right _ _))]
   by_cases h6:bM s l p [108,101,110]=true
   ·have hrd:=dS he hp (fF h6)
    have a1:=eU (s:=s) (w:=[40]) he hrd.1.2;have a2:=Wl (s:=s) he a1.2;have a3:=eU (s:=s) (w:=[41]) he a2.2;refine eT (x:=aI l (aH s l (kW s l (aH s l (aC l p) [40])).2 [41]) p.k 23 [] [(kW s l (aH s l (aC l p) [40])).1]) (f:=1) (((hrd.1.trans a1).trans a2).trans a3) ?_ (by trivial);rw[aO,if_neg h1,if_neg h2,if_neg h3,if_neg h4,if_neg h5,if_pos h6]
   by_cases h7:bM s l p [40]=true
   ·have hrd:=dS he hp (fF h7)
    obtain⟨f,t,q,h8,h9⟩:=E 1 (aC l p) hrd.1.2 (by omega) (by omega) (by have:=hrd.2;omega);refine eT (x:=t) (f:=f+1) ((hrd.1.trans h9).trans (eU (s:=s) (w:=[41]) he h9.2)) ?_ (by trivial);rw[aO,if_neg h1,if_neg h2,if_neg h3,if_neg h4,if_neg h5,if_neg h6,if_pos h7,iq (h8 f (aab _))]
   ·refine eT (x:=aI l (iK l p 5 []) p.k 1 [] []) (f:=1) (wI (c:=5) (t:=[]) hp) ?_ (by trivial)
    rw[aO,if_neg h1,if_neg h2,if_neg h3,if_neg h4,if_neg h5,if_neg h6,if_neg h7]
  | args=>
   have hk:bP l p≠5:=hr;simp only[nT]at hn;have hrd:=dS he hp hk;by_cases h1:bM s l (aC l p) [41]=true
   ·refine zM (x:=[]) (f:=1) (hrd.1.trans (eU (s:=s) (w:=[41]) he hrd.1.2)) ?_ rfl (by trivial)
    rw[aO];rw[if_pos h1]
   ·obtain⟨f,t,q,h6,h7⟩:=E 1 (aC l p) hrd.1.2 (by omega) (by omega) (by have:=hrd.2;omega)
    obtain⟨f2,x2,q2,h8,h9⟩:=vD (ih (.oq [t]) q h7.2 trivial (by simp only[nT];have:=hrd.2;have:=h7.1;omega));refine zM (x:=x2) (f:=max f f2+1) ((hrd.1.trans h7).trans (h9.trans (eU (s:=s) (w:=[41]) he h9.2))) ?_ rfl (by trivial);rw[aO];try simp only
    rw[if_neg h1,iq (h6 _ (Nat.le_max_left _ _)),zJ (h8 _ (Nat.le_max_right _ _))]
  | oq kids=>
   simp only[nT]at hn;by_cases h1:bM s l p [44]=true
   ·have hrd:=dS he hp (fF h1)
    obtain⟨f,t,q,h6,h7⟩:=E 1 (aC l p) hrd.1.2 (by omega) (by omega) (by have:=hrd.2;omega);obtain⟨f2,x2,q2,h8,h9⟩:=vD (ih (.oq (kids++[t])) q h7.2 trivial (by simp only[nT];have:=hrd.2;have:=h7.1;omega));refine zM (x:=x2) (f:=max f f2+1) ((hrd.1.trans h7).trans h9) ?_ rfl (by trivial);rw[aO,if_pos h1,iq (h6 _ (Nat.le_max_left _ _))];exact h8 _ (Nat.le_max_right _ _)
   ·refine zM (x:=kids) (f:=1) (le_refl hp) ?_ rfl (by trivial)
    rw[aO,if_neg h1]
  | place=>
   simp only[nT]at hn;have hv:=Wl (s:=s) he hp;have hlt:=fun h=>lt_var (s:=s) he hp h
   by_cases h1:bM s l (kW s l p).2 [91]=true
   ·have hrd:=dS he hv.2 (fF h1)
    obtain⟨f,t,q,h6,h7⟩:=E 1 (aC l (kW s l p).2) hrd.1.2 (by omega) (by omega) (by have:=hrd.2;have:=hv.1;omega);refine eT (x:=aI l (aH s l q [93]) p.k 21 [] [(kW s l p).1,t]) (f:=f+1) (((hv.trans hrd.1).trans h7).trans (eU (s:=s) (w:=[93]) he h7.2)) ?_ (fun h=>by have:=hlt h;have:=((hrd.1.trans h7).trans (eU (s:=s) (w:=[93]) he h7.2)).1;omega);rw[aO];try simp only
    rw[if_pos h1,iq (h6 f (aab _))]
   by_cases h2:bM s l (kW s l p).2 [46]=true
   ·have hrd:=dS he hv.2 (fF h2)
    refine eT (x:=aI l (dG l (aC l (kW s l p).2)) p.k 22 (dF s l (aC l (kW s l p).2)) [(kW s l p).1]) (f:=1) ((hv.trans hrd.1).trans (uw he hrd.1.2)) ?_ (fun h=>by have:=hlt h;have:=(hrd.1.trans (uw he hrd.1.2)).1;omega);rw[aO];rw[if_neg h1,if_pos h2]
   ·refine eT (x:=(kW s l p).1) (f:=1) hv ?_ hlt
    rw[aO];rw[if_neg h1,if_neg h2]
  | stmt=>
   simp only[nT]at hn;by_cases h1:bM s l p [118,97,114]=true
   ·have hrd:=dS he hp (fF h1)
    have a1:=uw he hrd.1.2;have a2:=OT (s:=s) he a1.2;have a3:=eU (s:=s) (w:=[61]) he a2.2;have hall:=((hrd.1.trans a1).trans a2).trans a3;have hlt:p.k<(aH s l (jb s l (dG l (aC l p))).2 [61]).k:=by have:=hrd.2;have:=((a1.trans a2).trans a3).1;omega
    obtain⟨f,t,q,h6,h7⟩:=E 1 (aH s l (jb s l (dG l (aC l p))).2 [61]) a3.2 (by omega) (by omega) (by omega);have h8:=eU (s:=s) (w:=[59]) he h7.2;refine eT (x:=aI l (aH s l q [59]) p.k 12 (dF s l (aC l p)) [(jb s l (dG l (aC l p))).1,t]) (f:=f+1) ((hall.trans h7).trans h8) ?_ (fun _=>?_)
    ·rw[aO]
     try simp only
     rw[if_pos h1,iq (h6 f (aab _))]
    ·have:=h7.1;have:=h8.1;omega
   by_cases h2:bM s l p [105,102]=true
   ·obtain⟨f,t,q,h6,h7,h8⟩:=ry (ih .branch p hp (fF h2) (by simp only[nT];omega)) rfl
    refine eT (x:=t) (f:=f+1) h7 ?_ (fun _=>h8);rw[aO];try simp only
    rw[if_neg h1,if_pos h2];exact h6 f (aab _)
   by_cases h3:bM s l p [119,104,105,108,101]=true
   ·have hrd:=dS he hp (fF h3)
    obtain⟨f1,t1,q1,a1,b1⟩:=E 1 (aC l p) hrd.1.2 (by omega) (by omega) (by have:=hrd.2;omega);obtain⟨f2,t2,q2,a2,b2⟩:=B q1 b1.2 (by have:=hrd.2;have:=b1.1;omega);refine eT (x:=aI l q2 p.k 15 [] [t1,t2]) (f:=max f1 f2+1) ((hrd.1.trans b1).trans b2) ?_ (fun _=>?_)
    ·rw[aO]
     try simp only
     rw[if_neg h1,if_neg h2,if_pos h3,iq (a1 _ (Nat.le_max_left _ _)),iq (a2 _ (Nat.le_max_right _ _))]
    ·have:=hrd.2;have:=b1.1;have:=b2.1;omega
   by_cases h4:bM s l p [102,111,114]=true
   ·have hrd:=dS he hp (fF h4)
    have a1:=uw he hrd.1.2;have a2:=eU (s:=s) (w:=[61]) he a1.2;obtain⟨f1,t1,q1,c1,b1⟩:=E 1 (aH s l (dG l (aC l p)) [61]) a2.2 (by omega) (by omega) (by have:=hrd.2;have:=(a1.trans a2).1;omega);have a3:=eU (s:=s) (w:=[116,111]) he b1.2;obtain⟨f2,t2,q2,c2,b2⟩:=E 1 (aH s l q1 [116,111]) a3.2 (by omega) (by omega) (by have:=hrd.2;have:=(((a1.trans a2).trans b1).trans a3).1;omega);obtain⟨f3,t3,q3,c3,b3⟩:=B q2 b2.2 (by have:=hrd.2;have:=((((a1.trans a2).trans b1).trans a3).trans b2).1;omega);refine eT (x:=aI l q3 p.k 16 (dF s l (aC l p)) [t1,t2,t3]) (f:=max f1 (max f2 f3)+1) ((((((hrd.1.trans a1).trans a2).trans b1).trans a3).trans b2).trans b3) ?_ (fun _=>?_)
    ·rw[aO]
     try simp only
     rw[if_neg h1,if_neg h2,if_neg h3,if_pos h4,iq (c1 _ (Nat.le_max_left _ _)),iq (c2 _ (aac (Nat.le_max_left _ _) (Nat.le_max_right _ _))),iq (c3 _ (aac (Nat.le_max_right _ _) (Nat.le_max_right _ _)))]
    ·have:=hrd.2;have:=(((((a1.trans a2).trans b1).trans a3).trans b2).trans b3).1;omega
   by_cases h5:bM s l p [114,101,116,117,114,110]=true
   ·have hrd:=dS he hp (fF h5)
    by_cases h6:(C8 s l (aC l p) || bM s l (aC l p) [110,111,116] || bM s l (aC l p) [45])=true
    ·obtain⟨f1,t1,q1,c1,b1⟩:=E 1 (aC l p) hrd.1.2 (by omega) (by omega) (by have:=hrd.2;omega)
     have a3:=eU (s:=s) (w:=[59]) he b1.2;refine eT (x:=aI l (aH s l q1 [59]) p.k 17 [] [t1]) (f:=f1+1) ((hrd.1.trans b1).trans a3) ?_ (fun _=>?_)
     ·rw[aO]
      try simp only
      rw[if_neg h1,if_neg h2,if_neg h3,if_neg h4,if_pos h5,if_pos h6,iq (c1 _ (aab _))]
     ·have:=hrd.2;have:=(b1.trans a3).1;omega
    ·have a3:=eU (s:=s) (w:=[59]) he hrd.1.2
     refine eT (x:=aI l (aH s l (aC l p) [59]) p.k 17 [] [aI l (aC l p) (aC l p).k 0 [] []]) (f:=1) (hrd.1.trans a3) ?_ (fun _=>?_)
     ·rw[aO]
      try simp only
      rw[if_neg h1,if_neg h2,if_neg h3,if_neg h4,if_pos h5,if_neg h6]
     ·have:=hrd.2;have:=a3.1;omega
   by_cases h6:bM s l p [97,115,115,101,114,116]=true
   ·have hrd:=dS he hp (fF h6)
    obtain⟨f1,t1,q1,c1,b1⟩:=E 1 (aC l p) hrd.1.2 (by omega) (by omega) (by have:=hrd.2;omega);have a3:=eU (s:=s) (w:=[59]) he b1.2;refine eT (x:=aI l (aH s l q1 [59]) p.k 18 [] [t1]) (f:=f1+1) ((hrd.1.trans b1).trans a3) ?_ (fun _=>?_)
    ·rw[aO]
     try simp only
     rw[if_neg h1,if_neg h2,if_neg h3,if_neg h4,if_neg h5,if_pos h6,iq (c1 _ (aab _))]
    ·have:=hrd.2;have:=(b1.trans a3).1;omega
   by_cases h7:(decide (bP l p=0)&&decide (oo s l p=[40]))=true
   ·have Qe:=h7
    simp at Qe;have hrd:=dS he hp (by rw[Qe.1];decide);have hk2:=G7 hend Qe.2;obtain⟨f,x,q,h8,h9⟩:=vD (ih .args (aC l p) hrd.1.2 hk2 (by simp only[nT];have:=hrd.2;omega));have a3:=eU (s:=s) (w:=[59]) he h9.2;refine eT (x:=aI l (aH s l q [59]) p.k 19 (bR s l p.k) x) (f:=f+1) ((hrd.1.trans h9).trans a3) ?_ (fun _=>?_)
    ·rw[aO]
     try simp only
     rw[if_neg h1,if_neg h2,if_neg h3,if_neg h4,if_neg h5,if_neg h6,if_pos h7,zJ (h8 f (aab _))]
    ·have:=hrd.2;have:=(h9.trans a3).1;omega
   by_cases h8:bP l p=0
   ·obtain⟨f1,t1,q1,c1,b1,hpl⟩:=ry (ih .place p hp trivial (by simp only[nT];omega)) rfl
    have hlt:p.k<q1.k:=hpl h8;have a1:=eU (s:=s) (w:=[61]) he b1.2;obtain⟨f2,t2,q2,c2,b2⟩:=E 1 (aH s l q1 [61]) a1.2 (by omega) (by omega) (by have:=a1.1;omega);have a3:=eU (s:=s) (w:=[59]) he b2.2;refine eT (x:=aI l (aH s l q2 [59]) p.k 13 [] [t1,t2]) (f:=max f1 f2+1) (((b1.trans a1).trans b2).trans a3) ?_ (fun _=>?_)
    ·rw[aO]
     try simp only
     rw[if_neg h1,if_neg h2,if_neg h3,if_neg h4,if_neg h5,if_neg h6,if_neg h7,if_pos h8,iq (c1 _ (Nat.le_max_left _ _)),iq (c2 _ (Nat.le_max_right _ _))]
    ·have:=((a1.trans b2).trans a3).1;omega
   ·obtain⟨f,x,q,c1,c2,c3⟩:=Ty (s:=s) he hp
    refine eT (x:=x) (f:=f+1) c2 ?_ c3;rw[aO];try simp only
    rw[if_neg h1,if_neg h2,if_neg h3,if_neg h4,if_neg h5,if_neg h6,if_neg h7,if_neg h8,c1]
  | block=>
   simp only[nT]at hn;by_cases h1:bM s l p [123]=true
   ·have hrd:=dS he hp (fF h1)
    obtain⟨f2,x2,q2,h8,h9⟩:=vD (ih (.qi []) (aC l p) hrd.1.2 trivial (by simp only[nT];have:=hrd.2;omega));refine eT (x:=aI l (aH s l q2 [125]) p.k 11 [] x2) (f:=f2+1) ((hrd.1.trans h9).trans (eU (s:=s) (w:=[125]) he h9.2)) ?_ (by trivial);rw[aO,if_pos h1,zJ (h8 _ (aab _))]
   ·refine eT (x:=aI l (iK l p 4 [123]) p.k 11 [] []) (f:=1) (wI (c:=4) (t:=[123]) hp) ?_ (by trivial)
    rw[aO,if_neg h1]
  | qi kids=>
   simp only[nT]at hn;by_cases h1:ko s l p=true
   ·refine zM (x:=kids) (f:=1) (le_refl hp) ?_ rfl (by trivial)
    rw[aO,if_pos h1]
   ·have h1':ko s l p=false:=by simpa using h1
    obtain⟨f,t,q,h6,h7,h8⟩:=ry (ih .stmt p hp trivial (by simp only[nT];omega)) rfl;have hlt:p.k<q.k:=h8 h1';obtain⟨f2,x2,q2,h9,h10⟩:=vD (ih (.qi (kids++[t])) q h7.2 trivial (by simp only[nT];omega));refine zM (x:=x2) (f:=max f f2+1) (h7.trans h10) ?_ rfl (by trivial);rw[aO,if_neg h1,iq (h6 _ (Nat.le_max_left _ _))];exact h9 _ (Nat.le_max_right _ _)
  | branch=>
   have hk:bP l p≠5:=hr;simp only[nT]at hn;have hrd:=dS he hp hk;obtain⟨f1,t1,q1,a1,b1⟩:=E 1 (aC l p) hrd.1.2 (by omega) (by omega) (by have:=hrd.2;omega);obtain⟨f2,t2,q2,a2,b2⟩:=B q1 b1.2 (by have:=hrd.2;have:=b1.1;omega);have hq2:p.k<q2.k:=by have:=hrd.2;have:=b1.1;have:=b2.1;omega
   have hle:=(hrd.1.trans b1).trans b2;by_cases h1:bM s l q2 [101,108,115,101]=true
   ·have hr2:=dS he b2.2 (fF h1)
    by_cases h2:bM s l (aC l q2) [105,102]=true
    ·obtain⟨f3,t3,q3,a3,b3,c3⟩:=ry (ih .branch (aC l q2) hr2.1.2 (fF h2) (by simp only[nT];have:=hr2.2;omega)) rfl
     refine eT (x:=aI l q3 p.k 14 [] [t1,t2,t3]) (f:=max f1 (max f2 f3)+1) ((hle.trans hr2.1).trans b3) ?_ ?_
     ·rw[aO,iq (a1 _ (Nat.le_max_left _ _)),iq (a2 _ (aac (Nat.le_max_left _ _) (Nat.le_max_right _ _))),if_pos h1,if_pos h2,iq (a3 _ (aac (Nat.le_max_right _ _) (Nat.le_max_right _ _)))]
     ·have:=b3.1;have:=hr2.2;show p.k<q3.k;omega
    ·obtain⟨f3,t3,q3,a3,b3⟩:=B (aC l q2) hr2.1.2 (by have:=hr2.2;omega)
     refine eT (x:=aI l q3 p.k 14 [] [t1,t2,t3]) (f:=max f1 (max f2 f3)+1) ((hle.trans hr2.1).trans b3) ?_ ?_
     ·rw[aO,iq (a1 _ (Nat.le_max_left _ _)),iq (a2 _ (aac (Nat.le_max_left _ _) (Nat.le_max_right _ _))),if_pos h1,if_neg h2,iq (a3 _ (aac (Nat.le_max_right _ _) (Nat.le_max_right _ _)))]
     ·have:=b3.1;have:=hr2.2;show p.k<q3.k;omega
   ·refine eT (x:=aI l q2 p.k 14 [] [t1,t2,aI l q2 q2.k 0 [] []]) (f:=max f1 f2+1) (hle) ?_ hq2
    rw[aO,iq (a1 _ (Nat.le_max_left _ _)),iq (a2 _ (Nat.le_max_right _ _)),if_neg h1]
end
open Go.RowKit
def kg(t:jP):List Value:=[.int .i64 (t.kind:Int),.int .i64 (t.from_:Int),.int .i64 (t.at_:Int),.int .i64 (t.end_:Int)]
def cO(d:Dg):List Value:=[.int .i64 d.code,.int .i64 d.at_,.int .i64 d.end_,.string d.text,.slice none 0 0]
def uS(l:List jP)(p:PS):Prop:=(p.ds.Pairwise fun a b=>a.at_<b.at_)/\∀d∈p.ds,0<=d.at_/\d.at_<=((iG l p.k).at_:Int)
theorem OL:∀(ds:List Dg) (lo hi:Int),lo<=hi+1->(ds.Pairwise fun a b=>a.at_<b.at_)->(∀d∈ds,lo<=d.at_/\d.at_<=hi)->(ds.length:Int)<=hi - lo+1
 | [],lo,hi,h0,_,_=>by simp;omega
 | d::ds,lo,hi,_,hp,hb=>by
  rw[List.pairwise_cons]at hp;have hd:=hb d (by simp);have:=OL ds (d.at_+1) hi (by omega) hp.2 (fun x hx=>⟨by have:=hp.1 x hx;omega,(hb x (by simp[hx])).2⟩);simp only[aao];omega
theorem uS.len{l:List jP}{p:PS}(h:uS l p){m:Nat}(hm:(iG l p.k).at_<=m):p.ds.length<=m+1:=by
 have:=OL p.ds 0 (m:Int) (by omega) h.1 (fun d hd=>⟨(h.2 d hd).1,by have:=(h.2 d hd).2;omega⟩);omega
theorem uS.rep{l:List jP}{p:PS}(h:uS l p)(c:Int)(t:bE):uS l (iK l p c t):=by
 have push:(∀d∈p.ds,d.at_<((iG l p.k).at_:Int))->uS l { p with ds:=p.ds++[⟨c,(iG l p.k).at_,(iG l p.k).end_,bI t⟩] }:=fun hlt=>by
  refine⟨?_,fun d hd=>?_⟩
  ·rw[List.pairwise_append]
   exact⟨h.1,List.pairwise_singleton _ _,fun a ha b hb=>by simp at hb;subst hb;exact hlt a ha⟩
  ·simp only[List.mem_append,List.mem_singleton]at hd
   rcases hd with hd|rfl
   ·exact h.2 d hd
   ·exact⟨by simp only;omega,by simp only;omega⟩
 unfold iK;split
 ·rename_i d hd
  split
  ·exact h
  ·rename_i hne
   refine push fun x hx=>?_
   have Pt:=List.mem_of_getLast? hd
   have hle:x.at_<=d.at_:=by
    rw[List.getLast?_eq_some_iff]at hd;obtain⟨ys,hys⟩:=hd;have hp:=h.1;rw[hys]at hp hx;rw[List.pairwise_append]at hp;simp only[List.mem_append,List.mem_singleton]at hx;rcases hx with hx|rfl
    ·have:=hp.2.2 x hx d (by simp);omega
    ·omega
   have:=(h.2 d Pt).2;omega
 ·rename_i hn
  refine push fun x hx=>?_
  rw[List.getLast?_eq_none_iff]at hn;rw[hn]at hx;cases hx
theorem uS.read{l:List jP}{p:PS}(h:uS l p)(hm:(iG l p.k).at_<=(iG l (p.k+1)).at_):uS l (aC l p):=
 ⟨h.1,fun d hd=>⟨(h.2 d hd).1,by have:=(h.2 d hd).2;show d.at_<=((iG l (p.k+1)).at_:Int);omega⟩⟩
structure PE where
 gp:Nat
 lo:Nat
 s:ByteArray
 l:List jP
 A:Option Addr
 n:Nat
 c:Nat
def PE.bs(E:PE):bE:=E.s.data.toList
structure PE.Ok (E:PE):Prop where
 len:E.l.length=E.n
 most:E.n<=5000
 size:E.s.size<=4096
 tok:∀t∈E.l,t.from_<=t.at_/\t.at_<=t.end_/\t.end_<=E.s.size/\t.kind<=5
 ends:nL E.l
 empty:pM E.bs E.l
 mono:∀k,k+1<E.l.length->(iG E.l k).at_<=(iG E.l (k+1)).at_
 low:E.lo<=E.gp
structure PV where
 st:PS
 lv:Value
structure PW (w:World) (E:PE) (v:PV):Prop where
 blk:ak w E.gp 130 #[.string E.s,.slice E.A E.n E.c,.int .i64 (v.st.k:Int),.int .i64 (v.st.last:Int),v.lv]
 own:aP w E.lo 78 5 v.lv v.st.ds.length (v.st.ds.flatMap cO)
 toks:aP w E.lo 186 4 (.slice E.A E.n E.c) E.n (E.l.flatMap kg)
 at_:v.st.k<E.n
 good:uS E.l v.st
 last:v.st.last<=4096
structure PM (E:PE) (w:World) (v:PV) (w':World) (v':PV):Prop where
 since:aA (fun g=>g=E.gp\/v.lv.ownBlock=some g) w w'
 fresh:v'.lv.ownBlock=v.lv.ownBlock\/∀g,v'.lv.ownBlock=some g->w.heap.size<=g
theorem PM.trans{E:PE}{w w1 w2:World}{v v1 v2:PV}(h:PM E w v w1 v1)(k:PM E w1 v1 w2 v2):PM E w v w2 v2:=by
 refine⟨h.since.step k.since (fun g hg=>?_),?_⟩
 ·rcases hg with hg|hg
  ·exact .inl (.inl hg)
  ·rcases h.fresh with h1|h1
   ·exact .inl (.inr (h1 ▸ hg))
   ·exact .inr (h1 g hg)
 ·rcases k.fresh with h1|h1
  ·rw[h1]
   exact h.fresh
  ·exact .inr fun g hg=>aac h.since.size (h1 g hg)
theorem PM.of_below{E:PE}{w w':World}{v:PV}(hb:Below w.heap.size w w'):PM E w v w' v:=⟨(aA.refl _ w).below hb,.inl rfl⟩
theorem PW.below{w w':World}{E:PE}{v:PV}(h:PW w E v)(hb:Below w.heap.size w w'):PW w' E v:=
 ⟨h.blk.below hb h.blk.lt,h.own.below hb (fun g hg=>(h.own.lt g hg).2),h.toks.below hb (fun g hg=>(h.toks.lt g hg).2),h.at_,h.good,h.last⟩
theorem PM.dZ{P:Nat->Prop}{E:PE}{w w':World}{v v':PV}(hm:PM E w v w' v')(h:PW w E v):dB P w w':=fun g cs _ hc=>by
 refine hm.since.block g (aae.1 hc).1 ?_;rintro(rfl|hg)
 ·have:=h.blk
  unfold ak at this;rw[hc]at this;simp at this
 ·obtain⟨cs',hc'⟩:=h.own.typed hg
  rw[hc]at hc';simp at hc'
theorem PM.below{E:PE}{w w':World}{v v':PV}(hm:PM E w v w' v')(h:PW w E v){B:Nat}(hB:B<=E.lo)(hlo:E.lo<=E.gp):Below B w w':=
 hm.since.toBelow (by have:=h.blk.lt;omega) (fun g hg=>by
  rcases hg with rfl|hg
  ·omega
  ·have:=(h.own.lt g hg).1;omega)
theorem PW.tok{w:World}{E:PE}{v:PV}(h:PW w E v)(hE:E.Ok){k:Nat}(hk:k<E.n):∃b off,E.A=some ⟨b,off,none⟩/\b<w.heap.size /\
 w.cell? ⟨b,off+k*4,none⟩=some (.int .i64 ((iG E.l k).kind:Int))/\w.cell? ⟨b,off+k*4+1,none⟩=some (.int .i64 ((iG E.l k).from_:Int)) /\
 w.cell? ⟨b,off+k*4+2,none⟩=some (.int .i64 ((iG E.l k).at_:Int))/\w.cell? ⟨b,off+k*4+3,none⟩=some (.int .i64 ((iG E.l k).end_:Int)):=by
 have hr:=h.toks.rowAt (cells:=kg) (l:=E.l) rfl rfl (by intro c _;rfl) hE.len;have hkl:k<E.l.length:=by rw[hE.len];exact hk
 have hg:E.l[k]? =some (iG E.l k):=by
  unfold iG;rw[List.getD_eq_getElem?_getD,aaf hkl];rfl
 obtain⟨b,off,hA,hb,hc⟩:=hr k _ hg;exact⟨b,off,hA,hb,hc 0 _ rfl,hc 1 _ rfl,hc 2 _ rfl,hc 3 _ rfl⟩
theorem PE.Ok.get{E:PE}(hE:E.Ok)(k:Nat):(iG E.l k).at_<=(iG E.l k).end_/\(iG E.l k).end_<=E.s.size/\(iG E.l k).kind<=5:=by
 unfold iG;rw[List.getD_eq_getElem?_getD]
 cases hk:E.l[k]? with
 | none=>simp[XY]
 | some t=>
  have:=hE.tok t (aan hk);exact⟨this.2.1,this.2.2.1,this.2.2.2⟩
theorem NU:(Tryz.prog.info? 186).map (fun i=>(i.zero,i.size,i.bytes))=some (some (.agg #[.int .i64 0,.int .i64 0,.int .i64 0,.int .i64 0]),4,32):=by kernel_rfl
theorem vK(w:World)(g:Nat)(a b c d:Value)(h0:w.cell? ⟨g,0,none⟩=some a)(h1:w.cell? ⟨g,1,none⟩=some b)(h2:w.cell? ⟨g,2,none⟩=some c)(h3:w.cell? ⟨g,3,none⟩=some d):
 ∀j v,[a,b,c,d][j]? =some v->w.cell? ((⟨g,0,none⟩:Addr).add j)=some v:=by
 intro j v hj
 match j,hj with
 | 0,hj=>simp at hj;subst hj;exact h0
 | 1,hj=>simp at hj;subst hj;exact h1
 | 2,hj=>simp at hj;subst hj;exact h2
 | 3,hj=>simp at hj;subst hj;exact h3
 | j+4,hj=>simp at hj
def ScanRes(w:World)(l:List jP)(e:Ending)(w':World):Prop:=
 ∃v,e= .returned (.tuple #[v,.int .i64 0])/\aP w' w.heap.size 186 4 v l.length (l.flatMap kg)/\Below w.heap.size w w'
theorem Qu(s:ByteArray)(w:World)(hs:s.size<=4096):Calls Tryz.prog 123 #[.string s] w (ScanRes w (qV s.data.toList)):=by
 obtain⟨i0,hi0,hz0,hz1,hz2⟩:=info_parts NU;have hgt:¬(4096:Int)<s.size:=by omega
 go_enter Tryz.func123,Tryz.ntmps123
 go_wp2_with fail
 go_loopg [4,5] (s.size) (fun gk s4 s5 wr=> ∃(f k:Nat) (pre:List jP),k+gk=s.size/\s5= .int .i64 k/\qV s.data.toList=pre++ui s.data.toList f k/\s.size<f+k/\aP wr w.heap.size 186 4 s4 pre.length (pre.flatMap kg)/\pre.length<=k/\Below w.heap.size w wr)
 case atStart=>exact⟨s.size+1,0,[],by omega,rfl,by rw[qV,dm];rfl,by omega,aP.block (n:=0) (cur:=#[]) (aab _) (ak.new w 186 #[]) (by simp[maxLen]) rfl,aab _,by(repeat (first|exact Below.refl _ _|assumption|refine Below.trans ?_ (Below.mono (by assumption) (by first|omega|(simp;done)|(simp;omega)))|refine Below.alloc ?_ (by first|omega|(simp;done)|(simp;omega)) _|refine Below.setCell ?_ (by first|omega|(simp;done)|(simp;omega)) _|refine Below.drew ?_|refine bq ?_ _))⟩
 case round=>
  obtain⟨f,k,pre,hk,rfl,hsc,hf,hO,hpl,hB⟩:=hrel;have hk':k<=s.size:=by omega
  obtain⟨f,rfl⟩:∃g,f=g+1:=⟨f - 1,by omega⟩
  obtain⟨k1,hk1⟩:∃x,kN s.data.toList (s.size+1) k=x:=⟨_,rfl⟩
  have hspec:=CX (s:=s.data.toList) (s.size+1) k (by rw[dm];exact hk') (by rw[dm];omega);rw[hk1,dm]at hspec;obtain⟨hle,hle2,hstop⟩:=hspec;have Z7:∀w:World,Calls Tryz.prog 179 #[.string s,.int .i64 (k:Int)] w fun e w'=>e= .returned (.int .i64 (k1:Int))/\w=w':=fun w=>by rw[<- hk1];exact Yc s k w hk' hs
  have hstep:ui s.data.toList (f+1) k=if s.size<=k1 then [⟨5,k,k1,k1⟩] else⟨(il s.data.toList k1).1,k,k1,(il s.data.toList k1).2⟩::ui s.data.toList f (il s.data.toList k1).2:=by
   rw[ui,dm,hk1]
  have HK:=kH hk;have Xz:=kH hsc;have HO:=kH hO;have HSKIP:=kH Z7;have BM:=kH hstep;have HSTOP:=kH hstop;obtain⟨n,hn⟩:∃x,pre.length=x:=⟨_,rfl⟩
  obtain⟨A4,c4,hv4,-,-⟩:=hO.shape;subst hv4;rw[hn]at HO hpl⊢;have HN:=kH hn;clear hk hsc hO Z7 hstep hstop hk1 hn;have hbs:=hB.size;by_cases hlt:k1<s.size
  ·have hne:((k1:Int)==s.size)=false:=by simp;omega
   have ht:=BP (s:=s.data.toList) (a:=k1) (by rw[dm];exact hlt) (HSTOP.out hlt).1 (HSTOP.out hlt).2;rw[dm]at ht;have hst:ui s.data.toList (f+1) k=⟨(il s.data.toList k1).1,k,k1,(il s.data.toList k1).2⟩::ui s.data.toList f (il s.data.toList k1).2:=by rw[BM.out,if_neg (by omega)]
   have htk:=fun w=>VK s k1 w hlt hs
   obtain⟨⟨tk,te⟩,RO⟩:∃x,il s.data.toList k1=x:=⟨_,rfl⟩
   rw[RO]at ht hst;simp only[RO]at htk;simp only at ht hst;obtain⟨ht1,ht2,ht3⟩:=ht;have HST:=kH hst;have uI:=kH htk;clear hst htk RO;go_wp2_with fail
   refine(HSKIP.out _).mono ?_;rintro e w' ⟨rfl,rfl⟩;go_wp2_with fail
   refine(uI.out _).mono ?_;rintro e w2 ⟨rfl,hb2⟩;have hz2':=hb2.size;have hown2:=HO.out.below hb2 (fun g hg=>(HO.out.lt g hg).2);have xx:=kH hown2;clear hown2;go_wp2_with (at_builtin;go_must (refine dP _ rfl (.tmp 33) (.tmp 39) _ rfl w.heap.size 186 i0 _ 4 32 Tryz.underlying128 hi0 hz0 hz1 hz2 rfl (.slice A4 n c4) n (pre.flatMap kg) rfl (xx.out.alloc _) ⟨w2.heap.size,0,none⟩ 1 1 (kg ⟨tk,k,k1,te⟩) rfl rfl (vK _ _ _ _ _ _ (by go_simp) (by go_simp) (by go_simp) (by go_simp)) (by simp[kg,Value.oneCell']) (by simp only[maxLen];omega) (by omega) (by simp;omega) ?_);intro v5 w5 hown5 Pp hat5)
   have YH:=fun g hg=>(xx.out.lt g hg).1
   go_roundg (s.size - te)
   case measure=>have:=HK.out;omega
   case rel=>
    refine⟨f,te,pre++[⟨tk,k,k1,te⟩],by omega,rfl,?_,by omega,?_,by simp[HN.out];omega,?_⟩
    ·rw[Xz.out,HST.out,List.append_assoc]
     rfl
    ·rw[aam,HN.out,List.flatMap_append]
     simpa using hown5
    ·exact hB.trans ((((aA.refl (fun g=>w.heap.size<=g) wr).below hb2).alloc (.cells #[.int .i64 (tk:Int),.int .i64 (k:Int),.int .i64 (k1:Int),.int .i64 (te:Int)] 186) |>.grown Pp (fun g hg=>.inl (YH g hg))).toBelow hbs (fun g h=>h))
  ·have hke:k1=s.size:=by omega
   have hst:qV s.data.toList=pre++[⟨5,k,s.size,s.size⟩]:=by rw[Xz.out,BM.out,if_pos (by omega),hke]
   have HST:=kH hst;clear hst;subst hke;have heq:((s.size:Int)==s.size)=true:=by simp
   go_wp2_with fail
   refine(HSKIP.out _).mono ?_;rintro e w' ⟨rfl,rfl⟩;go_wp2_with (at_builtin;go_must (refine dP _ rfl (.tmp 20) (.tmp 25) _ rfl w.heap.size 186 i0 _ 4 32 Tryz.underlying128 hi0 hz0 hz1 hz2 rfl (.slice A4 n c4) n (pre.flatMap kg) rfl (HO.out.alloc _) ⟨wr.heap.size,0,none⟩ 1 1 (kg ⟨5,k,s.size,s.size⟩) rfl rfl (vK _ _ _ _ _ _ (by go_simp) (by go_simp) (by go_simp) (by go_simp)) (by simp[kg,Value.oneCell']) (by simp only[maxLen];omega) (by omega) (by simp;omega) ?_);intro v5 w5 hown5 Pp hat5)
   have YH:=fun g hg=>(HO.out.lt g hg).1
   go_ret2
   refine⟨v5,rfl,?_,?_⟩
   ·rw[HST.out,aam,HN.out,List.flatMap_append]
    simpa using hown5
   ·exact hB.trans ((((aA.refl (fun g=>w.heap.size<=g) wr).alloc (.cells #[.int .i64 5,.int .i64 (k:Int),.int .i64 (s.size:Int),.int .i64 (s.size:Int)] 186)).grown Pp (fun g hg=>.inl (YH g hg))).toBelow hbs (fun g h=>h))
end Go.Proofs.YtoepemlnlpamlaaGreat
