/- The law NamesResolves holds where what it reads is of bulk at most 1048576: it returns true, and its argument reads as before. Part 4: Tree ParT ParE. -/
import Derived.Test.YtoepemlnlpamlaaGreatReso01
import Derived.Test.YtoepemlnlpamlaaGreatReso03
set_option maxRecDepth 100000
set_option maxHeartbeats 4000000
namespace Go.Proofs.YtoepemlnlpamlaaGreat
open Go.RowKit
mutual
def aB(w:World)(P:Nat->Prop):ae->List Value->Prop
 | .node k t a e kids,cs=> ∃A c vals,cs=[.int .i64 k,.string t,.int .i64 a,.int .i64 e,.slice A kids.length c]/\aL w 0 24 5 (.slice A kids.length c) kids.length (List.flatten vals)/\(∀g,(Value.slice A kids.length c).ownBlock=some g->P g)/\bU w P kids vals
def bU(w:World)(P:Nat->Prop):List ae->List (List Value)->Prop
 | [],vals=>vals=[]
 | t::ts,vals=> ∃v vs,vals=v::vs/\aB w P t v/\bU w P ts vs
end
def bW(P:Nat->Prop)(w w':World):Prop:=∀(g:Nat) (cs:Array Value),P g->w.heap[g]? =some (.cells cs 24 (0,0))->w'.heap[g]? =w.heap[g]?
theorem aL.typed{w:World}{base:Nat}{e:TypeId}{size:Nat}{v:Value}{n:Nat}{xs:List Value}(h:aL w base e size v n xs){g:Nat}(hg:v.ownBlock=some g):∃cs,w.heap[g]? =some (.cells cs e (0,0)):=by
 rcases h.2 with⟨rfl,_⟩| ⟨g1,MU,M3,J3,rfl,_,hg1,_⟩
 ·cases hg
 ·have e1:g1=g:=by simpa [Value.ownBlock] using hg
  subst e1;exact⟨_,hg1⟩
theorem aL.dR{P:Nat->Prop}{w w':World}{base:Nat}{v:Value}{n:Nat}{xs:List Value}(h:aL w base 24 5 v n xs)(hP:∀g,v.ownBlock=some g->P g)(hk:bW P w w'):aL w' base 24 5 v n xs:=
 h.of_block fun g hg=>by
  obtain⟨cs,hc⟩:=h.typed hg;exact hk g cs (hP g hg) hc
mutual
theorem aB.keeps{P:Nat->Prop}{w w':World}(hk:bW P w w'):∀(t:ae) (cs:List Value),aB w P t cs->aB w' P t cs
 | .node _ _ _ _ kids,_,h=>by
  obtain⟨A,c,vals,h1,h2,hP,h3⟩:=h;exact⟨A,c,vals,h1,h2.dR hP hk,hP,bU.keeps hk kids vals h3⟩
theorem bU.keeps{P:Nat->Prop}{w w':World}(hk:bW P w w'):∀(ts:List ae) (vals:List (List Value)),bU w P ts vals->bU w' P ts vals
 | [],_,h=>h
 | t::ts,_,h=>by
  obtain⟨v,vs,h1,h2,h3⟩:=h;exact⟨v,vs,h1,aB.keeps hk t v h2,bU.keeps hk ts vs h3⟩
end
mutual
theorem aB.weak{P Q:Nat->Prop}{w:World}(Ru:∀g,g<w.heap.size->P g->Q g):∀(t:ae) (cs:List Value),aB w P t cs->aB w Q t cs
 | .node _ _ _ _ kids,_,h=>by
  obtain⟨A,c,vals,h1,h2,hP,h3⟩:=h;exact⟨A,c,vals,h1,h2,fun g hg=>Ru g (h2.lt g hg).2 (hP g hg),bU.weak Ru kids vals h3⟩
theorem bU.weak{P Q:Nat->Prop}{w:World}(Ru:∀g,g<w.heap.size->P g->Q g):∀(ts:List ae) (vals:List (List Value)),bU w P ts vals->bU w Q ts vals
 | [],_,h=>h
 | t::ts,_,h=>by
  obtain⟨v,vs,h1,h2,h3⟩:=h;exact⟨v,vs,h1,aB.weak Ru t v h2,bU.weak Ru ts vs h3⟩
end
theorem bW.of_below{P:Nat->Prop}{w w':World}(hb:Below w.heap.size w w'):bW P w w':=fun g _ _ h=>hb.block g (abH.1 h).1
theorem aB.len{P:Nat->Prop}{w:World}{t:ae}{cs:List Value}(h:aB w P t cs):cs.length=5:=by
 cases t with
 | node k x a e kids=>
  obtain⟨A,c,vals,rfl,_⟩:=h;rfl
theorem bU.lens{P:Nat->Prop}{w:World}:∀{ts:List ae}{vals:List (List Value)},bU w P ts vals->vals.length=ts.length/\(List.flatten vals).length=ts.length*5
 | [],vals,h=>by
  have:vals=[]:=h;subst this;exact⟨rfl,rfl⟩
 | t::ts,vals,h=>by
  obtain⟨v,vs,rfl,h1,h2⟩:=h;have:=bU.lens h2;have:=aB.len h1;simp only[abR,List.flatten_cons,abP];omega
theorem bU.snoc{P:Nat->Prop}{w:World}:∀{ts:List ae}{vals:List (List Value)}{t:ae}{v:List Value},bU w P ts vals->aB w P t v->bU w P (ts++[t]) (vals++[v])
 | [],vals,t,v,h,ht=>by
  have:vals=[]:=h;subst this;exact⟨v,[],rfl,ht,rfl⟩
 | x::ts,vals,t,v,h,ht=>by
  obtain⟨v1,vs,rfl,h1,h2⟩:=h;exact⟨v1,vs++[v],rfl,h1,bU.snoc h2 ht⟩
def bV(w:World)(lo:Nat)(v:Value)(n:Nat)(ts:List ae):Prop:=
 ∃vals,aL w lo 24 5 v n (List.flatten vals)/\bU w (fun g=>lo<=g/\some g≠v.ownBlock) ts vals/\ts.length=n
theorem bV.keeps{w w':World}{lo:Nat}{v:Value}{n:Nat}{ts:List ae}(h:bV w lo v n ts)(hk:bW (fun g=>lo<=g) w w'):bV w' lo v n ts:=by
 obtain⟨vals,h1,h2,h3⟩:=h;exact⟨vals,h1.dR (fun g hg=>(h1.lt g hg).1) hk,bU.keeps (fun g cs hP hc=>hk g cs hP.1 hc) _ _ h2,h3⟩
theorem bV.nil(w:World)(lo:Nat):bV w lo (.slice none 0 0) 0 []:=⟨[],aL.nil _ _ _ _,rfl,rfl⟩
theorem bV.node{w:World}{lo:Nat}{A:Option Addr}{n c:Nat}{ts:List ae}(h:bV w lo (.slice A n c) n ts)(k:Int)(t:ByteArray)(a e:Int):
 aB w (fun g=>lo<=g) (.node k t a e ts) [.int .i64 k,.string t,.int .i64 a,.int .i64 e,.slice A n c]:=by
 obtain⟨vals,h1,h2,rfl⟩:=h;exact⟨A,c,vals,rfl,h1.mono (Nat.zero_le _),fun g hg=>(h1.lt g hg).1,bU.weak (fun g _ hg=>hg.1) _ _ h2⟩
theorem bV.push{w w1:World}{lo:Nat}{v v':Value}{n:Nat}{ts:List ae}{t:ae}{cs:List Value}{vals:List (List Value)}
 (h2:bU w (fun g=>lo<=g/\some g≠v.ownBlock) ts vals) (hn:ts.length=n) (ht:aB w (fun g=>lo<=g/\some g≠v.ownBlock) t cs)
 (hown:aL w1 lo 24 5 v' (n+1) (List.flatten vals++cs)) (hk:∀g,g<w.heap.size->some g≠v.ownBlock->w1.heap[g]? =w.heap[g]?) (hat:v'.ownBlock=v.ownBlock\/∀g,v'.ownBlock=some g->w.heap.size<=g):bV w1 lo v' (n+1) (ts++[t]):=by
 have hall:=bU.snoc h2 ht;have hke:bW (fun g=>lo<=g/\some g≠v.ownBlock) w w1:=fun g cs hP hc=>hk g (abH.1 hc).1 hP.2
 have Eg:bU w (fun g=>(lo<=g/\some g≠v.ownBlock)/\(lo<=g/\some g≠v'.ownBlock)) (ts++[t]) (vals++[cs]):=bU.weak (fun g hg hP=>⟨hP,hP.1,fun e=>by
  rcases hat with h|h
  ·exact hP.2 (e.trans h)
  ·have:=h g e.symm
   omega⟩) _ _ hall
 have hall3:=bU.keeps (w':=w1) (fun g cs hP hc=>hke g cs hP.1 hc) _ _ Eg;refine⟨vals++[cs],?_,bU.weak (fun g _ hP=>hP.2) _ _ hall3,by simp[hn]⟩;simpa using hown
end Go.Proofs.YtoepemlnlpamlaaGreat
namespace Go.Proofs.YtoepemlnlpamlaaGreat
section
variable {s:aZ}{l:List jY}
theorem eT{r:Option (List ae×PS)}{f:ae->PS->Option (List ae×PS)}{y:List ae×PS}(h:qw r f=some y):∃x p,r=some ([x],p)/\f x p=some y:=by
 unfold qw at h;split at h
 ·exact⟨_,_,rfl,h⟩
 ·cases h
theorem vS{r:Option (List ae×PS)}{f:List ae->PS->Option (List ae×PS)}{y:List ae×PS}(h:Ck r f=some y):∃x p,r=some (x,p)/\f x p=some y:=by
 unfold Ck at h;split at h
 ·exact⟨_,_,rfl,h⟩
 ·cases h
theorem gU{r:Option (List ae×PS)}{f:ae->PS->Option (List ae×PS)}{x:ae}{p:PS}(h:r=some ([x],p)):qw r f=f x p:=by rw[h];rfl
theorem zR{r:Option (List ae×PS)}{f:List ae->PS->Option (List ae×PS)}{x:List ae}{p:PS}(h:r=some (x,p)):Ck r f=f x p:=by rw[h];rfl
theorem U5:∀(f first:Nat) (p q:PS),sD s l first f p=some q->sD s l first (f+1) p=some q:=by
 intro f
 induction f with
 | zero=>intro first p q h;simp[sD]at h
 | succ f ih=>
  intro first p q h
  rw[sD]at h⊢;split at h
  ·rename_i h1
   rw[if_pos h1];split at h
   ·rename_i h2;rw[if_pos h2];exact h
   ·rename_i h2;rw[if_neg h2];exact ih _ _ _ h
  ·rename_i h1
   rw[if_neg h1];exact h
theorem OI{f:Nat}{p:PS}{y:ae×PS}(h:sw s l f p=some y):sw s l (f+1) p=some y:=by
 unfold sw at h⊢;split at h
 ·cases h
 ·rename_i q hq
  rw[U5 _ _ _ _ hq];exact h
theorem Nz:∀(f:Nat) (fn:Fn) (p:PS) (y:List ae×PS),aN s l f fn p=some y->aN s l (f+1) fn p=some y:=by
 intro f
 induction f with
 | zero=>intro fn p y h;simp[aN]at h
 | succ f ih=>
  have oM:∀{fn:Fn}{p:PS}{g g':ae->PS->Option (List ae×PS)}{y:List ae×PS},qw (aN s l f fn p) g=some y->(∀x q y,g x q=some y->g' x q=some y)->qw (aN s l (f+1) fn p) g'=some y:=by
   intro fn p g g' y h hg;obtain⟨x,q,h1,h2⟩:=eT h;rw[gU (ih _ _ _ h1)];exact hg _ _ _ h2
  have many1:∀{fn:Fn}{p:PS}{g g':List ae->PS->Option (List ae×PS)}{y:List ae×PS},Ck (aN s l f fn p) g=some y->(∀x q y,g x q=some y->g' x q=some y)->Ck (aN s l (f+1) fn p) g'=some y:=by
   intro fn p g g' y h hg;obtain⟨x,q,h1,h2⟩:=vS h;rw[zR (ih _ _ _ h1)];exact hg _ _ _ h2
  intro fn p y h
  cases fn with
  | expr lv=>
   rw[aN]at h⊢;split at h
   ·rename_i h1
    rw[if_pos h1];split at h
    ·rename_i h2
     rw[if_pos h2];exact oM h (fun _ _ _ h=>h)
    ·rename_i h2
     rw[if_neg h2];exact ih _ _ _ h
   ·rename_i h1
    rw[if_neg h1];split at h
    ·rename_i h2
     rw[if_pos h2];split at h
     ·rename_i h3
      rw[if_pos h3];exact oM h (fun _ _ _ h=>h)
     ·rename_i h3
      rw[if_neg h3];exact ih _ _ _ h
    ·rename_i h2
     rw[if_neg h2];exact oM h (fun _ _ _ h=>ih _ _ _ h)
  | xu lv first x=>
   rw[aN]at h⊢;split at h
   ·rename_i h1
    rw[if_pos h1];refine oM h (fun y q z h=>?_);simp only at h⊢;split at h
    ·rename_i h2;rw[if_pos h2];exact h
    ·rename_i h2;rw[if_neg h2];exact ih _ _ _ h
   ·rename_i h1;rw[if_neg h1];exact h
  | operand=>
   rw[aN]at h⊢;split at h
   ·rename_i h1;rw[if_pos h1];exact h
   rename_i h1;rw[if_neg h1]
   split at h
   ·rename_i h2;rw[if_pos h2];exact h
   rename_i h2;rw[if_neg h2]
   split at h
   ·rename_i h3;rw[if_pos h3];exact many1 h (fun _ _ _ h=>h)
   rename_i h3;rw[if_neg h3]
   split at h
   ·rename_i h4;rw[if_pos h4];exact ih _ _ _ h
   rename_i h4;rw[if_neg h4]
   split at h
   ·rename_i h5
    rw[if_pos h5];exact oM h (fun _ _ _ h=>many1 h (fun _ _ _ h=>h))
   rename_i h5;rw[if_neg h5]
   split at h
   ·rename_i h6;rw[if_pos h6];exact h
   rename_i h6;rw[if_neg h6]
   split at h
   ·rename_i h7;rw[if_pos h7];exact oM h (fun _ _ _ h=>h)
   rename_i h7;rw[if_neg h7];exact h
  | args=>
   rw[aN]at h⊢;split at h
   ·rename_i h1;rw[if_pos h1];exact h
   rename_i h1;rw[if_neg h1]
   exact oM h (fun _ _ _ h=>many1 h (fun _ _ _ h=>h))
  | qC kids=>
   rw[aN]at h⊢;split at h
   ·rename_i h1;rw[if_pos h1];exact oM h (fun _ _ _ h=>ih _ _ _ h)
   rename_i h1;rw[if_neg h1];exact h
  | place=>
   rw[aN]at h⊢;split at h
   ·rename_i h1;rw[if_pos h1];exact oM h (fun _ _ _ h=>h)
   rename_i h1;rw[if_neg h1];exact h
  | stmt=>
   rw[aN]at h⊢;simp only at h⊢;split at h
   ·rename_i h1;rw[if_pos h1];exact oM h (fun _ _ _ h=>h)
   rename_i h1;rw[if_neg h1]
   split at h
   ·rename_i h2;rw[if_pos h2];exact ih _ _ _ h
   rename_i h2;rw[if_neg h2]
   split at h
   ·rename_i h3;rw[if_pos h3];exact oM h (fun _ _ _ h=>oM h (fun _ _ _ h=>h))
   rename_i h3;rw[if_neg h3]
   split at h
   ·rename_i h4;rw[if_pos h4];exact oM h (fun _ _ _ h=>oM h (fun _ _ _ h=>oM h (fun _ _ _ h=>h)))
   rename_i h4;rw[if_neg h4]
   split at h
   ·rename_i h5
    rw[if_pos h5];split at h
    ·rename_i h6;rw[if_pos h6];exact oM h (fun _ _ _ h=>h)
    rename_i h6;rw[if_neg h6];exact h
   rename_i h5;rw[if_neg h5]
   split at h
   ·rename_i h6;rw[if_pos h6];exact oM h (fun _ _ _ h=>h)
   rename_i h6;rw[if_neg h6]
   split at h
   ·rename_i h7;rw[if_pos h7];exact many1 h (fun _ _ _ h=>h)
   rename_i h7;rw[if_neg h7]
   split at h
   ·rename_i h8;rw[if_pos h8];exact oM h (fun _ _ _ h=>oM h (fun _ _ _ h=>h))
   rename_i h8;rw[if_neg h8]
   split at h
   ·cases h
   ·rename_i x q hq
    rw[OI hq];exact h
  | block=>
   rw[aN]at h⊢;split at h
   ·rename_i h1;rw[if_pos h1];exact many1 h (fun _ _ _ h=>h)
   rename_i h1;rw[if_neg h1];exact h
  | sS kids=>
   rw[aN]at h⊢;split at h
   ·rename_i h1;rw[if_pos h1];exact h
   rename_i h1;rw[if_neg h1]
   exact oM h (fun _ _ _ h=>ih _ _ _ h)
  | branch=>
   rw[aN]at h⊢;refine oM h (fun _ _ _ h=>oM h (fun _ _ _ h=>?_));split at h
   ·rename_i h1
    rw[if_pos h1];split at h
    ·rename_i h2;rw[if_pos h2];exact oM h (fun _ _ _ h=>h)
    rename_i h2;rw[if_neg h2];exact oM h (fun _ _ _ h=>h)
   rename_i h1;rw[if_neg h1];exact h
theorem GR{f f':Nat}(hf:f<=f'){fn:Fn}{p:PS}{y:List ae×PS}(h:aN s l f fn p=some y):aN s l f' fn p=some y:=by
 induction hf with
 | refl=>exact h
 | step _ ih=>exact Nz _ _ _ _ ih
end
section
variable {s:aZ}{l:List jY}
def nU(l:List jY):Prop:=∀k,k<l.length->(iy l k).kind≠5->k+1<l.length
def Le(l:List jY)(p q:PS):Prop:=p.k<=q.k/\q.k<l.length
theorem Le.trans{p q r:PS}(h:Le l p q)(h2:Le l q r):Le l p r:=⟨abF h.1 h2.1,h2.2⟩
theorem eU{p:PS}{w:aZ}(h:bE s l p w=true):bM l p≠5:=by
 unfold bE at h;simp at h;exact h.1
theorem le_refl{p:PS}(hp:p.k<l.length):Le l p p:=⟨abE _,hp⟩
theorem dF(he:nU l){p:PS}(hp:p.k<l.length)(h:bM l p≠5):Le l p (ay l p)/\p.k<(ay l p).k:=by
 have:=he p.k hp h;exact⟨⟨by simp[ay],this⟩,by simp[ay]⟩
theorem wG{p:PS}{c:Int}{t:aZ}:(iE l p c t).k=p.k:=by
 unfold iE;split
 ·split<;>rfl
 ·rfl
theorem wN{p:PS}{c:Int}{t:aZ}(hp:p.k<l.length):Le l p (iE l p c t):=by
 unfold Le;rw[wG];exact⟨abE _,hp⟩
theorem eF(he:nU l){p:PS}{w:aZ}(hp:p.k<l.length):Le l p (aI s l p w):=by
 unfold aI;split
 ·rename_i h;exact(dF he hp (eU h)).1
 ·exact wN hp
theorem Yh(he:nU l){p:PS}{w:aZ}(hp:p.k<l.length):Le l p (bI s l p w):=by
 unfold bI;split
 ·rename_i h;exact(dF he hp (eU h)).1
 ·exact le_refl hp
theorem uI(he:nU l){p:PS}(hp:p.k<l.length):Le l p (dI l p):=by
 unfold dI;split
 ·rename_i h;exact(dF he hp (by rw[h];decide)).1
 ·exact wN hp
theorem le_typ(he:nU l){p:PS}(hp:p.k<l.length):Le l p (tO s l p).2:=by
 unfold tO;split
 ·rename_i h;exact(dF he hp (eU h)).1
 split
 ·rename_i h
  have h1:=(dF he hp (eU h)).1;try simp only
  split
  ·rename_i h2
   have h3:=h1.trans (dF he h1.2 (eU h2)).1;try simp only
   split
   ·rename_i h4
    have h5:=h3.trans (dF he h3.2 (by rw[h4];decide)).1;exact h5.trans (eF he h5.2)
   ·have h5:=h3.trans (wN (c:=4) (t:=[110,117,109,98,101,114]) h3.2)
    exact h5.trans (eF he h5.2)
  ·exact h1
 split
 ·rename_i h;exact(dF he hp (by rw[h];decide)).1
 ·exact wN hp
theorem QE(he:nU l){p:PS}(hp:p.k<l.length):Le l p (jB s l p).2:=by
 unfold jB;split
 ·rename_i h
  have h1:=(dF he hp (eU h)).1;exact h1.trans (le_typ he h1.2)
 ·exact le_refl hp
theorem Yg(he:nU l){p:PS}(hp:p.k<l.length):Le l p (ny s l p).2:=uI he hp
theorem lt_var(he:nU l){p:PS}(hp:p.k<l.length)(h:bM l p=0):p.k<(ny s l p).2.k:=by
 unfold ny dI;simp only;rw[if_pos h];exact(dF he hp (by rw[h];decide)).2
theorem XL{p:PS}{c:Int}{t:aZ}:lZ s l (iE l p c t)=lZ s l p:=by
 unfold lZ bE bM;rw[wG]
theorem ZZ(he:nU l)(first:Nat):∀(n:Nat) (p:PS),p.k<l.length->l.length - p.k<=n->∃f q,sD s l first f p=some q/\Le l p q/\(lZ s l p=false->p.k=first->p.k<q.k):=by
 intro n
 induction n with
 | zero=>intro p h1 h2;omega
 | succ n ih=>
  intro p h1 h2;by_cases hc:(!lZ s l p&&(decide (p.k=first) || !zS s l p))=true
  ·have hst:lZ s l p=false:=by simp at hc;exact hc.1
   have hk:bM l p≠5:=by
    intro h5;unfold lZ at hst;simp[h5]at hst
   have hr:=dF he h1 hk;by_cases hw:bK s l p.k=[59]
   ·refine⟨1,ay l p,?_,hr.1,fun _ _=>hr.2⟩
    rw[sD,if_pos hc,if_pos hw]
   ·obtain⟨f,q,h3,h4,_⟩:=ih (ay l p) hr.1.2 (by have:=hr.2;omega)
    refine⟨f+1,q,?_,hr.1.trans h4,fun _ _=>by have:=h4.1;have:=hr.2;omega⟩;rw[sD,if_pos hc,if_neg hw];exact h3
  ·refine⟨1,p,?_,le_refl h1,fun hs hf=>?_⟩
   ·rw[sD,if_neg hc]
   ·simp[hs,hf]at hc
theorem U4(he:nU l){p:PS}(hp:p.k<l.length):∃f x q,sw s l f p=some (x,q)/\Le l p q/\(lZ s l p=false->p.k<q.k):=by
 obtain⟨f,q,h1,h2,h3⟩:=ZZ (s:=s) he p.k l.length (iE l p 6 []) (wN hp).2 (by omega);rw[XL,wG]at h3;refine⟨f,aH l q p.k 1 [] [],q,?_,(wN hp).trans h2,fun h=>h3 h rfl⟩;unfold sw;rw[h1]
def qH(s:aZ)(l:List jY):Prop:=∀k,(iy l k).kind=5->bK s l k=[]
theorem IK(he:qH s l){p:PS}(h:og s l p=[40]):bM l (ay l p)≠5:=by
 intro h5;have:=he (p.k+1) h5;unfold og at h;split at h
 ·rw[this]at h;cases h
 ·cases h
def nN:Fn->Nat
 | .expr lv=>40 - 2*lv
 | .xu _ _ _=>0
 | .operand=>20
 | .args=>5
 | .qC _=>0
 | .place=>10
 | .stmt=>60
 | .block=>45
 | .sS _=>70
 | .branch=>50
def Zk(l:List jY)(p:PS):Fn->Prop
 | .expr lv=>1<=lv/\lv<=7
 | .xu lv _ _=>lv<=6
 | .args=>bM l p≠5
 | .branch=>bM l p≠5
 | _=>True
def PG:Fn->Bool
 | .args=>false
 | .qC _=>false
 | .sS _=>false
 | _=>true
def Zh(x:List ae)(fn:Fn):Prop:=PG fn=true->∃t,x=[t]
def Mj(s:aZ)(l:List jY)(p q:PS):Fn->Prop
 | .stmt=>lZ s l p=false->p.k<q.k
 | .branch=>p.k<q.k
 | .place=>bM l p=0->p.k<q.k
 | _=>True
def Sz(s:aZ)(l:List jY)(fn:Fn)(p:PS):Prop:=∃f x q,aN s l f fn p=some (x,q)/\Le l p q/\Zh x fn/\Mj s l p q fn
theorem eD{fn:Fn}{p:PS}{f:Nat}{x:ae}{q:PS}(hl:Le l p q)(h:aN s l f fn p=some ([x],q))(hp:Mj s l p q fn):Sz s l fn p:=⟨f,[x],q,h,hl,fun _=>⟨x,rfl⟩,hp⟩
theorem zT{fn:Fn}{p:PS}{f:Nat}{x:List ae}{q:PS}(hl:Le l p q)(h:aN s l f fn p=some (x,q))(hs:PG fn=false)(hp:Mj s l p q fn):Sz s l fn p:=⟨f,x,q,h,hl,fun h1=>(by rw[hs]at h1;cases h1),hp⟩
theorem rA{fn:Fn}{p:PS}(h:Sz s l fn p)(hs:PG fn=true):∃f t q,(∀f',f<=f'->aN s l f' fn p=some ([t],q))/\Le l p q/\Mj s l p q fn:=by
 obtain⟨f,x,q,h1,h2,h3,h4⟩:=h;obtain⟨t,rfl⟩:=h3 hs;exact⟨f,t,q,fun f' hf=>GR hf h1,h2,h4⟩
theorem vK{fn:Fn}{p:PS}(h:Sz s l fn p):∃f x q,(∀f',f<=f'->aN s l f' fn p=some (x,q))/\Le l p q:=by
 obtain⟨f,x,q,h1,h2,_,_⟩:=h;exact⟨f,x,q,fun f' hf=>GR hf h1,h2⟩
theorem XY(he:nU l)(hend:qH s l):∀(n:Nat) (fn:Fn) (p:PS),p.k<l.length->Zk l p fn->(l.length - p.k)*100+nN fn<n->Sz s l fn p:=by
 intro n
 induction n with
 | zero=>intro fn p _ _ h;omega
 | succ n ih=>
  intro fn p hp hr hn
  have E:∀(lv:Nat) (q:PS),q.k<l.length->1<=lv->lv<=7->(l.length - q.k)*100+(40 - 2*lv)<n->∃f t q',(∀f',f<=f'->aN s l f' (.expr lv) q=some ([t],q'))/\Le l q q':=fun lv q hq h1 h7 h=>by
   obtain⟨f,t,q',h2,h3,_⟩:=rA (ih (.expr lv) q hq ⟨h1,h7⟩ h) rfl;exact⟨f,t,q',h2,h3⟩
  have B:∀(q:PS),q.k<l.length->(l.length - q.k)*100+45<n->∃f t q',(∀f',f<=f'->aN s l f' .block q=some ([t],q'))/\Le l q q':=fun q hq h=>by
   obtain⟨f,t,q',h2,h3,_⟩:=rA (ih .block q hq trivial h) rfl;exact⟨f,t,q',h2,h3⟩
  cases fn with
  | expr lv=>
   obtain⟨h1,h7⟩:=hr;simp only[nN]at hn;by_cases h3:lv=3
   ·subst h3
    by_cases hw:bE s l p [110,111,116]=true
    ·have hrd:=dF he hp (eU hw)
     obtain⟨f,t,q,h4,h5⟩:=E 3 (ay l p) hrd.1.2 (by omega) (by omega) (by have:=hrd.2;omega);refine eD (x:=aH l q p.k 28 [110,111,116] [t]) (f:=f+1) (hrd.1.trans h5) ?_ (by trivial);rw[aN,if_pos rfl,if_pos hw,gU (h4 f (abE _))]
    ·obtain⟨f,t,q,h4,h5⟩:=E 4 p hp (by omega) (by omega) (by omega)
     refine eD (x:=t) (f:=f+1) (h5) ?_ (by trivial);rw[aN,if_pos rfl,if_neg hw];exact h4 f (abE _)
   ·by_cases h77:lv=7
    ·subst h77
     by_cases hw:bE s l p [45]=true
     ·have hrd:=dF he hp (eU hw)
      obtain⟨f,t,q,h4,h5⟩:=E 7 (ay l p) hrd.1.2 (by omega) (by omega) (by have:=hrd.2;omega);refine eD (x:=aH l q p.k 28 [45] [t]) (f:=f+1) (hrd.1.trans h5) ?_ (by trivial);rw[aN,if_neg h3,if_pos rfl,if_pos hw,gU (h4 f (abE _))]
     ·obtain⟨f,t,q,h4,h5,_⟩:=rA (ih .operand p hp trivial (by simp only[nN];omega)) rfl
      refine eD (x:=t) (f:=f+1) (h5) ?_ (by trivial);rw[aN,if_neg h3,if_pos rfl,if_neg hw];exact h4 f (abE _)
    ·obtain⟨f,t,q,h4,h5⟩:=E (lv+1) p hp (by omega) (by omega) (by omega)
     obtain⟨f2,t2,q2,h6,Ry,_⟩:=rA (ih (.xu lv p.k t) q h5.2 (show lv<=6 by omega) (by simp only[nN];have:=h5.1;omega)) rfl;refine eD (x:=t2) (f:=max f f2+1) (h5.trans Ry) ?_ (by trivial);rw[aN,if_neg h3,if_neg h77,gU (h4 _ (Nat.le_max_left _ _))];exact h6 _ (Nat.le_max_right _ _)
  | xu lv first x=>
   have hr':lv<=6:=hr;simp only[nN]at hn;by_cases ho:yu s l p lv=true
   ·have hk:bM l p≠5:=by unfold yu at ho;simp at ho;exact ho.1
    have hrd:=dF he hp hk;obtain⟨f,t,q,h4,h5⟩:=E (lv+1) (ay l p) hrd.1.2 (by omega) (by omega) (by have:=hrd.2;omega);by_cases h44:lv=4
    ·refine eD (x:=aH l q first 29 (bK s l p.k) [x,t]) (f:=f+1) (hrd.1.trans h5) ?_ (by trivial)
     rw[aN,if_pos ho,gU (h4 f (abE _))];try simp only
     rw[if_pos h44]
    ·obtain⟨f2,t2,q2,h6,Ry,_⟩:=rA (ih (.xu lv first (aH l q first 29 (bK s l p.k) [x,t])) q h5.2 hr' (by simp only[nN];have:=h5.1;have:=hrd.2;omega)) rfl
     refine eD (x:=t2) (f:=max f f2+1) ((hrd.1.trans h5).trans Ry) ?_ (by trivial);rw[aN,if_pos ho,gU (h4 _ (Nat.le_max_left _ _))];try simp only
     rw[if_neg h44];exact h6 _ (Nat.le_max_right _ _)
   ·refine eD (x:=x) (f:=1) (le_refl hp) ?_ (by trivial)
    rw[aN,if_neg ho]
  | operand=>
   simp only[nN]at hn;by_cases h1:bM l p=2
   ·refine eD (x:=aH l (ay l p) p.k 24 (gB (bK s l p.k)) []) (f:=1) ((dF he hp (by rw[h1];decide)).1) ?_ (by trivial)
    rw[aN,if_pos h1]
   by_cases h2:(bE s l p [116,114,117,101] || bE s l p [102,97,108,115,101])=true
   ·have hk:bM l p≠5:=by
     rw[Bool.or_eq_true]at h2;rcases h2 with h2|h2<;>exact eU h2
    refine eD (x:=aH l (ay l p) p.k 25 (bK s l p.k) []) (f:=1) ((dF he hp hk).1) ?_ (by trivial);rw[aN,if_neg h1,if_pos h2]
   by_cases h3:(decide (bM l p=0)&&decide (og s l p=[40]))=true
   ·have h3':=h3
    simp at h3';have hrd:=dF he hp (by rw[h3'.1];decide);have hk2:=IK hend h3'.2;obtain⟨f,x,q,h4,h5⟩:=vK (ih .args (ay l p) hrd.1.2 hk2 (by simp only[nN];have:=hrd.2;omega));refine eD (x:=aH l q p.k 27 (bK s l p.k) x) (f:=f+1) (hrd.1.trans h5) ?_ (by trivial);rw[aN,if_neg h1,if_neg h2,if_pos h3,zR (h4 f (abE _))]
   by_cases h4:bM l p=0
   ·obtain⟨f,t,q,h5,h6,_⟩:=rA (ih .place p hp trivial (by simp only[nN];omega)) rfl
    refine eD (x:=t) (f:=f+1) (h6) ?_ (by trivial);rw[aN,if_neg h1,if_neg h2,if_neg h3,if_pos h4];exact h5 f (abE _)
   by_cases h5:bE s l p [91]=true
   ·have hrd:=dF he hp (eU h5)
    obtain⟨f,t,q,h6,h7⟩:=E 1 (ay l p) hrd.1.2 (by omega) (by omega) (by have:=hrd.2;omega);obtain⟨f2,x2,q2,h8,h9⟩:=vK (ih (.qC [t]) q h7.2 trivial (by simp only[nN];have:=hrd.2;have:=h7.1;omega));refine eD (x:=aH l (aI s l q2 [93]) p.k 26 [] x2) (f:=max f f2+1) ((hrd.1.trans h7).trans (h9.trans (eF (s:=s) (w:=[93]) he h9.2))) ?_ (by trivial);rw[aN,if_neg h1,if_neg h2,if_neg h3,if_neg h4,if_pos h5,gU (h6 _ (Nat.le_max_left _ _)),zR (h8 _ (Nat.le_max_right _ _))]
   by_cases h6:bE s l p [108,101,110]=true
   ·have hrd:=dF he hp (eU h6)
    have a1:=eF (s:=s) (w:=[40]) he hrd.1.2;have a2:=Yg (s:=s) he a1.2;have a3:=eF (s:=s) (w:=[41]) he a2.2;refine eD (x:=aH l (aI s l (ny s l (aI s l (ay l p) [40])).2 [41]) p.k 23 [] [(ny s l (aI s l (ay l p) [40])).1]) (f:=1) (((hrd.1.trans a1).trans a2).trans a3) ?_ (by trivial);rw[aN,if_neg h1,if_neg h2,if_neg h3,if_neg h4,if_neg h5,if_pos h6]
   by_cases h7:bE s l p [40]=true
   ·have hrd:=dF he hp (eU h7)
    obtain⟨f,t,q,h8,h9⟩:=E 1 (ay l p) hrd.1.2 (by omega) (by omega) (by have:=hrd.2;omega);refine eD (x:=t) (f:=f+1) ((hrd.1.trans h9).trans (eF (s:=s) (w:=[41]) he h9.2)) ?_ (by trivial);rw[aN,if_neg h1,if_neg h2,if_neg h3,if_neg h4,if_neg h5,if_neg h6,if_pos h7,gU (h8 f (abE _))]
   ·refine eD (x:=aH l (iE l p 5 []) p.k 1 [] []) (f:=1) (wN (c:=5) (t:=[]) hp) ?_ (by trivial)
    rw[aN,if_neg h1,if_neg h2,if_neg h3,if_neg h4,if_neg h5,if_neg h6,if_neg h7]
  | args=>
   have hk:bM l p≠5:=hr;simp only[nN]at hn;have hrd:=dF he hp hk;by_cases h1:bE s l (ay l p) [41]=true
   ·refine zT (x:=[]) (f:=1) (hrd.1.trans (eF (s:=s) (w:=[41]) he hrd.1.2)) ?_ rfl (by trivial)
    rw[aN];rw[if_pos h1]
   ·obtain⟨f,t,q,h6,h7⟩:=E 1 (ay l p) hrd.1.2 (by omega) (by omega) (by have:=hrd.2;omega)
    obtain⟨f2,x2,q2,h8,h9⟩:=vK (ih (.qC [t]) q h7.2 trivial (by simp only[nN];have:=hrd.2;have:=h7.1;omega));refine zT (x:=x2) (f:=max f f2+1) ((hrd.1.trans h7).trans (h9.trans (eF (s:=s) (w:=[41]) he h9.2))) ?_ rfl (by trivial);rw[aN];try simp only
    rw[if_neg h1,gU (h6 _ (Nat.le_max_left _ _)),zR (h8 _ (Nat.le_max_right _ _))]
  | qC kids=>
   simp only[nN]at hn;by_cases h1:bE s l p [44]=true
   ·have hrd:=dF he hp (eU h1)
    obtain⟨f,t,q,h6,h7⟩:=E 1 (ay l p) hrd.1.2 (by omega) (by omega) (by have:=hrd.2;omega);obtain⟨f2,x2,q2,h8,h9⟩:=vK (ih (.qC (kids++[t])) q h7.2 trivial (by simp only[nN];have:=hrd.2;have:=h7.1;omega));refine zT (x:=x2) (f:=max f f2+1) ((hrd.1.trans h7).trans h9) ?_ rfl (by trivial);rw[aN,if_pos h1,gU (h6 _ (Nat.le_max_left _ _))];exact h8 _ (Nat.le_max_right _ _)
   ·refine zT (x:=kids) (f:=1) (le_refl hp) ?_ rfl (by trivial)
    rw[aN,if_neg h1]
  | place=>
   simp only[nN]at hn;have hv:=Yg (s:=s) he hp;have hlt:=fun h=>lt_var (s:=s) he hp h
   by_cases h1:bE s l (ny s l p).2 [91]=true
   ·have hrd:=dF he hv.2 (eU h1)
    obtain⟨f,t,q,h6,h7⟩:=E 1 (ay l (ny s l p).2) hrd.1.2 (by omega) (by omega) (by have:=hrd.2;have:=hv.1;omega);refine eD (x:=aH l (aI s l q [93]) p.k 21 [] [(ny s l p).1,t]) (f:=f+1) (((hv.trans hrd.1).trans h7).trans (eF (s:=s) (w:=[93]) he h7.2)) ?_ (fun h=>by have:=hlt h;have:=((hrd.1.trans h7).trans (eF (s:=s) (w:=[93]) he h7.2)).1;omega);rw[aN];try simp only
    rw[if_pos h1,gU (h6 f (abE _))]
   by_cases h2:bE s l (ny s l p).2 [46]=true
   ·have hrd:=dF he hv.2 (eU h2)
    refine eD (x:=aH l (dI l (ay l (ny s l p).2)) p.k 22 (cK s l (ay l (ny s l p).2)) [(ny s l p).1]) (f:=1) ((hv.trans hrd.1).trans (uI he hrd.1.2)) ?_ (fun h=>by have:=hlt h;have:=(hrd.1.trans (uI he hrd.1.2)).1;omega);rw[aN];rw[if_neg h1,if_pos h2]
   ·refine eD (x:=(ny s l p).1) (f:=1) hv ?_ hlt
    rw[aN];rw[if_neg h1,if_neg h2]
  | stmt=>
   simp only[nN]at hn;by_cases h1:bE s l p [118,97,114]=true
   ·have hrd:=dF he hp (eU h1)
    have a1:=uI he hrd.1.2;have a2:=QE (s:=s) he a1.2;have a3:=eF (s:=s) (w:=[61]) he a2.2;have hall:=((hrd.1.trans a1).trans a2).trans a3;have hlt:p.k<(aI s l (jB s l (dI l (ay l p))).2 [61]).k:=by have:=hrd.2;have:=((a1.trans a2).trans a3).1;omega
    obtain⟨f,t,q,h6,h7⟩:=E 1 (aI s l (jB s l (dI l (ay l p))).2 [61]) a3.2 (by omega) (by omega) (by omega);have h8:=eF (s:=s) (w:=[59]) he h7.2;refine eD (x:=aH l (aI s l q [59]) p.k 12 (cK s l (ay l p)) [(jB s l (dI l (ay l p))).1,t]) (f:=f+1) ((hall.trans h7).trans h8) ?_ (fun _=>?_)
    ·rw[aN]
     try simp only
     rw[if_pos h1,gU (h6 f (abE _))]
    ·have:=h7.1;have:=h8.1;omega
   by_cases h2:bE s l p [105,102]=true
   ·obtain⟨f,t,q,h6,h7,h8⟩:=rA (ih .branch p hp (eU h2) (by simp only[nN];omega)) rfl
    refine eD (x:=t) (f:=f+1) h7 ?_ (fun _=>h8);rw[aN];try simp only
    rw[if_neg h1,if_pos h2];exact h6 f (abE _)
   by_cases h3:bE s l p [119,104,105,108,101]=true
   ·have hrd:=dF he hp (eU h3)
    obtain⟨f1,t1,q1,a1,b1⟩:=E 1 (ay l p) hrd.1.2 (by omega) (by omega) (by have:=hrd.2;omega);obtain⟨f2,t2,q2,a2,b2⟩:=B q1 b1.2 (by have:=hrd.2;have:=b1.1;omega);refine eD (x:=aH l q2 p.k 15 [] [t1,t2]) (f:=max f1 f2+1) ((hrd.1.trans b1).trans b2) ?_ (fun _=>?_)
    ·rw[aN]
     try simp only
     rw[if_neg h1,if_neg h2,if_pos h3,gU (a1 _ (Nat.le_max_left _ _)),gU (a2 _ (Nat.le_max_right _ _))]
    ·have:=hrd.2;have:=b1.1;have:=b2.1;omega
   by_cases h4:bE s l p [102,111,114]=true
   ·have hrd:=dF he hp (eU h4)
    have a1:=uI he hrd.1.2;have a2:=eF (s:=s) (w:=[61]) he a1.2;obtain⟨f1,t1,q1,c1,b1⟩:=E 1 (aI s l (dI l (ay l p)) [61]) a2.2 (by omega) (by omega) (by have:=hrd.2;have:=(a1.trans a2).1;omega);have a3:=eF (s:=s) (w:=[116,111]) he b1.2;obtain⟨f2,t2,q2,c2,b2⟩:=E 1 (aI s l q1 [116,111]) a3.2 (by omega) (by omega) (by have:=hrd.2;have:=(((a1.trans a2).trans b1).trans a3).1;omega);obtain⟨f3,t3,q3,c3,b3⟩:=B q2 b2.2 (by have:=hrd.2;have:=((((a1.trans a2).trans b1).trans a3).trans b2).1;omega);refine eD (x:=aH l q3 p.k 16 (cK s l (ay l p)) [t1,t2,t3]) (f:=max f1 (max f2 f3)+1) ((((((hrd.1.trans a1).trans a2).trans b1).trans a3).trans b2).trans b3) ?_ (fun _=>?_)
    ·rw[aN]
     try simp only
     rw[if_neg h1,if_neg h2,if_neg h3,if_pos h4,gU (c1 _ (Nat.le_max_left _ _)),gU (c2 _ (abF (Nat.le_max_left _ _) (Nat.le_max_right _ _))),gU (c3 _ (abF (Nat.le_max_right _ _) (Nat.le_max_right _ _)))]
    ·have:=hrd.2;have:=(((((a1.trans a2).trans b1).trans a3).trans b2).trans b3).1;omega
   by_cases h5:bE s l p [114,101,116,117,114,110]=true
   ·have hrd:=dF he hp (eU h5)
    by_cases h6:(DJ s l (ay l p) || bE s l (ay l p) [110,111,116] || bE s l (ay l p) [45])=true
    ·obtain⟨f1,t1,q1,c1,b1⟩:=E 1 (ay l p) hrd.1.2 (by omega) (by omega) (by have:=hrd.2;omega)
     have a3:=eF (s:=s) (w:=[59]) he b1.2;refine eD (x:=aH l (aI s l q1 [59]) p.k 17 [] [t1]) (f:=f1+1) ((hrd.1.trans b1).trans a3) ?_ (fun _=>?_)
     ·rw[aN]
      try simp only
      rw[if_neg h1,if_neg h2,if_neg h3,if_neg h4,if_pos h5,if_pos h6,gU (c1 _ (abE _))]
     ·have:=hrd.2;have:=(b1.trans a3).1;omega
    ·have a3:=eF (s:=s) (w:=[59]) he hrd.1.2
     refine eD (x:=aH l (aI s l (ay l p) [59]) p.k 17 [] [aH l (ay l p) (ay l p).k 0 [] []]) (f:=1) (hrd.1.trans a3) ?_ (fun _=>?_)
     ·rw[aN]
      try simp only
      rw[if_neg h1,if_neg h2,if_neg h3,if_neg h4,if_pos h5,if_neg h6]
     ·have:=hrd.2;have:=a3.1;omega
   by_cases h6:bE s l p [97,115,115,101,114,116]=true
   ·have hrd:=dF he hp (eU h6)
    obtain⟨f1,t1,q1,c1,b1⟩:=E 1 (ay l p) hrd.1.2 (by omega) (by omega) (by have:=hrd.2;omega);have a3:=eF (s:=s) (w:=[59]) he b1.2;refine eD (x:=aH l (aI s l q1 [59]) p.k 18 [] [t1]) (f:=f1+1) ((hrd.1.trans b1).trans a3) ?_ (fun _=>?_)
    ·rw[aN]
     try simp only
     rw[if_neg h1,if_neg h2,if_neg h3,if_neg h4,if_neg h5,if_pos h6,gU (c1 _ (abE _))]
    ·have:=hrd.2;have:=(b1.trans a3).1;omega
   by_cases h7:(decide (bM l p=0)&&decide (og s l p=[40]))=true
   ·have Ry:=h7
    simp at Ry;have hrd:=dF he hp (by rw[Ry.1];decide);have hk2:=IK hend Ry.2;obtain⟨f,x,q,h8,h9⟩:=vK (ih .args (ay l p) hrd.1.2 hk2 (by simp only[nN];have:=hrd.2;omega));have a3:=eF (s:=s) (w:=[59]) he h9.2;refine eD (x:=aH l (aI s l q [59]) p.k 19 (bK s l p.k) x) (f:=f+1) ((hrd.1.trans h9).trans a3) ?_ (fun _=>?_)
    ·rw[aN]
     try simp only
     rw[if_neg h1,if_neg h2,if_neg h3,if_neg h4,if_neg h5,if_neg h6,if_pos h7,zR (h8 f (abE _))]
    ·have:=hrd.2;have:=(h9.trans a3).1;omega
   by_cases h8:bM l p=0
   ·obtain⟨f1,t1,q1,c1,b1,hpl⟩:=rA (ih .place p hp trivial (by simp only[nN];omega)) rfl
    have hlt:p.k<q1.k:=hpl h8;have a1:=eF (s:=s) (w:=[61]) he b1.2;obtain⟨f2,t2,q2,c2,b2⟩:=E 1 (aI s l q1 [61]) a1.2 (by omega) (by omega) (by have:=a1.1;omega);have a3:=eF (s:=s) (w:=[59]) he b2.2;refine eD (x:=aH l (aI s l q2 [59]) p.k 13 [] [t1,t2]) (f:=max f1 f2+1) (((b1.trans a1).trans b2).trans a3) ?_ (fun _=>?_)
    ·rw[aN]
     try simp only
     rw[if_neg h1,if_neg h2,if_neg h3,if_neg h4,if_neg h5,if_neg h6,if_neg h7,if_pos h8,gU (c1 _ (Nat.le_max_left _ _)),gU (c2 _ (Nat.le_max_right _ _))]
    ·have:=((a1.trans b2).trans a3).1;omega
   ·obtain⟨f,x,q,c1,c2,c3⟩:=U4 (s:=s) he hp
    refine eD (x:=x) (f:=f+1) c2 ?_ c3;rw[aN];try simp only
    rw[if_neg h1,if_neg h2,if_neg h3,if_neg h4,if_neg h5,if_neg h6,if_neg h7,if_neg h8,c1]
  | block=>
   simp only[nN]at hn;by_cases h1:bE s l p [123]=true
   ·have hrd:=dF he hp (eU h1)
    obtain⟨f2,x2,q2,h8,h9⟩:=vK (ih (.sS []) (ay l p) hrd.1.2 trivial (by simp only[nN];have:=hrd.2;omega));refine eD (x:=aH l (aI s l q2 [125]) p.k 11 [] x2) (f:=f2+1) ((hrd.1.trans h9).trans (eF (s:=s) (w:=[125]) he h9.2)) ?_ (by trivial);rw[aN,if_pos h1,zR (h8 _ (abE _))]
   ·refine eD (x:=aH l (iE l p 4 [123]) p.k 11 [] []) (f:=1) (wN (c:=4) (t:=[123]) hp) ?_ (by trivial)
    rw[aN,if_neg h1]
  | sS kids=>
   simp only[nN]at hn;by_cases h1:lZ s l p=true
   ·refine zT (x:=kids) (f:=1) (le_refl hp) ?_ rfl (by trivial)
    rw[aN,if_pos h1]
   ·have h1':lZ s l p=false:=by simpa using h1
    obtain⟨f,t,q,h6,h7,h8⟩:=rA (ih .stmt p hp trivial (by simp only[nN];omega)) rfl;have hlt:p.k<q.k:=h8 h1';obtain⟨f2,x2,q2,h9,h10⟩:=vK (ih (.sS (kids++[t])) q h7.2 trivial (by simp only[nN];omega));refine zT (x:=x2) (f:=max f f2+1) (h7.trans h10) ?_ rfl (by trivial);rw[aN,if_neg h1,gU (h6 _ (Nat.le_max_left _ _))];exact h9 _ (Nat.le_max_right _ _)
  | branch=>
   have hk:bM l p≠5:=hr;simp only[nN]at hn;have hrd:=dF he hp hk;obtain⟨f1,t1,q1,a1,b1⟩:=E 1 (ay l p) hrd.1.2 (by omega) (by omega) (by have:=hrd.2;omega);obtain⟨f2,t2,q2,a2,b2⟩:=B q1 b1.2 (by have:=hrd.2;have:=b1.1;omega);have hq2:p.k<q2.k:=by have:=hrd.2;have:=b1.1;have:=b2.1;omega
   have hle:=(hrd.1.trans b1).trans b2;by_cases h1:bE s l q2 [101,108,115,101]=true
   ·have hr2:=dF he b2.2 (eU h1)
    by_cases h2:bE s l (ay l q2) [105,102]=true
    ·obtain⟨f3,t3,q3,a3,b3,c3⟩:=rA (ih .branch (ay l q2) hr2.1.2 (eU h2) (by simp only[nN];have:=hr2.2;omega)) rfl
     refine eD (x:=aH l q3 p.k 14 [] [t1,t2,t3]) (f:=max f1 (max f2 f3)+1) ((hle.trans hr2.1).trans b3) ?_ ?_
     ·rw[aN,gU (a1 _ (Nat.le_max_left _ _)),gU (a2 _ (abF (Nat.le_max_left _ _) (Nat.le_max_right _ _))),if_pos h1,if_pos h2,gU (a3 _ (abF (Nat.le_max_right _ _) (Nat.le_max_right _ _)))]
     ·have:=b3.1;have:=hr2.2;show p.k<q3.k;omega
    ·obtain⟨f3,t3,q3,a3,b3⟩:=B (ay l q2) hr2.1.2 (by have:=hr2.2;omega)
     refine eD (x:=aH l q3 p.k 14 [] [t1,t2,t3]) (f:=max f1 (max f2 f3)+1) ((hle.trans hr2.1).trans b3) ?_ ?_
     ·rw[aN,gU (a1 _ (Nat.le_max_left _ _)),gU (a2 _ (abF (Nat.le_max_left _ _) (Nat.le_max_right _ _))),if_pos h1,if_neg h2,gU (a3 _ (abF (Nat.le_max_right _ _) (Nat.le_max_right _ _)))]
     ·have:=b3.1;have:=hr2.2;show p.k<q3.k;omega
   ·refine eD (x:=aH l q2 p.k 14 [] [t1,t2,aH l q2 q2.k 0 [] []]) (f:=max f1 f2+1) (hle) ?_ hq2
    rw[aN,gU (a1 _ (Nat.le_max_left _ _)),gU (a2 _ (Nat.le_max_right _ _)),if_neg h1]
end
end Go.Proofs.YtoepemlnlpamlaaGreat
