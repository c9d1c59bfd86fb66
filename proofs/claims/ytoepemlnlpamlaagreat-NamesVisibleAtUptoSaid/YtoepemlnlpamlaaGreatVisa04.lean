/- The law NamesVisibleAt holds where what it reads is of bulk at most 1048576: it returns true, and its arguments read as before. Part 4: Tree ParT ParE. -/
import Derived.Test.YtoepemlnlpamlaaGreatVisa01
import Derived.Test.YtoepemlnlpamlaaGreatVisa03
set_option maxRecDepth 100000
set_option maxHeartbeats 4000000
namespace Go.Proofs.YtoepemlnlpamlaaGreat
open Go.RowKit
mutual
def aC(w:World)(P:Nat->Prop):ae->List Value->Prop
 | .node k t a e kids,cs=> ∃A c vals,cs=[.int .i64 k,.string t,.int .i64 a,.int .i64 e,.slice A kids.length c]/\aK w 0 24 5 (.slice A kids.length c) kids.length (List.flatten vals)/\(∀g,(Value.slice A kids.length c).ownBlock=some g->P g)/\bW w P kids vals
def bW(w:World)(P:Nat->Prop):List ae->List (List Value)->Prop
 | [],vals=>vals=[]
 | t::ts,vals=> ∃v vs,vals=v::vs/\aC w P t v/\bW w P ts vs
end
def bZ(P:Nat->Prop)(w w':World):Prop:=∀(g:Nat) (cs:Array Value),P g->w.heap[g]? =some (.cells cs 24 (0,0))->w'.heap[g]? =w.heap[g]?
theorem aK.typed{w:World}{base:Nat}{e:TypeId}{size:Nat}{v:Value}{n:Nat}{F:List Value}(h:aK w base e size v n F){g:Nat}(B:v.ownBlock=some g):∃C,w.heap[g]? =some (.cells C e (0,0)):=by
 rcases h.2 with⟨rfl,_⟩| ⟨E,H,I,G,rfl,_,A,_⟩
 ·cases B
 ·have D:E=g:=by simpa [Value.ownBlock] using B
  subst D;exact⟨_,A⟩
theorem aK.dX{P:Nat->Prop}{w w':World}{base:Nat}{v:Value}{n:Nat}{B:List Value}(h:aK w base 24 5 v n B)(D:∀g,v.ownBlock=some g->P g)(F:bZ P w w'):aK w' base 24 5 v n B:=
 h.of_block fun g A=>by
  obtain⟨C,E⟩:=h.typed A;exact F g C (D g A) E
mutual
theorem aC.keeps{P:Nat->Prop}{w w':World}(D:bZ P w w'):∀(t:ae) (B:List Value),aC w P t B->aC w' P t B
 | .node _ _ _ _ kids,_,h=>by
  obtain⟨A,c,vals,E,F,C,G⟩:=h;exact⟨A,c,vals,E,F.dX C D,C,bW.keeps D kids vals G⟩
theorem bW.keeps{P:Nat->Prop}{w w':World}(A:bZ P w w'):∀(ts:List ae) (vals:List (List Value)),bW w P ts vals->bW w' P ts vals
 | [],_,h=>h
 | t::ts,_,h=>by
  obtain⟨v,B,C,D,E⟩:=h;exact⟨v,B,C,aC.keeps A t v D,bW.keeps A ts B E⟩
end
mutual
theorem aC.weak{P Q:Nat->Prop}{w:World}(B:∀g,g<w.heap.size->P g->Q g):∀(t:ae) (C:List Value),aC w P t C->aC w Q t C
 | .node _ _ _ _ kids,_,h=>by
  obtain⟨A,c,vals,F,D,H,G⟩:=h;exact⟨A,c,vals,F,D,fun g E=>B g (D.lt g E).2 (H g E),bW.weak B kids vals G⟩
theorem bW.weak{P Q:Nat->Prop}{w:World}(A:∀g,g<w.heap.size->P g->Q g):∀(ts:List ae) (vals:List (List Value)),bW w P ts vals->bW w Q ts vals
 | [],_,h=>h
 | t::ts,_,h=>by
  obtain⟨v,B,C,D,E⟩:=h;exact⟨v,B,C,aC.weak A t v D,bW.weak A ts B E⟩
end
theorem bZ.of_below{P:Nat->Prop}{w w':World}(A:Below w.heap.size w w'):bZ P w w':=fun g _ _ h=>A.block g (aae.1 h).1
theorem aC.len{P:Nat->Prop}{w:World}{t:ae}{B:List Value}(h:aC w P t B):B.length=5:=by
 cases t with
 | node k x a e kids=>
  obtain⟨A,c,vals,rfl,_⟩:=h;rfl
theorem bW.lens{P:Nat->Prop}{w:World}:∀{ts:List ae}{vals:List (List Value)},bW w P ts vals->vals.length=ts.length/\(List.flatten vals).length=ts.length*5
 | [],vals,h=>by
  have:vals=[]:=h;subst this;exact⟨rfl,rfl⟩
 | t::ts,vals,h=>by
  obtain⟨v,C,rfl,A,B⟩:=h;have:=bW.lens B;have:=aC.len A;simp only[aao,List.flatten_cons,aam];omega
theorem bW.snoc{P:Nat->Prop}{w:World}:∀{ts:List ae}{vals:List (List Value)}{t:ae}{v:List Value},bW w P ts vals->aC w P t v->bW w P (ts++[t]) (vals++[v])
 | [],vals,t,v,h,ht=>by
  have:vals=[]:=h;subst this;exact⟨v,[],rfl,ht,rfl⟩
 | x::ts,vals,t,v,h,ht=>by
  obtain⟨C,D,rfl,A,B⟩:=h;exact⟨C,D++[v],rfl,A,bW.snoc B ht⟩
def bY(w:World)(lo:Nat)(v:Value)(n:Nat)(ts:List ae):Prop:=
 ∃vals,aK w lo 24 5 v n (List.flatten vals)/\bW w (fun g=>lo<=g/\some g≠v.ownBlock) ts vals/\ts.length=n
theorem bY.keeps{w w':World}{lo:Nat}{v:Value}{n:Nat}{ts:List ae}(h:bY w lo v n ts)(B:bZ (fun g=>lo<=g) w w'):bY w' lo v n ts:=by
 obtain⟨vals,A,D,E⟩:=h;exact⟨vals,A.dX (fun g H=>(A.lt g H).1) B,bW.keeps (fun g C F G=>B g C F.1 G) _ _ D,E⟩
theorem bY.nil(w:World)(lo:Nat):bY w lo (.slice none 0 0) 0 []:=⟨[],aK.nil _ _ _ _,rfl,rfl⟩
theorem bY.node{w:World}{lo:Nat}{A:Option Addr}{n c:Nat}{ts:List ae}(h:bY w lo (.slice A n c) n ts)(k:Int)(t:ByteArray)(a e:Int):
 aC w (fun g=>lo<=g) (.node k t a e ts) [.int .i64 k,.string t,.int .i64 a,.int .i64 e,.slice A n c]:=by
 obtain⟨vals,C,D,rfl⟩:=h;exact⟨A,c,vals,rfl,C.mono (Nat.zero_le _),fun g B=>(C.lt g B).1,bW.weak (fun g _ B=>B.1) _ _ D⟩
theorem bY.push{w G:World}{lo:Nat}{v F:Value}{n:Nat}{ts:List ae}{t:ae}{B:List Value}{vals:List (List Value)}
 (L:bW w (fun g=>lo<=g/\some g≠v.ownBlock) ts vals) (N:ts.length=n) (O:aC w (fun g=>lo<=g/\some g≠v.ownBlock) t B)
 (E:aK G lo 24 5 F (n+1) (List.flatten vals++B)) (M:∀g,g<w.heap.size->some g≠v.ownBlock->G.heap[g]? =w.heap[g]?) (H:F.ownBlock=v.ownBlock\/∀g,F.ownBlock=some g->w.heap.size<=g):bY G lo F (n+1) (ts++[t]):=by
 have D:=bW.snoc L O;have J:bZ (fun g=>lo<=g/\some g≠v.ownBlock) w G:=fun g B A I=>M g (aae.1 I).1 A.2
 have K:bW w (fun g=>(lo<=g/\some g≠v.ownBlock)/\(lo<=g/\some g≠F.ownBlock)) (ts++[t]) (vals++[B]):=bW.weak (fun g P A=>⟨A,A.1,fun e=>by
  rcases H with h|h
  ·exact A.2 (e.trans h)
  ·have:=h g e.symm
   omega⟩) _ _ D
 have C:=bW.keeps (w':=G) (fun g B A I=>J g B A.1 I) _ _ K;refine⟨vals++[B],?_,bW.weak (fun g _ A=>A.2) _ _ C,by simp[N]⟩;simpa using E
end Go.Proofs.YtoepemlnlpamlaaGreat
namespace Go.Proofs.YtoepemlnlpamlaaGreat
section
variable {s:bB}{l:List kD}
theorem fA{r:Option (List ae×PS)}{f:ae->PS->Option (List ae×PS)}{y:List ae×PS}(h:qL r f=some y):∃x p,r=some ([x],p)/\f x p=some y:=by
 unfold qL at h;split at h
 ·exact⟨_,_,rfl,h⟩
 ·cases h
theorem wR{r:Option (List ae×PS)}{f:List ae->PS->Option (List ae×PS)}{y:List ae×PS}(h:Dh r f=some y):∃x p,r=some (x,p)/\f x p=some y:=by
 unfold Dh at h;split at h
 ·exact⟨_,_,rfl,h⟩
 ·cases h
theorem gW{r:Option (List ae×PS)}{f:ae->PS->Option (List ae×PS)}{x:ae}{p:PS}(h:r=some ([x],p)):qL r f=f x p:=by rw[h];rfl
theorem AZ{r:Option (List ae×PS)}{f:List ae->PS->Option (List ae×PS)}{x:List ae}{p:PS}(h:r=some (x,p)):Dh r f=f x p:=by rw[h];rfl
theorem WE:∀(f first:Nat) (p q:PS),sW s l first f p=some q->sW s l first (f+1) p=some q:=by
 intro f
 induction f with
 | zero=>intro first p q h;simp[sW]at h
 | succ f ih=>
  intro first p q h
  rw[sW]at h⊢;split at h
  ·rename_i h1
   rw[if_pos h1];split at h
   ·rename_i h2;rw[if_pos h2];exact h
   ·rename_i h2;rw[if_neg h2];exact ih _ _ _ h
  ·rename_i h1
   rw[if_neg h1];exact h
theorem PQ{f:Nat}{p:PS}{y:ae×PS}(h:sV s l f p=some y):sV s l (f+1) p=some y:=by
 unfold sV at h⊢;split at h
 ·cases h
 ·rename_i q hq
  rw[WE _ _ _ _ hq];exact h
theorem OA:∀(f:Nat) (E:Fn) (p:PS) (y:List ae×PS),aP s l f E p=some y->aP s l (f+1) E p=some y:=by
 intro f
 induction f with
 | zero=>intro E p y h;simp[aP]at h
 | succ f ih=>
  have C:∀{E:Fn}{p:PS}{g F:ae->PS->Option (List ae×PS)}{y:List ae×PS},qL (aP s l f E p) g=some y->(∀x q y,g x q=some y->F x q=some y)->qL (aP s l (f+1) E p) F=some y:=by
   intro E p g F y h G;obtain⟨x,q,A,B⟩:=fA h;rw[gW (ih _ _ _ A)];exact G _ _ _ B
  have D:∀{E:Fn}{p:PS}{g F:List ae->PS->Option (List ae×PS)}{y:List ae×PS},Dh (aP s l f E p) g=some y->(∀x q y,g x q=some y->F x q=some y)->Dh (aP s l (f+1) E p) F=some y:=by
   intro E p g F y h G;obtain⟨x,q,A,B⟩:=wR h;rw[AZ (ih _ _ _ A)];exact G _ _ _ B
  intro E p y h
  cases E with
  | expr lv=>
   rw[aP]at h⊢;split at h
   ·rename_i A
    rw[if_pos A];split at h
    ·rename_i B
     rw[if_pos B];exact C h (fun _ _ _ h=>h)
    ·rename_i B
     rw[if_neg B];exact ih _ _ _ h
   ·rename_i A
    rw[if_neg A];split at h
    ·rename_i B
     rw[if_pos B];split at h
     ·rename_i h3
      rw[if_pos h3];exact C h (fun _ _ _ h=>h)
     ·rename_i h3
      rw[if_neg h3];exact ih _ _ _ h
    ·rename_i B
     rw[if_neg B];exact C h (fun _ _ _ h=>ih _ _ _ h)
  | xZ lv first x=>
   rw[aP]at h⊢;split at h
   ·rename_i A
    rw[if_pos A];refine C h (fun y q z h=>?_);simp only at h⊢;split at h
    ·rename_i B;rw[if_pos B];exact h
    ·rename_i B;rw[if_neg B];exact ih _ _ _ h
   ·rename_i A;rw[if_neg A];exact h
  | operand=>
   rw[aP]at h⊢;split at h
   ·rename_i A;rw[if_pos A];exact h
   rename_i A;rw[if_neg A]
   split at h
   ·rename_i B;rw[if_pos B];exact h
   rename_i B;rw[if_neg B]
   split at h
   ·rename_i h3;rw[if_pos h3];exact D h (fun _ _ _ h=>h)
   rename_i h3;rw[if_neg h3]
   split at h
   ·rename_i h4;rw[if_pos h4];exact ih _ _ _ h
   rename_i h4;rw[if_neg h4]
   split at h
   ·rename_i h5
    rw[if_pos h5];exact C h (fun _ _ _ h=>D h (fun _ _ _ h=>h))
   rename_i h5;rw[if_neg h5]
   split at h
   ·rename_i h6;rw[if_pos h6];exact h
   rename_i h6;rw[if_neg h6]
   split at h
   ·rename_i h7;rw[if_pos h7];exact C h (fun _ _ _ h=>h)
   rename_i h7;rw[if_neg h7];exact h
  | args=>
   rw[aP]at h⊢;split at h
   ·rename_i A;rw[if_pos A];exact h
   rename_i A;rw[if_neg A]
   exact C h (fun _ _ _ h=>D h (fun _ _ _ h=>h))
  | qR kids=>
   rw[aP]at h⊢;split at h
   ·rename_i A;rw[if_pos A];exact C h (fun _ _ _ h=>ih _ _ _ h)
   rename_i A;rw[if_neg A];exact h
  | place=>
   rw[aP]at h⊢;split at h
   ·rename_i A;rw[if_pos A];exact C h (fun _ _ _ h=>h)
   rename_i A;rw[if_neg A];exact h
  | stmt=>
   rw[aP]at h⊢;simp only at h⊢;split at h
   ·rename_i A;rw[if_pos A];exact C h (fun _ _ _ h=>h)
   rename_i A;rw[if_neg A]
   split at h
   ·rename_i B;rw[if_pos B];exact ih _ _ _ h
   rename_i B;rw[if_neg B]
   split at h
   ·rename_i h3;rw[if_pos h3];exact C h (fun _ _ _ h=>C h (fun _ _ _ h=>h))
   rename_i h3;rw[if_neg h3]
   split at h
   ·rename_i h4;rw[if_pos h4];exact C h (fun _ _ _ h=>C h (fun _ _ _ h=>C h (fun _ _ _ h=>h)))
   rename_i h4;rw[if_neg h4]
   split at h
   ·rename_i h5
    rw[if_pos h5];split at h
    ·rename_i h6;rw[if_pos h6];exact C h (fun _ _ _ h=>h)
    rename_i h6;rw[if_neg h6];exact h
   rename_i h5;rw[if_neg h5]
   split at h
   ·rename_i h6;rw[if_pos h6];exact C h (fun _ _ _ h=>h)
   rename_i h6;rw[if_neg h6]
   split at h
   ·rename_i h7;rw[if_pos h7];exact D h (fun _ _ _ h=>h)
   rename_i h7;rw[if_neg h7]
   split at h
   ·rename_i h8;rw[if_pos h8];exact C h (fun _ _ _ h=>C h (fun _ _ _ h=>h))
   rename_i h8;rw[if_neg h8]
   split at h
   ·cases h
   ·rename_i x q hq
    rw[PQ hq];exact h
  | block=>
   rw[aP]at h⊢;split at h
   ·rename_i A;rw[if_pos A];exact D h (fun _ _ _ h=>h)
   rename_i A;rw[if_neg A];exact h
  | tZ kids=>
   rw[aP]at h⊢;split at h
   ·rename_i A;rw[if_pos A];exact h
   rename_i A;rw[if_neg A]
   exact C h (fun _ _ _ h=>ih _ _ _ h)
  | branch=>
   rw[aP]at h⊢;refine C h (fun _ _ _ h=>C h (fun _ _ _ h=>?_));split at h
   ·rename_i A
    rw[if_pos A];split at h
    ·rename_i B;rw[if_pos B];exact C h (fun _ _ _ h=>h)
    rename_i B;rw[if_neg B];exact C h (fun _ _ _ h=>h)
   rename_i A;rw[if_neg A];exact h
theorem Iu{f A:Nat}(C:f<=A){B:Fn}{p:PS}{y:List ae×PS}(h:aP s l f B p=some y):aP s l A B p=some y:=by
 induction C with
 | refl=>exact h
 | step _ ih=>exact OA _ _ _ _ ih
end
section
variable {s:bB}{l:List kD}
def oF(l:List kD):Prop:=∀k,k<l.length->(iA l k).kind≠5->k+1<l.length
def Le(l:List kD)(p q:PS):Prop:=p.k<=q.k/\q.k<l.length
theorem Le.trans{p q r:PS}(h:Le l p q)(A:Le l q r):Le l p r:=⟨aac h.1 A.1,A.2⟩
theorem fB{p:PS}{w:bB}(h:bF s l p w=true):bM l p≠5:=by
 unfold bF at h;simp at h;exact h.1
theorem le_refl{p:PS}(A:p.k<l.length):Le l p p:=⟨aab _,A⟩
theorem dJ(A:oF l){p:PS}(B:p.k<l.length)(h:bM l p≠5):Le l p (aB l p)/\p.k<(aB l p).k:=by
 have:=A p.k B h;exact⟨⟨by simp[aB],this⟩,by simp[aB]⟩
theorem xq{p:PS}{c:Int}{t:bB}:(iI l p c t).k=p.k:=by
 unfold iI;split
 ·split<;>rfl
 ·rfl
theorem xE{p:PS}{c:Int}{t:bB}(A:p.k<l.length):Le l p (iI l p c t):=by
 unfold Le;rw[xq];exact⟨aab _,A⟩
theorem eO(B:oF l){p:PS}{w:bB}(A:p.k<l.length):Le l p (aL s l p w):=by
 unfold aL;split
 ·rename_i h;exact(dJ B A (fB h)).1
 ·exact xE A
theorem Zv(B:oF l){p:PS}{w:bB}(A:p.k<l.length):Le l p (bI s l p w):=by
 unfold bI;split
 ·rename_i h;exact(dJ B A (fB h)).1
 ·exact le_refl A
theorem uY(B:oF l){p:PS}(A:p.k<l.length):Le l p (dK l p):=by
 unfold dK;split
 ·rename_i h;exact(dJ B A (by rw[h];decide)).1
 ·exact xE A
theorem le_typ(A:oF l){p:PS}(D:p.k<l.length):Le l p (uC s l p).2:=by
 unfold uC;split
 ·rename_i h;exact(dJ A D (fB h)).1
 split
 ·rename_i h
  have E:=(dJ A D (fB h)).1;try simp only
  split
  ·rename_i h2
   have C:=E.trans (dJ A E.2 (fB h2)).1;try simp only
   split
   ·rename_i h4
    have B:=C.trans (dJ A C.2 (by rw[h4];decide)).1;exact B.trans (eO A B.2)
   ·have B:=C.trans (xE (c:=4) (t:=[110,117,109,98,101,114]) C.2)
    exact B.trans (eO A B.2)
  ·exact E
 split
 ·rename_i h;exact(dJ A D (by rw[h];decide)).1
 ·exact xE D
theorem Rz(B:oF l){p:PS}(C:p.k<l.length):Le l p (jR s l p).2:=by
 unfold jR;split
 ·rename_i h
  have A:=(dJ B C (fB h)).1;exact A.trans (le_typ B A.2)
 ·exact le_refl C
theorem Zu(A:oF l){p:PS}(B:p.k<l.length):Le l p (nR s l p).2:=uY A B
theorem lt_var(A:oF l){p:PS}(B:p.k<l.length)(h:bM l p=0):p.k<(nR s l p).2.k:=by
 unfold nR dK;simp only;rw[if_pos h];exact(dJ A B (by rw[h];decide)).2
theorem Y5{p:PS}{c:Int}{t:bB}:mM s l (iI l p c t)=mM s l p:=by
 unfold mM bF bM;rw[xq]
theorem skipL_ex(J:oF l)(first:Nat):∀(n:Nat) (p:PS),p.k<l.length->l.length - p.k<=n->∃f q,sW s l first f p=some q/\Le l p q/\(mM s l p=false->p.k=first->p.k<q.k):=by
 intro n
 induction n with
 | zero=>intro p D G;omega
 | succ n ih=>
  intro p D G;by_cases A:(!mM s l p&&(decide (p.k=first) || !Ba s l p))=true
  ·have C:mM s l p=false:=by simp at A;exact A.1
   have L:bM l p≠5:=by
    intro I;unfold mM at C;simp[I]at C
   have B:=dJ J D L;by_cases F:bK s l p.k=[59]
   ·refine⟨1,aB l p,?_,B.1,fun _ _=>B.2⟩
    rw[sW,if_pos A,if_pos F]
   ·obtain⟨f,q,H,E,_⟩:=ih (aB l p) B.1.2 (by have:=B.2;omega)
    refine⟨f+1,q,?_,B.1.trans E,fun _ _=>by have:=E.1;have:=B.2;omega⟩;rw[sW,if_pos A,if_neg F];exact H
  ·refine⟨1,p,?_,le_refl D,fun M K=>?_⟩
   ·rw[sW,if_neg A]
   ·simp[M,K]at A
theorem WC(E:oF l){p:PS}(B:p.k<l.length):∃f x q,sV s l f p=some (x,q)/\Le l p q/\(mM s l p=false->p.k<q.k):=by
 obtain⟨f,q,C,D,A⟩:=skipL_ex (s:=s) E p.k l.length (iI l p 6 []) (xE B).2 (by omega);rw[Y5,xq]at A;refine⟨f,aI l q p.k 1 [] [],q,?_,(xE B).trans D,fun h=>A h rfl⟩;unfold sV;rw[C]
def qY(s:bB)(l:List kD):Prop:=∀k,(iA l k).kind=5->bK s l k=[]
theorem JB(B:qY s l){p:PS}(h:oL s l p=[40]):bM l (aB l p)≠5:=by
 intro A;have:=B (p.k+1) A;unfold oL at h;split at h
 ·rw[this]at h;cases h
 ·cases h
def om:Fn->Nat
 | .expr lv=>40 - 2*lv
 | .xZ _ _ _=>0
 | .operand=>20
 | .args=>5
 | .qR _=>0
 | .place=>10
 | .stmt=>60
 | .block=>45
 | .tZ _=>70
 | .branch=>50
def ReadyF(l:List kD)(p:PS):Fn->Prop
 | .expr lv=>1<=lv/\lv<=7
 | .xZ lv _ _=>lv<=6
 | .args=>bM l p≠5
 | .branch=>bM l p≠5
 | _=>True
def QL:Fn->Bool
 | .args=>false
 | .qR _=>false
 | .tZ _=>false
 | _=>true
def ShapeF(x:List ae)(fn:Fn):Prop:=QL fn=true->∃t,x=[t]
def Ng(s:bB)(l:List kD)(p q:PS):Fn->Prop
 | .stmt=>mM s l p=false->p.k<q.k
 | .branch=>p.k<q.k
 | .place=>bM l p=0->p.k<q.k
 | _=>True
def Uf(s:bB)(l:List kD)(fn:Fn)(p:PS):Prop:=∃f x q,aP s l f fn p=some (x,q)/\Le l p q/\ShapeF x fn/\Ng s l p q fn
theorem eG{A:Fn}{p:PS}{f:Nat}{x:ae}{q:PS}(B:Le l p q)(h:aP s l f A p=some ([x],q))(C:Ng s l p q A):Uf s l A p:=⟨f,[x],q,h,B,fun _=>⟨x,rfl⟩,C⟩
theorem Bb{A:Fn}{p:PS}{f:Nat}{x:List ae}{q:PS}(C:Le l p q)(h:aP s l f A p=some (x,q))(E:QL A=false)(D:Ng s l p q A):Uf s l A p:=⟨f,x,q,h,C,fun B=>(by rw[E]at B;cases B),D⟩
theorem rW{A:Fn}{p:PS}(h:Uf s l A p)(H:QL A=true):∃f t q,(∀B,f<=B->aP s l B A p=some ([t],q))/\Le l p q/\Ng s l p q A:=by
 obtain⟨f,x,q,C,D,E,F⟩:=h;obtain⟨t,rfl⟩:=E H;exact⟨f,t,q,fun B G=>Iu G C,D,F⟩
theorem wJ{B:Fn}{p:PS}(h:Uf s l B p):∃f x q,(∀A,f<=A->aP s l A B p=some (x,q))/\Le l p q:=by
 obtain⟨f,x,q,C,D,_,_⟩:=h;exact⟨f,x,q,fun A E=>Iu E C,D⟩
theorem Zj(C:oF l)(g:qY s l):∀(n:Nat) (fn:Fn) (p:PS),p.k<l.length->ReadyF l p fn->(l.length - p.k)*100+om fn<n->Uf s l fn p:=by
 intro n
 induction n with
 | zero=>intro fn p _ _ h;omega
 | succ n ih=>
  intro fn p I hr v
  have E:∀(U:Nat) (q:PS),q.k<l.length->1<=U->U<=7->(l.length - q.k)*100+(40 - 2*U)<n->∃f t r,(∀f',f<=f'->aP s l f' (.expr U) q=some ([t],r))/\Le l q r:=fun U q hq D F h=>by
   obtain⟨f,t,r,G,N,_⟩:=rW (ih (.expr U) q hq ⟨D,F⟩ h) rfl;exact⟨f,t,r,G,N⟩
  have B:∀(q:PS),q.k<l.length->(l.length - q.k)*100+45<n->∃f t r,(∀f',f<=f'->aP s l f' .block q=some ([t],r))/\Le l q r:=fun q hq h=>by
   obtain⟨f,t,r,G,N,_⟩:=rW (ih .block q hq trivial h) rfl;exact⟨f,t,r,G,N⟩
  cases fn with
  | expr U=>
   obtain⟨D,F⟩:=hr;simp only[om]at v;by_cases N:U=3
   ·subst N
    by_cases hw:bF s l p [110,111,116]=true
    ·have A:=dJ C I (fB hw)
     obtain⟨f,t,q,L,H⟩:=E 3 (aB l p) A.1.2 (by omega) (by omega) (by have:=A.2;omega);refine eG (x:=aI l q p.k 28 [110,111,116] [t]) (f:=f+1) (A.1.trans H) ?_ (by trivial);rw[aP,if_pos rfl,if_pos hw,gW (L f (aab _))]
    ·obtain⟨f,t,q,L,H⟩:=E 4 p I (by omega) (by omega) (by omega)
     refine eG (x:=t) (f:=f+1) (H) ?_ (by trivial);rw[aP,if_pos rfl,if_neg hw];exact L f (aab _)
   ·by_cases h77:U=7
    ·subst h77
     by_cases hw:bF s l p [45]=true
     ·have A:=dJ C I (fB hw)
      obtain⟨f,t,q,L,H⟩:=E 7 (aB l p) A.1.2 (by omega) (by omega) (by have:=A.2;omega);refine eG (x:=aI l q p.k 28 [45] [t]) (f:=f+1) (A.1.trans H) ?_ (by trivial);rw[aP,if_neg N,if_pos rfl,if_pos hw,gW (L f (aab _))]
     ·obtain⟨f,t,q,L,H,_⟩:=rW (ih .operand p I trivial (by simp only[om];omega)) rfl
      refine eG (x:=t) (f:=f+1) (H) ?_ (by trivial);rw[aP,if_neg N,if_pos rfl,if_neg hw];exact L f (aab _)
    ·obtain⟨f,t,q,L,H⟩:=E (U+1) p I (by omega) (by omega) (by omega)
     obtain⟨P,z,Q,J,d,_⟩:=rW (ih (.xZ U p.k t) q H.2 (show U<=6 by omega) (by simp only[om];have:=H.1;omega)) rfl;refine eG (x:=z) (f:=max f P+1) (H.trans d) ?_ (by trivial);rw[aP,if_neg N,if_neg h77,gW (L _ (Nat.le_max_left _ _))];exact J _ (Nat.le_max_right _ _)
  | xZ U first x=>
   have hr':U<=6:=hr;simp only[om]at v;by_cases ho:yY s l p U=true
   ·have hk:bM l p≠5:=by unfold yY at ho;simp at ho;exact ho.1
    have A:=dJ C I hk;obtain⟨f,t,q,L,H⟩:=E (U+1) (aB l p) A.1.2 (by omega) (by omega) (by have:=A.2;omega);by_cases h44:U=4
    ·refine eG (x:=aI l q first 29 (bK s l p.k) [x,t]) (f:=f+1) (A.1.trans H) ?_ (by trivial)
     rw[aP,if_pos ho,gW (L f (aab _))];try simp only
     rw[if_pos h44]
    ·obtain⟨P,z,Q,J,d,_⟩:=rW (ih (.xZ U first (aI l q first 29 (bK s l p.k) [x,t])) q H.2 hr' (by simp only[om];have:=H.1;have:=A.2;omega)) rfl
     refine eG (x:=z) (f:=max f P+1) ((A.1.trans H).trans d) ?_ (by trivial);rw[aP,if_pos ho,gW (L _ (Nat.le_max_left _ _))];try simp only
     rw[if_neg h44];exact J _ (Nat.le_max_right _ _)
   ·refine eG (x:=x) (f:=1) (le_refl I) ?_ (by trivial)
    rw[aP,if_neg ho]
  | operand=>
   simp only[om]at v;by_cases D:bM l p=2
   ·refine eG (x:=aI l (aB l p) p.k 24 (gH (bK s l p.k)) []) (f:=1) ((dJ C I (by rw[D];decide)).1) ?_ (by trivial)
    rw[aP,if_pos D]
   by_cases G:(bF s l p [116,114,117,101] || bF s l p [102,97,108,115,101])=true
   ·have hk:bM l p≠5:=by
     rw[Bool.or_eq_true]at G;rcases G with G|G<;>exact fB G
    refine eG (x:=aI l (aB l p) p.k 25 (bK s l p.k) []) (f:=1) ((dJ C I hk).1) ?_ (by trivial);rw[aP,if_neg D,if_pos G]
   by_cases N:(decide (bM l p=0)&&decide (oL s l p=[40]))=true
   ·have b:=N
    simp at b;have A:=dJ C I (by rw[b.1];decide);have hk2:=JB g b.2;obtain⟨f,x,q,L,H⟩:=wJ (ih .args (aB l p) A.1.2 hk2 (by simp only[om];have:=A.2;omega));refine eG (x:=aI l q p.k 27 (bK s l p.k) x) (f:=f+1) (A.1.trans H) ?_ (by trivial);rw[aP,if_neg D,if_neg G,if_pos N,AZ (L f (aab _))]
   by_cases L:bM l p=0
   ·obtain⟨f,t,q,H,J,_⟩:=rW (ih .place p I trivial (by simp only[om];omega)) rfl
    refine eG (x:=t) (f:=f+1) (J) ?_ (by trivial);rw[aP,if_neg D,if_neg G,if_neg N,if_pos L];exact H f (aab _)
   by_cases H:bF s l p [91]=true
   ·have A:=dJ C I (fB H)
    obtain⟨f,t,q,J,F⟩:=E 1 (aB l p) A.1.2 (by omega) (by omega) (by have:=A.2;omega);obtain⟨P,m,Q,R,T⟩:=wJ (ih (.qR [t]) q F.2 trivial (by simp only[om];have:=A.2;have:=F.1;omega));refine eG (x:=aI l (aL s l Q [93]) p.k 26 [] m) (f:=max f P+1) ((A.1.trans F).trans (T.trans (eO (s:=s) (w:=[93]) C T.2))) ?_ (by trivial);rw[aP,if_neg D,if_neg G,if_neg N,if_neg L,if_pos H,gW (J _ (Nat.le_max_left _ _)),AZ (R _ (Nat.le_max_right _ _))]
   by_cases J:bF s l p [108,101,110]=true
   ·have A:=dJ C I (fB J)
    have O:=eO (s:=s) (w:=[40]) C A.1.2;have S:=Zu (s:=s) C O.2;have K:=eO (s:=s) (w:=[41]) C S.2;refine eG (x:=aI l (aL s l (nR s l (aL s l (aB l p) [40])).2 [41]) p.k 23 [] [(nR s l (aL s l (aB l p) [40])).1]) (f:=1) (((A.1.trans O).trans S).trans K) ?_ (by trivial);rw[aP,if_neg D,if_neg G,if_neg N,if_neg L,if_neg H,if_pos J]
   by_cases F:bF s l p [40]=true
   ·have A:=dJ C I (fB F)
    obtain⟨f,t,q,R,T⟩:=E 1 (aB l p) A.1.2 (by omega) (by omega) (by have:=A.2;omega);refine eG (x:=t) (f:=f+1) ((A.1.trans T).trans (eO (s:=s) (w:=[41]) C T.2)) ?_ (by trivial);rw[aP,if_neg D,if_neg G,if_neg N,if_neg L,if_neg H,if_neg J,if_pos F,gW (R f (aab _))]
   ·refine eG (x:=aI l (iI l p 5 []) p.k 1 [] []) (f:=1) (xE (c:=5) (t:=[]) I) ?_ (by trivial)
    rw[aP,if_neg D,if_neg G,if_neg N,if_neg L,if_neg H,if_neg J,if_neg F]
  | args=>
   have hk:bM l p≠5:=hr;simp only[om]at v;have A:=dJ C I hk;by_cases D:bF s l (aB l p) [41]=true
   ·refine Bb (x:=[]) (f:=1) (A.1.trans (eO (s:=s) (w:=[41]) C A.1.2)) ?_ rfl (by trivial)
    rw[aP];rw[if_pos D]
   ·obtain⟨f,t,q,J,F⟩:=E 1 (aB l p) A.1.2 (by omega) (by omega) (by have:=A.2;omega)
    obtain⟨P,m,Q,R,T⟩:=wJ (ih (.qR [t]) q F.2 trivial (by simp only[om];have:=A.2;have:=F.1;omega));refine Bb (x:=m) (f:=max f P+1) ((A.1.trans F).trans (T.trans (eO (s:=s) (w:=[41]) C T.2))) ?_ rfl (by trivial);rw[aP];try simp only
    rw[if_neg D,gW (J _ (Nat.le_max_left _ _)),AZ (R _ (Nat.le_max_right _ _))]
  | qR kids=>
   simp only[om]at v;by_cases D:bF s l p [44]=true
   ·have A:=dJ C I (fB D)
    obtain⟨f,t,q,J,F⟩:=E 1 (aB l p) A.1.2 (by omega) (by omega) (by have:=A.2;omega);obtain⟨P,m,Q,R,T⟩:=wJ (ih (.qR (kids++[t])) q F.2 trivial (by simp only[om];have:=A.2;have:=F.1;omega));refine Bb (x:=m) (f:=max f P+1) ((A.1.trans F).trans T) ?_ rfl (by trivial);rw[aP,if_pos D,gW (J _ (Nat.le_max_left _ _))];exact R _ (Nat.le_max_right _ _)
   ·refine Bb (x:=kids) (f:=1) (le_refl I) ?_ rfl (by trivial)
    rw[aP,if_neg D]
  | place=>
   simp only[om]at v;have hv:=Zu (s:=s) C I;have Y:=fun h=>lt_var (s:=s) C I h
   by_cases D:bF s l (nR s l p).2 [91]=true
   ·have A:=dJ C hv.2 (fB D)
    obtain⟨f,t,q,J,F⟩:=E 1 (aB l (nR s l p).2) A.1.2 (by omega) (by omega) (by have:=A.2;have:=hv.1;omega);refine eG (x:=aI l (aL s l q [93]) p.k 21 [] [(nR s l p).1,t]) (f:=f+1) (((hv.trans A.1).trans F).trans (eO (s:=s) (w:=[93]) C F.2)) ?_ (fun h=>by have:=Y h;have:=((A.1.trans F).trans (eO (s:=s) (w:=[93]) C F.2)).1;omega);rw[aP];try simp only
    rw[if_pos D,gW (J f (aab _))]
   by_cases G:bF s l (nR s l p).2 [46]=true
   ·have A:=dJ C hv.2 (fB G)
    refine eG (x:=aI l (dK l (aB l (nR s l p).2)) p.k 22 (cK s l (aB l (nR s l p).2)) [(nR s l p).1]) (f:=1) ((hv.trans A.1).trans (uY C A.1.2)) ?_ (fun h=>by have:=Y h;have:=(A.1.trans (uY C A.1.2)).1;omega);rw[aP];rw[if_neg D,if_pos G]
   ·refine eG (x:=(nR s l p).1) (f:=1) hv ?_ Y
    rw[aP];rw[if_neg D,if_neg G]
  | stmt=>
   simp only[om]at v;by_cases D:bF s l p [118,97,114]=true
   ·have A:=dJ C I (fB D)
    have O:=uY C A.1.2;have S:=Rz (s:=s) C O.2;have K:=eO (s:=s) (w:=[61]) C S.2;have hall:=((A.1.trans O).trans S).trans K;have Y:p.k<(aL s l (jR s l (dK l (aB l p))).2 [61]).k:=by have:=A.2;have:=((O.trans S).trans K).1;omega
    obtain⟨f,t,q,J,F⟩:=E 1 (aL s l (jR s l (dK l (aB l p))).2 [61]) K.2 (by omega) (by omega) (by omega);have R:=eO (s:=s) (w:=[59]) C F.2;refine eG (x:=aI l (aL s l q [59]) p.k 12 (cK s l (aB l p)) [(jR s l (dK l (aB l p))).1,t]) (f:=f+1) ((hall.trans F).trans R) ?_ (fun _=>?_)
    ·rw[aP]
     try simp only
     rw[if_pos D,gW (J f (aab _))]
    ·have:=F.1;have:=R.1;omega
   by_cases G:bF s l p [105,102]=true
   ·obtain⟨f,t,q,J,F,R⟩:=rW (ih .branch p I (fB G) (by simp only[om];omega)) rfl
    refine eG (x:=t) (f:=f+1) F ?_ (fun _=>R);rw[aP];try simp only
    rw[if_neg D,if_pos G];exact J f (aab _)
   by_cases N:bF s l p [119,104,105,108,101]=true
   ·have A:=dJ C I (fB N)
    obtain⟨X,Z,y,O,M⟩:=E 1 (aB l p) A.1.2 (by omega) (by omega) (by have:=A.2;omega);obtain⟨P,z,Q,S,W⟩:=B y M.2 (by have:=A.2;have:=M.1;omega);refine eG (x:=aI l Q p.k 15 [] [Z,z]) (f:=max X P+1) ((A.1.trans M).trans W) ?_ (fun _=>?_)
    ·rw[aP]
     try simp only
     rw[if_neg D,if_neg G,if_pos N,gW (O _ (Nat.le_max_left _ _)),gW (S _ (Nat.le_max_right _ _))]
    ·have:=A.2;have:=M.1;have:=W.1;omega
   by_cases L:bF s l p [102,111,114]=true
   ·have A:=dJ C I (fB L)
    have O:=uY C A.1.2;have S:=eO (s:=s) (w:=[61]) C O.2;obtain⟨X,Z,y,u,M⟩:=E 1 (aL s l (dK l (aB l p)) [61]) S.2 (by omega) (by omega) (by have:=A.2;have:=(O.trans S).1;omega);have K:=eO (s:=s) (w:=[116,111]) C M.2;obtain⟨P,z,Q,c2,W⟩:=E 1 (aL s l y [116,111]) K.2 (by omega) (by omega) (by have:=A.2;have:=(((O.trans S).trans M).trans K).1;omega);obtain⟨f3,t3,q3,c3,j⟩:=B Q W.2 (by have:=A.2;have:=((((O.trans S).trans M).trans K).trans W).1;omega);refine eG (x:=aI l q3 p.k 16 (cK s l (aB l p)) [Z,z,t3]) (f:=max X (max P f3)+1) ((((((A.1.trans O).trans S).trans M).trans K).trans W).trans j) ?_ (fun _=>?_)
    ·rw[aP]
     try simp only
     rw[if_neg D,if_neg G,if_neg N,if_pos L,gW (u _ (Nat.le_max_left _ _)),gW (c2 _ (aac (Nat.le_max_left _ _) (Nat.le_max_right _ _))),gW (c3 _ (aac (Nat.le_max_right _ _) (Nat.le_max_right _ _)))]
    ·have:=A.2;have:=(((((O.trans S).trans M).trans K).trans W).trans j).1;omega
   by_cases H:bF s l p [114,101,116,117,114,110]=true
   ·have A:=dJ C I (fB H)
    by_cases J:(EA s l (aB l p) || bF s l (aB l p) [110,111,116] || bF s l (aB l p) [45])=true
    ·obtain⟨X,Z,y,u,M⟩:=E 1 (aB l p) A.1.2 (by omega) (by omega) (by have:=A.2;omega)
     have K:=eO (s:=s) (w:=[59]) C M.2;refine eG (x:=aI l (aL s l y [59]) p.k 17 [] [Z]) (f:=X+1) ((A.1.trans M).trans K) ?_ (fun _=>?_)
     ·rw[aP]
      try simp only
      rw[if_neg D,if_neg G,if_neg N,if_neg L,if_pos H,if_pos J,gW (u _ (aab _))]
     ·have:=A.2;have:=(M.trans K).1;omega
    ·have K:=eO (s:=s) (w:=[59]) C A.1.2
     refine eG (x:=aI l (aL s l (aB l p) [59]) p.k 17 [] [aI l (aB l p) (aB l p).k 0 [] []]) (f:=1) (A.1.trans K) ?_ (fun _=>?_)
     ·rw[aP]
      try simp only
      rw[if_neg D,if_neg G,if_neg N,if_neg L,if_pos H,if_neg J]
     ·have:=A.2;have:=K.1;omega
   by_cases J:bF s l p [97,115,115,101,114,116]=true
   ·have A:=dJ C I (fB J)
    obtain⟨X,Z,y,u,M⟩:=E 1 (aB l p) A.1.2 (by omega) (by omega) (by have:=A.2;omega);have K:=eO (s:=s) (w:=[59]) C M.2;refine eG (x:=aI l (aL s l y [59]) p.k 18 [] [Z]) (f:=X+1) ((A.1.trans M).trans K) ?_ (fun _=>?_)
    ·rw[aP]
     try simp only
     rw[if_neg D,if_neg G,if_neg N,if_neg L,if_neg H,if_pos J,gW (u _ (aab _))]
    ·have:=A.2;have:=(M.trans K).1;omega
   by_cases F:(decide (bM l p=0)&&decide (oL s l p=[40]))=true
   ·have d:=F
    simp at d;have A:=dJ C I (by rw[d.1];decide);have hk2:=JB g d.2;obtain⟨f,x,q,R,T⟩:=wJ (ih .args (aB l p) A.1.2 hk2 (by simp only[om];have:=A.2;omega));have K:=eO (s:=s) (w:=[59]) C T.2;refine eG (x:=aI l (aL s l q [59]) p.k 19 (bK s l p.k) x) (f:=f+1) ((A.1.trans T).trans K) ?_ (fun _=>?_)
    ·rw[aP]
     try simp only
     rw[if_neg D,if_neg G,if_neg N,if_neg L,if_neg H,if_neg J,if_pos F,AZ (R f (aab _))]
    ·have:=A.2;have:=(T.trans K).1;omega
   by_cases R:bM l p=0
   ·obtain⟨X,Z,y,u,M,hpl⟩:=rW (ih .place p I trivial (by simp only[om];omega)) rfl
    have Y:p.k<y.k:=hpl R;have O:=eO (s:=s) (w:=[61]) C M.2;obtain⟨P,z,Q,c2,W⟩:=E 1 (aL s l y [61]) O.2 (by omega) (by omega) (by have:=O.1;omega);have K:=eO (s:=s) (w:=[59]) C W.2;refine eG (x:=aI l (aL s l Q [59]) p.k 13 [] [Z,z]) (f:=max X P+1) (((M.trans O).trans W).trans K) ?_ (fun _=>?_)
    ·rw[aP]
     try simp only
     rw[if_neg D,if_neg G,if_neg N,if_neg L,if_neg H,if_neg J,if_neg F,if_pos R,gW (u _ (Nat.le_max_left _ _)),gW (c2 _ (Nat.le_max_right _ _))]
    ·have:=((O.trans W).trans K).1;omega
   ·obtain⟨f,x,q,u,c2,c3⟩:=WC (s:=s) C I
    refine eG (x:=x) (f:=f+1) c2 ?_ c3;rw[aP];try simp only
    rw[if_neg D,if_neg G,if_neg N,if_neg L,if_neg H,if_neg J,if_neg F,if_neg R,u]
  | block=>
   simp only[om]at v;by_cases D:bF s l p [123]=true
   ·have A:=dJ C I (fB D)
    obtain⟨P,m,Q,R,T⟩:=wJ (ih (.tZ []) (aB l p) A.1.2 trivial (by simp only[om];have:=A.2;omega));refine eG (x:=aI l (aL s l Q [125]) p.k 11 [] m) (f:=P+1) ((A.1.trans T).trans (eO (s:=s) (w:=[125]) C T.2)) ?_ (by trivial);rw[aP,if_pos D,AZ (R _ (aab _))]
   ·refine eG (x:=aI l (iI l p 4 [123]) p.k 11 [] []) (f:=1) (xE (c:=4) (t:=[123]) I) ?_ (by trivial)
    rw[aP,if_neg D]
  | tZ kids=>
   simp only[om]at v;by_cases D:mM s l p=true
   ·refine Bb (x:=kids) (f:=1) (le_refl I) ?_ rfl (by trivial)
    rw[aP,if_pos D]
   ·have h1':mM s l p=false:=by simpa using D
    obtain⟨f,t,q,J,F,R⟩:=rW (ih .stmt p I trivial (by simp only[om];omega)) rfl;have Y:p.k<q.k:=R h1';obtain⟨P,m,Q,T,h10⟩:=wJ (ih (.tZ (kids++[t])) q F.2 trivial (by simp only[om];omega));refine Bb (x:=m) (f:=max f P+1) (F.trans h10) ?_ rfl (by trivial);rw[aP,if_neg D,gW (J _ (Nat.le_max_left _ _))];exact T _ (Nat.le_max_right _ _)
  | branch=>
   have hk:bM l p≠5:=hr;simp only[om]at v;have A:=dJ C I hk;obtain⟨X,Z,y,O,M⟩:=E 1 (aB l p) A.1.2 (by omega) (by omega) (by have:=A.2;omega);obtain⟨P,z,Q,S,W⟩:=B y M.2 (by have:=A.2;have:=M.1;omega);have hq2:p.k<Q.k:=by have:=A.2;have:=M.1;have:=W.1;omega
   have hle:=(A.1.trans M).trans W;by_cases D:bF s l Q [101,108,115,101]=true
   ·have V:=dJ C W.2 (fB D)
    by_cases G:bF s l (aB l Q) [105,102]=true
    ·obtain⟨f3,t3,q3,K,j,c3⟩:=rW (ih .branch (aB l Q) V.1.2 (fB G) (by simp only[om];have:=V.2;omega)) rfl
     refine eG (x:=aI l q3 p.k 14 [] [Z,z,t3]) (f:=max X (max P f3)+1) ((hle.trans V.1).trans j) ?_ ?_
     ·rw[aP,gW (O _ (Nat.le_max_left _ _)),gW (S _ (aac (Nat.le_max_left _ _) (Nat.le_max_right _ _))),if_pos D,if_pos G,gW (K _ (aac (Nat.le_max_right _ _) (Nat.le_max_right _ _)))]
     ·have:=j.1;have:=V.2;show p.k<q3.k;omega
    ·obtain⟨f3,t3,q3,K,j⟩:=B (aB l Q) V.1.2 (by have:=V.2;omega)
     refine eG (x:=aI l q3 p.k 14 [] [Z,z,t3]) (f:=max X (max P f3)+1) ((hle.trans V.1).trans j) ?_ ?_
     ·rw[aP,gW (O _ (Nat.le_max_left _ _)),gW (S _ (aac (Nat.le_max_left _ _) (Nat.le_max_right _ _))),if_pos D,if_neg G,gW (K _ (aac (Nat.le_max_right _ _) (Nat.le_max_right _ _)))]
     ·have:=j.1;have:=V.2;show p.k<q3.k;omega
   ·refine eG (x:=aI l Q p.k 14 [] [Z,z,aI l Q Q.k 0 [] []]) (f:=max X P+1) (hle) ?_ hq2
    rw[aP,gW (O _ (Nat.le_max_left _ _)),gW (S _ (Nat.le_max_right _ _)),if_neg D]
end
end Go.Proofs.YtoepemlnlpamlaaGreat
