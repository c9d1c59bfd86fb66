/- The law NamesStand holds: for every text and every number the law returns true, and its arguments read as before. No condition. Part 43: RepM Copy LawO1 Chg0. -/
import Derived.Test.YtoepemlnlpamlaaGreatStand41
import Derived.Test.YtoepemlnlpamlaaGreatStand42
set_option maxRecDepth 100000
set_option maxHeartbeats 4000000
namespace Go.Proofs.YtoepemlnlpamlaaGreat
open Go.RowKit
mutual
def lF(w:World)(P:Nat->Prop):aa->List Value->Prop
 | .node k t a e kids,cs=> ∃A c,cs=[.int .i64 k,.string t,.int .i64 a,.int .i64 e,.slice A kids.length c]/\kids.length<=c/\dO w P A 0 kids
def dO(w:World)(P:Nat->Prop)(A:Option Addr):Nat->List aa->Prop
 | _,[]=>True
 | i,t::ts=>(∃b off vals,A=some ⟨b,off,none⟩/\(b<w.heap.size/\P b)/\(∀j v,vals[j]? =some v->w.cell? ⟨b,off+i*5+j,none⟩=some v)/\lF w P t vals)/\dO w P A (i+1) ts
end
def gJ(P:Nat->Prop)(w w':World):Prop:=w.heap.size<=w'.heap.size/\∀g,g<w.heap.size->P g->w'.heap[g]? =w.heap[g]?
theorem gJ.trans{P:Nat->Prop}{a b c:World}(h:gJ P a b)(k:gJ P b c):gJ P a c:=⟨aac h.1 k.1,fun g hg hP=>(k.2 g (Nat.lt_of_lt_of_le hg h.1) hP).trans (h.2 g hg hP)⟩
theorem gJ.since{P S:Nat->Prop}{a b:World}(h:aA S a b)(hS:∀g,g<a.heap.size->P g->¬S g):gJ P a b:=⟨h.size,fun g hg hP=>h.block g hg (hS g hg hP)⟩
theorem gJ.below{P:Nat->Prop}{B:Nat}{a b:World}(h:Below B a b)(hs:a.heap.size<=b.heap.size)(hP:∀g,P g->g<B):gJ P a b:=⟨hs,fun g _ hp=>h.block g (hP g hp)⟩
theorem gJ.all{P:Nat->Prop}{a b:World}(h:Below a.heap.size a b):gJ P a b:=⟨h.size,fun g hg _=>h.block g hg⟩
theorem Xg{w w':World}{b:Nat}(h:w'.heap[b]? =w.heap[b]?)(o:Nat):w'.cell? ⟨b,o,none⟩=w.cell? ⟨b,o,none⟩:=by
 simp only[World.cell?,h]
mutual
theorem lF.keep{P:Nat->Prop}{w w':World}(hk:gJ P w w'):∀(t:aa) (cs:List Value),lF w P t cs->lF w' P t cs
 | .node _ _ _ _ kids,_,h=>by
  obtain⟨A,c,h1,h2,h3⟩:=h;exact⟨A,c,h1,h2,dO.keep hk kids A 0 h3⟩
theorem dO.keep{P:Nat->Prop}{w w':World}(hk:gJ P w w'):∀(ts:List aa) (A:Option Addr) (i:Nat),dO w P A i ts->dO w' P A i ts
 | [],_,_,_=>trivial
 | t::ts,A,i,h=>by
  obtain⟨⟨b,off,vals,h1,⟨h2,hP⟩,h3,h4⟩,h5⟩:=h;exact⟨⟨b,off,vals,h1,⟨Nat.lt_of_lt_of_le h2 hk.1,hP⟩,fun j v hj=>(Xg (hk.2 b h2 hP) _).trans (h3 j v hj),lF.keep hk t vals h4⟩,dO.keep hk ts A (i+1) h5⟩
end
mutual
theorem lF.weak{P Q:Nat->Prop}{w:World}(zg:∀g,g<w.heap.size->P g->Q g):∀(t:aa) (cs:List Value),lF w P t cs->lF w Q t cs
 | .node _ _ _ _ kids,_,h=>by
  obtain⟨A,c,h1,h2,h3⟩:=h;exact⟨A,c,h1,h2,dO.weak zg kids A 0 h3⟩
theorem dO.weak{P Q:Nat->Prop}{w:World}(zg:∀g,g<w.heap.size->P g->Q g):∀(ts:List aa) (A:Option Addr) (i:Nat),dO w P A i ts->dO w Q A i ts
 | [],_,_,_=>trivial
 | t::ts,A,i,h=>by
  obtain⟨⟨b,off,vals,h1,⟨h2,hP⟩,h3,h4⟩,h5⟩:=h;exact⟨⟨b,off,vals,h1,⟨h2,zg b h2 hP⟩,h3,lF.weak zg t vals h4⟩,dO.weak zg ts A (i+1) h5⟩
end
mutual
theorem lF.at_{P:Nat->Prop}{w:World}:∀(t:aa) (cs:List Value),lF w P t cs->mg w w.heap.size t cs
 | .node _ _ _ _ kids,_,h=>by
  obtain⟨A,c,h1,h2,h3⟩:=h;exact⟨A,c,h1,h2,dO.at_ kids A 0 h3⟩
theorem dO.at_{P:Nat->Prop}{w:World}:∀(ts:List aa) (A:Option Addr) (i:Nat),dO w P A i ts->aK w w.heap.size A i ts
 | [],_,_,_=>trivial
 | t::ts,A,i,h=>by
  obtain⟨⟨b,off,vals,h1,⟨h2,-⟩,h3,h4⟩,h5⟩:=h;exact⟨⟨b,off,vals,h1,h2,h3,lF.at_ t vals h4⟩,dO.at_ ts A (i+1) h5⟩
end
def fD(w:World)(P:Nat->Prop):List aa->List (List Value)->Prop
 | [],vals=>vals=[]
 | t::ts,vals=> ∃v vs,vals=v::vs/\lF w P t v/\fD w P ts vs
theorem fD.keep{P:Nat->Prop}{w w':World}(hk:gJ P w w'):∀{ts:List aa}{vs:List (List Value)},fD w P ts vs->fD w' P ts vs
 | [],_,h=>h
 | _::_,_,h=>by
  obtain⟨v,vs,rfl,h3,h4⟩:=h;exact⟨v,vs,rfl,lF.keep hk _ _ h3,fD.keep hk h4⟩
theorem fD.weak{P Q:Nat->Prop}{w:World}(zg:∀g,g<w.heap.size->P g->Q g):∀{ts:List aa}{vs:List (List Value)},fD w P ts vs->fD w Q ts vs
 | [],_,h=>h
 | _::_,_,h=>by
  obtain⟨v,vs,rfl,h3,h4⟩:=h;exact⟨v,vs,rfl,lF.weak zg _ _ h3,fD.weak zg h4⟩
theorem fD.append{w:World}{P:Nat->Prop}:∀{ts us:List aa}{vs ws:List (List Value)},fD w P ts vs->fD w P us ws->fD w P (ts++us) (vs++ws)
 | [],us,vs,ws,h,h2=>by
  have:vs=[]:=h;subst this;exact h2
 | t::ts,us,_,ws,h,h2=>by
  obtain⟨v,vs,rfl,h3,h4⟩:=h;exact⟨v,vs++ws,rfl,h3,fD.append h4 h2⟩
theorem fD.take{w:World}{P:Nat->Prop}:∀{ts:List aa}{vs:List (List Value)}(i:Nat),fD w P ts vs->fD w P (ts.take i) (vs.take i)
 | [],vs,i,h=>by
  have:vs=[]:=h;subst this;simp[fD]
 | t::ts,_,0,h=>by simp[fD]
 | t::ts,_,i+1,h=>by
  obtain⟨v,vs,rfl,h3,h4⟩:=h;exact⟨v,vs.take i,rfl,h3,fD.take i h4⟩
theorem fD.drop{w:World}{P:Nat->Prop}:∀{ts:List aa}{vs:List (List Value)}(i:Nat),fD w P ts vs->fD w P (ts.drop i) (vs.drop i)
 | [],vs,i,h=>by
  have:vs=[]:=h;subst this;simp[fD]
 | t::ts,vs,0,h=>h
 | t::ts,_,i+1,h=>by
  obtain⟨v,vs,rfl,h3,h4⟩:=h;exact fD.drop (ts:=ts) (vs:=vs) i h4
theorem fD.set{w:World}{P:Nat->Prop}{t:aa}{v:List Value}(ht:lF w P t v):∀{ts:List aa}{vs:List (List Value)}(i:Nat),fD w P ts vs->fD w P (ts.set i t) (vs.set i v)
 | [],vs,i,h=>by
  have:vs=[]:=h;subst this;simp[fD]
 | u::ts,_,0,h=>by
  obtain⟨v1,vs,rfl,h3,h4⟩:=h;exact⟨v,vs,rfl,ht,h4⟩
 | u::ts,_,i+1,h=>by
  obtain⟨v1,vs,rfl,h3,h4⟩:=h;exact⟨v1,vs.set i v,rfl,h3,fD.set ht i h4⟩
theorem lF.five{w:World}{P:Nat->Prop}{t:aa}{cs:List Value}(h:lF w P t cs):∃A c,cs=[.int .i64 t.kind,.string t.text,.int .i64 t.at_,.int .i64 t.end_,.slice A t.kids.length c]/\t.kids.length<=c/\dO w P A 0 t.kids:=by
 cases t
 obtain⟨A,c,h1,h0,h2⟩:=h;exact⟨A,c,h1,h0,h2⟩
theorem fD.lens{w:World}{P:Nat->Prop}:∀{ts:List aa}{vs:List (List Value)},fD w P ts vs->vs.length=ts.length/\(List.flatten vs).length=ts.length*5/\(∀u∈List.flatten vs,u.oneCell'=true)/\∀v∈vs,v.length=5
 | [],vs,h=>by
  have:vs=[]:=h;subst this;exact⟨rfl,rfl,by simp,by simp⟩
 | t::ts,_,h=>by
  obtain⟨v,vs,rfl,h3,h4⟩:=h;have ih:=fD.lens h4;obtain⟨A,c,rfl,-⟩:=h3.five;refine⟨by simp[ih.1],?_,fun u hu=>?_,fun v hv=>?_⟩
  ·simp only[List.flatten_cons,aam,ih.2.1,aao,List.length_nil]
   omega
  ·simp only[List.flatten_cons,List.mem_append]at hu
   rcases hu with hu|hu
   ·simp at hu
    rcases hu with rfl|rfl|rfl|rfl|rfl<;>rfl
   ·exact ih.2.2.1 u hu
  ·rcases List.mem_cons.1 hv with rfl|hv
   ·rfl
   ·exact ih.2.2.2 v hv
theorem fD.get{w:World}{P:Nat->Prop}:∀{ts:List aa}{vs:List (List Value)},fD w P ts vs->∀(i:Nat) (t:aa),ts[i]? =some t->∃v,vs[i]? =some v/\lF w P t v
 | [],_,_,i,t,ht=>by cases ht
 | u::ts,_,h,0,t,ht=>by
  obtain⟨v,vs,rfl,h3,h4⟩:=h;simp only[aai,aag]at ht;subst ht;exact⟨v,rfl,h3⟩
 | u::ts,_,h,i+1,t,ht=>by
  obtain⟨v,vs,rfl,h3,h4⟩:=h;exact fD.get h4 i t (by simpa using ht)
theorem dO.OO{w:World}{P:Nat->Prop}{lo n c:Nat}{A:Option Addr}{ts:List aa}{vals:List (List Value)}(hO:aP w lo 24 5 (.slice A n c) n (List.flatten vals))(hV:fD w P ts vals)(hn:ts.length=n)(hP:∀g,(Value.slice A n c).ownBlock=some g->P g):dO w P A 0 ts:=by
 obtain⟨hl,-,-,h5⟩:=hV.lens;suffices h:∀(us:List aa) (i:Nat),ts.drop i=us->dO w P A i us by exact h ts 0 (by simp)
 intro us
 induction us with
 | nil=>intro i _;trivial
 | cons t us ih=>
  intro i hd
  have ht:ts[i]? =some t:=by
   have:=congrArg (fun l=>l[0]?) hd;simpa using this
  have hr:ts.drop (i+1)=us:=by
   have:=congrArg (List.drop 1) hd;rw[List.drop_drop]at this;rw[this];rfl
  have hi:i<n:=by rw[<- hn];exact(aah.1 ht).1
  obtain⟨v,hv,hT⟩:=hV.get i t ht;obtain⟨g,off,cap,hA,-,-,-,hlt,hc⟩:=hO.form (by omega);cases hA
  refine⟨⟨g,off,v,rfl,⟨hlt,hP g rfl⟩,fun j u hu=>?_,hT⟩,ih (i+1) hr⟩;rw[Nat.add_assoc];exact hc _ _ (sM vals h5 i j v u hv hu)
theorem bV.NA{w:World}{P:Nat->Prop}:∀{ts:List aa}{vals:List (List Value)},bV w P ts vals->fD w P ts vals
 | [],_,h=>h
 | t::ts,_,h=>by
  obtain⟨v,vs,rfl,h1,h2⟩:=h;refine⟨v,vs,rfl,?_,bV.NA h2⟩;exact VI t v h1
where
 VI:∀(t:aa) (cs:List Value),aF w P t cs->lF w P t cs
  | .node k x a e kids,cs,h=>by
   obtain⟨A,c,vals,h1,h2,h3,h4⟩:=h;refine⟨A,c,h1,(by obtain⟨A',c',h5,h6,_⟩:=h2.shape;cases h5;exact h6),?_⟩;exact dO.OO h2 (bV.NA h4) rfl h3
mutual
def cZ:aa->List Nat->Nat->Nat->List aa->aa
 | .node k x a e kids,[],from_,gu,l=>.node k x a e (kids.take from_++l++kids.drop gu)
 | .node k x a e kids,j::p,from_,gu,l=>.node k x a e (xN kids j p from_ gu l)
def xN:List aa->Nat->List Nat->Nat->Nat->List aa->List aa
 | [],_,_,_,_,_=>[]
 | t::ts,0,p,from_,gu,l=>cZ t p from_ gu l::ts
 | t::ts,j+1,p,from_,gu,l=>t::xN ts j p from_ gu l
end
theorem AX:∀(ts:List aa) (j:Nat) (p:List Nat) (a b:Nat) (l:List aa) (u:aa),ts[j]? =some u->xN ts j p a b l=ts.set j (cZ u p a b l)
 | [],j,p,a,b,l,u,h=>by cases h
 | t::ts,0,p,a,b,l,u,h=>by
  simp only[aai,aag]at h;subst h;rw[xN,sZ]
 | t::ts,j+1,p,a,b,l,u,h=>by
  rw[aaj]at h;rw[xN,sC,AX ts j p a b l u h]
theorem Ky:∀{ts:List aa}{j:Nat}{u:aa},ts[j]? =some u->ag (ts.take j)+ai u<=ag ts
 | [],j,u,h=>by cases h
 | t::ts,0,u,h=>by
  simp only[aai,aag]at h;subst h;simp[ag]
 | t::ts,j+1,u,h=>by
  rw[aaj]at h;have:=Ky h;simp only[List.take_succ_cons,ag];omega
theorem H6(y:aa):∀{ts:List aa}{j d:Nat}{u:aa},ts[j]? =some u->d<ai u->eZ ts (ag (ts.take j)+d) y=ts.set j (kr u d y)
 | [],j,d,u,h,_=>by cases h
 | t::ts,0,d,u,h,hd=>by
  simp only[aai,aag]at h;subst h;rw[List.take_zero,ag,Nat.zero_add,eZ,if_pos hd,sZ]
 | t::ts,j+1,d,u,h,hd=>by
  rw[aaj]at h;rw[List.take_succ_cons,ag,eZ,if_neg (by omega),show ai t+ag (ts.take j)+d - ai t=ag (ts.take j)+d by omega,sC,H6 y h hd]
theorem Dv:∀{p:List Nat}{t y:aa},dX t p=some y->oG t p+ai y<=ai t
 | [],t,y,h=>by
  simp only[dX,aag]at h;subst h;simp[oG]
 | j::p,t,y,h=>by
  rw[dX]at h
  cases hk:t.kids[j]? with
  | none=>rw[hk]at h;cases h
  | some k=>
   rw[hk]at h;have h1:=Dv (p:=p) (t:=k) h;have h2:=Ky hk;have h3:=jO t;rw[oG,hk];simp only;omega
theorem KF(y:aa):∀{p:List Nat}{t u z:aa}{i:Nat},dX t p=some u->u.kids[i]? =some z->cZ t p i (i+1) [y]=kr t (oG t (p++[i])) y
 | [],t,u,z,i,h,hz=>by
  simp only[dX,aag]at h;subst h;obtain⟨k,x,a,e,kids⟩:=t;have hz':kids[i]? =some z:=hz;have hil:=(aah.1 hz').1
  have hn:oG (.node k x a e kids) ([]++[i])=ag (kids.take i)+0+1:=by
   rw[List.nil_append,oG];show(match kids[i]? with|none=>0|some k=>1+ag (kids.take i)+oG k [])=_;rw[hz'];show 1+ag (kids.take i)+oG z []=_;rw[oG];omega
  have h0:kr z 0 y=y:=by cases z;rw[kr]
  have h9:=H6 y (d:=0) hz' (by have:=su z;omega);rw[Nat.add_zero,h0]at h9;rw[hn,kr,cZ,Nat.add_zero,h9];congr 1
  clear hn hz h0 h9
  induction kids generalizing i with
  | nil=>cases hz'
  | cons t ts ih=>
   cases i with
   | zero=>simp
   | succ i=>
    rw[aaj]at hz';have h5:=ih i hz' (by simpa using hil);rw[List.take_succ_cons,List.drop_succ_cons,sC,List.cons_append,List.cons_append,h5]
 | j::p,t,u,z,i,h,hz=>by
  rw[dX]at h
  cases hk:t.kids[j]? with
  | none=>rw[hk]at h;cases h
  | some v=>
   rw[hk]at h;have h':dX v p=some u:=h;have ih:=KF y (p:=p) h' hz;have hf:=Dv (Cf h' hz);have hcz:=su z;obtain⟨k,x,a,e,kids⟩:=t;have hk':kids[j]? =some v:=hk
   have hn:oG (.node k x a e kids) (j::p++[i])=ag (kids.take j)+oG v (p++[i])+1:=by
    rw[List.cons_append,oG];show(match kids[j]? with|none=>0|some k=>1+ag (kids.take j)+oG k (p++[i]))=_;rw[hk'];show 1+ag (kids.take j)+oG v (p++[i])=_;omega
   rw[hn,kr,cZ,AX kids j p i (i+1) [y] v hk',ih,H6 y hk' (by omega)]
theorem XZ{α:Type}{l:List α}{i:Nat}{x:α}(h:l[i]? =some x):l.take (i+1)=l.take i++[x]:=by
 rw[List.take_add_one,h];rfl
theorem bT.tree{w:World}{lo:Nat}{A:Option Addr}{c:Nat}{t:aa}(h:bT w lo (.slice A t.kids.length c) t.kids.length t.kids):aF w (fun g=>lo<=g) t [.int .i64 t.kind,.string t.text,.int .i64 t.at_,.int .i64 t.end_,.slice A t.kids.length c]:=by
 cases t
 exact h.node _ _ _ _
theorem Va:∀(m:Nat) (t:aa) (A:Option Addr) (c:Nat) (w:World),ai t<=m->m<=1000000000->t.kids.length<=c->aK w w.heap.size A 0 t.kids ->
 Calls Tryz.prog 89 #[bB t A c] w fun e w'=> ∃A' c',e= .returned (bB t A' c')/\bT w' w.heap.size (.slice A' t.kids.length c') t.kids.length t.kids/\Below w.heap.size w w':=by
 obtain⟨i0,hi0,hz0,hz1,hz2⟩:=info_parts pF;intro m
 induction m with
 | zero=>
  intro t A c w h;have:=sj t;omega
 | succ m ih=>
  intro t A c w hm hbig hcap hk;have hce:=jO t;obtain⟨kids,mh⟩:∃x,t.kids=x:=⟨_,rfl⟩
  obtain⟨n,hn⟩:∃x,kids.length=x:=⟨_,rfl⟩
  unfold bB;rw[mh]at hk hce⊢;rw[hn];obtain⟨k,hk0⟩:∃x,t.kind=x:=⟨_,rfl⟩
  obtain⟨x,hx0⟩:∃x,t.text=x:=⟨_,rfl⟩
  obtain⟨a,ha0⟩:∃x,t.at_=x:=⟨_,rfl⟩
  obtain⟨z,hzz⟩:∃x,t.end_=x:=⟨_,rfl⟩
  rw[hk0,hx0,ha0,hzz];have hcl:=dU kids;have HK:=kH hk;have HN:=kH hn;have fO:=kH ih;have HM:Hid (ag kids<=m/\m<=1000000000):=kH ⟨by omega,by omega⟩;have hnb:n<=1000000000:=by omega
  clear hk hce ih hm hbig hcap hk0 hx0 ha0 hzz mh hn hcl;go_enter Tryz.func89,Tryz.ntmps89
  go_wp2_with fail
  obtain⟨W3,hW3⟩:∃W3,((w.alloc (.cells #[.int .i64 k,.string x,.int .i64 a,.int .i64 z,.slice A n c] 24)).alloc (.cells #[.int .i64 0,.string ⟨#[]⟩,.int .i64 0,.int .i64 0,.slice none 0 0] 24)).alloc (.cells #[] 24)=W3:=⟨_,rfl⟩
  have hb3:Below w.heap.size w W3:=by rw[<- hW3];exact(((Below.refl _ w).alloc (aab _) _).alloc (by simp) _).alloc (by simp;omega) _
  have mr:ak W3 w.heap.size 24 #[.int .i64 k,.string x,.int .i64 a,.int .i64 z,.slice A n c]:=by rw[<- hW3];exact((ak.new w _ _).alloc _).alloc _
  have dD:ak W3 (w.heap.size+1) 24 #[.int .i64 0,.string ⟨#[]⟩,.int .i64 0,.int .i64 0,.slice none 0 0]:=by
   rw[<- hW3];have:=(ak.new (w.alloc (.cells #[.int .i64 k,.string x,.int .i64 a,.int .i64 z,.slice A n c] 24)) 24 #[.int .i64 0,.string ⟨#[]⟩,.int .i64 0,.int .i64 0,.slice none 0 0]).alloc (.cells #[] 24);simpa using this
  have Sg:ak W3 (w.heap.size+2) 24 #[]:=by
   rw[<- hW3];have:=ak.new ((w.alloc (.cells #[.int .i64 k,.string x,.int .i64 a,.int .i64 z,.slice A n c] 24)).alloc (.cells #[.int .i64 0,.string ⟨#[]⟩,.int .i64 0,.int .i64 0,.slice none 0 0] 24)) 24 #[];simpa using this
  have hK3:bT W3 (w.heap.size+2) (.slice (some ⟨w.heap.size+2,0,none⟩) 0 0) 0 []:=⟨[],aP.block (n:=0) (cur:=#[]) (aab _) Sg (by simp[maxLen]) rfl,rfl,rfl⟩
  have HB3:=kH hb3;have lG:=kH mr;have HR3:=kH dD;have gq:=kH hK3;have iy:=kH (aK.below hb3 (aab _) _ _ _ HK.out);have HL3:Hid (w.heap.size+2<W3.heap.size):=kH Sg.lt;rw[hW3];clear hb3 mr dD hK3 Sg hW3;go_loopg [3,4] n (fun gk s3 s4 wr=> ∃(i:Nat) (A3:Option Addr) (c3:Nat),i+gk=n/\s3= .slice A3 i c3/\s4= .int .i64 (i:Int)/\bT wr (w.heap.size+2) (.slice A3 i c3) i (kids.take i)/\Below (w.heap.size+2) W3 wr)
  case atStart=>exact⟨0,_,0,by omega,rfl,rfl,by simpa using gq.out,Below.refl _ _⟩
  case round=>
   obtain⟨i,A3,c3,hi,rfl,rfl,hO,hB⟩:=hrel;have hNr:=lG.out.below hB (by omega);have hc4:wr.cell? ⟨w.heap.size,4,none⟩=some (.slice A n c):=hNr.cell 4;have hlr:=hNr.lt;have hBw:Below w.heap.size w wr:=HB3.out.trans (hB.mono (by omega));have HB:=kH hB;have oD:=kH hBw;have HI:=kH hi;have HO:=kH hO;have Hf:=kH hNr;have hin:i<=n:=by omega
   have HWR:Hid (w.heap.size+2<wr.heap.size):=kH (by have:=HL3.out;have:=hB.size;omega);clear hB hNr hi hO hBw;by_cases hlt:i<n
   ·have hlt':(i:Int)<(n:Int):=by omega
    obtain⟨u,hu⟩:∃u,kids[i]? =some u:=⟨_,aaf (by rw[HN.out];exact hlt)⟩
    obtain⟨kv,⟨b,off,hA,hbl,hcs⟩,hT⟩:=HK.out.get i u hu;obtain⟨A',c',lh,hK'⟩:=hT.five;subst hA;subst lh;have Kg:=hT.cap;have hbb:b<wr.heap.size:=by have:=HWR.out;omega
    have t0:wr.cell? ⟨b,off+i*5,none⟩=some (.int .i64 u.kind):=(oD.out.cell (p:=⟨b,_,none⟩) hbl).trans (by simpa using hcs 0 _ rfl);have t1:wr.cell? ⟨b,off+i*5+1,none⟩=some (.string u.text):=(oD.out.cell (p:=⟨b,_,none⟩) hbl).trans (by simpa using hcs 1 _ rfl);have t2:wr.cell? ⟨b,off+i*5+2,none⟩=some (.int .i64 u.at_):=(oD.out.cell (p:=⟨b,_,none⟩) hbl).trans (by simpa using hcs 2 _ rfl);have t3:wr.cell? ⟨b,off+i*5+3,none⟩=some (.int .i64 u.end_):=(oD.out.cell (p:=⟨b,_,none⟩) hbl).trans (by simpa using hcs 3 _ rfl);have t4:wr.cell? ⟨b,off+i*5+4,none⟩=some (.slice A' u.kids.length c'):=(oD.out.cell (p:=⟨b,_,none⟩) hbl).trans (by simpa using hcs 4 _ rfl);have htk:=gP kids i u hu;have hle:=iZ kids (i+1);have hcall:=fO.out u A' c' wr (by have:=HM.out;omega) HM.out.2 Kg (aK.mono oD.out.size _ _ _ (aK.below oD.out (aab _) _ _ _ hK'));unfold bB at hcall;have HC:=kH hcall;have HU:=kH hu;have hwr:IntKind.i64.wrap ((i:Int)+1)=(i:Int)+1:=IntWalk.i64_in _ (by omega);obtain⟨un,hun⟩:∃q,u.kids.length=q:=⟨_,rfl⟩
    have HT:Hid (∀(W:World) (A5:Option Addr) (c5:Nat),bT W wr.heap.size (.slice A5 un c5) un u.kids->aF W (fun g=>wr.heap.size<=g) u [.int .i64 u.kind,.string u.text,.int .i64 u.at_,.int .i64 u.end_,.slice A5 un c5]):=kH (fun W A5 c5 h=>by rw[<- hun]at h⊢;exact h.tree);rw[hun]at t4 HC;obtain⟨ku,Cr⟩:∃q,u.kind=q:=⟨_,rfl⟩
    obtain⟨xu,hxu⟩:∃q,u.text=q:=⟨_,rfl⟩
    obtain⟨au,Ct⟩:∃q,u.at_=q:=⟨_,rfl⟩
    obtain⟨eu,heu⟩:∃q,u.end_=q:=⟨_,rfl⟩
    rw[Cr]at t0;rw[hxu]at t1;rw[Ct]at t2;rw[heu]at t3;rw[Cr,hxu,Ct,heu]at HC HT;clear hcs hT hK' htk hle hcall hu hun Kg Cr hxu Ct heu;go_wp2_with fail
    refine HC.out.mono ?_;rintro e w5 ⟨A5,c5,rfl,hK5,hb5⟩;obtain⟨vals,Kn,hTs,Ai⟩:=HO.out.keeps (dB.of_below hb5);have jH:=aF.weak (Q:=fun g=>w.heap.size+2<=g/\some g≠(Value.slice A3 i c3).ownBlock) (fun g _ hg=>⟨by have:=HWR.out;omega,fun e1=>by obtain⟨_,hO4,_,_⟩:=HO.out;have:=(hO4.lt g e1.symm).2;omega⟩) _ _ (HT.out w5 A5 c5 hK5);have zm:=kH Kn;have HTS:=kH hTs;have CE:=kH Ai;have HT5:=kH jH;have fT:=kH hb5;have Sn:Hid (w.heap.size+2<=w5.heap.size):=kH (by have:=HWR.out;have:=hb5.size;omega);clear Kn hTs Ai jH hK5 hb5;go_wp2_with (at_builtin;go_must (refine dP _ rfl (.tmp 13) (.tmp 20) _ rfl (w.heap.size+2) 24 i0 _ 5 64 Tryz.underlying22 hi0 hz0 hz1 hz2 rfl (.slice A3 i c3) i (List.flatten vals) rfl (zm.out.alloc _) ⟨w5.heap.size,0,none⟩ 1 1 [.int .i64 ku,.string xu,.int .i64 au,.int .i64 eu,.slice A5 un c5] rfl rfl (jr _ _ _ _ _ _ _ (by go_simp) (by go_simp) (by go_simp) (by go_simp) (by go_simp)) (by simp[Value.oneCell']) (by simp only[maxLen];omega) (by omega) (by simp;have:=Sn.out;omega) ?_);intro vn w6 hown hgrow hat;obtain⟨A6,c6,eG,-,-⟩:=hown.shape;subst eG;have HOWN:=kH hown;have pz:=kH hgrow;have HAT:=kH hat;clear hown hgrow hat)
    have yD:=bT.pushed HTS.out CE.out HT5.out HOWN.out pz.out HAT.out;rw[<- XZ HU.out]at yD;have hb6:Below (w.heap.size+2) W3 w6:=(HB.out.trans (fT.out.mono (by have:=HWR.out;omega))).trans ((((aA.refl (fun g=>w.heap.size+2<=g) w5).alloc _).grown pz.out (fun g hg=>.inl (zm.out.lt g hg).1)).toBelow Sn.out (fun g hg=>hg));go_roundg (gk - 1)
    case measure=>have:=HI.out;omega
    case rel=>exact⟨i+1,A6,c6,by have:=HI.out;omega,rfl,by simp,yD,hb6⟩
   ·have hie:i=n:=by omega
    subst hie;have htake:kids.take i=kids:=by rw[<- HN.out,List.take_length]
    have hKE:=HO.out;rw[htake]at hKE;have hRr:=HR3.out.below HB.out (by omega);obtain⟨⟨y0,y1,y2,y3,y4⟩,f0,f1,f2,f3,f4⟩:=hRr.five;have hfn:=Hf.out.frozen 4;have hNs:=Hf.out.gY 4 (.slice A3 i c3);have hN1:ak (wr.setCell ⟨w.heap.size,4,none⟩ (.slice A3 i c3)) w.heap.size 24 #[.int .i64 k,.string x,.int .i64 a,.int .i64 z,.slice A3 i c3]:=by simpa using hNs
    have eP:=hRr.far (p:=⟨w.heap.size,4,none⟩) (show w.heap.size+1≠w.heap.size by omega) (.slice A3 i c3);obtain⟨Z,hZ⟩:∃Z,bZ (wr.setCell ⟨w.heap.size,4,none⟩ (.slice A3 i c3)) (w.heap.size+1) (.int .i64 k) (.string x) (.int .i64 a) (.int .i64 z) (.slice A3 i c3)=Z:=⟨_,rfl⟩
    have D5:aA (fun g=>g=w.heap.size\/g=w.heap.size+1) wr Z:=by
     rw[<- hZ];exact((aA.refl (fun g=>g=w.heap.size\/g=w.heap.size+1) wr).setCell (p:=⟨w.heap.size,4,none⟩) (.inl (.inl rfl)) _).step (kP (w:=wr.setCell ⟨w.heap.size,4,none⟩ (.slice A3 i c3)) (g:=w.heap.size+1)) (fun g hg=>.inl (.inr hg))
    have BF:ak Z (w.heap.size+1) 24 #[.int .i64 k,.string x,.int .i64 a,.int .i64 z,.slice A3 i c3]:=by rw[<- hZ];exact ak.sI eP _ _ _ _ _
    have MN:bT Z (w.heap.size+2) (.slice A3 i c3) i kids:=hKE.keeps (fun g cs hP hc=>D5.block g (aae.1 hc).1 (fun h=>by have h1:w.heap.size+2<=g:=hP;rcases h with h|h<;>omega));have hBZ:Below w.heap.size w Z:=oD.out.trans (D5.toBelow oD.out.size (fun g hg=>by rcases hg with h|h<;>omega))
    have bC:Hid (∃A' c',Ending.returned (.agg #[.int .i64 k,.string x,.int .i64 a,.int .i64 z,.slice A3 i c3])= .returned (.agg #[.int .i64 k,.string x,.int .i64 a,.int .i64 z,.slice A' i c'])/\bT Z w.heap.size (.slice A' i c') i kids/\Below w.heap.size w Z):=by
     refine kH ⟨A3,c3,rfl,?_,hBZ⟩;obtain⟨vals,h1,h2,h3⟩:=MN;exact⟨vals,h1.mono (by omega),bV.weak (fun g _ hg=>⟨by have:=hg.1;omega,hg.2⟩) _ _ h2,h3⟩
    obtain⟨⟨v0,v1,v2,v3,v4⟩,-⟩:=BF.five;obtain⟨⟨n0,n1,n2,n3,n4⟩,-⟩:=Hf.out.five;have ln:=Hf.out.lt;have lr:=hRr.lt;unfold bZ at hZ;clear hKE hNs hN1 eP D5 BF MN hBZ htake;go_wp2_with (rw[hZ])
    try simp only[Exit.inBlock,Exit.then]
    refine bodyPost_ret (v:=.agg #[.int .i64 k,.string x,.int .i64 a,.int .i64 z,.slice A3 i c3]) (by simp[results,Tryz.results89,go_sem,v0,v1,v2,v3,v4]) rfl ?_;exact bC.out
theorem aP.Oa{w:World}{base:Nat}{e:TypeId}{size g off c n:Nat}{xs:List Value}(h:aP w base e size (.slice (some ⟨g,off,none⟩) n c) n xs)(q:Nat)(hq:q<n*size)(u:Value):
 aP (w.setCell ⟨g,off+q,none⟩ u) base e size (.slice (some ⟨g,off,none⟩) n c) n (xs.set q u):=by
 refine⟨by simpa using h.1,?_⟩;rcases h.2 with⟨h1,_⟩| ⟨g1,EK,I7,Ch,hv,hb,hg,hn,hm,hs,ht⟩
 ·cases h1
 ·simp only[Value.slice.injEq,aag,Addr.mk.injEq]at hv
  obtain⟨⟨rfl,rfl,_⟩,_,rfl⟩:=hv;have hns:n*size<=c*size:=Nat.mul_le_mul_right _ hn;refine .inr ⟨g,off,c,Ch.setIfInBounds (off+q) u,rfl,hb,by simp[World.setCell,Array.getElem?_modify,hg],hn,hm,by simpa using hs,?_⟩;rw[<- ht,Array.toList_setIfInBounds];apply List.ext_getElem?
  intro j;simp only[List.getElem?_take,List.getElem?_drop,List.getElem?_set,List.length_take,List.length_drop];by_cases hj:j<n*size
  ·rw[if_pos hj,if_pos hj]
   by_cases hij:q=j
   ·subst hij
    have:off+q<Ch.size:=by omega
    simp[this];omega
   ·simp[hij]
  ·rw[if_neg hj,if_neg hj]
   have:q≠j:=by omega
   simp[this]
def II(w:World)(g off a:Nat)(v0 v1 v2 v3 v4:Value):World:=((((w.setCell ⟨g,off+a*5,none⟩ v0).setCell ⟨g,off+a*5+1,none⟩ v1).setCell ⟨g,off+a*5+2,none⟩ v2).setCell ⟨g,off+a*5+3,none⟩ v3).setCell ⟨g,off+a*5+4,none⟩ v4
def IG(xs:List Value)(a:Nat)(v0 v1 v2 v3 v4:Value):List Value:=((((xs.set (a*5) v0).set (a*5+1) v1).set (a*5+2) v2).set (a*5+3) v3).set (a*5+4) v4
theorem putL_at(xs:List Value)(a:Nat)(v0 v1 v2 v3 v4:Value)(h:a*5+4<xs.length)(j q:Nat)(hq:q<5):(IG xs a v0 v1 v2 v3 v4)[j*5+q]? =if j=a then [v0,v1,v2,v3,v4][q]? else xs[j*5+q]? :=by
 unfold IG;simp only[List.getElem?_set,List.length_set];by_cases hj:j=a
 ·subst hj
  rw[if_pos rfl]
  match q,hq with
  | 0,_=>
   rw[if_neg (by omega),if_neg (by omega),if_neg (by omega),if_neg (by omega),if_pos (by omega),if_pos (by omega)];rfl
  | 1,_=>
   rw[if_neg (by omega),if_neg (by omega),if_neg (by omega),if_pos (by omega),if_pos (by omega)];rfl
  | 2,_=>
   rw[if_neg (by omega),if_neg (by omega),if_pos (by omega),if_pos (by omega)];rfl
  | 3,_=>
   rw[if_neg (by omega),if_pos (by omega),if_pos (by omega)];rfl
  | 4,_=>
   rw[if_pos (by omega),if_pos (by omega)];rfl
 ·rw[if_neg hj,if_neg (by omega),if_neg (by omega),if_neg (by omega),if_neg (by omega),if_neg (by omega)]
theorem aP.II{w:World}{base:Nat}{e:TypeId}{g off c n:Nat}{xs:List Value}(h:aP w base e 5 (.slice (some ⟨g,off,none⟩) n c) n xs)(a:Nat)(ha:a<n)(v0 v1 v2 v3 v4:Value):
 aP (II w g off a v0 v1 v2 v3 v4) base e 5 (.slice (some ⟨g,off,none⟩) n c) n (IG xs a v0 v1 v2 v3 v4):=
 ((((h.Oa (a*5) (by omega) v0).Oa (a*5+1) (by omega) v1).Oa (a*5+2) (by omega) v2).Oa (a*5+3) (by omega) v3).Oa (a*5+4) (by omega) v4
theorem Uc{w:World}{g off a:Nat}{v0 v1 v2 v3 v4:Value}:aA (fun x=>x=g) w (II w g off a v0 v1 v2 v3 v4):=by
 unfold Go.Proofs.YtoepemlnlpamlaaGreat.II;exact((((aA.setCell (S:=fun x=>x=g) (aA.refl _ w) (p:=⟨g,off+a*5,none⟩) (.inl rfl) _).setCell (p:=⟨g,off+a*5+1,none⟩) (.inl rfl) _).setCell (p:=⟨g,off+a*5+2,none⟩) (.inl rfl) _).setCell (p:=⟨g,off+a*5+3,none⟩) (.inl rfl) _).setCell (p:=⟨g,off+a*5+4,none⟩) (.inl rfl) _
theorem lF.of{w:World}{P:Nat->Prop}{t:aa}{A:Option Addr}{c:Nat}(hc:t.kids.length<=c)(hk:dO w P A 0 t.kids):lF w P t [.int .i64 t.kind,.string t.text,.int .i64 t.at_,.int .i64 t.end_,.slice A t.kids.length c]:=by
 cases t
 exact⟨A,c,rfl,hc,hk⟩
theorem dO.vals{w:World}{P:Nat->Prop}{A:Option Addr}:∀{ts:List aa}{i:Nat},dO w P A i ts->∃vals,fD w P ts vals/\∀j u,(List.flatten vals)[j]? =some u->∃a,A=some a/\w.cell? (a.add (i*5+j))=some u
 | [],_,_=>⟨[],rfl,fun j u h=>by simp at h⟩
 | t::ts,i,⟨⟨b,off,cs,hA,hb,hc,hT⟩,hr⟩=>by
  obtain⟨vals,h1,h2⟩:=dO.vals hr;obtain⟨A',c',hcs,-⟩:=hT.five;have hl:cs.length=5:=by rw[hcs];rfl
  refine⟨cs::vals,⟨cs,vals,rfl,hT,h1⟩,fun j u hj=>?_⟩;rw[List.flatten_cons]at hj;by_cases hlt:j<5
  ·rw[List.getElem?_append_left (by omega)]at hj
   refine⟨⟨b,off,none⟩,hA,?_⟩;have:=hc j u hj;rw[Nat.add_assoc]at this;rw[Addr.add_lit];exact this
  ·rw[aal (by omega),hl]at hj
   obtain⟨a,ha,h3⟩:=h2 _ _ hj;refine⟨a,ha,?_⟩;rw[show(i+1)*5+(j - 5)=i*5+j by omega]at h3;exact h3
theorem OE{vals:List (List Value)}(h5:∀v∈vals,v.length=5){i:Nat}(hi:i<vals.length)(v0 v1 v2 v3 v4:Value):IG (List.flatten vals) i v0 v1 v2 v3 v4=List.flatten (vals.set i [v0,v1,v2,v3,v4]):=by
 have hlen:∀(l:List (List Value)),(∀v∈l,v.length=5)->(List.flatten l).length=l.length*5:=by
  intro l
  induction l with
  | nil=>intro _;rfl
  | cons y l ih=>
   intro h;rw[List.flatten_cons,aam,h y (by simp),ih (fun v hv=>h v (by simp[hv])),aao];omega
 have h5':∀v∈vals.set i [v0,v1,v2,v3,v4],v.length=5:=fun v hv=>by
  rcases List.mem_or_eq_of_mem_set hv with h|h
  ·exact h5 v h
  ·rw[h];rfl
 have hl1:=hlen vals h5;have hl2:=hlen _ h5';rw[List.length_set]at hl2
 have hl3:(IG (List.flatten vals) i v0 v1 v2 v3 v4).length=vals.length*5:=by
  unfold IG;simp only[List.length_set];exact hl1
 refine List.ext_getElem? fun j=>?_
 by_cases hj:j<vals.length*5
 ·obtain⟨a,q,hq,rfl⟩:∃a q,q<5/\j=a*5+q:=⟨j / 5,j % 5,by omega,by omega⟩
  have ha:a<vals.length:=by omega
  rw[putL_at _ _ _ _ _ _ _ (by omega) a q hq];obtain⟨u,hu⟩:∃u,(vals.set i [v0,v1,v2,v3,v4])[a]? =some u:=⟨_,aaf (by rw[List.length_set];exact ha)⟩
  have hul:u.length=5:=h5' u (aan hu);obtain⟨x,hx⟩:∃x,u[q]? =some x:=⟨_,aaf (by omega)⟩
  rw[sM _ h5' a q u x hu hx];rw[List.getElem?_set]at hu;by_cases hai:i=a
  ·rw[if_pos hai,if_pos (by omega)]at hu
   rw[if_pos hai.symm];rw[<- hx];cases hu
   rfl
  ·rw[if_neg hai]at hu
   rw[if_neg (fun h=>hai h.symm)];exact sM vals h5 a q u x hu hx
 ·rw[List.getElem?_eq_none (by omega),List.getElem?_eq_none (by omega)]
theorem JS{w:World}{g off i:Nat}{v:List Value}(h:∀j u,v[j]? =some u->w.cell? ⟨g,off+i*5+j,none⟩=some u){a b c d e:Value}(hv:v=[a,b,c,d,e]):w.cell? ⟨g,off+i*5,none⟩=some a/\w.cell? ⟨g,off+i*5+1,none⟩=some b/\w.cell? ⟨g,off+i*5+2,none⟩=some c/\w.cell? ⟨g,off+i*5+3,none⟩=some d/\w.cell? ⟨g,off+i*5+4,none⟩=some e:=by
 subst hv;exact⟨by simpa using h 0 _ rfl,h 1 _ rfl,h 2 _ rfl,h 3 _ rfl,h 4 _ rfl⟩
theorem aP.kid{w:World}{base g off n c i:Nat}{vals:List (List Value)}(h:aP w base 24 5 (.slice (some ⟨g,off,none⟩) n c) n (List.flatten vals))(h5:∀v∈vals,v.length=5){v:List Value}(hv:vals[i]? =some v)(hi:i<n):∀j u,v[j]? =some u->w.cell? ⟨g,off+i*5+j,none⟩=some u:=by
 intro j u hj;obtain⟨g1,EK,cap,hA,-,-,-,-,hc⟩:=h.form (by omega);cases hA
 rw[Nat.add_assoc];exact hc _ _ (sM vals h5 i j v u hv hj)
theorem wW{w:World}{base g off n c:Nat}{e:TypeId}{size:Nat}{xs:List Value}(h:aP w base e size (.slice (some ⟨g,off,none⟩) n c) n xs)(o:Nat):w.frozen? ⟨g,o,none⟩=false:=by
 obtain⟨cur,hc⟩:=h.obj g rfl;simp only[World.frozen?,hc];rfl
theorem EE{P:Program}(w:World)(t e:TypeId)(i:TypeInfo)(ht:P.underlying t=some (.slice e))(hi:P.info? e=some i)(a:Option Addr)(len cap MC:Nat)(h2:MC<=cap):
 (Instr.slice t (.slice a len cap) none (some (.int .i64 (MC:Int))) none).run P w= .ok (.slice (if cap=0 then a else a.map (·.add 0)) MC cap) w:=by
 simp[Instr.slice,run_underlying ht,Instr.sliceBounds,Instr.sliceBound,asIntOf,sizeOf,typeInfo,hi];exact fun h=>absurd h (by omega)
theorem Re{w:World}{B b off x pc:Nat}{p:List Nat}(h:df 1 nG w B (some ⟨b,off,none⟩) (x::p))(hc:p.length+1<=pc):df 1 nG w B (if pc=1 then some ⟨b,off,none⟩ else some ⟨b,off+1,none⟩) p:=h.tail hc
theorem Oj(b off n cap:Nat)(w:World):
 (Instr.slice 28 (.slice (some ⟨b,off,none⟩) (n+1) cap) (some (.int .i64 1)) none none).run Tryz.prog w=
  .ok (.slice (if cap=1 then some ⟨b,off,none⟩ else some ⟨b,off+1,none⟩) n (cap - 1)) w:=by
 obtain⟨i0,hi0,hz0,hz1,hz2⟩:=info_parts Ag;have:=Ck (P:=Tryz.prog) w 28 3 i0 Tryz.underlying28 hi0 (some ⟨b,off,none⟩) (n+1) cap 1 (by omega);rw[show((1:Nat):Int)=1 from rfl]at this;rw[this];by_cases hc:cap=1
 ·simp[hc]
 ·simp[hc,hz1,Addr.add]
theorem AJ{vals:List (List Value)}(h5:∀v∈vals,v.length=5):∀(i:Nat),List.flatten (vals.take i)=(List.flatten vals).take (i*5):=by
 induction vals with
 | nil=>intro i;simp
 | cons y l ih=>
  intro i
  cases i with
  | zero=>simp
  | succ i=>
   have hy:=h5 y (by simp);rw[List.take_succ_cons,List.flatten_cons,List.flatten_cons,ih (fun v hv=>h5 v (by simp[hv])) i,List.take_append,hy,List.take_of_length_le (l:=y) (by omega),show(i+1)*5 - 5=i*5 by omega]
theorem AO{vals:List (List Value)}(h5:∀v∈vals,v.length=5):∀(i:Nat),List.flatten (vals.drop i)=(List.flatten vals).drop (i*5):=by
 induction vals with
 | nil=>intro i;simp
 | cons y l ih=>
  intro i
  cases i with
  | zero=>simp
  | succ i=>
   have hy:=h5 y (by simp);rw[List.drop_succ_cons,List.flatten_cons,ih (fun v hv=>h5 v (by simp[hv])) i,List.drop_append,hy,List.drop_of_length_le (l:=y) (by omega),List.nil_append,show(i+1)*5 - 5=i*5 by omega]
end Go.Proofs.YtoepemlnlpamlaaGreat
