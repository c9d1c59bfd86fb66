/- The law NamesVisibleAt holds where what it reads is of bulk at most 1048576: it returns true, and its arguments read as before. Part 2: Ord2 At1 Ord3 Base Mem. -/
import Derived.Test.YtoepemlnlpamlaaGreatProg
import Derived.WalkKit
import Derived.WalkSpells
import Derived.WalkLawsBesides
import Derived.Deep.QuietTactic
import Derived.BigQuiet
import Derived.Lib.Hide
import Derived.Deep.AppendSrc
import Derived.Deep.AppendLies
import Derived.Deep.Draws
import Derived.Deep.Upon
import Derived.Deep.LoopGhost
import Derived.Deep.RegionHeld3
import Derived.Deep.RegionLaw
import Derived.Deep.DeepCutAuto
import Derived.Deep.DeepFit
import Derived.BigRegion
import Derived.StillTailTactics
import Derived.Test.YtoepemlnlpamlaaGreatVisa01
set_option maxRecDepth 100000
set_option maxHeartbeats 4000000
namespace Go.Proofs.YtoepemlnlpamlaaGreat
def fM:List ae->Nat->List (ae×Nat)
 | [],_=>[]
 | k::ks,n=>(k,n)::fM ks (n+ai k)
def xB:List ae->Nat->List (ae×Nat)
 | [],_=>[]
 | k::ks,n=>(fM k.kids (n+1)).filter (fun y=>decide (y.1.kind=4))++xB ks (n+ai k)
def qw(L:List (ae×Nat)):List (ByteArray×Nat):=L.map fun y=>(y.1.text,y.2)
def xY(L:List (ByteArray×Nat))(l:lH):lH:=L.foldl (fun l y=>mr l y.1 (y.2:Int)) l
theorem JA:∀(A:List ae) (n:Nat) (l:lH),kr A n l=xY (qw ((fM A n).filter fun y=>decide (y.1.kind=4))) l
 | [],_,_=>rfl
 | f::A,n,l=>by
  rw[kr,JA A,fM,List.filter_cons];by_cases h:f.kind=4
  ·rw[if_pos h,if_pos (decide_eq_true h)];rfl
  ·rw[if_neg h,if_neg (by simp[h])]
theorem Qa(a b:List (ByteArray×Nat))(l:lH):xY (a++b) l=xY b (xY a l):=List.foldl_append
theorem za:∀(ks:List ae) (n:Nat) (g:bC),ma ks n g=⟨xY (qw (fM ks n)) g.globals,xY (qw (xB ks n)) g.fields,(fM ks n).foldl (fun l y=>dh l (y.2:Int) y.1.kind) g.kinds⟩
 | [],_,_=>rfl
 | k::ks,n,g=>by
  rw[ma,za ks,fM,xB];simp only[qw,List.map_append,Qa,List.map_cons,JA];rfl
theorem nW{K V:Type}[DecidableEq K]:∀(l:List (K×V)) (k:K) (v:V) (x:K),bE (dh l k v) x=if x=k then some v else bE l x
 | [],k,v,x=>rfl
 | y::l,k,v,x=>by
  rw[dh];by_cases h:k=y.1
  ·rw[if_pos h,bE,bE]
   by_cases A:x=k
   ·rw[if_pos A,if_pos A]
   ·rw[if_neg A,if_neg A,if_neg (by rw[<- h];exact A)]
  ·rw[if_neg h,bE,nW l,bE]
   by_cases A:x=y.1
   ·rw[if_pos A,if_pos A,if_neg (by rw[A];exact fun e=>h e.symm)]
   ·rw[if_neg A,if_neg A]
theorem XA(l:lH)(n:ByteArray)(k:Int)(x:ByteArray):aU (mr l n k) x=(aU l x).or (if x=n then some k else none):=by
 unfold mr;by_cases h:(aU l n).isSome
 ·rw[if_pos h]
  by_cases A:x=n
  ·subst A
   obtain⟨v,B⟩:=Option.isSome_iff_exists.1 h;rw[B];rfl
  ·rw[if_neg A];simp
 ·rw[if_neg h]
  unfold aU;rw[nW];by_cases A:x=n
  ·subst A
   rw[if_pos rfl,if_pos rfl];have:bE l x=none:=by simpa using h
   rw[this];rfl
  ·rw[if_neg A,if_neg A];simp
theorem EH:∀(L:List (ByteArray×Nat)) (l:lH) (x:ByteArray),aU (xY L l) x=(aU l x).or ((L.find? fun y=>decide (x=y.1)).map fun y=>(y.2:Int))
 | [],l,x=>by simp[xY]
 | y::L,l,x=>by
  show aU (xY L (mr l y.1 y.2)) x=_;rw[EH L,XA,List.find?_cons];by_cases A:x=y.1
  ·rw[if_pos A,decide_eq_true A]
   cases aU l x<;>rfl
  ·rw[if_neg A,decide_eq_false A]
   simp
theorem lN(t:ae):1<=ai t:=by cases t;simp[ai]
theorem UD(t:ae):ai t=1+aD t.kids:=by cases t;rfl
theorem Jd:∀(ks:List ae) (n:Nat),∀y∈fM ks n,n<=y.2/\y.2<n+aD ks
 | [],_,y,h=>by cases h
 | k::ks,n,y,h=>by
  rw[fM]at h;have:=lN k;rw[aD];rcases List.mem_cons.1 h with rfl|h
  ·simp;omega
  ·have:=Jd ks _ y h
   omega
theorem numK_pw:∀(ks:List ae) (n:Nat),(fM ks n).Pairwise fun a b=>a.2<b.2
 | [],_=>List.Pairwise.nil
 | k::ks,n=>by
  rw[fM];refine List.Pairwise.cons (fun y h=>?_) (numK_pw ks _);have:=Jd ks _ y h;have:=lN k;simp;omega
theorem RD:∀(ks:List ae) (n:Nat) (l:List (Int×Int)) (y:ae×Nat),y∈fM ks n->bE ((fM ks n).foldl (fun l y=>dh l (y.2:Int) y.1.kind) l) (y.2:Int)=some y.1.kind
 | [],_,_,_,h=>by cases h
 | k::ks,n,l,y,h=>by
  have A:∀(ks:List ae) (m:Nat) (l:List (Int×Int)) (x:Nat),x<m->bE ((fM ks m).foldl (fun l y=>dh l (y.2:Int) y.1.kind) l) (x:Int)=bE l (x:Int):=by
   intro ks
   induction ks with
   | nil=>intro m l x _;rfl
   | cons k ks ih=>
    intro m l x B;rw[fM,List.foldl_cons,ih _ _ _ (by omega),nW,if_neg (by simp;omega)]
  rw[fM]at h⊢;rw[List.foldl_cons];rcases List.mem_cons.1 h with rfl|h
  ·rw[A _ _ _ _ (by have:=lN k;simp;omega),nW,if_pos rfl]
  ·exact RD ks _ _ y h
theorem BA:∀(ks:List ae) (n:Nat),(fM ks n).map (·.1)=ks
 | [],_=>rfl
 | k::ks,n=>by rw[fM,List.map_cons,BA]
def tN(ks:List ae):bC:=ma ks 1 ⟨[],[],[]⟩
theorem Vz(ks:List ae)(x:ByteArray):aU (tN ks).globals x=((qw (fM ks 1)).find? fun y=>decide (x=y.1)).map fun y=>(y.2:Int):=by
 unfold tN;rw[za,EH];rfl
theorem IK(ks:List ae)(x:ByteArray):aU (tN ks).fields x=((qw (xB ks 1)).find? fun y=>decide (x=y.1)).map fun y=>(y.2:Int):=by
 unfold tN;rw[za,EH];rfl
theorem glob_kind(ks:List ae)(y:ae×Nat)(h:y∈fM ks 1):jM (tN ks) (y.2:Int)=y.1.kind:=by
 unfold jM tN;rw[za];simp only[RD ks 1 _ y h,Option.getD_some]
structure CQ (R:RS->RS->Prop):Prop where
 refl:∀r,R r r
 trans:∀{a b c},R a b->R b c->R a c
 none_:∀(r:RS) (i:Bool) (v:List Int),R r (aG r i v)
 say:∀(r:RS) (i:Bool) (v:List Int) (c:Int) (t:ae),R r (qF (aG r i v) c r.next t)
 decl:∀(r:RS) (i:Bool) (v:List Int) (c:Int) (t:ae),R r (lM (aG r i v) c r.next t)
 use:∀(r:RS) (i:Bool) (v:List Int) (k:Int),R r { aG r i v with uses:=r.uses.set r.next k }
 owner:∀(r:RS) (o:Int),R r { r with owner:=o }
section
variable {R:RS->RS->Prop}(hR:CQ R)
include hR
theorem CQ.declare(r:RS)(i:Bool)(v:List Int)(c:Int)(t:ae)(a:Bool):R r (aW (aG r i v) c r.next t a):=by
 cases a
 ·exact hR.decl r i v c t
 ·exact hR.say r i v 9 t
theorem CQ.og(G:bC)(r:RS)(i:Bool)(v:List Int)(c:Int)(t:ae)(s:aS):R r (aH G (aG r i v) c r.next t s).1:=by
 unfold aH;split
 ·exact hR.say r i v 9 t
 ·exact hR.decl r i v c t
theorem CQ.Ev(r:RS)(i:Bool)(v:List Int)(t:ae)(A:Option Int):R r (gV (aG r i v) r.next t A):=by
 cases A with
 | none=>exact hR.say r i v 8 t
 | some k=>exact hR.use r i v k
mutual
theorem zg(G:bC):∀(t:ae) (i:Bool) (s:aS) (r:RS),R r (aM G i t s r).1
 | .node k x a e kids,i,s,r=>by
  have A:∀u f n C,R r u->R r (ah G i kids f n C u).1:=fun u f n C B=>hR.trans B (qJ G kids i f n C u)
  have H:∀c E,R r { aW (aG r i (ak (ay s))) c r.next (.node k x a e kids) E with owner:=(r.next:Int) }:=fun c E=>hR.trans (hR.declare r i _ c _ E) (hR.owner _ _)
  have F:∀c C,R r (aH G (aG r i (ak (ay s))) c r.next (.node k x a e kids) C).1:=fun c C=>hR.og G r i _ c _ C
  have B:∀D,R r (gV (aG r i (ak (ay s))) r.next (.node k x a e kids) D):=fun D=>hR.Ev r i _ _ D
  rw[dx];split
  ·exact A _ _ _ _ (H _ _)
  split
  ·exact A _ _ _ _ (hR.declare r i _ _ _ _)
  split
  ·exact hR.trans (hR.trans (H _ _) (qJ G kids false 0 2 _ _)) (qJ G kids true 2 1 _ _)
  split
  ·exact A _ _ _ _ (F _ _)
  split
  ·exact A _ _ _ _ (hR.none_ r i _)
  split
  ·exact A _ _ _ _ (F _ _)
  split
  ·exact hR.trans (A _ _ _ _ (F _ _)) (qJ G kids i 2 1 _ _)
  ·refine A _ _ _ _ ?_
   unfold iR;split
   ·exact B _
   split
   ·exact B _
   split
   ·exact B _
   split
   ·exact B _
   split
   ·exact B _
   ·exact hR.none_ r i _
theorem qJ(G:bC):∀(ts:List ae) (i:Bool) (f n:Nat) (s:aS) (r:RS),R r (ah G i ts f n s r).1
 | [],_,_,_,_,r=>by rw[ah];exact hR.refl r
 | t::ts,i,f+1,n,s,r=>by rw[ah];exact qJ G ts i f n s r
 | t::ts,i,0,0,s,r=>by rw[ah];exact hR.refl r
 | t::ts,i,0,n+1,s,r=>by rw[ah];exact hR.trans (zg G t i s r) (qJ G ts i 0 n _ _)
end
end
structure qB (a b:RS):Prop where
 next:a.next<=b.next
 aY:∃l,b.aY=a.aY++l/\(l.Pairwise fun x y=>x.1<y.1)/\∀x∈l,(a.next:Int)<=x.1/\x.1<(b.next:Int)
 ds:∃l,b.ds=a.ds++l/\(l.Pairwise fun x y=>x.node<y.node)/\∀d∈l,(a.next:Int)<=d.node/\d.node<(b.next:Int)
 sU:b.uses.length=a.uses.length
 uses:∀j,j<a.next\/b.next<=j->b.uses[j]? =a.uses[j]?
 aR:∀m:Nat,m<a.next\/b.next<=m->bE b.aR (m:Int)=bE a.aR (m:Int)
theorem qB.of_same{a b:RS}(E:b.next=a.next)(B:b.aY=a.aY)(C:b.ds=a.ds)(A:b.uses=a.uses)(D:b.aR=a.aR):qB a b:=
 ⟨by omega,⟨[],by simp[B],List.Pairwise.nil,by simp⟩,⟨[],by simp[C],List.Pairwise.nil,by simp⟩,by rw[A],fun _ _=>by rw[A],fun _ _=>by rw[D]⟩
theorem qB.trans{a b c:RS}(h:qB a b)(k:qB b c):qB a c:=by
 have T:=h.next;have W:=k.next;obtain⟨Q,L,G,C⟩:=h.aY;obtain⟨S,N,J,E⟩:=k.aY;obtain⟨O,K,F,B⟩:=h.ds;obtain⟨le,M,I,D⟩:=k.ds;refine⟨by omega,⟨Q++S,by rw[N,L,List.append_assoc],List.pairwise_append.2 ⟨G,J,fun x A y H=>?_⟩,fun x A=>?_⟩,⟨O++le,by rw[M,K,List.append_assoc],List.pairwise_append.2 ⟨F,I,fun x A y H=>?_⟩,fun x A=>?_⟩,by rw[k.sU,h.sU],fun j U=>?_,fun m V=>?_⟩
 ·have:=(C x A).2;have:=(E y H).1;omega
 ·rcases List.mem_append.1 A with A|A
  ·have:=C x A;omega
  ·have:=E x A;omega
 ·have:=(B x A).2;have:=(D y H).1;omega
 ·rcases List.mem_append.1 A with A|A
  ·have:=B x A;omega
  ·have:=D x A;omega
 ·rw[k.uses j (by omega),h.uses j (by omega)]
 ·rw[k.aR m (by omega),h.aR m (by omega)]
theorem IL(r:RS)(i:Bool)(v:List Int)(m:Nat)(h:m≠r.next):bE (aG r i v).aR (m:Int)=bE r.aR (m:Int):=by
 cases i
 ·rfl
 ·show bE (dh r.aR (r.next:Int) v) (m:Int)=_
  rw[nW,if_neg (by omega)]
theorem UX(l:List Int)(n:Nat)(k:Int)(j:Nat)(h:j≠n):(l.set n k)[j]? =l[j]? :=by
 rw[List.getElem?_set];rw[if_neg (fun e=>h e.symm)]
theorem sD:CQ qB where
 refl:=fun r=>qB.of_same rfl rfl rfl rfl rfl
 trans:=qB.trans
 none_:=fun r i v=>⟨Nat.le_succ _,⟨[],by simp[aG],List.Pairwise.nil,by simp⟩,⟨[],by simp[aG],List.Pairwise.nil,by simp⟩,rfl,fun _ _=>rfl,fun m B=>IL r i v m (by have:(aG r i v).next=r.next+1:=rfl;omega)⟩
 say:=fun r i v c t=>⟨Nat.le_succ _,⟨_,rfl,List.pairwise_singleton _ _,fun x A=>by
  rw[List.mem_singleton]at A;subst A;have:(qF (aG r i v) c r.next t).next=r.next+1:=rfl;rw[this];simp only
  omega⟩,⟨[],by simp[aG,qF],List.Pairwise.nil,by simp⟩,rfl,fun _ _=>rfl,fun m B=>IL r i v m (by have:(qF (aG r i v) c r.next t).next=r.next+1:=rfl;omega)⟩
 decl:=fun r i v c t=>⟨Nat.le_succ _,⟨[],by simp[aG,lM],List.Pairwise.nil,by simp⟩,⟨_,rfl,List.pairwise_singleton _ _,fun x A=>by
  rw[List.mem_singleton]at A;subst A;have:(lM (aG r i v) c r.next t).next=r.next+1:=rfl;rw[this];simp only
  omega⟩,List.length_set,fun j C=>UX _ _ _ _ (by have:(lM (aG r i v) c r.next t).next=r.next+1:=rfl;omega),fun m B=>IL r i v m (by have:(lM (aG r i v) c r.next t).next=r.next+1:=rfl;omega)⟩
 use:=fun r i v k=>⟨Nat.le_succ _,⟨[],by simp[aG],List.Pairwise.nil,by simp⟩,⟨[],by simp[aG],List.Pairwise.nil,by simp⟩,List.length_set,fun j C=>UX _ _ _ _ (by have:({ aG r i v with uses:=r.uses.set r.next k }:RS).next=r.next+1:=rfl;omega),fun m B=>IL r i v m (by have:({ aG r i v with uses:=r.uses.set r.next k }:RS).next=r.next+1:=rfl;omega)⟩
 owner:=fun r o=>qB.of_same rfl rfl rfl rfl rfl
theorem nZ(G:bC)(t:ae)(i:Bool)(s:aS)(r:RS):qB r (aM G i t s r).1:=zg sD G t i s r
theorem fF(G:bC)(ts:List ae)(i:Bool)(f n:Nat)(s:aS)(r:RS):qB r (ah G i ts f n s r).1:=qJ sD G ts i f n s r
def uP:ae->Bool
 | .node k _ _ _ kids=>(decide (k=3)&&kids.all fun f=>decide (f.kind=4)&&mH f.kids) || (decide (k=5)&&decide (kids.length=3)&&mH kids)
def K8(G:bC)(fs:List ae)(n:Nat):Nat:=((fM fs n).filter fun y=>decide ((aU G.fields y.1.text).getD 0≠(y.2:Int))).length
def JD(G:bC)(k:ae)(n:Nat):Nat:=(decide ((aU G.globals k.text).getD 0≠(n:Int))).toNat+(if k.kind=3 then K8 G k.kids (n+1) else 0)
def own(k:ae):Nat:=1+(if k.kind=3 then k.kids.length else 0)
theorem VF(G:bC)(x:ByteArray)(a e:Int)(A:List ae)(n:Nat):JD G (.node 3 x a e A) n=(decide ((aU G.globals x).getD 0≠(n:Int))).toNat+K8 G A (n+1):=by
 unfold JD;rw[if_pos (show(ae.node 3 x a e A).kind=3 from rfl)];rfl
theorem Tt(G:bC)(x:ByteArray)(a e:Int)(A:List ae)(n:Nat):JD G (.node 5 x a e A) n=(decide ((aU G.globals x).getD 0≠(n:Int))).toNat:=by
 unfold JD;rw[if_neg (show ¬(ae.node 5 x a e A).kind=3 by show ¬((5:Int)=3);decide)];rfl
theorem own_rec(x:ByteArray)(a e:Int)(A:List ae):own (.node 3 x a e A)=1+A.length:=by
 unfold own;rw[if_pos (show(ae.node 3 x a e A).kind=3 from rfl)];rfl
theorem own_proc(x:ByteArray)(a e:Int)(A:List ae):own (.node 5 x a e A)=1:=by
 unfold own;rw[if_neg (show ¬(ae.node 5 x a e A).kind=3 by show ¬((5:Int)=3);decide)]
def Im(m b1 b2 u:Nat)(r1 q1 r2 q2:RS):Prop:=
 ∃p d,q1.aY.length=r1.aY.length+b1+p/\q2.aY.length=r2.aY.length+b2+p/\q1.ds.length+b1=r1.ds.length+u+d/\q2.ds.length+b2=r2.ds.length+u+d/\q1.next=r1.next+m/\q2.next=r2.next+m
theorem wY.toB{m:Nat}{C A D B:RS}(h:wY m C A D B):Im m 0 0 0 C A D B:=by
 obtain⟨p,d,h⟩:=h;exact⟨p,d,by simpa using h.p1,by simpa using h.p2,by simpa using h.d1,by simpa using h.d2,h.n1,h.n2⟩
theorem Im.trans{m C D u G A B N n E F v:Nat}{J H L K I M:RS}(h:Im m C D u J H K I)(k:Im G A B N H L I M)(j:n=m+G)(q:E=C+A)(l:F=D+B)(f:v=u+N):Im n E F v J L K M:=by
 obtain⟨p,d,Y,Z,z,y,x,r⟩:=h;obtain⟨X,W,O,Q,S,T,U,V⟩:=k;exact⟨p+X,d+W,by omega,by omega,by omega,by omega,by omega,by omega⟩
theorem Dq(C D:RS)(c:Int)(E F:Nat)(t:ae)(A B:Bool):Im 0 A.toNat B.toNat 1 C (aW C c E t A) D (aW D c F t B):=by
 refine⟨0,0,?_⟩;cases A<;>cases B<;>simp[aW,qF,lM]
theorem KU(A B:RS)(C D:List (Int×List Int)):Im 1 0 0 0 A { A with next:=A.next+1,aR:=C } B { B with next:=B.next+1,aR:=D }:=⟨0,0,rfl,rfl,rfl,rfl,rfl,rfl⟩
theorem O7(A B:RS)(C D:Int):Im 0 0 0 0 A { A with owner:=C } B { B with owner:=D }:=⟨0,0,rfl,rfl,rfl,rfl,rfl,rfl⟩
theorem ql(r:RS)(c:Int)(n:Nat)(t:ae)(a:Bool):(aW r c n t a).next=r.next:=by cases a<;>rfl
theorem Pm(G:bC)(f:ae)(A:List ae)(n:Nat):K8 G (f::A) n=(decide ((aU G.fields f.text).getD 0≠(n:Int))).toNat+K8 G A (n+ai f):=by
 unfold K8;rw[fM,List.filter_cons];by_cases h:(aU G.fields f.text).getD 0=(n:Int)
 ·simp[h]
 ·simp[h];omega
theorem LJ{F G:bC}(S:yo F G):∀(E:List ae) (s1 H:aS) (C D:RS) (L M:Nat),C.next=L->D.next=M->(E.all fun f=>decide (f.kind=4)&&mH f.kids)=true->dE s1=dE H ->
 Im (aD E) (K8 F E L) (K8 G E M) E.length C (ah F false E 0 E.length s1 C).1 D (ah G false E 0 E.length H D).1/\dE (ah F false E 0 E.length s1 C).2=dE (ah G false E 0 E.length H D).2
 | [],s1,H,C,D,L,M,_,_,_,hs=>by
  simp only[ah,List.length_nil];exact⟨(wY.refl C D).toB,hs⟩
 | .node k x a e kids::E,s1,H,C,D,L,M,e1,e2,h,hs=>by
  subst e1;subst e2;rw[List.all_cons,aad,aad,decide_eq_true_eq]at h;obtain⟨⟨Z,N⟩,I⟩:=h;have O:k=4:=Z;subst O;have J:mH kids=true:=N;simp only[aao,ah]
  obtain⟨A,Q,B⟩:∃A:Im (ai (.node 4 x a e kids)) (decide ((aU F.fields x).getD 0≠(C.next:Int))).toNat (decide ((aU G.fields x).getD 0≠(D.next:Int))).toNat 1 C (aM F false (.node 4 x a e kids) s1 C).1 D (aM G false (.node 4 x a e kids) H D).1,
   ((aM F false (.node 4 x a e kids) s1 C).1.next=C.next+ai (.node 4 x a e kids)/\(aM G false (.node 4 x a e kids) H D).1.next=D.next+ai (.node 4 x a e kids)) /\
   dE (aM F false (.node 4 x a e kids) s1 C).2=dE (aM G false (.node 4 x a e kids) H D).2:=by
   rw[aM,aM,ai];simp only[show ¬((4:Int)=3) by decide,if_false,if_true];obtain⟨T,U⟩:=mW S kids false 0 kids.length s1 H (aW { C with next:=C.next+1 } 1 C.next (.node 4 x a e kids) (decide ((aU F.fields x).getD 0≠(C.next:Int)))) (aW { D with next:=D.next+1 } 1 D.next (.node 4 x a e kids) (decide ((aU G.fields x).getD 0≠(D.next:Int)))) J hs;have K:=(KU C D C.aR D.aR).trans ((Dq { C with next:=C.next+1 } { D with next:=D.next+1 } 1 C.next D.next (.node 4 x a e kids) (decide ((aU F.fields x).getD 0≠(C.next:Int))) (decide ((aU G.fields x).getD 0≠(D.next:Int)))).trans T.toB rfl rfl rfl rfl) rfl rfl rfl rfl;have z:1+(0+aD (List.take kids.length (List.drop 0 kids)))=1+aD kids:=by simp
   rw[z]at K;simp only[Nat.zero_add,Nat.add_zero]at K;refine⟨K,?_,U⟩;obtain⟨_,_,_,_,_,_,X,Y⟩:=K;exact⟨X,Y⟩
  obtain⟨V,W⟩:=LJ S E _ _ (aM F false (.node 4 x a e kids) s1 C).1 (aM G false (.node 4 x a e kids) H D).1 _ _ Q.1 Q.2 I B;refine⟨A.trans V (by rw[aD]) ?_ ?_ (by omega),W⟩
  ·rw[Pm];rfl
  ·rw[Pm];rfl
theorem Y4{D E:bC}(K:yo D E)(t:ae)(M:uP t=true)(s1 H:aS)(A B:RS)(L:dE s1=dE H):
 Im (ai t) (JD D t A.next) (JD E t B.next) (own t) A (aM D false t s1 A).1 B (aM E false t H B).1/\dE (aM D false t s1 A).2=dE (aM E false t H B).2:=by
 obtain⟨k,x,a,e,C⟩:=t;rw[uP,Bool.or_eq_true,aad,aad,aad,decide_eq_true_eq,decide_eq_true_eq,decide_eq_true_eq]at M;rcases M with⟨rfl,O⟩| ⟨⟨rfl,Q⟩,G⟩
 ·rw[aM,aM,ai]
  simp only[if_true];obtain⟨I,J⟩:=LJ K C s1 H { aW { A with next:=A.next+1 } 0 A.next (.node 3 x a e C) (decide ((aU D.globals x).getD 0≠(A.next:Int))) with owner:=(A.next:Int) } { aW { B with next:=B.next+1 } 0 B.next (.node 3 x a e C) (decide ((aU E.globals x).getD 0≠(B.next:Int))) with owner:=(B.next:Int) } (A.next+1) (B.next+1) (ql _ _ _ _ _) (ql _ _ _ _ _) O L;refine⟨?_,J⟩;have F:=(KU A B A.aR B.aR).trans ((Dq { A with next:=A.next+1 } { B with next:=B.next+1 } 0 A.next B.next (.node 3 x a e C) (decide ((aU D.globals x).getD 0≠(A.next:Int))) (decide ((aU E.globals x).getD 0≠(B.next:Int)))).trans ((O7 _ _ (A.next:Int) (B.next:Int)).trans I rfl rfl rfl rfl) rfl rfl rfl rfl) rfl rfl rfl rfl;simp only[Nat.zero_add]at F;rw[VF,VF,own_rec];exact F
 ·match C,Q with
  | [u,v,w],_=>
   rw[aM,aM,ai];simp only[show ¬((5:Int)=3) by decide,show ¬((5:Int)=4) by decide,if_false,if_true];obtain⟨I,J⟩:=mW K [u,v,w] false 0 2 [[]] [[]] { aW { A with next:=A.next+1 } 2 A.next (.node 5 x a e [u,v,w]) (decide ((aU D.globals x).getD 0≠(A.next:Int))) with owner:=(A.next:Int) } { aW { B with next:=B.next+1 } 2 B.next (.node 5 x a e [u,v,w]) (decide ((aU E.globals x).getD 0≠(B.next:Int))) with owner:=(B.next:Int) } G rfl;obtain⟨N,T⟩:=mW K [u,v,w] true 2 1 _ _ _ _ G (yc (l:=[]) (m:=[]) J rfl);refine⟨?_,L⟩;have F:=(KU A B A.aR B.aR).trans ((Dq { A with next:=A.next+1 } { B with next:=B.next+1 } 2 A.next B.next (.node 5 x a e [u,v,w]) (decide ((aU D.globals x).getD 0≠(A.next:Int))) (decide ((aU E.globals x).getD 0≠(B.next:Int)))).trans ((O7 _ _ (A.next:Int) (B.next:Int)).trans (I.toB.trans N.toB rfl rfl rfl rfl) rfl rfl rfl rfl) rfl rfl rfl rfl) rfl rfl rfl rfl;have S:1+(0+(0+(aD (List.take 2 (List.drop 0 [u,v,w]))+aD (List.take 1 (List.drop 2 [u,v,w])))))=1+aD [u,v,w]:=by simp[aD];omega
   rw[S]at F;simp only[Nat.zero_add,Nat.add_zero]at F;rw[Tt,Tt,own_proc];exact F
def Q3:RS:=⟨[],[],[],[],0,0⟩
def probT(G:bC)(t:ae):Nat:=(aM G false t [] Q3).1.aY.length - JD G t 0
def decT(G:bC)(t:ae):Nat:=(aM G false t [] Q3).1.ds.length+JD G t 0 - own t
theorem UR{G A:bC}(J:yo G A)(t:ae)(L:uP t=true)(s:aS)(r:RS)(K:dE s=[]):
 (aM A false t s r).1.aY.length=r.aY.length+JD A t r.next+probT G t/\(aM A false t s r).1.ds.length+JD A t r.next=r.ds.length+own t+decT G t/\(aM A false t s r).1.next=r.next+ai t/\dE (aM A false t s r).2=dE (aM G false t [] Q3).2:=by
 obtain⟨⟨p,d,E,M,F,N,O,H⟩,I⟩:=Y4 J t L [] s Q3 r K.symm;unfold probT decT;have C:Q3.aY.length=0:=rfl;have D:Q3.ds.length=0:=rfl;have B:Q3.next=0:=rfl;rw[C,B]at E;rw[D,B]at F;refine⟨by omega,by omega,H,I.symm⟩
theorem Nc(s:aS)(l:lH):(kT s l).length=s.length:=by cases s<;>rfl
theorem zL(G:bC)(r:RS)(k:Int)(n:Nat)(t:ae)(s:aS):(aH G r k n t s).2.length=s.length:=by
 unfold aH;split
 ·rfl
 ·exact Nc _ _
mutual
theorem wN(G:bC):∀(t:ae) (i:Bool) (s:aS) (r:RS),(aM G i t s r).2.length=s.length
 | .node k x a e kids,i,s,r=>by
  rw[dx];split
  ·exact kF G kids _ _ _ _ _
  split
  ·exact kF G kids _ _ _ _ _
  split
  ·rfl
  split
  ·rw[kF,zL]
  split
  ·rw[List.length_tail,kF];rfl
  split
  ·rw[Nc,kF]
  split
  ·rw[List.length_tail,kF,aao,kF];rfl
  ·exact kF G kids _ _ _ _ _
theorem kF(G:bC):∀(ts:List ae) (i:Bool) (f n:Nat) (s:aS) (r:RS),(ah G i ts f n s r).2.length=s.length
 | [],_,_,_,_,_=>by rw[ah]
 | t::ts,i,f+1,n,s,r=>by rw[ah];exact kF G ts _ _ _ _ _
 | t::ts,i,0,0,s,r=>by rw[ah]
 | t::ts,i,0,n+1,s,r=>by rw[ah];rw[kF G ts,wN G t]
end
open Go.RowKit
theorem sA{A:Type}{l:List A}{i:Nat}{a:A}:l.toArray.setIfInBounds i a=(l.set i a).toArray:=by simp
theorem sZ{A:Type}{x:A}{l:List A}{a:A}:(x::l).set 0 a=a::l:=rfl
theorem sC{A:Type}{x:A}{l:List A}{n:Nat}{a:A}:(x::l).set (n+1) a=x::l.set n a:=rfl
theorem kH{p:Prop}(h:p):Go.RowKit.Hid p:=Lib.hid h
theorem Bu{a b:Bool}(h:a=b):Ending.returned (.bool a)= .returned (.bool b):=by rw[h]
theorem U1{k:IntKind}{a b:Int}(h:a=b):Ending.returned (.int k a)= .returned (.int k b):=by rw[h]
theorem aT{B:Nat}{a w:World}(h:Below B a w)(n:Nat):Below B a (w.drewN n):=⟨h.os,h.tape,h.output,h.size,h.block⟩
def bU{α:Type}(size:Nat)(cells:α->List Value)(w:World)(B:Nat)(A:Option Addr)(l:List α):Prop:=
 ∀k c,l[k]? =some c->∃b off,A=some ⟨b,off,none⟩/\b<B/\∀j v,(cells c)[j]? =some v->w.cell? ⟨b,off+k*size+j,none⟩=some v
theorem bU.below{F:Type}{size:Nat}{cells:F->List Value}{w w':World}{B C:Nat}{A:Option Addr}{l:List F}(h:bU size cells w B A l)(H:Below C w w')(L:B<=C):
 bU size cells w' B A l:=by
 intro k c K;obtain⟨b,E,G,D,I⟩:=h k c K;exact⟨b,E,G,D,fun j v J=>(H.cell (p:=⟨b,_,none⟩) (by show b<C;omega)).trans (I j v J)⟩
theorem bU.mono{E:Type}{size:Nat}{cells:E->List Value}{w:World}{B D:Nat}{A:Option Addr}{l:List E}(h:bU size cells w B A l)(J:B<=D):bU size cells w D A l:=by
 intro k c H;obtain⟨b,C,F,I,G⟩:=h k c H;exact⟨b,C,F,by omega,G⟩
def aj(w:World)(g:Nat)(t:TypeId)(cs:Array Value):Prop:=w.heap[g]? =some (.cells cs t (0,0))
section
variable {w w':World}{g:Nat}{t:TypeId}{cs:Array Value}
theorem aj.lt(h:aj w g t cs):g<w.heap.size:=(aae.1 h).1
theorem aj.cell(h:aj w g t cs)(i:Nat):w.cell? ⟨g,i,none⟩=cs[i]? :=cell_of_row w g i cs t (0,0) h
theorem aj.frozen(h:aj w g t cs)(i:Nat):w.frozen? ⟨g,i,none⟩=false:=by
 unfold aj at h;simp[World.frozen?,h]
theorem aj.keep(h:aj w g t cs)(A:w'.heap[g]? =w.heap[g]?):aj w' g t cs:=A.trans h
theorem aj.new(w:World)(t:TypeId)(cs:Array Value):aj (w.alloc (.cells cs t)) w.heap.size t cs:=heap_alloc_new w _
theorem aj.drew(h:aj w g t cs):aj w.drew g t cs:=h
theorem aj.alloc(h:aj w g t cs)(o:Obj):aj (w.alloc o) g t cs:=h.keep (Below.heap_alloc w o g h.lt)
theorem aj.gu(h:aj w g t cs)(i:Nat)(u:Value):aj (w.setCell ⟨g,i,none⟩ u) g t (cs.setIfInBounds i u):=by
 unfold aj at h⊢;simp[World.setCell,Array.getElem?_modify,h]
theorem aj.far(h:aj w g t cs){p:Addr}(A:g≠p.block)(u:Value):aj (w.setCell p u) g t cs:=h.keep (Below.heap_setCell w p u g A)
theorem aj.below{B:Nat}(h:aj w g t cs)(A:Below B w w')(C:g<B):aj w' g t cs:=h.keep (A.block g C)
theorem aj.grown{A:Option Nat}(h:aj w g t cs)(B:w.grownBy w' A)(C:some g≠A):aj w' g t cs:=h.keep (B.block g h.lt C)
end
def aK(w:World)(base:Nat)(e:TypeId)(size:Nat)(v:Value)(n:Nat)(xs:List Value):Prop:=
 xs.length=n*size/\((v= .slice none 0 0/\n=0) \/
  ∃g off cap cur,v= .slice (some ⟨g,off,none⟩) n cap/\base<=g/\w.heap[g]? =some (.cells cur e (0,0))/\n<=cap/\cap<=maxLen/\off+cap*size<=cur.size/\(cur.toList.drop off).take (n*size)=xs)
section
variable {w w':World}{base:Nat}{e:TypeId}{size:Nat}{v:Value}{n:Nat}{xs:List Value}
theorem aK.nil(w:World)(base:Nat)(e:TypeId)(size:Nat):aK w base e size (.slice none 0 0) 0 []:=⟨by simp,.inl ⟨rfl,rfl⟩⟩
theorem aK.block{g:Nat}{cur:Array Value}{n:Nat}(A:base<=g)(B:w.heap[g]? =some (.cells cur e (0,0)))(C:n<=maxLen)(D:cur.size=n*size):aK w base e size (.slice (some ⟨g,0,none⟩) n n) n cur.toList:=
 ⟨by simpa using D,.inr ⟨g,0,n,cur,rfl,A,B,aab _,C,by omega,by rw[List.drop_zero,List.take_of_length_le (by simp;omega)]⟩⟩
theorem aK.lt(h:aK w base e size v n xs):∀k,v.ownBlock=some k->base<=k/\k<w.heap.size:=by
 intro k A;rcases h.2 with⟨rfl,_⟩| ⟨g,E,B,cur,rfl,C,D,_⟩
 ·simp[Value.ownBlock]at A
 ·simp[Value.ownBlock]at A
  subst A;exact⟨C,(aae.1 D).1⟩
theorem aK.form(h:aK w base e size v n xs)(E:0<n):∃g B A,v= .slice (some ⟨g,B,none⟩) n A/\n<=A/\A<=maxLen/\base<=g/\g<w.heap.size/\∀j u,xs[j]? =some u->w.cell? ⟨g,B+j,none⟩=some u:=by
 rcases h.2 with⟨_,J⟩| ⟨g,B,A,cur,I,F,D,E,G,K,H⟩
 ·omega
 ·refine⟨g,B,A,I,E,G,F,(aae.1 D).1,fun j u C=>?_⟩
  rw[cell_of_row w g (B+j) cur e (0,0) D];rw[<- H,List.getElem?_take]at C;split at C
  ·rw[List.getElem?_drop]at C
   simpa using C
  ·cases C
theorem aK.shape(h:aK w base e size v n xs):∃A c,v= .slice A n c/\n<=c/\c<=maxLen:=by
 rcases h.2 with⟨rfl,rfl⟩| ⟨g,F,B,cur,E,G,H,D,C,I,J⟩
 ·exact⟨none,0,rfl,aab _,by simp[maxLen]⟩
 ·exact⟨_,_,E,D,C⟩
theorem aK.of_block(h:aK w base e size v n xs)(G:∀g,v.ownBlock=some g->w'.heap[g]? =w.heap[g]?):aK w' base e size v n xs:=by
 refine⟨h.1,?_⟩;rcases h.2 with D| ⟨g,B,A,cur,C,E,F,rest⟩
 ·exact .inl D
 ·exact .inr ⟨g,B,A,cur,C,E,(G g (by rw[C];rfl)).trans F,rest⟩
theorem aK.kept{A:Option Nat}(h:aK w base e size v n xs)(D:w.grownBy w' A)(B:v.ownBlock=none\/v.ownBlock≠A):aK w' base e size v n xs:=
 h.of_block fun g E=>D.block g (h.lt g E).2 (by rcases B with C|C<;>simp_all)
theorem aK.below{B:Nat}(h:aK w base e size v n xs)(C:Below B w w')(A:∀g,v.ownBlock=some g->g<B):aK w' base e size v n xs:=
 h.of_block fun g D=>C.block g (A g D)
theorem aK.alloc(h:aK w base e size v n xs)(o:Obj):aK (w.alloc o) base e size v n xs:=
 h.of_block fun g A=>Below.heap_alloc w o g (h.lt g A).2
theorem aK.drew(h:aK w base e size v n xs):aK w.drew base e size v n xs:=h
theorem aK.setCell(h:aK w base e size v n xs){p:Addr}(B:v.ownBlock≠some p.block)(u:Value):aK (w.setCell p u) base e size v n xs:=
 h.of_block fun g C=>Below.heap_setCell w p u g (fun A=>B (by rw[C,A]))
theorem aK.mono{base':Nat}(h:aK w base e size v n xs)(F:base'<=base):aK w base' e size v n xs:=by
 refine⟨h.1,?_⟩;rcases h.2 with C| ⟨g,B,A,cur,E,D,rest⟩
 ·exact .inl C
 ·exact .inr ⟨g,B,A,cur,E,by omega,rest⟩
theorem aK.rowAt{N:Type}{cells:N->List Value}{l:List N}(h:aK w base e size v n xs){A:Option Addr}{c:Nat}(L:v= .slice A n c)(G:xs=l.flatMap cells)(J:∀c∈l,(cells c).length=size)(K:l.length=n):
 bU size cells w w.heap.size A l:=by
 intro k x B;have F:k<n:=by rw[<- K];exact(aah.1 B).1
 obtain⟨g,H,O,D,_,_,_,C,E⟩:=h.form (by omega);rw[L]at D;cases D
 refine⟨g,H,rfl,C,fun j u I=>?_⟩;rw[Nat.add_assoc];refine E _ _ ?_;subst G;clear h L C E F K
 induction l generalizing k with
 | nil=>simp at B
 | cons y ys ih=>
  have M:=J y (by simp);have Q:j<(cells x).length:=(aah.1 I).1;rw[List.flatMap_cons]
  cases k with
  | zero=>
   simp at B;subst B;rw[List.getElem?_append_left (by omega),<- I];simp
  | succ k=>
   rw[aal (by rw[M,Nat.succ_mul];omega),M];have:=ih (fun c E=>J c (by simp[E])) k (by simpa using B);rw[<- this];congr 1
   rw[Nat.succ_mul];omega
end
section
variable {P:Program}(w:World)
theorem FY(t O e:TypeId)(i:TypeInfo)(N:P.underlying t=some (.slice e))(L:P.info? e=some i)
 (g C B D:Nat) (cur:Array Value) (K:w.heap[g]? =some (.cells cur e (0,0)))
 (a:Addr) (m c:Nat) (A:List Value) (M:A.length=m*i.size) (E:∀j u,A[j]? =some u->w.cell? (a.add j)=some u) (I:∀u∈A,u.oneCell'=true)
 (F:B+m<=D) (G:C+B*i.size+A.length<=cur.size):
 (Builtin.append_ #[t,t] O #[.slice (some ⟨g,C,none⟩) B D,.slice (some a) m c]).run P w=
  .ok (.slice (some ⟨g,C,none⟩) (B+m) D) (w.setRow g (cur.toList.take (C+B*i.size)++A++cur.toList.drop (C+B*i.size+A.length)).toArray):=by
 have J:=run_firstCells_some (P:=P) w i.size m a m c A M E;have H:=run_storeCells_at P g (C+B*i.size) e A 0 cur w K (by simpa using G) I;simp only[Nat.add_zero]at H;simp[Builtin.append_,run_underlying N,sizeOf,typeInfo,L,Builtin.lenOf,F,J,Addr.add_lit,H]
theorem Gh(base:Nat)(t q e:TypeId)(i:TypeInfo)(z:Value)(size J:Nat)(r:P.underlying t=some (.slice e))(y:P.info? e=some i)(hz:i.zero=some z)
 (S:i.size=size) (d:i.bytes=J) (hzs:z.cells.size=size)
 (v:Value) (n:Nat) (xs:List Value) (B:aK w base e size v n xs)
 (a:Addr) (m c:Nat) (A:List Value) (M:A.length=m*size) (F:∀j u,A[j]? =some u->w.cell? (a.add j)=some u) (h1:∀u∈A,u.oneCell'=true)
 (U:n+m<=maxLen) (H:(n+m)*J<=140737488355328) (N:base<=w.heap.size):
 ∃l w',(Builtin.append_ #[t,t] q #[v,.slice (some a) m c]).run P w= .ok l w'/\aK w' base e size l (n+m) (xs++A)/\w.grownBy w' v.ownBlock /\
  (l.ownBlock=v.ownBlock\/l.ownBlock=some w.heap.size):=by
 subst S;subst d;have x:n+m<=9223372036854775807:=by simp only[maxLen]at U;omega
 have L:(xs++A).length=(n+m)*i.size:=by rw[aam,B.1,M,Nat.add_mul]
 have K:∀(D:Nat),D<n+m->∀(Z:Option Nat),
  aK (w.drew.alloc (.cells (xs.toArray++A.toArray++Builtin.zeroCells z.cells (grownCap w (n+m) D e - (n+m))) e)) base e i.size
   (.slice (some ⟨w.heap.size,0,none⟩) (n+m) (grownCap w (n+m) D e)) (n+m) (xs++A) /\
  w.grownBy (w.drew.alloc (.cells (xs.toArray++A.toArray++Builtin.zeroCells z.cells (grownCap w (n+m) D e - (n+m))) e)) Z:=by
  intro D ho Z;have b:=grownCap_ge w (n+m) D e;have O:grownCap w (n+m) D e<=maxLen:=grownCap_le_maxLen w (n+m) D e U;refine⟨⟨L,.inr ⟨w.heap.size,0,_,_,rfl,N,heap_alloc_new w.drew _,b,O,?_,?_⟩⟩,⟨rfl,rfl,rfl,by simp,fun k W _=>Below.heap_alloc w.drew _ k W⟩⟩
  ·simp only[Array.size_append,List.size_toArray,size_zeroCells,hzs,B.1,M,<- Nat.add_mul]
   rw[Nat.zero_add];exact Nat.mul_le_mul_right _ (by omega)
  ·simp only[Array.toList_append,List.append_assoc,List.drop_zero]
   rw[<- List.append_assoc,<- L];exact List.take_left
 rcases B.2 with⟨rfl,rfl⟩| ⟨g,C,E,cur,rfl,f,hg,hnc,O,hcs,T⟩
 ·have hx:xs=[]:=List.eq_nil_of_length_eq_zero (by simpa using B.1)
  subst hx;by_cases hm:m=0
  ·subst hm
   have hn:A=[]:=List.eq_nil_of_length_eq_zero (by simpa using M);subst hn;refine⟨.slice none 0 0,w,?_,aK.nil w base e i.size,⟨rfl,rfl,rfl,aab _,fun _ _ _=>rfl⟩,.inl rfl⟩;simp[Builtin.append_,run_underlying r,sizeOf,typeInfo,y,Builtin.lenOf,Builtin.firstCells,loadCells,loadCellsFrom]
  ·have Y:=run_append_nil (P:=P) w t q e i z r y hz a m c A M F (by omega) (by omega) (by have hb:=H;simp only[Nat.zero_add]at hb;omega)
   have I:=K 0 (by omega) (Value.ownBlock (.slice none 0 0));simp only[Nat.zero_add,List.nil_append,Array.empty_append]at I⊢;exact⟨_,_,Y,I.1,I.2,.inr rfl⟩
 ·by_cases G:n+m<=E
  ·have V:C+n*i.size+A.length<=cur.size:=by
    rw[M];have h2:(n+m)*i.size<=E*i.size:=Nat.mul_le_mul_right _ G;rw[Nat.add_mul]at h2;omega
   have Y:=FY (P:=P) w t q e i r y g C n E cur hg a m c A M F h1 G V;refine⟨_,_,Y,⟨L,.inr ⟨g,C,E,_,rfl,f,setRow_heap w g cur _ e _ hg,G,O,?_,?_⟩⟩,⟨rfl,rfl,rfl,by simp,fun k _ W=>setRow_other w g k _ (fun e=>W (by simp[Value.ownBlock,e]))⟩,.inl rfl⟩
   ·simp only[List.size_toArray,aam,List.length_take,List.length_drop,Array.length_toList]
    omega
   ·rw[<- T,Nat.add_mul,<- M]
    have X:C<=(cur.toList.take (C+n*i.size)).length:=by simp;omega
    rw[List.append_assoc,List.drop_append_of_le_length X,List.drop_take,Nat.add_sub_cancel_left];have W:(List.take (n*i.size) (List.drop C cur.toList)).length=n*i.size:=by simp;omega
    rw[<- List.append_assoc];exact List.take_left' (by rw[aam,W])
  ·have Q:∀j u,xs[j]? =some u->w.cell? ((⟨g,C,none⟩:Addr).add j)=some u:=by
    intro j u hu;have hjn:j<n*i.size:=by rw[<- B.1];exact(aah.1 hu).1
    have hn0:0<n:=Nat.pos_of_ne_zero (by rintro rfl;simp at hjn);obtain⟨g',off',cap',hv',_,_,_,_,hc⟩:=B.form hn0;cases hv'
    rw[Addr.add_lit];exact hc j u hu
   have Y:=run_append_grow (P:=P) w t q e i z r y hz ⟨g,C,none⟩ n E xs B.1 Q a m c A M F (by omega) (by omega) (growslice_fits (by omega) H);have I:=K E (by omega) (Value.ownBlock (.slice (some ⟨g,C,none⟩) n E));exact⟨_,_,Y,I.1,I.2,.inr rfl⟩
theorem iG{o:Oper}{a:Act}{K:Act->World->Prop}{Q:Exit->Act->World->Prop}(s x:Operand)(t:TypeId)
 (W:o.op= .call { callee:=.builtin .append,args:=#[s,x],argTypes:=#[t,t] })
 (base:Nat) (e:TypeId) (i:TypeInfo) (z:Value) (size B:Nat) (Z:P.underlying t=some (.slice e)) (U:P.info? e=some i) (r:i.zero=some z)
 (F:i.size=size) (L:i.bytes=B) (M:z.cells.size=size)
 (v:Value) (n:Nat) (xs:List Value) (Y:a.eval s=v) (H:aK w base e size v n xs)
 (I:Addr) (m c:Nat) (A:List Value) (y:a.eval x= .slice (some I) m c) (V:A.length=m*size) (E:∀j u,A[j]? =some u->w.cell? (I.add j)=some u) (N:∀u∈A,u.oneCell'=true)
 (J:n+m<=maxLen) (C:(n+m)*B<=140737488355328) (D:base<=w.heap.size)
 (h:∀G w',aK w' base e size G (n+m) (xs++A)->w.grownBy w' v.ownBlock->(G.ownBlock=v.ownBlock\/G.ownBlock=some w.heap.size)->K (a.put o.dst G) w'):o.wp P a w K Q:=by
 obtain⟨G,w',X,O,S,T⟩:=Gh (P:=P) w base t o.type e i z size B Z U r F L M v n xs H I m c A V E N J C D;unfold Oper.wp execOp;simp only[W,resolve,invoke,builtin,Sem.run_bind,Sem.run_pure,Result.andThen_ok,List.map_toArray,List.map_cons,List.map_nil,Y,y,X];exact h G w' O S T
theorem di{I:Array Oper}{rest:List Oper}{o:Oper}{a:Act}{Q:Exit->Act->World->Prop}(M:o.guard=none)(s x:Operand)(t:TypeId)
 (Y:o.op= .call { callee:=.builtin .append,args:=#[s,x],argTypes:=#[t,t] })
 (base:Nat) (e:TypeId) (i:TypeInfo) (z:Value) (size B:Nat) (y:P.underlying t=some (.slice e)) (W:P.info? e=some i) (q:i.zero=some z)
 (F:i.size=size) (L:i.bytes=B) (N:z.cells.size=size)
 (v:Value) (n:Nat) (xs:List Value) (Z:a.eval s=v) (H:aK w base e size v n xs)
 (J:Addr) (m c:Nat) (A:List Value) (r:a.eval x= .slice (some J) m c) (X:A.length=m*size) (E:∀j u,A[j]? =some u->w.cell? (J.add j)=some u) (O:∀u∈A,u.oneCell'=true)
 (K:n+m<=maxLen) (C:(n+m)*B<=140737488355328) (D:base<=w.heap.size)
 (h:∀G w',aK w' base e size G (n+m) (xs++A)->w.grownBy w' v.ownBlock->(G.ownBlock=v.ownBlock\/G.ownBlock=some w.heap.size)->wpList P I Q rest (a.put o.dst G) w'):wpList P I Q (o::rest) a w:=
 wpList_plain M fun _ V=>iG w s x t Y base e i z size B y W q F L N v n xs Z H J m c A r X E O K C D fun G w' S T U=>V _ _ (h G w' S T U)
end
end Go.Proofs.YtoepemlnlpamlaaGreat
