/- The law NamesResolves holds where what it reads is of bulk at most 1048576: it returns true, and its argument reads as before. Part 2: Ord2 At1 Ord3 Base Mem. -/
import Derived.Test.YtoepemlnlpamlaaGreatProg
import Derived.WalkKit
import Derived.WalkSpells
import Derived.WalkLawsBesides
import Derived.Deep.QuietTactic
import Derived.BigQuiet
import Derived.Lib.Hide
import Derived.Deep.AppendSrc
import Derived.Deep.AppendLies
import Derived.Deep.Draws
import Derived.Deep.Upon
import Derived.Deep.LoopGhost
import Derived.Deep.RegionHeld3
import Derived.Deep.RegionLaw
import Derived.Deep.DeepCutAuto
import Derived.Deep.DeepFit
import Derived.BigRegion
import Derived.StillTailTactics
import Derived.Test.YtoepemlnlpamlaaGreatReso01
set_option maxRecDepth 100000
set_option maxHeartbeats 4000000
namespace Go.Proofs.YtoepemlnlpamlaaGreat
def fH:List ae->Nat->List (ae×Nat)
 | [],_=>[]
 | k::ks,n=>(k,n)::fH ks (n+au k)
def wK:List ae->Nat->List (ae×Nat)
 | [],_=>[]
 | k::ks,n=>(fH k.kids (n+1)).filter (fun y=>decide (y.1.kind=4))++wK ks (n+au k)
def pY(L:List (ae×Nat)):List (ByteArray×Nat):=L.map fun y=>(y.1.text,y.2)
def xq(L:List (ByteArray×Nat))(l:kP):kP:=L.foldl (fun l y=>lM l y.1 (y.2:Int)) l
theorem IJ:∀(fs:List ae) (n:Nat) (l:kP),jT fs n l=xq (pY ((fH fs n).filter fun y=>decide (y.1.kind=4))) l
 | [],_,_=>rfl
 | f::fs,n,l=>by
  rw[jT,IJ fs,fH,List.filter_cons];by_cases h:f.kind=4
  ·rw[if_pos h,if_pos (decide_eq_true h)];rfl
  ·rw[if_neg h,if_neg (by simp[h])]
theorem OU(a b:List (ByteArray×Nat))(l:kP):xq (a++b) l=xq b (xq a l):=List.foldl_append
theorem yB:∀(ks:List ae) (n:Nat) (g:bf),lJ ks n g=⟨xq (pY (fH ks n)) g.globals,xq (pY (wK ks n)) g.fields,(fH ks n).foldl (fun l y=>cZ l (y.2:Int) y.1.kind) g.kinds⟩
 | [],_,_=>rfl
 | k::ks,n,g=>by
  rw[lJ,yB ks,fH,wK];simp only[pY,List.map_append,OU,List.map_cons,IJ];rfl
theorem nE{K V:Type}[DecidableEq K]:∀(l:List (K×V)) (k:K) (v:V) (x:K),bG (cZ l k v) x=if x=k then some v else bG l x
 | [],k,v,x=>rfl
 | y::l,k,v,x=>by
  rw[cZ];by_cases h:k=y.1
  ·rw[if_pos h,bG,bG]
   by_cases hx:x=k
   ·rw[if_pos hx,if_pos hx]
   ·rw[if_neg hx,if_neg hx,if_neg (by rw[<- h];exact hx)]
  ·rw[if_neg h,bG,nE l,bG]
   by_cases hx:x=y.1
   ·rw[if_pos hx,if_pos hx,if_neg (by rw[hx];exact fun e=>h e.symm)]
   ·rw[if_neg hx,if_neg hx]
theorem VQ(l:kP)(n:ByteArray)(k:Int)(x:ByteArray):aT (lM l n k) x=(aT l x).or (if x=n then some k else none):=by
 unfold lM;by_cases h:(aT l n).isSome
 ·rw[if_pos h]
  by_cases hx:x=n
  ·subst hx
   obtain⟨v,hv⟩:=Option.isSome_iff_exists.1 h;rw[hv];rfl
  ·rw[if_neg hx];simp
 ·rw[if_neg h]
  unfold aT;rw[nE];by_cases hx:x=n
  ·subst hx
   rw[if_pos rfl,if_pos rfl];have:bG l x=none:=by simpa using h
   rw[this];rfl
  ·rw[if_neg hx,if_neg hx];simp
theorem DW:∀(L:List (ByteArray×Nat)) (l:kP) (x:ByteArray),aT (xq L l) x=(aT l x).or ((L.find? fun y=>decide (x=y.1)).map fun y=>(y.2:Int))
 | [],l,x=>by simp[xq]
 | y::L,l,x=>by
  show aT (xq L (lM l y.1 y.2)) x=_;rw[DW L,VQ,List.find?_cons];by_cases hx:x=y.1
  ·rw[if_pos hx,decide_eq_true hx]
   cases aT l x<;>rfl
  ·rw[if_neg hx,decide_eq_false hx]
   simp
theorem nJ(t:ae):1<=au t:=by cases t;simp[au]
theorem Tf(t:ae):au t=1+aG t.kids:=by cases t;rfl
theorem Ie:∀(ks:List ae) (n:Nat),∀y∈fH ks n,n<=y.2/\y.2<n+aG ks
 | [],_,y,h=>by cases h
 | k::ks,n,y,h=>by
  rw[fH]at h;have:=nJ k;rw[aG];rcases List.mem_cons.1 h with rfl|h
  ·simp;omega
  ·have:=Ie ks _ y h
   omega
theorem numK_pw:∀(ks:List ae) (n:Nat),(fH ks n).Pairwise fun a b=>a.2<b.2
 | [],_=>List.Pairwise.nil
 | k::ks,n=>by
  rw[fH];refine List.Pairwise.cons (fun y h=>?_) (numK_pw ks _);have:=Ie ks _ y h;have:=nJ k;simp;omega
theorem QG:∀(ks:List ae) (n:Nat) (l:List (Int×Int)) (y:ae×Nat),y∈fH ks n->bG ((fH ks n).foldl (fun l y=>cZ l (y.2:Int) y.1.kind) l) (y.2:Int)=some y.1.kind
 | [],_,_,_,h=>by cases h
 | k::ks,n,l,y,h=>by
  have keep:∀(ks:List ae) (m:Nat) (l:List (Int×Int)) (x:Nat),x<m->bG ((fH ks m).foldl (fun l y=>cZ l (y.2:Int) y.1.kind) l) (x:Int)=bG l (x:Int):=by
   intro ks
   induction ks with
   | nil=>intro m l x _;rfl
   | cons k ks ih=>
    intro m l x hx;rw[fH,List.foldl_cons,ih _ _ _ (by omega),nE,if_neg (by simp;omega)]
  rw[fH]at h⊢;rw[List.foldl_cons];rcases List.mem_cons.1 h with rfl|h
  ·rw[keep _ _ _ _ (by have:=nJ k;simp;omega),nE,if_pos rfl]
  ·exact QG ks _ _ y h
theorem Ao:∀(ks:List ae) (n:Nat),(fH ks n).map (·.1)=ks
 | [],_=>rfl
 | k::ks,n=>by rw[fH,List.map_cons,Ao]
def sM(ks:List ae):bf:=lJ ks 1 ⟨[],[],[]⟩
theorem Uk(ks:List ae)(x:ByteArray):aT (sM ks).globals x=((pY (fH ks 1)).find? fun y=>decide (x=y.1)).map fun y=>(y.2:Int):=by
 unfold sM;rw[yB,DW];rfl
theorem G9(ks:List ae)(x:ByteArray):aT (sM ks).fields x=((pY (wK ks 1)).find? fun y=>decide (x=y.1)).map fun y=>(y.2:Int):=by
 unfold sM;rw[yB,DW];rfl
theorem YV(ks:List ae)(y:ae×Nat)(h:y∈fH ks 1):jw (sM ks) (y.2:Int)=y.1.kind:=by
 unfold jw sM;rw[yB];simp only[QG ks 1 _ y h,Option.getD_some]
structure Eu (R:RS->RS->Prop):Prop where
 refl:∀r,R r r
 trans:∀{a b c},R a b->R b c->R a c
 none_:∀(r:RS) (i:Bool) (v:List Int),R r (aC r i v)
 say:∀(r:RS) (i:Bool) (v:List Int) (c:Int) (t:ae),R r (qg (aC r i v) c r.next t)
 decl:∀(r:RS) (i:Bool) (v:List Int) (c:Int) (t:ae),R r (kU (aC r i v) c r.next t)
 use:∀(r:RS) (i:Bool) (v:List Int) (k:Int),R r { aC r i v with uses:=r.uses.set r.next k }
 owner:∀(r:RS) (o:Int),R r { r with owner:=o }
section
variable {R:RS->RS->Prop}(hR:Eu R)
include hR
theorem Eu.declare(r:RS)(i:Bool)(v:List Int)(c:Int)(t:ae)(a:Bool):R r (aU (aC r i v) c r.next t a):=by
 cases a
 ·exact hR.decl r i v c t
 ·exact hR.say r i v 9 t
theorem Eu.nL(G:bf)(r:RS)(i:Bool)(v:List Int)(c:Int)(t:ae)(s:aQ):R r (aD G (aC r i v) c r.next t s).1:=by
 unfold aD;split
 ·exact hR.say r i v 9 t
 ·exact hR.decl r i v c t
theorem Eu.DC(r:RS)(i:Bool)(v:List Int)(t:ae)(Fe:Option Int):R r (gT (aC r i v) r.next t Fe):=by
 cases Fe with
 | none=>exact hR.say r i v 8 t
 | some k=>exact hR.use r i v k
mutual
theorem Br(G:bf):∀(t:ae) (i:Bool) (s:aQ) (r:RS),R r (aJ G i t s r).1
 | .node k x a e kids,i,s,r=>by
  have hb:∀u f n s',R r u->R r (ah G i kids f n s' u).1:=fun u f n s' hu=>hR.trans hu (qo G kids i f n s' u)
  have hd:∀c a',R r { aU (aC r i (aj (ak s))) c r.next (.node k x a e kids) a' with owner:=(r.next:Int) }:=fun c a'=>hR.trans (hR.declare r i _ c _ a') (hR.owner _ _)
  have hv:∀c s',R r (aD G (aC r i (aj (ak s))) c r.next (.node k x a e kids) s').1:=fun c s'=>hR.nL G r i _ c _ s'
  have hu:∀Fe,R r (gT (aC r i (aj (ak s))) r.next (.node k x a e kids) Fe):=fun Fe=>hR.DC r i _ _ Fe
  rw[dh];split
  ·exact hb _ _ _ _ (hd _ _)
  split
  ·exact hb _ _ _ _ (hR.declare r i _ _ _ _)
  split
  ·exact hR.trans (hR.trans (hd _ _) (qo G kids false 0 2 _ _)) (qo G kids true 2 1 _ _)
  split
  ·exact hb _ _ _ _ (hv _ _)
  split
  ·exact hb _ _ _ _ (hR.none_ r i _)
  split
  ·exact hb _ _ _ _ (hv _ _)
  split
  ·exact hR.trans (hb _ _ _ _ (hv _ _)) (qo G kids i 2 1 _ _)
  ·refine hb _ _ _ _ ?_
   unfold iN;split
   ·exact hu _
   split
   ·exact hu _
   split
   ·exact hu _
   split
   ·exact hu _
   split
   ·exact hu _
   ·exact hR.none_ r i _
theorem qo(G:bf):∀(ts:List ae) (i:Bool) (f n:Nat) (s:aQ) (r:RS),R r (ah G i ts f n s r).1
 | [],_,_,_,_,r=>by rw[ah];exact hR.refl r
 | t::ts,i,f+1,n,s,r=>by rw[ah];exact qo G ts i f n s r
 | t::ts,i,0,0,s,r=>by rw[ah];exact hR.refl r
 | t::ts,i,0,n+1,s,r=>by rw[ah];exact hR.trans (Br G t i s r) (qo G ts i 0 n _ _)
end
end
structure qc (a b:RS):Prop where
 next:a.next<=b.next
 aW:∃l,b.aW=a.aW++l/\(l.Pairwise fun x y=>x.1<y.1)/\∀x∈l,(a.next:Int)<=x.1/\x.1<(b.next:Int)
 ds:∃l,b.ds=a.ds++l/\(l.Pairwise fun x y=>x.node<y.node)/\∀d∈l,(a.next:Int)<=d.node/\d.node<(b.next:Int)
 qX:b.uses.length=a.uses.length
 uses:∀j,j<a.next\/b.next<=j->b.uses[j]? =a.uses[j]?
 aS:∀m:Nat,m<a.next\/b.next<=m->bG b.aS (m:Int)=bG a.aS (m:Int)
theorem qc.of_same{a b:RS}(h1:b.next=a.next)(h2:b.aW=a.aW)(h3:b.ds=a.ds)(h4:b.uses=a.uses)(h5:b.aS=a.aS):qc a b:=
 ⟨by omega,⟨[],by simp[h2],List.Pairwise.nil,by simp⟩,⟨[],by simp[h3],List.Pairwise.nil,by simp⟩,by rw[h4],fun _ _=>by rw[h4],fun _ _=>by rw[h5]⟩
theorem qc.trans{a b c:RS}(h:qc a b)(k:qc b c):qc a c:=by
 have h1:=h.next;have k1:=k.next;obtain⟨lp,hp,hpw,hpb⟩:=h.aW;obtain⟨lq,kp,kpw,kpb⟩:=k.aW;obtain⟨ld,hd,hdw,hdb⟩:=h.ds;obtain⟨le,kd,kdw,kdb⟩:=k.ds;refine⟨by omega,⟨lp++lq,by rw[kp,hp,List.append_assoc],List.pairwise_append.2 ⟨hpw,kpw,fun x hx y hy=>?_⟩,fun x hx=>?_⟩,⟨ld++le,by rw[kd,hd,List.append_assoc],List.pairwise_append.2 ⟨hdw,kdw,fun x hx y hy=>?_⟩,fun x hx=>?_⟩,by rw[k.qX,h.qX],fun j hj=>?_,fun m hm=>?_⟩
 ·have:=(hpb x hx).2;have:=(kpb y hy).1;omega
 ·rcases List.mem_append.1 hx with hx|hx
  ·have:=hpb x hx;omega
  ·have:=kpb x hx;omega
 ·have:=(hdb x hx).2;have:=(kdb y hy).1;omega
 ·rcases List.mem_append.1 hx with hx|hx
  ·have:=hdb x hx;omega
  ·have:=kdb x hx;omega
 ·rw[k.uses j (by omega),h.uses j (by omega)]
 ·rw[k.aS m (by omega),h.aS m (by omega)]
theorem Ha(r:RS)(i:Bool)(v:List Int)(m:Nat)(h:m≠r.next):bG (aC r i v).aS (m:Int)=bG r.aS (m:Int):=by
 cases i
 ·rfl
 ·show bG (cZ r.aS (r.next:Int) v) (m:Int)=_
  rw[nE,if_neg (by omega)]
theorem TE(l:List Int)(n:Nat)(k:Int)(j:Nat)(h:j≠n):(l.set n k)[j]? =l[j]? :=by
 rw[List.getElem?_set];rw[if_neg (fun e=>h e.symm)]
theorem rO:Eu qc where
 refl:=fun r=>qc.of_same rfl rfl rfl rfl rfl
 trans:=qc.trans
 none_:=fun r i v=>⟨Nat.le_succ _,⟨[],by simp[aC],List.Pairwise.nil,by simp⟩,⟨[],by simp[aC],List.Pairwise.nil,by simp⟩,rfl,fun _ _=>rfl,fun m hm=>Ha r i v m (by have:(aC r i v).next=r.next+1:=rfl;omega)⟩
 say:=fun r i v c t=>⟨Nat.le_succ _,⟨_,rfl,List.pairwise_singleton _ _,fun x hx=>by
  rw[List.mem_singleton]at hx;subst hx;have:(qg (aC r i v) c r.next t).next=r.next+1:=rfl;rw[this];simp only
  omega⟩,⟨[],by simp[aC,qg],List.Pairwise.nil,by simp⟩,rfl,fun _ _=>rfl,fun m hm=>Ha r i v m (by have:(qg (aC r i v) c r.next t).next=r.next+1:=rfl;omega)⟩
 decl:=fun r i v c t=>⟨Nat.le_succ _,⟨[],by simp[aC,kU],List.Pairwise.nil,by simp⟩,⟨_,rfl,List.pairwise_singleton _ _,fun x hx=>by
  rw[List.mem_singleton]at hx;subst hx;have:(kU (aC r i v) c r.next t).next=r.next+1:=rfl;rw[this];simp only
  omega⟩,List.length_set,fun j hj=>TE _ _ _ _ (by have:(kU (aC r i v) c r.next t).next=r.next+1:=rfl;omega),fun m hm=>Ha r i v m (by have:(kU (aC r i v) c r.next t).next=r.next+1:=rfl;omega)⟩
 use:=fun r i v k=>⟨Nat.le_succ _,⟨[],by simp[aC],List.Pairwise.nil,by simp⟩,⟨[],by simp[aC],List.Pairwise.nil,by simp⟩,List.length_set,fun j hj=>TE _ _ _ _ (by have:({ aC r i v with uses:=r.uses.set r.next k }:RS).next=r.next+1:=rfl;omega),fun m hm=>Ha r i v m (by have:({ aC r i v with uses:=r.uses.set r.next k }:RS).next=r.next+1:=rfl;omega)⟩
 owner:=fun r o=>qc.of_same rfl rfl rfl rfl rfl
theorem nK(G:bf)(t:ae)(i:Bool)(s:aQ)(r:RS):qc r (aJ G i t s r).1:=Br rO G t i s r
theorem fe(G:bf)(ts:List ae)(i:Bool)(f n:Nat)(s:aQ)(r:RS):qc r (ah G i ts f n s r).1:=qo rO G ts i f n s r
def uu:ae->Bool
 | .node k _ _ _ kids=>(decide (k=3)&&kids.all fun f=>decide (f.kind=4)&&lV f.kids) || (decide (k=5)&&decide (kids.length=3)&&lV kids)
def J5(G:bf)(fs:List ae)(n:Nat):Nat:=((fH fs n).filter fun y=>decide ((aT G.fields y.1.text).getD 0≠(y.2:Int))).length
def IM(G:bf)(k:ae)(n:Nat):Nat:=(decide ((aT G.globals k.text).getD 0≠(n:Int))).toNat+(if k.kind=3 then J5 G k.kids (n+1) else 0)
def own(k:ae):Nat:=1+(if k.kind=3 then k.kids.length else 0)
theorem Uo(G:bf)(x:ByteArray)(a e:Int)(kids:List ae)(n:Nat):IM G (.node 3 x a e kids) n=(decide ((aT G.globals x).getD 0≠(n:Int))).toNat+J5 G kids (n+1):=by
 unfold IM;rw[if_pos (show(ae.node 3 x a e kids).kind=3 from rfl)];rfl
theorem RL(G:bf)(x:ByteArray)(a e:Int)(kids:List ae)(n:Nat):IM G (.node 5 x a e kids) n=(decide ((aT G.globals x).getD 0≠(n:Int))).toNat:=by
 unfold IM;rw[if_neg (show ¬(ae.node 5 x a e kids).kind=3 by show ¬((5:Int)=3);decide)];rfl
theorem own_rec(x:ByteArray)(a e:Int)(kids:List ae):own (.node 3 x a e kids)=1+kids.length:=by
 unfold own;rw[if_pos (show(ae.node 3 x a e kids).kind=3 from rfl)];rfl
theorem aad(x:ByteArray)(a e:Int)(kids:List ae):own (.node 5 x a e kids)=1:=by
 unfold own;rw[if_neg (show ¬(ae.node 5 x a e kids).kind=3 by show ¬((5:Int)=3);decide)]
def GK(m b1 b2 u:Nat)(r1 q1 r2 q2:RS):Prop:=
 ∃p d,q1.aW.length=r1.aW.length+b1+p/\q2.aW.length=r2.aW.length+b2+p/\q1.ds.length+b1=r1.ds.length+u+d/\q2.ds.length+b2=r2.ds.length+u+d/\q1.next=r1.next+m/\q2.next=r2.next+m
theorem vY.toB{m:Nat}{r1 q1 r2 q2:RS}(h:vY m r1 q1 r2 q2):GK m 0 0 0 r1 q1 r2 q2:=by
 obtain⟨p,d,h⟩:=h;exact⟨p,d,by simpa using h.p1,by simpa using h.p2,by simpa using h.d1,by simpa using h.d2,h.n1,h.n2⟩
theorem GK.trans{m b1 b2 u m' b1' b2' u' n c1 c2 v:Nat}{r1 q1 t1 r2 q2 t2:RS}(h:GK m b1 b2 u r1 q1 r2 q2)(k:GK m' b1' b2' u' q1 t1 q2 t2)(hn:n=m+m')(h1:c1=b1+b1')(h2:c2=b2+b2')(hv:v=u+u'):GK n c1 c2 v r1 t1 r2 t2:=by
 obtain⟨p,d,a1,a2,a3,a4,a5,a6⟩:=h;obtain⟨p',d',c1',c2',c3',c4',c5',c6'⟩:=k;exact⟨p+p',d+d',by omega,by omega,by omega,by omega,by omega,by omega⟩
theorem Cu(r1 r2:RS)(c:Int)(n1 n2:Nat)(t:ae)(a1 a2:Bool):GK 0 a1.toNat a2.toNat 1 r1 (aU r1 c n1 t a1) r2 (aU r2 c n2 t a2):=by
 refine⟨0,0,?_⟩;cases a1<;>cases a2<;>simp[aU,qg,kU]
theorem JV(r1 r2:RS)(v1 v2:List (Int×List Int)):GK 1 0 0 0 r1 { r1 with next:=r1.next+1,aS:=v1 } r2 { r2 with next:=r2.next+1,aS:=v2 }:=⟨0,0,rfl,rfl,rfl,rfl,rfl,rfl⟩
theorem Oa(r1 r2:RS)(o1 o2:Int):GK 0 0 0 0 r1 { r1 with owner:=o1 } r2 { r2 with owner:=o2 }:=⟨0,0,rfl,rfl,rfl,rfl,rfl,rfl⟩
theorem pU(r:RS)(c:Int)(n:Nat)(t:ae)(a:Bool):(aU r c n t a).next=r.next:=by cases a<;>rfl
theorem Oo(G:bf)(f:ae)(fs:List ae)(n:Nat):J5 G (f::fs) n=(decide ((aT G.fields f.text).getD 0≠(n:Int))).toNat+J5 G fs (n+au f):=by
 unfold J5;rw[fH,List.filter_cons];by_cases h:(aT G.fields f.text).getD 0=(n:Int)
 ·simp[h]
 ·simp[h];omega
theorem Kz{G1 G2:bf}(hG:xG G1 G2):∀(fs:List ae) (s1 s2:aQ) (r1 r2:RS) (n1 n2:Nat),r1.next=n1->r2.next=n2->(fs.all fun f=>decide (f.kind=4)&&lV f.kids)=true->dx s1=dx s2 ->
 GK (aG fs) (J5 G1 fs n1) (J5 G2 fs n2) fs.length r1 (ah G1 false fs 0 fs.length s1 r1).1 r2 (ah G2 false fs 0 fs.length s2 r2).1/\dx (ah G1 false fs 0 fs.length s1 r1).2=dx (ah G2 false fs 0 fs.length s2 r2).2
 | [],s1,s2,r1,r2,n1,n2,_,_,_,hs=>by
  simp only[ah,List.length_nil];exact⟨(vY.refl r1 r2).toB,hs⟩
 | .node k x a e kids::fs,s1,s2,r1,r2,n1,n2,e1,e2,h,hs=>by
  subst e1;subst e2;rw[List.all_cons,abG,abG,decide_eq_true_eq]at h;obtain⟨⟨hk,hin⟩,hrest⟩:=h;have hk':k=4:=hk;subst hk';have hin':lV kids=true:=hin;simp only[abR,ah]
  obtain⟨A,hA,B⟩:∃A:GK (au (.node 4 x a e kids)) (decide ((aT G1.fields x).getD 0≠(r1.next:Int))).toNat (decide ((aT G2.fields x).getD 0≠(r2.next:Int))).toNat 1 r1 (aJ G1 false (.node 4 x a e kids) s1 r1).1 r2 (aJ G2 false (.node 4 x a e kids) s2 r2).1,
   ((aJ G1 false (.node 4 x a e kids) s1 r1).1.next=r1.next+au (.node 4 x a e kids)/\(aJ G2 false (.node 4 x a e kids) s2 r2).1.next=r2.next+au (.node 4 x a e kids)) /\
   dx (aJ G1 false (.node 4 x a e kids) s1 r1).2=dx (aJ G2 false (.node 4 x a e kids) s2 r2).2:=by
   rw[aJ,aJ,au];simp only[show ¬((4:Int)=3) by decide,if_false,if_true];obtain⟨b1,b2⟩:=mr hG kids false 0 kids.length s1 s2 (aU { r1 with next:=r1.next+1 } 1 r1.next (.node 4 x a e kids) (decide ((aT G1.fields x).getD 0≠(r1.next:Int)))) (aU { r2 with next:=r2.next+1 } 1 r2.next (.node 4 x a e kids) (decide ((aT G2.fields x).getD 0≠(r2.next:Int)))) hin' hs;have hg:=(JV r1 r2 r1.aS r2.aS).trans ((Cu { r1 with next:=r1.next+1 } { r2 with next:=r2.next+1 } 1 r1.next r2.next (.node 4 x a e kids) (decide ((aT G1.fields x).getD 0≠(r1.next:Int))) (decide ((aT G2.fields x).getD 0≠(r2.next:Int)))).trans b1.toB rfl rfl rfl rfl) rfl rfl rfl rfl;have hm:1+(0+aG (List.take kids.length (List.drop 0 kids)))=1+aG kids:=by simp
   rw[hm]at hg;simp only[Nat.zero_add,Nat.add_zero]at hg;refine⟨hg,?_,b2⟩;obtain⟨_,_,_,_,_,_,h5,h6⟩:=hg;exact⟨h5,h6⟩
  obtain⟨c1,c2⟩:=Kz hG fs _ _ (aJ G1 false (.node 4 x a e kids) s1 r1).1 (aJ G2 false (.node 4 x a e kids) s2 r2).1 _ _ hA.1 hA.2 hrest B;refine⟨A.trans c1 (by rw[aG]) ?_ ?_ (by omega),c2⟩
  ·rw[Oo];rfl
  ·rw[Oo];rfl
theorem XJ{G1 G2:bf}(hG:xG G1 G2)(t:ae)(ht:uu t=true)(s1 s2:aQ)(r1 r2:RS)(hs:dx s1=dx s2):
 GK (au t) (IM G1 t r1.next) (IM G2 t r2.next) (own t) r1 (aJ G1 false t s1 r1).1 r2 (aJ G2 false t s2 r2).1/\dx (aJ G1 false t s1 r1).2=dx (aJ G2 false t s2 r2).2:=by
 obtain⟨k,x,a,e,kids⟩:=t;rw[uu,Bool.or_eq_true,abG,abG,abG,decide_eq_true_eq,decide_eq_true_eq,decide_eq_true_eq]at ht;rcases ht with⟨rfl,hf⟩| ⟨⟨rfl,hl⟩,hin⟩
 ·rw[aJ,aJ,au]
  simp only[if_true];obtain⟨b1,b2⟩:=Kz hG kids s1 s2 { aU { r1 with next:=r1.next+1 } 0 r1.next (.node 3 x a e kids) (decide ((aT G1.globals x).getD 0≠(r1.next:Int))) with owner:=(r1.next:Int) } { aU { r2 with next:=r2.next+1 } 0 r2.next (.node 3 x a e kids) (decide ((aT G2.globals x).getD 0≠(r2.next:Int))) with owner:=(r2.next:Int) } (r1.next+1) (r2.next+1) (pU _ _ _ _ _) (pU _ _ _ _ _) hf hs;refine⟨?_,b2⟩;have hg:=(JV r1 r2 r1.aS r2.aS).trans ((Cu { r1 with next:=r1.next+1 } { r2 with next:=r2.next+1 } 0 r1.next r2.next (.node 3 x a e kids) (decide ((aT G1.globals x).getD 0≠(r1.next:Int))) (decide ((aT G2.globals x).getD 0≠(r2.next:Int)))).trans ((Oa _ _ (r1.next:Int) (r2.next:Int)).trans b1 rfl rfl rfl rfl) rfl rfl rfl rfl) rfl rfl rfl rfl;simp only[Nat.zero_add]at hg;rw[Uo,Uo,own_rec];exact hg
 ·match kids,hl with
  | [u,v,w],_=>
   rw[aJ,aJ,au];simp only[show ¬((5:Int)=3) by decide,show ¬((5:Int)=4) by decide,if_false,if_true];obtain⟨b1,b2⟩:=mr hG [u,v,w] false 0 2 [[]] [[]] { aU { r1 with next:=r1.next+1 } 2 r1.next (.node 5 x a e [u,v,w]) (decide ((aT G1.globals x).getD 0≠(r1.next:Int))) with owner:=(r1.next:Int) } { aU { r2 with next:=r2.next+1 } 2 r2.next (.node 5 x a e [u,v,w]) (decide ((aT G2.globals x).getD 0≠(r2.next:Int))) with owner:=(r2.next:Int) } hin rfl;obtain⟨c1,c2⟩:=mr hG [u,v,w] true 2 1 _ _ _ _ hin (xw (l:=[]) (m:=[]) b2 rfl);refine⟨?_,hs⟩;have hg:=(JV r1 r2 r1.aS r2.aS).trans ((Cu { r1 with next:=r1.next+1 } { r2 with next:=r2.next+1 } 2 r1.next r2.next (.node 5 x a e [u,v,w]) (decide ((aT G1.globals x).getD 0≠(r1.next:Int))) (decide ((aT G2.globals x).getD 0≠(r2.next:Int)))).trans ((Oa _ _ (r1.next:Int) (r2.next:Int)).trans (b1.toB.trans c1.toB rfl rfl rfl rfl) rfl rfl rfl rfl) rfl rfl rfl rfl) rfl rfl rfl rfl;have hm:1+(0+(0+(aG (List.take 2 (List.drop 0 [u,v,w]))+aG (List.take 1 (List.drop 2 [u,v,w])))))=1+aG [u,v,w]:=by simp[aG];omega
   rw[hm]at hg;simp only[Nat.zero_add,Nat.add_zero]at hg;rw[RL,RL,aad];exact hg
def Qd:RS:=⟨[],[],[],[],0,0⟩
def probT(G:bf)(t:ae):Nat:=(aJ G false t [] Qd).1.aW.length - IM G t 0
def decT(G:bf)(t:ae):Nat:=(aJ G false t [] Qd).1.ds.length+IM G t 0 - own t
theorem TA{G G2:bf}(hG:xG G G2)(t:ae)(ht:uu t=true)(s:aQ)(r:RS)(hs:dx s=[]):
 (aJ G2 false t s r).1.aW.length=r.aW.length+IM G2 t r.next+probT G t/\(aJ G2 false t s r).1.ds.length+IM G2 t r.next=r.ds.length+own t+decT G t/\(aJ G2 false t s r).1.next=r.next+au t/\dx (aJ G2 false t s r).2=dx (aJ G false t [] Qd).2:=by
 obtain⟨⟨p,d,h1,h2,h3,h4,h5,h6⟩,h7⟩:=XJ hG t ht [] s Qd r hs.symm;unfold probT decT;have e1:Qd.aW.length=0:=rfl;have e2:Qd.ds.length=0:=rfl;have e3:Qd.next=0:=rfl;rw[e1,e3]at h1;rw[e2,e3]at h3;refine⟨by omega,by omega,h6,h7.symm⟩
theorem Mh(s:aQ)(l:kP):(kr s l).length=s.length:=by cases s<;>rfl
theorem y5(G:bf)(r:RS)(k:Int)(n:Nat)(t:ae)(s:aQ):(aD G r k n t s).2.length=s.length:=by
 unfold aD;split
 ·rfl
 ·exact Mh _ _
mutual
theorem vP(G:bf):∀(t:ae) (i:Bool) (s:aQ) (r:RS),(aJ G i t s r).2.length=s.length
 | .node k x a e kids,i,s,r=>by
  rw[dh];split
  ·exact j3 G kids _ _ _ _ _
  split
  ·exact j3 G kids _ _ _ _ _
  split
  ·rfl
  split
  ·rw[j3,y5]
  split
  ·rw[List.length_tail,j3];rfl
  split
  ·rw[Mh,j3]
  split
  ·rw[List.length_tail,j3,abR,j3];rfl
  ·exact j3 G kids _ _ _ _ _
theorem j3(G:bf):∀(ts:List ae) (i:Bool) (f n:Nat) (s:aQ) (r:RS),(ah G i ts f n s r).2.length=s.length
 | [],_,_,_,_,_=>by rw[ah]
 | t::ts,i,f+1,n,s,r=>by rw[ah];exact j3 G ts _ _ _ _ _
 | t::ts,i,0,0,s,r=>by rw[ah]
 | t::ts,i,0,n+1,s,r=>by rw[ah];rw[j3 G ts,vP G t]
end
open Go.RowKit
theorem sA{α:Type}{l:List α}{i:Nat}{a:α}:l.toArray.setIfInBounds i a=(l.set i a).toArray:=by simp
theorem sZ{α:Type}{x:α}{l:List α}{a:α}:(x::l).set 0 a=a::l:=rfl
theorem sC{α:Type}{x:α}{l:List α}{n:Nat}{a:α}:(x::l).set (n+1) a=x::l.set n a:=rfl
theorem kH{p:Prop}(h:p):Go.RowKit.Hid p:=Lib.hid h
theorem Ah{a b:Bool}(h:a=b):Ending.returned (.bool a)= .returned (.bool b):=by rw[h]
theorem TH{k:IntKind}{a b:Int}(h:a=b):Ending.returned (.int k a)= .returned (.int k b):=by rw[h]
theorem aR{B:Nat}{a w:World}(h:Below B a w)(n:Nat):Below B a (w.drewN n):=⟨h.os,h.tape,h.output,h.size,h.block⟩
def bN{α:Type}(size:Nat)(cells:α->List Value)(w:World)(B:Nat)(A:Option Addr)(l:List α):Prop:=
 ∀k c,l[k]? =some c->∃b off,A=some ⟨b,off,none⟩/\b<B/\∀j v,(cells c)[j]? =some v->w.cell? ⟨b,off+k*size+j,none⟩=some v
theorem bN.below{α:Type}{size:Nat}{cells:α->List Value}{w w':World}{B B':Nat}{A:Option Addr}{l:List α}(h:bN size cells w B A l)(hb:Below B' w w')(hB:B<=B'):
 bN size cells w' B A l:=by
 intro k c hk;obtain⟨b,off,hA,hlt,hc⟩:=h k c hk;exact⟨b,off,hA,hlt,fun j v hj=>(hb.cell (p:=⟨b,_,none⟩) (by show b<B';omega)).trans (hc j v hj)⟩
theorem bN.mono{α:Type}{size:Nat}{cells:α->List Value}{w:World}{B B':Nat}{A:Option Addr}{l:List α}(h:bN size cells w B A l)(hB:B<=B'):bN size cells w B' A l:=by
 intro k c hk;obtain⟨b,off,hA,hlt,hc⟩:=h k c hk;exact⟨b,off,hA,by omega,hc⟩
def ai(w:World)(g:Nat)(t:TypeId)(cs:Array Value):Prop:=w.heap[g]? =some (.cells cs t (0,0))
section
variable {w w':World}{g:Nat}{t:TypeId}{cs:Array Value}
theorem ai.lt(h:ai w g t cs):g<w.heap.size:=(abH.1 h).1
theorem ai.cell(h:ai w g t cs)(i:Nat):w.cell? ⟨g,i,none⟩=cs[i]? :=cell_of_row w g i cs t (0,0) h
theorem ai.frozen(h:ai w g t cs)(i:Nat):w.frozen? ⟨g,i,none⟩=false:=by
 unfold ai at h;simp[World.frozen?,h]
theorem ai.keep(h:ai w g t cs)(hk:w'.heap[g]? =w.heap[g]?):ai w' g t cs:=hk.trans h
theorem ai.new(w:World)(t:TypeId)(cs:Array Value):ai (w.alloc (.cells cs t)) w.heap.size t cs:=heap_alloc_new w _
theorem ai.drew(h:ai w g t cs):ai w.drew g t cs:=h
theorem ai.alloc(h:ai w g t cs)(o:Obj):ai (w.alloc o) g t cs:=h.keep (Below.heap_alloc w o g h.lt)
theorem ai.fM(h:ai w g t cs)(i:Nat)(u:Value):ai (w.setCell ⟨g,i,none⟩ u) g t (cs.setIfInBounds i u):=by
 unfold ai at h⊢;simp[World.setCell,Array.getElem?_modify,h]
theorem ai.far(h:ai w g t cs){p:Addr}(hp:g≠p.block)(u:Value):ai (w.setCell p u) g t cs:=h.keep (Below.heap_setCell w p u g hp)
theorem ai.below{B:Nat}(h:ai w g t cs)(hb:Below B w w')(hg:g<B):ai w' g t cs:=h.keep (hb.block g hg)
theorem ai.grown{row:Option Nat}(h:ai w g t cs)(hb:w.grownBy w' row)(hg:some g≠row):ai w' g t cs:=h.keep (hb.block g h.lt hg)
end
def aL(w:World)(base:Nat)(e:TypeId)(size:Nat)(v:Value)(n:Nat)(xs:List Value):Prop:=
 xs.length=n*size/\((v= .slice none 0 0/\n=0) \/
  ∃g off cap cur,v= .slice (some ⟨g,off,none⟩) n cap/\base<=g/\w.heap[g]? =some (.cells cur e (0,0))/\n<=cap/\cap<=maxLen/\off+cap*size<=cur.size/\(cur.toList.drop off).take (n*size)=xs)
section
variable {w w':World}{base:Nat}{e:TypeId}{size:Nat}{v:Value}{n:Nat}{xs:List Value}
theorem aL.nil(w:World)(base:Nat)(e:TypeId)(size:Nat):aL w base e size (.slice none 0 0) 0 []:=⟨by simp,.inl ⟨rfl,rfl⟩⟩
theorem aL.block{g:Nat}{cur:Array Value}{n:Nat}(hb:base<=g)(hg:w.heap[g]? =some (.cells cur e (0,0)))(hm:n<=maxLen)(hs:cur.size=n*size):aL w base e size (.slice (some ⟨g,0,none⟩) n n) n cur.toList:=
 ⟨by simpa using hs,.inr ⟨g,0,n,cur,rfl,hb,hg,abE _,hm,by omega,by rw[List.drop_zero,List.take_of_length_le (by simp;omega)]⟩⟩
theorem aL.lt(h:aL w base e size v n xs):∀k,v.ownBlock=some k->base<=k/\k<w.heap.size:=by
 intro k hk;rcases h.2 with⟨rfl,_⟩| ⟨g,off,cap,cur,rfl,hb,hg,_⟩
 ·simp[Value.ownBlock]at hk
 ·simp[Value.ownBlock]at hk
  subst hk;exact⟨hb,(abH.1 hg).1⟩
theorem aL.form(h:aL w base e size v n xs)(hn:0<n):∃g off cap,v= .slice (some ⟨g,off,none⟩) n cap/\n<=cap/\cap<=maxLen/\base<=g/\g<w.heap.size/\∀j u,xs[j]? =some u->w.cell? ⟨g,off+j,none⟩=some u:=by
 rcases h.2 with⟨_,h0⟩| ⟨g,off,cap,cur,hv,hb,hg,hn,hm,hs,ht⟩
 ·omega
 ·refine⟨g,off,cap,hv,hn,hm,hb,(abH.1 hg).1,fun j u hu=>?_⟩
  rw[cell_of_row w g (off+j) cur e (0,0) hg];rw[<- ht,List.getElem?_take]at hu;split at hu
  ·rw[List.getElem?_drop]at hu
   simpa using hu
  ·cases hu
theorem aL.shape(h:aL w base e size v n xs):∃A c,v= .slice A n c/\n<=c/\c<=maxLen:=by
 rcases h.2 with⟨rfl,rfl⟩| ⟨g,off,cap,cur,hv,hb,hg,hn,hm,hs,ht⟩
 ·exact⟨none,0,rfl,abE _,by simp[maxLen]⟩
 ·exact⟨_,_,hv,hn,hm⟩
theorem aL.of_block(h:aL w base e size v n xs)(hk:∀g,v.ownBlock=some g->w'.heap[g]? =w.heap[g]?):aL w' base e size v n xs:=by
 refine⟨h.1,?_⟩;rcases h.2 with h0| ⟨g,off,cap,cur,hv,hb,hg,rest⟩
 ·exact .inl h0
 ·exact .inr ⟨g,off,cap,cur,hv,hb,(hk g (by rw[hv];rfl)).trans hg,rest⟩
theorem aL.kept{row:Option Nat}(h:aL w base e size v n xs)(hg:w.grownBy w' row)(hne:v.ownBlock=none\/v.ownBlock≠row):aL w' base e size v n xs:=
 h.of_block fun g hv=>hg.block g (h.lt g hv).2 (by rcases hne with h0|h0<;>simp_all)
theorem aL.below{B:Nat}(h:aL w base e size v n xs)(hb:Below B w w')(hlt:∀g,v.ownBlock=some g->g<B):aL w' base e size v n xs:=
 h.of_block fun g hv=>hb.block g (hlt g hv)
theorem aL.alloc(h:aL w base e size v n xs)(o:Obj):aL (w.alloc o) base e size v n xs:=
 h.of_block fun g hv=>Below.heap_alloc w o g (h.lt g hv).2
theorem aL.drew(h:aL w base e size v n xs):aL w.drew base e size v n xs:=h
theorem aL.setCell(h:aL w base e size v n xs){p:Addr}(hp:v.ownBlock≠some p.block)(u:Value):aL (w.setCell p u) base e size v n xs:=
 h.of_block fun g hv=>Below.heap_setCell w p u g (fun e1=>hp (by rw[hv,e1]))
theorem aL.mono{base':Nat}(h:aL w base e size v n xs)(hb:base'<=base):aL w base' e size v n xs:=by
 refine⟨h.1,?_⟩;rcases h.2 with h0| ⟨g,off,cap,cur,hv,hb',rest⟩
 ·exact .inl h0
 ·exact .inr ⟨g,off,cap,cur,hv,by omega,rest⟩
theorem aL.rowAt{α:Type}{cells:α->List Value}{l:List α}(h:aL w base e size v n xs){A:Option Addr}{c:Nat}(hv:v= .slice A n c)(hxs:xs=l.flatMap cells)(hl:∀c∈l,(cells c).length=size)(hn:l.length=n):
 bN size cells w w.heap.size A l:=by
 intro k x hk;have hkn:k<n:=by rw[<- hn];exact(abK.1 hk).1
 obtain⟨g,off,cap,hv',_,_,_,hlt,hc⟩:=h.form (by omega);rw[hv]at hv';cases hv'
 refine⟨g,off,rfl,hlt,fun j u hj=>?_⟩;rw[Nat.add_assoc];refine hc _ _ ?_;subst hxs;clear h hv hlt hc hkn hn
 induction l generalizing k with
 | nil=>simp at hk
 | cons y ys ih=>
  have hy:=hl y (by simp);have hjs:j<(cells x).length:=(abK.1 hj).1;rw[List.flatMap_cons]
  cases k with
  | zero=>
   simp at hk;subst hk;rw[List.getElem?_append_left (by omega),<- hj];simp
  | succ k=>
   rw[abO (by rw[hy,Nat.succ_mul];omega),hy];have:=ih (fun c hc=>hl c (by simp[hc])) k (by simpa using hk);rw[<- this];congr 1
   rw[Nat.succ_mul];omega
end
section
variable {P:Program}(w:World)
theorem E5(t ty e:TypeId)(i:TypeInfo)(ht:P.underlying t=some (.slice e))(hi:P.info? e=some i)
 (g off sLen sCap:Nat) (cur:Array Value) (hg:w.heap[g]? =some (.cells cur e (0,0)))
 (a:Addr) (m c:Nat) (news:List Value) (hl:news.length=m*i.size) (hnews:∀j u,news[j]? =some u->w.cell? (a.add j)=some u) (h1:∀u∈news,u.oneCell'=true)
 (hroom:sLen+m<=sCap) (hfit:off+sLen*i.size+news.length<=cur.size):
 (Builtin.append_ #[t,t] ty #[.slice (some ⟨g,off,none⟩) sLen sCap,.slice (some a) m c]).run P w=
  .ok (.slice (some ⟨g,off,none⟩) (sLen+m) sCap) (w.setRow g (cur.toList.take (off+sLen*i.size)++news++cur.toList.drop (off+sLen*i.size+news.length)).toArray):=by
 have hf:=run_firstCells_some (P:=P) w i.size m a m c news hl hnews;have hst:=run_storeCells_at P g (off+sLen*i.size) e news 0 cur w hg (by simpa using hfit) h1;simp only[Nat.add_zero]at hst;simp[Builtin.append_,run_underlying ht,sizeOf,typeInfo,hi,Builtin.lenOf,hroom,hf,Addr.add_lit,hst]
theorem Fq(base:Nat)(t ty e:TypeId)(i:TypeInfo)(z:Value)(size bytes:Nat)(ht:P.underlying t=some (.slice e))(hi:P.info? e=some i)(hz:i.zero=some z)
 (hsize:i.size=size) (hby:i.bytes=bytes) (hzs:z.cells.size=size)
 (v:Value) (n:Nat) (xs:List Value) (hown:aL w base e size v n xs)
 (a:Addr) (m c:Nat) (news:List Value) (hl:news.length=m*size) (hnews:∀j u,news[j]? =some u->w.cell? (a.add j)=some u) (h1:∀u∈news,u.oneCell'=true)
 (h63:n+m<=maxLen) (hbytes:(n+m)*bytes<=140737488355328) (hbase:base<=w.heap.size):
 ∃v' w',(Builtin.append_ #[t,t] ty #[v,.slice (some a) m c]).run P w= .ok v' w'/\aL w' base e size v' (n+m) (xs++news)/\w.grownBy w' v.ownBlock /\
  (v'.ownBlock=v.ownBlock\/v'.ownBlock=some w.heap.size):=by
 subst hsize;subst hby;have hsmall:n+m<=9223372036854775807:=by simp only[maxLen]at h63;omega
 have hlen:(xs++news).length=(n+m)*i.size:=by rw[abP,hown.1,hl,Nat.add_mul]
 have grown:∀(old:Nat),old<n+m->∀(row:Option Nat),
  aL (w.drew.alloc (.cells (xs.toArray++news.toArray++Builtin.zeroCells z.cells (grownCap w (n+m) old e - (n+m))) e)) base e i.size
   (.slice (some ⟨w.heap.size,0,none⟩) (n+m) (grownCap w (n+m) old e)) (n+m) (xs++news) /\
  w.grownBy (w.drew.alloc (.cells (xs.toArray++news.toArray++Builtin.zeroCells z.cells (grownCap w (n+m) old e - (n+m))) e)) row:=by
  intro old ho row;have hge:=grownCap_ge w (n+m) old e;have hcm:grownCap w (n+m) old e<=maxLen:=grownCap_le_maxLen w (n+m) old e h63;refine⟨⟨hlen,.inr ⟨w.heap.size,0,_,_,rfl,hbase,heap_alloc_new w.drew _,hge,hcm,?_,?_⟩⟩,⟨rfl,rfl,rfl,by simp,fun k hk _=>Below.heap_alloc w.drew _ k hk⟩⟩
  ·simp only[Array.size_append,List.size_toArray,size_zeroCells,hzs,hown.1,hl,<- Nat.add_mul]
   rw[Nat.zero_add];exact Nat.mul_le_mul_right _ (by omega)
  ·simp only[Array.toList_append,List.append_assoc,List.drop_zero]
   rw[<- List.append_assoc,<- hlen];exact List.take_left
 rcases hown.2 with⟨rfl,rfl⟩| ⟨g,off,cap,cur,rfl,hbg,hg,hnc,hcm,hcs,htake⟩
 ·have hx:xs=[]:=List.eq_nil_of_length_eq_zero (by simpa using hown.1)
  subst hx;by_cases hm:m=0
  ·subst hm
   have hn:news=[]:=List.eq_nil_of_length_eq_zero (by simpa using hl);subst hn;refine⟨.slice none 0 0,w,?_,aL.nil w base e i.size,⟨rfl,rfl,rfl,abE _,fun _ _ _=>rfl⟩,.inl rfl⟩;simp[Builtin.append_,run_underlying ht,sizeOf,typeInfo,hi,Builtin.lenOf,Builtin.firstCells,loadCells,loadCellsFrom]
  ·have hr:=run_append_nil (P:=P) w t ty e i z ht hi hz a m c news hl hnews (by omega) (by omega) (by have hb:=hbytes;simp only[Nat.zero_add]at hb;omega)
   have hgr:=grown 0 (by omega) (Value.ownBlock (.slice none 0 0));simp only[Nat.zero_add,List.nil_append,Array.empty_append]at hgr⊢;exact⟨_,_,hr,hgr.1,hgr.2,.inr rfl⟩
 ·by_cases hroom:n+m<=cap
  ·have hfit:off+n*i.size+news.length<=cur.size:=by
    rw[hl];have h2:(n+m)*i.size<=cap*i.size:=Nat.mul_le_mul_right _ hroom;rw[Nat.add_mul]at h2;omega
   have hr:=E5 (P:=P) w t ty e i ht hi g off n cap cur hg a m c news hl hnews h1 hroom hfit;refine⟨_,_,hr,⟨hlen,.inr ⟨g,off,cap,_,rfl,hbg,setRow_heap w g cur _ e _ hg,hroom,hcm,?_,?_⟩⟩,⟨rfl,rfl,rfl,by simp,fun k _ hk=>setRow_other w g k _ (fun e=>hk (by simp[Value.ownBlock,e]))⟩,.inl rfl⟩
   ·simp only[List.size_toArray,abP,List.length_take,List.length_drop,Array.length_toList]
    omega
   ·rw[<- htake,Nat.add_mul,<- hl]
    have hoff:off<=(cur.toList.take (off+n*i.size)).length:=by simp;omega
    rw[List.append_assoc,List.drop_append_of_le_length hoff,List.drop_take,Nat.add_sub_cancel_left];have hk:(List.take (n*i.size) (List.drop off cur.toList)).length=n*i.size:=by simp;omega
    rw[<- List.append_assoc];exact List.take_left' (by rw[abP,hk])
  ·have holds:∀j u,xs[j]? =some u->w.cell? ((⟨g,off,none⟩:Addr).add j)=some u:=by
    intro j u hu;have hjn:j<n*i.size:=by rw[<- hown.1];exact(abK.1 hu).1
    have hn0:0<n:=Nat.pos_of_ne_zero (by rintro rfl;simp at hjn);obtain⟨g',off',cap',hv',_,_,_,_,hc⟩:=hown.form hn0;cases hv'
    rw[Addr.add_lit];exact hc j u hu
   have hr:=run_append_grow (P:=P) w t ty e i z ht hi hz ⟨g,off,none⟩ n cap xs hown.1 holds a m c news hl hnews (by omega) (by omega) (growslice_fits (by omega) hbytes);have hgr:=grown cap (by omega) (Value.ownBlock (.slice (some ⟨g,off,none⟩) n cap));exact⟨_,_,hr,hgr.1,hgr.2,.inr rfl⟩
theorem iY{o:Oper}{a:Act}{K:Act->World->Prop}{Q:Exit->Act->World->Prop}(s x:Operand)(t:TypeId)
 (ho:o.op= .call { callee:=.builtin .append,args:=#[s,x],argTypes:=#[t,t] })
 (base:Nat) (e:TypeId) (i:TypeInfo) (z:Value) (size bytes:Nat) (ht:P.underlying t=some (.slice e)) (hi:P.info? e=some i) (hz:i.zero=some z)
 (hsize:i.size=size) (hby:i.bytes=bytes) (hzs:z.cells.size=size)
 (v:Value) (n:Nat) (xs:List Value) (hs:a.eval s=v) (hown:aL w base e size v n xs)
 (ad:Addr) (m c:Nat) (news:List Value) (hx:a.eval x= .slice (some ad) m c) (hl:news.length=m*size) (hnews:∀j u,news[j]? =some u->w.cell? (ad.add j)=some u) (h1:∀u∈news,u.oneCell'=true)
 (h63:n+m<=maxLen) (hbytes:(n+m)*bytes<=140737488355328) (hbase:base<=w.heap.size)
 (h:∀v' w',aL w' base e size v' (n+m) (xs++news)->w.grownBy w' v.ownBlock->(v'.ownBlock=v.ownBlock\/v'.ownBlock=some w.heap.size)->K (a.put o.dst v') w'):o.wp P a w K Q:=by
 obtain⟨v',w',hr,h2,h3,h4⟩:=Fq (P:=P) w base t o.type e i z size bytes ht hi hz hsize hby hzs v n xs hown ad m c news hl hnews h1 h63 hbytes hbase;unfold Oper.wp execOp;simp only[ho,resolve,invoke,builtin,Sem.run_bind,Sem.run_pure,Result.andThen_ok,List.map_toArray,List.map_cons,List.map_nil,hs,hx,hr];exact h v' w' h2 h3 h4
theorem dm{ops:Array Oper}{rest:List Oper}{o:Oper}{a:Act}{Q:Exit->Act->World->Prop}(hgd:o.guard=none)(s x:Operand)(t:TypeId)
 (ho:o.op= .call { callee:=.builtin .append,args:=#[s,x],argTypes:=#[t,t] })
 (base:Nat) (e:TypeId) (i:TypeInfo) (z:Value) (size bytes:Nat) (ht:P.underlying t=some (.slice e)) (hi:P.info? e=some i) (hz:i.zero=some z)
 (hsize:i.size=size) (hby:i.bytes=bytes) (hzs:z.cells.size=size)
 (v:Value) (n:Nat) (xs:List Value) (hs:a.eval s=v) (hown:aL w base e size v n xs)
 (ad:Addr) (m c:Nat) (news:List Value) (hx:a.eval x= .slice (some ad) m c) (hl:news.length=m*size) (hnews:∀j u,news[j]? =some u->w.cell? (ad.add j)=some u) (h1:∀u∈news,u.oneCell'=true)
 (h63:n+m<=maxLen) (hbytes:(n+m)*bytes<=140737488355328) (hbase:base<=w.heap.size)
 (h:∀v' w',aL w' base e size v' (n+m) (xs++news)->w.grownBy w' v.ownBlock->(v'.ownBlock=v.ownBlock\/v'.ownBlock=some w.heap.size)->wpList P ops Q rest (a.put o.dst v') w'):wpList P ops Q (o::rest) a w:=
 wpList_plain hgd fun _ hK=>iY w s x t ho base e i z size bytes ht hi hz hsize hby hzs v n xs hs hown ad m c news hx hl hnews h1 h63 hbytes hbase fun v' w' h2 h3 h4=>hK _ _ (h v' w' h2 h3 h4)
end
end Go.Proofs.YtoepemlnlpamlaaGreat
