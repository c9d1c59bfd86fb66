/- The law NamesBack holds for every text and every number: it returns true, and its arguments read as before. No condition. Part 2: Ord2 At1 Ord3 Base. -/
import Derived.Test.YtoepemlnlpamlaaGreatProg
import Derived.WalkKit
import Derived.WalkSpells
import Derived.WalkLawsBesides
import Derived.Deep.QuietTactic
import Derived.BigQuiet
import Derived.Lib.Hide
import Derived.Test.YtoepemlnlpamlaaGreatBakk01
set_option maxRecDepth 100000
set_option maxHeartbeats 4000000
namespace Go.Proofs.YtoepemlnlpamlaaGreat
def dO:List aa->Nat->List (aa×Nat)
 | [],_=>[]
 | k::ks,n=>(k,n)::dO ks (n+ah k)
def kK:List aa->Nat->List (aa×Nat)
 | [],_=>[]
 | k::ks,n=>(dO k.kids (n+1)).filter (fun y=>decide (y.1.kind=4))++kK ks (n+ah k)
def gm(L:List (aa×Nat)):List (ByteArray×Nat):=L.map fun y=>(y.1.text,y.2)
def lN(L:List (ByteArray×Nat))(l:jr):jr:=L.foldl (fun l y=>jU l y.1 (y.2:Int)) l
theorem GY:∀(fs:List aa) (n:Nat) (l:jr),jW fs n l=lN (gm ((dO fs n).filter fun y=>decide (y.1.kind=4))) l
 | [],_,_=>rfl
 | f::fs,n,l=>by
  rw[jW,GY fs,dO,List.filter_cons];by_cases h:f.kind=4
  ·rw[if_pos h,if_pos (decide_eq_true h)];rfl
  ·rw[if_neg h,if_neg (by simp[h])]
theorem NR(a b:List (ByteArray×Nat))(l:jr):lN (a++b) l=lN b (lN a l):=List.foldl_append
theorem sK:∀(ks:List aa) (n:Nat) (g:aW),lH ks n g=⟨lN (gm (dO ks n)) g.globals,lN (gm (kK ks n)) g.fields,(dO ks n).foldl (fun l y=>cO l (y.2:Int) y.1.kind) g.kinds⟩
 | [],_,_=>rfl
 | k::ks,n,g=>by
  rw[lH,sK ks,dO,kK];simp only[gm,List.map_append,NR,List.map_cons,GY];rfl
theorem rP{K V:Type}[DecidableEq K]:∀(l:List (K×V)) (k:K) (v:V) (x:K),bJ (cO l k v) x=if x=k then some v else bJ l x
 | [],k,v,x=>rfl
 | y::l,k,v,x=>by
  rw[cO];by_cases h:k=y.1
  ·rw[if_pos h,bJ,bJ]
   by_cases hx:x=k
   ·rw[if_pos hx,if_pos hx]
   ·rw[if_neg hx,if_neg hx,if_neg (by rw[<- h];exact hx)]
  ·rw[if_neg h,bJ,rP l,bJ]
   by_cases hx:x=y.1
   ·rw[if_pos hx,if_pos hx,if_neg (by rw[hx];exact fun e=>h e.symm)]
   ·rw[if_neg hx,if_neg hx]
theorem U3(l:jr)(n:ByteArray)(k:Int)(x:ByteArray):aN (jU l n k) x=(aN l x).or (if x=n then some k else none):=by
 unfold jU;by_cases h:(aN l n).isSome
 ·rw[if_pos h]
  by_cases hx:x=n
  ·subst hx
   obtain⟨v,hv⟩:=Option.isSome_iff_exists.1 h;rw[hv];rfl
  ·rw[if_neg hx];simp
 ·rw[if_neg h]
  unfold aN;rw[rP];by_cases hx:x=n
  ·subst hx
   rw[if_pos rfl,if_pos rfl];have:bJ l x=none:=by simpa using h
   rw[this];rfl
  ·rw[if_neg hx,if_neg hx];simp
theorem CS:∀(L:List (ByteArray×Nat)) (l:jr) (x:ByteArray),aN (lN L l) x=(aN l x).or ((L.find? fun y=>decide (x=y.1)).map fun y=>(y.2:Int))
 | [],l,x=>by simp[lN]
 | y::L,l,x=>by
  show aN (lN L (jU l y.1 y.2)) x=_;rw[CS L,U3,List.find?_cons];by_cases hx:x=y.1
  ·rw[if_pos hx,decide_eq_true hx]
   cases aN l x<;>rfl
  ·rw[if_neg hx,decide_eq_false hx]
   simp
theorem qA(t:aa):1<=ah t:=by cases t;simp[ah]
theorem BD(t:aa):ah t=1+ag t.kids:=by cases t;rfl
theorem sF:∀(ks:List aa) (n:Nat),∀y∈dO ks n,n<=y.2/\y.2<n+ag ks
 | [],_,y,h=>by cases h
 | k::ks,n,y,h=>by
  rw[dO]at h;have:=qA k;rw[ag];rcases List.mem_cons.1 h with rfl|h
  ·simp;omega
  ·have:=sF ks _ y h
   omega
theorem Ca:∀(ks:List aa) (n:Nat),(dO ks n).Pairwise fun a b=>a.2<b.2
 | [],_=>List.Pairwise.nil
 | k::ks,n=>by
  rw[dO];refine List.Pairwise.cons (fun y h=>?_) (Ca ks _);have:=sF ks _ y h;have:=qA k;simp;omega
theorem Bo:∀(ks:List aa) (n:Nat),∀y∈kK ks n,n<y.2/\y.2<n+ag ks
 | [],_,y,h=>by cases h
 | k::ks,n,y,h=>by
  rw[kK]at h;have h1:=qA k;have h2:=BD k;rw[ag];rcases List.mem_append.1 h with h|h
  ·have:=sF _ _ y ((List.mem_filter.1 h).1)
   omega
  ·have:=Bo ks _ y h
   omega
theorem FY:∀(ks:List aa) (n:Nat),(kK ks n).Pairwise fun a b=>a.2<b.2
 | [],_=>List.Pairwise.nil
 | k::ks,n=>by
  rw[kK];refine List.pairwise_append.2 ⟨(Ca _ _).sublist List.filter_sublist,FY ks _,fun a ha b hb=>?_⟩;have h1:=sF _ _ a (List.mem_filter.1 ha).1;have h2:=Bo ks _ b hb;have h3:=BD k;omega
def Fx(L:List (ByteArray×Nat)):Prop:=∀y∈L,(L.find? fun z=>decide (y.1=z.1)).map (fun z=>z.2)=some y.2
theorem J4{L:List (ByteArray×Nat)}(hn:L.Pairwise fun a b=>a.2<b.2)(h:Fx L):(L.map (·.1)).Nodup:=by
 refine List.pairwise_map.2 (hn.imp_of_mem fun {a b} ha hb hlt he=>?_);have h1:=h a ha;have h2:=h b hb;rw[he]at h1;rw[h1]at h2;injection h2;omega
theorem CL:∀{L:List (ByteArray×Nat)},(L.map (·.1)).Nodup->Fx L
 | [],_,y,hy=>by cases hy
 | z::L,h,y,hy=>by
  rw[List.map_cons,List.nodup_cons]at h;rw[List.find?_cons];rcases List.mem_cons.1 hy with rfl|hy
  ·simp
  ·have hne:y.1≠z.1:=fun e=>h.1 (by rw[<- e];exact List.mem_map_of_mem hy)
   rw[decide_eq_false hne];exact CL h.2 y hy
theorem uZ:∀(ks:List aa) (n:Nat),(dO ks n).map (·.1)=ks
 | [],_=>rfl
 | k::ks,n=>by rw[dO,List.map_cons,uZ]
theorem sG(L:List (aa×Nat)):(gm L).map (·.1)=(L.map (·.1)).map aa.text:=by simp[gm,Function.comp_def]
def xJ(ks:List aa):List aa:=ks.flatMap fun k=>k.kids.filter fun f=>decide (f.kind=4)
theorem Bn:∀(fs:List aa) (n:Nat),((dO fs n).filter fun y=>decide (y.1.kind=4)).map (·.1)=fs.filter fun f=>decide (f.kind=4)
 | [],_=>rfl
 | f::fs,n=>by
  rw[dO,List.filter_cons,List.filter_cons];by_cases h:f.kind=4
  ·simp only[decide_eq_true h,if_true,List.map_cons,Bn fs]
  ·simp only[decide_eq_false h]
   exact Bn fs _
theorem CK:∀(ks:List aa) (n:Nat),(kK ks n).map (·.1)=xJ ks
 | [],_=>rfl
 | k::ks,n=>by
  rw[kK,List.map_append,CK,Bn];rfl
def fO(ks:List aa):aW:=lH ks 1 ⟨[],[],[]⟩
theorem Tj(ks:List aa)(x:ByteArray):aN (fO ks).globals x=((gm (dO ks 1)).find? fun y=>decide (x=y.1)).map fun y=>(y.2:Int):=by
 unfold fO;rw[sK,CS];rfl
theorem Tk(ks:List aa)(x:ByteArray):aN (fO ks).fields x=((gm (kK ks 1)).find? fun y=>decide (x=y.1)).map fun y=>(y.2:Int):=by
 unfold fO;rw[sK,CS];rfl
structure AY (R:RS->RS->Prop):Prop where
 refl:∀r,R r r
 trans:∀{a b c},R a b->R b c->R a c
 none_:∀(r:RS) (i:Bool) (v:List Int),R r (aC r i v)
 say:∀(r:RS) (i:Bool) (v:List Int) (c:Int) (t:aa),R r (oI (aC r i v) c r.next t)
 decl:∀(r:RS) (i:Bool) (v:List Int) (c:Int) (t:aa),R r (iR (aC r i v) c r.next t)
 use:∀(r:RS) (i:Bool) (v:List Int) (k:Int),R r { aC r i v with uses:=r.uses.set r.next k }
 owner:∀(r:RS) (o:Int),R r { r with owner:=o }
section
variable {R:RS->RS->Prop}(hR:AY R)
include hR
theorem AY.declare(r:RS)(i:Bool)(v:List Int)(c:Int)(t:aa)(a:Bool):R r (aQ (aC r i v) c r.next t a):=by
 cases a
 ·exact hR.decl r i v c t
 ·exact hR.say r i v 9 t
theorem AY.nz(G:aW)(r:RS)(i:Bool)(v:List Int)(c:Int)(t:aa)(s:aK):R r (aA G (aC r i v) c r.next t s).1:=by
 unfold aA;split
 ·exact hR.say r i v 9 t
 ·exact hR.decl r i v c t
theorem AY.Cv(r:RS)(i:Bool)(v:List Int)(t:aa)(En:Option Int):R r (fC (aC r i v) r.next t En):=by
 cases En with
 | none=>exact hR.say r i v 8 t
 | some k=>exact hR.use r i v k
mutual
theorem Au(G:aW):∀(t:aa) (i:Bool) (s:aK) (r:RS),R r (aF G i t s r).1
 | .node k x a e kids,i,s,r=>by
  have hb:∀u f n s',R r u->R r (ae G i kids f n s' u).1:=fun u f n s' hu=>hR.trans hu (oH G kids i f n s' u)
  have hd:∀c a',R r { aQ (aC r i (aj (ak s))) c r.next (.node k x a e kids) a' with owner:=(r.next:Int) }:=fun c a'=>hR.trans (hR.declare r i _ c _ a') (hR.owner _ _)
  have hv:∀c s',R r (aA G (aC r i (aj (ak s))) c r.next (.node k x a e kids) s').1:=fun c s'=>hR.nz G r i _ c _ s'
  have hu:∀En,R r (fC (aC r i (aj (ak s))) r.next (.node k x a e kids) En):=fun En=>hR.Cv r i _ _ En
  rw[bY];split
  ·exact hb _ _ _ _ (hd _ _)
  split
  ·exact hb _ _ _ _ (hR.declare r i _ _ _ _)
  split
  ·exact hR.trans (hR.trans (hd _ _) (oH G kids false 0 2 _ _)) (oH G kids true 2 1 _ _)
  split
  ·exact hb _ _ _ _ (hv _ _)
  split
  ·exact hb _ _ _ _ (hR.none_ r i _)
  split
  ·exact hb _ _ _ _ (hv _ _)
  split
  ·exact hR.trans (hb _ _ _ _ (hv _ _)) (oH G kids i 2 1 _ _)
  ·refine hb _ _ _ _ ?_
   unfold gH;split
   ·exact hu _
   split
   ·exact hu _
   split
   ·exact hu _
   split
   ·exact hu _
   split
   ·exact hu _
   ·exact hR.none_ r i _
theorem oH(G:aW):∀(ts:List aa) (i:Bool) (f n:Nat) (s:aK) (r:RS),R r (ae G i ts f n s r).1
 | [],_,_,_,_,r=>by rw[ae];exact hR.refl r
 | t::ts,i,f+1,n,s,r=>by rw[ae];exact oH G ts i f n s r
 | t::ts,i,0,0,s,r=>by rw[ae];exact hR.refl r
 | t::ts,i,0,n+1,s,r=>by rw[ae];exact hR.trans (Au G t i s r) (oH G ts i 0 n _ _)
end
end
structure nS (a b:RS):Prop where
 next:a.next<=b.next
 aO:∃l,b.aO=a.aO++l/\(l.Pairwise fun x y=>x.1<y.1)/\∀x∈l,(a.next:Int)<=x.1/\x.1<(b.next:Int)
 ds:∃l,b.ds=a.ds++l/\(l.Pairwise fun x y=>x.node<y.node)/\∀d∈l,(a.next:Int)<=d.node/\d.node<(b.next:Int)
 zF:b.uses.length=a.uses.length
 uses:∀j,j<a.next\/b.next<=j->b.uses[j]? =a.uses[j]?
 bQ:∀m:Nat,m<a.next\/b.next<=m->bJ b.bQ (m:Int)=bJ a.bQ (m:Int)
theorem nS.of_same{a b:RS}(h1:b.next=a.next)(h2:b.aO=a.aO)(h3:b.ds=a.ds)(h4:b.uses=a.uses)(h5:b.bQ=a.bQ):nS a b:=
 ⟨by omega,⟨[],by simp[h2],List.Pairwise.nil,by simp⟩,⟨[],by simp[h3],List.Pairwise.nil,by simp⟩,by rw[h4],fun _ _=>by rw[h4],fun _ _=>by rw[h5]⟩
theorem nS.trans{a b c:RS}(h:nS a b)(k:nS b c):nS a c:=by
 have h1:=h.next;have k1:=k.next;obtain⟨lp,hp,hpw,hpb⟩:=h.aO;obtain⟨lq,kp,kpw,kpb⟩:=k.aO;obtain⟨ld,hd,hdw,EU⟩:=h.ds;obtain⟨le,kd,kdw,kdb⟩:=k.ds;refine⟨by omega,⟨lp++lq,by rw[kp,hp,List.append_assoc],List.pairwise_append.2 ⟨hpw,kpw,fun x hx y hy=>?_⟩,fun x hx=>?_⟩,⟨ld++le,by rw[kd,hd,List.append_assoc],List.pairwise_append.2 ⟨hdw,kdw,fun x hx y hy=>?_⟩,fun x hx=>?_⟩,by rw[k.zF,h.zF],fun j hj=>?_,fun m hm=>?_⟩
 ·have:=(hpb x hx).2;have:=(kpb y hy).1;omega
 ·rcases List.mem_append.1 hx with hx|hx
  ·have:=hpb x hx;omega
  ·have:=kpb x hx;omega
 ·have:=(EU x hx).2;have:=(kdb y hy).1;omega
 ·rcases List.mem_append.1 hx with hx|hx
  ·have:=EU x hx;omega
  ·have:=kdb x hx;omega
 ·rw[k.uses j (by omega),h.uses j (by omega)]
 ·rw[k.bQ m (by omega),h.bQ m (by omega)]
theorem F8(r:RS)(i:Bool)(v:List Int)(m:Nat)(h:m≠r.next):bJ (aC r i v).bQ (m:Int)=bJ r.bQ (m:Int):=by
 cases i
 ·rfl
 ·show bJ (cO r.bQ (r.next:Int) v) (m:Int)=_
  rw[rP,if_neg (by omega)]
theorem LK(l:List Int)(n:Nat)(k:Int)(j:Nat)(h:j≠n):(l.set n k)[j]? =l[j]? :=by
 rw[List.getElem?_set];rw[if_neg (fun e=>h e.symm)]
theorem iD:AY nS where
 refl:=fun r=>nS.of_same rfl rfl rfl rfl rfl
 trans:=nS.trans
 none_:=fun r i v=>⟨Nat.le_succ _,⟨[],by simp[aC],List.Pairwise.nil,by simp⟩,⟨[],by simp[aC],List.Pairwise.nil,by simp⟩,rfl,fun _ _=>rfl,fun m hm=>F8 r i v m (by have:(aC r i v).next=r.next+1:=rfl;omega)⟩
 say:=fun r i v c t=>⟨Nat.le_succ _,⟨_,rfl,List.pairwise_singleton _ _,fun x hx=>by
  rw[List.mem_singleton]at hx;subst hx;have:(oI (aC r i v) c r.next t).next=r.next+1:=rfl;rw[this];simp only
  omega⟩,⟨[],by simp[aC,oI],List.Pairwise.nil,by simp⟩,rfl,fun _ _=>rfl,fun m hm=>F8 r i v m (by have:(oI (aC r i v) c r.next t).next=r.next+1:=rfl;omega)⟩
 decl:=fun r i v c t=>⟨Nat.le_succ _,⟨[],by simp[aC,iR],List.Pairwise.nil,by simp⟩,⟨_,rfl,List.pairwise_singleton _ _,fun x hx=>by
  rw[List.mem_singleton]at hx;subst hx;have:(iR (aC r i v) c r.next t).next=r.next+1:=rfl;rw[this];simp only
  omega⟩,List.length_set,fun j hj=>LK _ _ _ _ (by have:(iR (aC r i v) c r.next t).next=r.next+1:=rfl;omega),fun m hm=>F8 r i v m (by have:(iR (aC r i v) c r.next t).next=r.next+1:=rfl;omega)⟩
 use:=fun r i v k=>⟨Nat.le_succ _,⟨[],by simp[aC],List.Pairwise.nil,by simp⟩,⟨[],by simp[aC],List.Pairwise.nil,by simp⟩,List.length_set,fun j hj=>LK _ _ _ _ (by have:({ aC r i v with uses:=r.uses.set r.next k }:RS).next=r.next+1:=rfl;omega),fun m hm=>F8 r i v m (by have:({ aC r i v with uses:=r.uses.set r.next k }:RS).next=r.next+1:=rfl;omega)⟩
 owner:=fun r o=>nS.of_same rfl rfl rfl rfl rfl
theorem qi(G:aW)(t:aa)(i:Bool)(s:aK)(r:RS):nS r (aF G i t s r).1:=Au iD G t i s r
theorem eU(G:aW)(ts:List aa)(i:Bool)(f n:Nat)(s:aK)(r:RS):nS r (ae G i ts f n s r).1:=oH iD G ts i f n s r
def vD:aa->Bool
 | .node k _ _ _ kids=>(decide (k=3)&&kids.all fun f=>decide (f.kind=4)&&uJ f.kids) || (decide (k=5)&&decide (kids.length=3)&&uJ kids)
def Dk(G:aW)(fs:List aa)(n:Nat):Nat:=((dO fs n).filter fun y=>decide ((aN G.fields y.1.text).getD 0≠(y.2:Int))).length
def Cm(G:aW)(k:aa)(n:Nat):Nat:=(decide ((aN G.globals k.text).getD 0≠(n:Int))).toNat+(if k.kind=3 then Dk G k.kids (n+1) else 0)
def own(k:aa):Nat:=1+(if k.kind=3 then k.kids.length else 0)
theorem Me(G:aW)(x:ByteArray)(a e:Int)(kids:List aa)(n:Nat):Cm G (.node 3 x a e kids) n=(decide ((aN G.globals x).getD 0≠(n:Int))).toNat+Dk G kids (n+1):=by
 unfold Cm;rw[if_pos (show(aa.node 3 x a e kids).kind=3 from rfl)];rfl
theorem Je(G:aW)(x:ByteArray)(a e:Int)(kids:List aa)(n:Nat):Cm G (.node 5 x a e kids) n=(decide ((aN G.globals x).getD 0≠(n:Int))).toNat:=by
 unfold Cm;rw[if_neg (show ¬(aa.node 5 x a e kids).kind=3 by show ¬((5:Int)=3);decide)];rfl
theorem own_rec(x:ByteArray)(a e:Int)(kids:List aa):own (.node 3 x a e kids)=1+kids.length:=by
 unfold own;rw[if_pos (show(aa.node 3 x a e kids).kind=3 from rfl)];rfl
theorem Y4(x:ByteArray)(a e:Int)(kids:List aa):own (.node 5 x a e kids)=1:=by
 unfold own;rw[if_neg (show ¬(aa.node 5 x a e kids).kind=3 by show ¬((5:Int)=3);decide)]
def FO(m b1 b2 u:Nat)(r1 q1 r2 q2:RS):Prop:=
 ∃p d,q1.aO.length=r1.aO.length+b1+p/\q2.aO.length=r2.aO.length+b2+p/\q1.ds.length+b1=r1.ds.length+u+d/\q2.ds.length+b2=r2.ds.length+u+d/\q1.next=r1.next+m/\q2.next=r2.next+m
theorem vP.toB{m:Nat}{r1 q1 r2 q2:RS}(h:vP m r1 q1 r2 q2):FO m 0 0 0 r1 q1 r2 q2:=by
 obtain⟨p,d,h⟩:=h;exact⟨p,d,by simpa using h.p1,by simpa using h.p2,by simpa using h.d1,by simpa using h.d2,h.n1,h.n2⟩
theorem FO.trans{m b1 b2 u m' b1' b2' u' n c1 c2 v:Nat}{r1 q1 t1 r2 q2 t2:RS}(h:FO m b1 b2 u r1 q1 r2 q2)(k:FO m' b1' b2' u' q1 t1 q2 t2)(hn:n=m+m')(h1:c1=b1+b1')(h2:c2=b2+b2')(hv:v=u+u'):FO n c1 c2 v r1 t1 r2 t2:=by
 obtain⟨p,d,a1,a2,a3,a4,a5,a6⟩:=h;obtain⟨p',d',c1',c2',c3',c4',c5',c6'⟩:=k;exact⟨p+p',d+d',by omega,by omega,by omega,by omega,by omega,by omega⟩
theorem BA(r1 r2:RS)(c:Int)(n1 n2:Nat)(t:aa)(a1 a2:Bool):FO 0 a1.toNat a2.toNat 1 r1 (aQ r1 c n1 t a1) r2 (aQ r2 c n2 t a2):=by
 refine⟨0,0,?_⟩;cases a1<;>cases a2<;>simp[aQ,oI,iR]
theorem Ja(r1 r2:RS)(v1 v2:List (Int×List Int)):FO 1 0 0 0 r1 { r1 with next:=r1.next+1,bQ:=v1 } r2 { r2 with next:=r2.next+1,bQ:=v2 }:=⟨0,0,rfl,rfl,rfl,rfl,rfl,rfl⟩
theorem Na(r1 r2:RS)(o1 o2:Int):FO 0 0 0 0 r1 { r1 with owner:=o1 } r2 { r2 with owner:=o2 }:=⟨0,0,rfl,rfl,rfl,rfl,rfl,rfl⟩
theorem Fj(r:RS)(c:Int)(n:Nat)(t:aa)(a:Bool):(aQ r c n t a).next=r.next:=by cases a<;>rfl
theorem Np(G:aW)(f:aa)(fs:List aa)(n:Nat):Dk G (f::fs) n=(decide ((aN G.fields f.text).getD 0≠(n:Int))).toNat+Dk G fs (n+ah f):=by
 unfold Dk;rw[dO,List.filter_cons];by_cases h:(aN G.fields f.text).getD 0=(n:Int)
 ·simp[h]
 ·simp[h];omega
theorem JC{G1 G2:aW}(hG:wX G1 G2):∀(fs:List aa) (s1 s2:aK) (r1 r2:RS) (n1 n2:Nat),r1.next=n1->r2.next=n2->(fs.all fun f=>decide (f.kind=4)&&uJ f.kids)=true->di s1=di s2 ->
 FO (ag fs) (Dk G1 fs n1) (Dk G2 fs n2) fs.length r1 (ae G1 false fs 0 fs.length s1 r1).1 r2 (ae G2 false fs 0 fs.length s2 r2).1/\di (ae G1 false fs 0 fs.length s1 r1).2=di (ae G2 false fs 0 fs.length s2 r2).2
 | [],s1,s2,r1,r2,n1,n2,_,_,_,hs=>by
  simp only[ae,List.length_nil];exact⟨(vP.refl r1 r2).toB,hs⟩
 | .node k x a e kids::fs,s1,s2,r1,r2,n1,n2,e1,e2,h,hs=>by
  subst e1;subst e2;rw[List.all_cons,aaF,aaF,decide_eq_true_eq]at h;obtain⟨⟨hk,hin⟩,hrest⟩:=h;have hk':k=4:=hk;subst hk';have hin':uJ kids=true:=hin;simp only[aaQ,ae]
  obtain⟨A,hA,B⟩:∃A:FO (ah (.node 4 x a e kids)) (decide ((aN G1.fields x).getD 0≠(r1.next:Int))).toNat (decide ((aN G2.fields x).getD 0≠(r2.next:Int))).toNat 1 r1 (aF G1 false (.node 4 x a e kids) s1 r1).1 r2 (aF G2 false (.node 4 x a e kids) s2 r2).1,
   ((aF G1 false (.node 4 x a e kids) s1 r1).1.next=r1.next+ah (.node 4 x a e kids)/\(aF G2 false (.node 4 x a e kids) s2 r2).1.next=r2.next+ah (.node 4 x a e kids)) /\
   di (aF G1 false (.node 4 x a e kids) s1 r1).2=di (aF G2 false (.node 4 x a e kids) s2 r2).2:=by
   rw[aF,aF,ah];simp only[show ¬((4:Int)=3) by decide,if_false,if_true];obtain⟨b1,b2⟩:=mh hG kids false 0 kids.length s1 s2 (aQ { r1 with next:=r1.next+1 } 1 r1.next (.node 4 x a e kids) (decide ((aN G1.fields x).getD 0≠(r1.next:Int)))) (aQ { r2 with next:=r2.next+1 } 1 r2.next (.node 4 x a e kids) (decide ((aN G2.fields x).getD 0≠(r2.next:Int)))) hin' hs;have hg:=(Ja r1 r2 r1.bQ r2.bQ).trans ((BA { r1 with next:=r1.next+1 } { r2 with next:=r2.next+1 } 1 r1.next r2.next (.node 4 x a e kids) (decide ((aN G1.fields x).getD 0≠(r1.next:Int))) (decide ((aN G2.fields x).getD 0≠(r2.next:Int)))).trans b1.toB rfl rfl rfl rfl) rfl rfl rfl rfl;have hm:1+(0+ag (List.take kids.length (List.drop 0 kids)))=1+ag kids:=by simp
   rw[hm]at hg;simp only[Nat.zero_add,Nat.add_zero]at hg;refine⟨hg,?_,b2⟩;obtain⟨_,_,_,_,_,_,h5,h6⟩:=hg;exact⟨h5,h6⟩
  obtain⟨c1,c2⟩:=JC hG fs _ _ (aF G1 false (.node 4 x a e kids) s1 r1).1 (aF G2 false (.node 4 x a e kids) s2 r2).1 _ _ hA.1 hA.2 hrest B;refine⟨A.trans c1 (by rw[ag]) ?_ ?_ (by omega),c2⟩
  ·rw[Np];rfl
  ·rw[Np];rfl
theorem Wy{G1 G2:aW}(hG:wX G1 G2)(t:aa)(ht:vD t=true)(s1 s2:aK)(r1 r2:RS)(hs:di s1=di s2):
 FO (ah t) (Cm G1 t r1.next) (Cm G2 t r2.next) (own t) r1 (aF G1 false t s1 r1).1 r2 (aF G2 false t s2 r2).1/\di (aF G1 false t s1 r1).2=di (aF G2 false t s2 r2).2:=by
 obtain⟨k,x,a,e,kids⟩:=t;rw[vD,Bool.or_eq_true,aaF,aaF,aaF,decide_eq_true_eq,decide_eq_true_eq,decide_eq_true_eq]at ht;rcases ht with⟨rfl,hf⟩| ⟨⟨rfl,hl⟩,hin⟩
 ·rw[aF,aF,ah]
  simp only[if_true];obtain⟨b1,b2⟩:=JC hG kids s1 s2 { aQ { r1 with next:=r1.next+1 } 0 r1.next (.node 3 x a e kids) (decide ((aN G1.globals x).getD 0≠(r1.next:Int))) with owner:=(r1.next:Int) } { aQ { r2 with next:=r2.next+1 } 0 r2.next (.node 3 x a e kids) (decide ((aN G2.globals x).getD 0≠(r2.next:Int))) with owner:=(r2.next:Int) } (r1.next+1) (r2.next+1) (Fj _ _ _ _ _) (Fj _ _ _ _ _) hf hs;refine⟨?_,b2⟩;have hg:=(Ja r1 r2 r1.bQ r2.bQ).trans ((BA { r1 with next:=r1.next+1 } { r2 with next:=r2.next+1 } 0 r1.next r2.next (.node 3 x a e kids) (decide ((aN G1.globals x).getD 0≠(r1.next:Int))) (decide ((aN G2.globals x).getD 0≠(r2.next:Int)))).trans ((Na _ _ (r1.next:Int) (r2.next:Int)).trans b1 rfl rfl rfl rfl) rfl rfl rfl rfl) rfl rfl rfl rfl;simp only[Nat.zero_add]at hg;rw[Me,Me,own_rec];exact hg
 ·match kids,hl with
  | [u,v,w],_=>
   rw[aF,aF,ah];simp only[show ¬((5:Int)=3) by decide,show ¬((5:Int)=4) by decide,if_false,if_true];obtain⟨b1,b2⟩:=mh hG [u,v,w] false 0 2 [[]] [[]] { aQ { r1 with next:=r1.next+1 } 2 r1.next (.node 5 x a e [u,v,w]) (decide ((aN G1.globals x).getD 0≠(r1.next:Int))) with owner:=(r1.next:Int) } { aQ { r2 with next:=r2.next+1 } 2 r2.next (.node 5 x a e [u,v,w]) (decide ((aN G2.globals x).getD 0≠(r2.next:Int))) with owner:=(r2.next:Int) } hin rfl;obtain⟨c1,c2⟩:=mh hG [u,v,w] true 2 1 _ _ _ _ hin (wR (l:=[]) (m:=[]) b2 rfl);refine⟨?_,hs⟩;have hg:=(Ja r1 r2 r1.bQ r2.bQ).trans ((BA { r1 with next:=r1.next+1 } { r2 with next:=r2.next+1 } 2 r1.next r2.next (.node 5 x a e [u,v,w]) (decide ((aN G1.globals x).getD 0≠(r1.next:Int))) (decide ((aN G2.globals x).getD 0≠(r2.next:Int)))).trans ((Na _ _ (r1.next:Int) (r2.next:Int)).trans (b1.toB.trans c1.toB rfl rfl rfl rfl) rfl rfl rfl rfl) rfl rfl rfl rfl) rfl rfl rfl rfl;have hm:1+(0+(0+(ag (List.take 2 (List.drop 0 [u,v,w]))+ag (List.take 1 (List.drop 2 [u,v,w])))))=1+ag [u,v,w]:=by simp[ag];omega
   rw[hm]at hg;simp only[Nat.zero_add,Nat.add_zero]at hg;rw[Je,Je,Y4];exact hg
def OU:RS:=⟨[],[],[],[],0,0⟩
def UO(G:aW)(t:aa):Nat:=(aF G false t [] OU).1.aO.length - Cm G t 0
def Z5(G:aW)(t:aa):Nat:=(aF G false t [] OU).1.ds.length+Cm G t 0 - own t
theorem Sj{G G2:aW}(hG:wX G G2)(t:aa)(ht:vD t=true)(s:aK)(r:RS)(hs:di s=[]):
 (aF G2 false t s r).1.aO.length=r.aO.length+Cm G2 t r.next+UO G t/\(aF G2 false t s r).1.ds.length+Cm G2 t r.next=r.ds.length+own t+Z5 G t/\(aF G2 false t s r).1.next=r.next+ah t/\di (aF G2 false t s r).2=di (aF G false t [] OU).2:=by
 obtain⟨⟨p,d,h1,h2,h3,h4,h5,h6⟩,h7⟩:=Wy hG t ht [] s OU r hs.symm;unfold UO Z5;have e1:OU.aO.length=0:=rfl;have e2:OU.ds.length=0:=rfl;have e3:OU.next=0:=rfl;rw[e1,e3]at h1;rw[e2,e3]at h3;refine⟨by omega,by omega,h6,h7.symm⟩
def BF(G:aW)(L:List (aa×Nat)):Nat:=(L.map fun y=>Cm G y.1 y.2).sum
def Ov(f:aa->Nat)(ks:List aa):Nat:=(ks.map f).sum
theorem KV(s:aK)(l:jr):(fP s l).length=s.length:=by cases s<;>rfl
theorem yF(G:aW)(r:RS)(k:Int)(n:Nat)(t:aa)(s:aK):(aA G r k n t s).2.length=s.length:=by
 unfold aA;split
 ·rfl
 ·exact KV _ _
mutual
theorem Eh(G:aW):∀(t:aa) (i:Bool) (s:aK) (r:RS),(aF G i t s r).2.length=s.length
 | .node k x a e kids,i,s,r=>by
  rw[bY];split
  ·exact j5 G kids _ _ _ _ _
  split
  ·exact j5 G kids _ _ _ _ _
  split
  ·rfl
  split
  ·rw[j5,yF]
  split
  ·rw[List.length_tail,j5];rfl
  split
  ·rw[KV,j5]
  split
  ·rw[List.length_tail,j5,aaQ,j5];rfl
  ·exact j5 G kids _ _ _ _ _
theorem j5(G:aW):∀(ts:List aa) (i:Bool) (f n:Nat) (s:aK) (r:RS),(ae G i ts f n s r).2.length=s.length
 | [],_,_,_,_,_=>by rw[ae]
 | t::ts,i,f+1,n,s,r=>by rw[ae];exact j5 G ts _ _ _ _ _
 | t::ts,i,0,0,s,r=>by rw[ae]
 | t::ts,i,0,n+1,s,r=>by rw[ae];rw[j5 G ts,Eh G t]
end
theorem Xa{s:aK}(h:s.length=0):di s=[]:=by
 cases s with
 | nil=>rfl
 | cons a s=>cases h
theorem Sk{G G2:aW}(hG:wX G G2):∀(ks:List aa) (s:aK) (r:RS),(∀k∈ks,vD k=true)->s.length=0 ->
 (ae G2 false ks 0 ks.length s r).1.aO.length=r.aO.length+BF G2 (dO ks r.next)+Ov (UO G) ks /\
 (ae G2 false ks 0 ks.length s r).1.ds.length+BF G2 (dO ks r.next)=r.ds.length+Ov own ks+Ov (Z5 G) ks
 | [],s,r,_,_=>by simp[ae,BF,Ov,dO]
 | k::ks,s,r,hk,hs=>by
  simp only[aaQ,ae];obtain⟨h1,h2,h3,h4⟩:=Sj hG k (hk k (by simp)) s r (Xa hs);obtain⟨h5,h6⟩:=Sk hG ks (aF G2 false k s r).2 (aF G2 false k s r).1 (fun x hx=>hk x (by simp[hx])) (by rw[Eh];exact hs);rw[h3]at h5 h6;simp only[BF,Ov,dO,List.map_cons,List.sum_cons]at h5 h6⊢;omega
theorem Z9{ks:List aa}(hk:∀k∈ks,vD k=true):BF (fO ks) (dO ks 1)=0↔(ks.map aa.text).Nodup/\((xJ ks).map aa.text).Nodup:=by
 have hgp:((gm (dO ks 1))).Pairwise fun a b=>a.2<b.2:=List.pairwise_map.2 ((Ca ks 1).imp fun h=>h)
 have hfp:((gm (kK ks 1))).Pairwise fun a b=>a.2<b.2:=List.pairwise_map.2 ((FY ks 1).imp fun h=>h)
 have hg:(ks.map aa.text).Nodup↔Fx (gm (dO ks 1)):=by
  have e:ks.map aa.text=(gm (dO ks 1)).map (·.1):=by rw[sG,uZ]
  rw[e];exact⟨CL,J4 hgp⟩
 have hf:((xJ ks).map aa.text).Nodup↔Fx (gm (kK ks 1)):=by
  have e:(xJ ks).map aa.text=(gm (kK ks 1)).map (·.1):=by rw[sG,CK]
  rw[e];exact⟨CL,J4 hfp⟩
 have key:∀(L:List (ByteArray×Nat)),(∀y∈L,1<=y.2)->(Fx L↔∀y∈L,((L.find? fun z=>decide (y.1=z.1)).map fun z=>(z.2:Int)).getD 0=(y.2:Int)):=by
  intro L hpos;unfold Fx;refine⟨fun h y hy=>?_,fun h y hy=>?_⟩
  ·have:=h y hy
   cases hc:L.find? fun z=>decide (y.1=z.1) with
   | none=>rw[hc]at this;cases this
   | some z=>
    rw[hc]at this;simp only[Option.map_some,aaI,Option.getD_some]at this⊢;omega
  ·have:=h y hy
   have hp:=hpos y hy
   cases hc:L.find? fun z=>decide (y.1=z.1) with
   | none=>rw[hc]at this;simp at this;omega
   | some z=>
    rw[hc]at this;simp only[Option.map_some,aaI,Option.getD_some]at this⊢;omega
 have hG:Fx (gm (dO ks 1))↔∀y∈dO ks 1,(aN (fO ks).globals y.1.text).getD 0=(y.2:Int):=by
  rw[key _ (fun y hy=>by obtain⟨z,hz,rfl⟩:=List.mem_map.1 hy;exact(sF ks 1 z hz).1)];refine⟨fun h y hy=>?_,fun h y hy=>?_⟩
  ·rw[Tj];exact h (y.1.text,y.2) (List.mem_map_of_mem (f:=fun y:aa×Nat=>(y.1.text,y.2)) hy)
  ·obtain⟨z,hz,rfl⟩:=List.mem_map.1 hy
   have:=h z hz;rw[Tj]at this;exact this
 have hF:Fx (gm (kK ks 1))↔∀y∈kK ks 1,(aN (fO ks).fields y.1.text).getD 0=(y.2:Int):=by
  rw[key _ (fun y hy=>by obtain⟨z,hz,rfl⟩:=List.mem_map.1 hy;exact Nat.le_of_lt (Bo ks 1 z hz).1)];refine⟨fun h y hy=>?_,fun h y hy=>?_⟩
  ·rw[Tk];exact h (y.1.text,y.2) (List.mem_map_of_mem (f:=fun y:aa×Nat=>(y.1.text,y.2)) hy)
  ·obtain⟨z,hz,rfl⟩:=List.mem_map.1 hy
   have:=h z hz;rw[Tk]at this;exact this
 rw[hg,hf,hG,hF]
 have kids_:∀(js:List aa) (n:Nat),(∀k∈js,vD k=true)->(BF (fO ks) (dO js n)=0↔(∀y∈dO js n,(aN (fO ks).globals y.1.text).getD 0=(y.2:Int))/\∀y∈kK js n,(aN (fO ks).fields y.1.text).getD 0=(y.2:Int)):=by
  intro js
  induction js with
  | nil=>intro n _;simp[BF,dO,kK]
  | cons k js ih=>
   intro n hj;have hb:=ih (n+ah k) (fun x hx=>hj x (by simp[hx]));have hkk:=hj k (by simp);have h1:BF (fO ks) (dO (k::js) n)=Cm (fO ks) k n+BF (fO ks) (dO js (n+ah k)):=by simp[BF,dO]
   have h2:Cm (fO ks) k n=0↔(aN (fO ks).globals k.text).getD 0=(n:Int)/\∀y∈(dO k.kids (n+1)).filter (fun y=>decide (y.1.kind=4)),(aN (fO ks).fields y.1.text).getD 0=(y.2:Int):=by
    obtain⟨kk,x,a,e,kids⟩:=k;rw[vD,Bool.or_eq_true,aaF,aaF,aaF,decide_eq_true_eq,decide_eq_true_eq,decide_eq_true_eq]at hkk
    have hone:(decide ((aN (fO ks).globals x).getD 0≠(n:Int))).toNat=0↔(aN (fO ks).globals x).getD 0=(n:Int):=by
     by_cases h:(aN (fO ks).globals x).getD 0=(n:Int)
     ·simp[h]
     ·simp[h]
    rcases hkk with⟨rfl,hf⟩| ⟨⟨rfl,hl⟩,hin⟩
    ·rw[Me,Nat.add_eq_zero_iff,hone]
     refine and_congr Iff.rfl ?_;show Dk (fO ks) kids (n+1)=0↔∀y∈(dO kids (n+1)).filter (fun y=>decide (y.1.kind=4)),_;unfold Dk;rw[List.length_eq_zero_iff,List.filter_eq_nil_iff]
     have hall:∀y∈dO kids (n+1),y.1.kind=4:=fun y hy=>by
      have h3:=List.mem_map_of_mem (f:=(·.1)) hy;rw[uZ]at h3;have:=List.all_eq_true.1 hf y.1 h3;rw[aaF,decide_eq_true_eq]at this;exact this.1
     refine⟨fun h y hy=>?_,fun h y hy=>?_⟩
     ·have:=h y ((List.mem_filter.1 hy).1)
      simpa using this
     ·have:=h y (List.mem_filter.2 ⟨hy,decide_eq_true (hall y hy)⟩)
      simp[this]
    ·rw[Je,hone]
     have hnone:(dO kids (n+1)).filter (fun y=>decide (y.1.kind=4))=[]:=by
      rw[List.filter_eq_nil_iff];intro y hy;have h3:=List.mem_map_of_mem (f:=(·.1)) hy;rw[uZ]at h3;have h4:=aah hin _ h3;obtain⟨⟨k4,x4,a4,e4,kids4⟩,m4⟩:=y;rw[K7]at h4;simp only[aaF,decide_eq_true_eq]at h4;show ¬decide (k4=4)=true;rw[decide_eq_true_eq];exact h4.1.1.1.2.2.1
     show _↔_/\∀y∈(dO kids (n+1)).filter (fun y=>decide (y.1.kind=4)),_;rw[hnone];simp[aa.text]
   rw[h1,Nat.add_eq_zero_iff,h2,hb,dO,kK];constructor
   ·rintro⟨⟨a1,a2⟩,a3,a4⟩
    refine⟨fun y hy=>?_,fun y hy=>?_⟩
    ·rcases List.mem_cons.1 hy with rfl|hy
     ·exact a1
     ·exact a3 y hy
    ·rcases List.mem_append.1 hy with hy|hy
     ·exact a2 y hy
     ·exact a4 y hy
   ·rintro⟨a1,a2⟩
    exact⟨⟨a1 (k,n) (by simp),fun y hy=>a2 y (List.mem_append_left _ hy)⟩,fun y hy=>a1 y (by simp[hy]),fun y hy=>a2 y (List.mem_append_right _ hy)⟩
 exact kids_ ks 1 hk
theorem OQ(x:ByteArray)(a e:Int)(ks:List aa):∃r:RS,r.aO=[]/\r.ds=[]/\r.next=1/\(aR (.node 2 x a e ks)).aO=(ae (fO ks) false ks 0 ks.length [] r).1.aO/\(aR (.node 2 x a e ks)).ds=(ae (fO ks) false ks 0 ks.length [] r).1.ds:=by
 refine⟨⟨[],List.replicate (ah (.node 2 x a e ks)) (-1),[],[],1,0⟩,rfl,rfl,rfl,?_,?_⟩
 all_goals
  unfold aR;simp only[aF];rfl
open Go.RowKit
theorem sA{α:Type}{l:List α}{i:Nat}{a:α}:l.toArray.setIfInBounds i a=(l.set i a).toArray:=by simp
theorem sZ{α:Type}{x:α}{l:List α}{a:α}:(x::l).set 0 a=a::l:=rfl
theorem sC{α:Type}{x:α}{l:List α}{n:Nat}{a:α}:(x::l).set (n+1) a=x::l.set n a:=rfl
theorem kH{p:Prop}(h:p):Go.RowKit.Hid p:=Lib.hid h
theorem OP{a b:Bool}(h:a=b):Ending.returned (.bool a)= .returned (.bool b):=by rw[h]
theorem Sv{k:IntKind}{a b:Int}(h:a=b):Ending.returned (.int k a)= .returned (.int k b):=by rw[h]
theorem aY{B:Nat}{a w:World}(h:Below B a w)(n:Nat):Below B a (w.drewN n):=⟨h.os,h.tape,h.output,h.size,h.block⟩
end Go.Proofs.YtoepemlnlpamlaaGreat
