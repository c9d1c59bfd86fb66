/- The law NamesStand holds: for every text and every number the law returns true, and its arguments read as before. No condition. Part 21: At1 VisM Ord3 Nam8. -/
import Derived.Test.YtoepemlnlpamlaaGreatStand20
set_option maxRecDepth 100000
set_option maxHeartbeats 4000000
namespace Go.Proofs.YtoepemlnlpamlaaGreat
structure DF (R:RS->RS->Prop):Prop where
 refl:∀r,R r r
 trans:∀{a b c},R a b->R b c->R a c
 none_:∀(r:RS) (i:Bool) (v:List Int),R r (aB r i v)
 say:∀(r:RS) (i:Bool) (v:List Int) (c:Int) (t:aa),R r (pV (aB r i v) c r.next t)
 decl:∀(r:RS) (i:Bool) (v:List Int) (c:Int) (t:aa),R r (jk (aB r i v) c r.next t)
 use:∀(r:RS) (i:Bool) (v:List Int) (k:Int),R r { aB r i v with uses:=r.uses.set r.next k }
 owner:∀(r:RS) (o:Int),R r { r with owner:=o }
section
variable {R:RS->RS->Prop}(hR:DF R)
include hR
theorem DF.declare(r:RS)(i:Bool)(v:List Int)(c:Int)(t:aa)(a:Bool):R r (bF (aB r i v) c r.next t a):=by
 cases a
 ·exact hR.decl r i v c t
 ·exact hR.say r i v 9 t
theorem DF.nS(G:bD)(r:RS)(i:Bool)(v:List Int)(c:Int)(t:aa)(s:aT):R r (aD G (aB r i v) c r.next t s).1:=by
 unfold aD;split
 ·exact hR.say r i v 9 t
 ·exact hR.decl r i v c t
theorem DF.CS(r:RS)(i:Bool)(v:List Int)(t:aa)(Ey:Option Int):R r (gB (aB r i v) r.next t Ey):=by
 cases Ey with
 | none=>exact hR.say r i v 8 t
 | some k=>exact hR.use r i v k
mutual
theorem Bq(G:bD):∀(t:aa) (i:Bool) (s:aT) (r:RS),R r (aL G i t s r).1
 | .node k x a e kids,i,s,r=>by
  have hb:∀u f n s',R r u->R r (af G i kids f n s' u).1:=fun u f n s' hu=>hR.trans hu (qD G kids i f n s' u)
  have hd:∀c a',R r { bF (aB r i (ah (aj s))) c r.next (.node k x a e kids) a' with owner:=(r.next:Int) }:=fun c a'=>hR.trans (hR.declare r i _ c _ a') (hR.owner _ _)
  have hv:∀c s',R r (aD G (aB r i (ah (aj s))) c r.next (.node k x a e kids) s').1:=fun c s'=>hR.nS G r i _ c _ s'
  have hu:∀Ey,R r (gB (aB r i (ah (aj s))) r.next (.node k x a e kids) Ey):=fun Ey=>hR.CS r i _ _ Ey
  rw[di];split
  ·exact hb _ _ _ _ (hd _ _)
  split
  ·exact hb _ _ _ _ (hR.declare r i _ _ _ _)
  split
  ·exact hR.trans (hR.trans (hd _ _) (qD G kids false 0 2 _ _)) (qD G kids true 2 1 _ _)
  split
  ·exact hb _ _ _ _ (hv _ _)
  split
  ·exact hb _ _ _ _ (hR.none_ r i _)
  split
  ·exact hb _ _ _ _ (hv _ _)
  split
  ·exact hR.trans (hb _ _ _ _ (hv _ _)) (qD G kids i 2 1 _ _)
  ·refine hb _ _ _ _ ?_
   unfold ik;split
   ·exact hu _
   split
   ·exact hu _
   split
   ·exact hu _
   split
   ·exact hu _
   split
   ·exact hu _
   ·exact hR.none_ r i _
theorem qD(G:bD):∀(ts:List aa) (i:Bool) (f n:Nat) (s:aT) (r:RS),R r (af G i ts f n s r).1
 | [],_,_,_,_,r=>by rw[af];exact hR.refl r
 | t::ts,i,f+1,n,s,r=>by rw[af];exact qD G ts i f n s r
 | t::ts,i,0,0,s,r=>by rw[af];exact hR.refl r
 | t::ts,i,0,n+1,s,r=>by rw[af];exact hR.trans (Bq G t i s r) (qD G ts i 0 n _ _)
end
end
structure oV (a b:RS):Prop where
 next:a.next<=b.next
 aR:∃l,b.aR=a.aR++l/\(l.Pairwise fun x y=>x.1<y.1)/\∀x∈l,(a.next:Int)<=x.1/\x.1<(b.next:Int)
 ds:∃l,b.ds=a.ds++l/\(l.Pairwise fun x y=>x.node<y.node)/\∀d∈l,(a.next:Int)<=d.node/\d.node<(b.next:Int)
 CU:b.uses.length=a.uses.length
 uses:∀j,j<a.next\/b.next<=j->b.uses[j]? =a.uses[j]?
 bH:∀m:Nat,m<a.next\/b.next<=m->bG b.bH (m:Int)=bG a.bH (m:Int)
theorem oV.of_same{a b:RS}(h1:b.next=a.next)(h2:b.aR=a.aR)(h3:b.ds=a.ds)(h4:b.uses=a.uses)(h5:b.bH=a.bH):oV a b:=
 ⟨by omega,⟨[],by simp[h2],List.Pairwise.nil,by simp⟩,⟨[],by simp[h3],List.Pairwise.nil,by simp⟩,by rw[h4],fun _ _=>by rw[h4],fun _ _=>by rw[h5]⟩
theorem oV.trans{a b c:RS}(h:oV a b)(k:oV b c):oV a c:=by
 have h1:=h.next;have k1:=k.next;obtain⟨lp,hp,hpw,hpb⟩:=h.aR;obtain⟨lq,kp,kpw,kpb⟩:=k.aR;obtain⟨ld,hd,hdw,hdb⟩:=h.ds;obtain⟨le,kd,kdw,kdb⟩:=k.ds;refine⟨by omega,⟨lp++lq,by rw[kp,hp,List.append_assoc],List.pairwise_append.2 ⟨hpw,kpw,fun x hx y hy=>?_⟩,fun x hx=>?_⟩,⟨ld++le,by rw[kd,hd,List.append_assoc],List.pairwise_append.2 ⟨hdw,kdw,fun x hx y hy=>?_⟩,fun x hx=>?_⟩,by rw[k.CU,h.CU],fun j hj=>?_,fun m hm=>?_⟩
 ·have:=(hpb x hx).2;have:=(kpb y hy).1;omega
 ·rcases List.mem_append.1 hx with hx|hx
  ·have:=hpb x hx;omega
  ·have:=kpb x hx;omega
 ·have:=(hdb x hx).2;have:=(kdb y hy).1;omega
 ·rcases List.mem_append.1 hx with hx|hx
  ·have:=hdb x hx;omega
  ·have:=kdb x hx;omega
 ·rw[k.uses j (by omega),h.uses j (by omega)]
 ·rw[k.bH m (by omega),h.bH m (by omega)]
theorem Gf(r:RS)(i:Bool)(v:List Int)(m:Nat)(h:m≠r.next):bG (aB r i v).bH (m:Int)=bG r.bH (m:Int):=by
 cases i
 ·rfl
 ·show bG (dK r.bH (r.next:Int) v) (m:Int)=_
  rw[rY,if_neg (by omega)]
theorem RD(l:List Int)(n:Nat)(k:Int)(j:Nat)(h:j≠n):(l.set n k)[j]? =l[j]? :=by
 rw[List.getElem?_set];rw[if_neg (fun e=>h e.symm)]
theorem iX:DF oV where
 refl:=fun r=>oV.of_same rfl rfl rfl rfl rfl
 trans:=oV.trans
 none_:=fun r i v=>⟨Nat.le_succ _,⟨[],by simp[aB],List.Pairwise.nil,by simp⟩,⟨[],by simp[aB],List.Pairwise.nil,by simp⟩,rfl,fun _ _=>rfl,fun m hm=>Gf r i v m (by have:(aB r i v).next=r.next+1:=rfl;omega)⟩
 say:=fun r i v c t=>⟨Nat.le_succ _,⟨_,rfl,List.pairwise_singleton _ _,fun x hx=>by
  rw[List.mem_singleton]at hx;subst hx;have:(pV (aB r i v) c r.next t).next=r.next+1:=rfl;rw[this];simp only
  omega⟩,⟨[],by simp[aB,pV],List.Pairwise.nil,by simp⟩,rfl,fun _ _=>rfl,fun m hm=>Gf r i v m (by have:(pV (aB r i v) c r.next t).next=r.next+1:=rfl;omega)⟩
 decl:=fun r i v c t=>⟨Nat.le_succ _,⟨[],by simp[aB,jk],List.Pairwise.nil,by simp⟩,⟨_,rfl,List.pairwise_singleton _ _,fun x hx=>by
  rw[List.mem_singleton]at hx;subst hx;have:(jk (aB r i v) c r.next t).next=r.next+1:=rfl;rw[this];simp only
  omega⟩,List.length_set,fun j hj=>RD _ _ _ _ (by have:(jk (aB r i v) c r.next t).next=r.next+1:=rfl;omega),fun m hm=>Gf r i v m (by have:(jk (aB r i v) c r.next t).next=r.next+1:=rfl;omega)⟩
 use:=fun r i v k=>⟨Nat.le_succ _,⟨[],by simp[aB],List.Pairwise.nil,by simp⟩,⟨[],by simp[aB],List.Pairwise.nil,by simp⟩,List.length_set,fun j hj=>RD _ _ _ _ (by have:({ aB r i v with uses:=r.uses.set r.next k }:RS).next=r.next+1:=rfl;omega),fun m hm=>Gf r i v m (by have:({ aB r i v with uses:=r.uses.set r.next k }:RS).next=r.next+1:=rfl;omega)⟩
 owner:=fun r o=>oV.of_same rfl rfl rfl rfl rfl
theorem j5(G:bD)(t:aa)(i:Bool)(s:aT)(r:RS):oV r (aL G i t s r).1:=Bq iX G t i s r
theorem bS(G:bD)(ts:List aa)(i:Bool)(f n:Nat)(s:aT)(r:RS):oV r (af G i ts f n s r).1:=qD iX G ts i f n s r
mutual
def qx(nl:Bool):aa->Bool
 | .node k _ _ _ kids=>
  if k=5 then decide (kids.length=3)&&mq false kids
  else if k=11 then mq false kids
  else if k=7\/k=8\/k=12\/k=16 then !nl&&(decide (k≠12) || decide (kids.length=2))&&(decide (k≠16) || decide (kids.length=3))&&mq nl kids
  else mq nl kids
def mq(nl:Bool):List aa->Bool
 | []=>true
 | t::ts=>qx nl t&&mq nl ts
end
theorem Zm{nl:Bool}{ts:List aa}:mq nl ts=true->∀t∈ts,qx nl t=true:=by
 induction ts with
 | nil=>intro _ t h;cases h
 | cons a ts ih=>
  intro h t ht;rw[mq,aad]at h;rcases List.mem_cons.1 ht with rfl|ht
  ·exact h.1
  ·exact ih h.2 t ht
theorem uV:∀(a b:List aa),ag (a++b)=ag a+ag b
 | [],b=>by simp[ag]
 | t::a,b=>by
  rw[List.cons_append,ag,ag,uV a b];omega
theorem AU(l:List aa)(a b:Nat):ag (l.take a)+ag ((l.drop a).take b)<=ag l:=by
 have h1:ag (l.take a)+ag (l.drop a)=ag l:=by rw[<- uV,List.take_append_drop]
 have h2:ag ((l.drop a).take b)+ag ((l.drop a).drop b)=ag (l.drop a):=by rw[<- uV,List.take_append_drop]
 omega
theorem rP(r:RS)(i:Bool)(v:List Int)(c:Int)(t:aa)(b:Bool):(bF (aB r i v) c r.next t b).next=r.next+1:=by cases b<;>rfl
theorem pE(G:bD)(r:RS)(i:Bool)(v:List Int)(c:Int)(t:aa)(s:aT):(aD G (aB r i v) c r.next t s).1.next=r.next+1:=by
 unfold aD;split<;>rfl
theorem Jr(G:bD)(s:aT)(r:RS)(i:Bool)(v:List Int)(t:aa):(ik G s r (aB r i v) t).next=r.next+1:=by
 have hu:∀tq,(gB (aB r i v) r.next t tq).next=r.next+1:=fun tq=>by cases tq<;>rfl
 unfold ik;split
 ·exact hu _
 split
 ·exact hu _
 split
 ·exact hu _
 split
 ·exact hu _
 split
 ·exact hu _
 ·rfl
mutual
theorem Lm(G:bD):∀(t:aa) (i:Bool) (s:aT) (r:RS),(aL G i t s r).1.next<=r.next+ai t
 | .node k x a e kids,i,s,r=>by
  have hall:∀s' (u:RS),u.next=r.next+1->(af G i kids 0 kids.length s' u).1.next<=r.next+ai (.node k x a e kids):=fun s' u h=>by
   have:=qO G kids i 0 kids.length s' u;rw[h]at this;simp only[List.drop_zero,List.take_length]at this;rw[ai];omega
  have htwo:∀i1 i2 s1 s2 (u:RS),u.next=r.next+1->(af G i2 kids 2 1 s2 (af G i1 kids 0 2 s1 u).1).1.next<=r.next+ai (.node k x a e kids):=fun i1 i2 s1 s2 u h=>by
   have h1:=qO G kids i1 0 2 s1 u;have h2:=qO G kids i2 2 1 s2 (af G i1 kids 0 2 s1 u).1;have h3:=AU kids 2 1;rw[h]at h1;simp only[List.drop_zero]at h1;rw[ai];omega
  have hone:∀s' (u:RS),u.next=r.next+1->(af G i kids 0 2 s' u).1.next<=r.next+ai (.node k x a e kids):=fun s' u h=>by
   have h1:=qO G kids i 0 2 s' u;have h3:=AU kids 2 1;rw[h]at h1;simp only[List.drop_zero]at h1;rw[ai];omega
  rw[di];split
  ·exact hall _ _ (rP r i _ 0 _ _)
  split
  ·exact hall _ _ (rP r i _ 1 _ _)
  split
  ·exact htwo _ _ _ _ _ (rP r i _ 2 _ _)
  split
  ·exact hall _ _ (pE _ _ _ _ _ _ _)
  split
  ·exact hall _ _ rfl
  split
  ·exact hone _ _ (pE _ _ _ _ _ _ _)
  split
  ·exact htwo _ _ _ _ _ (pE _ _ _ _ _ _ _)
  ·exact hall _ _ (Jr _ _ _ _ _ _)
theorem qO(G:bD):∀(ts:List aa) (i:Bool) (f n:Nat) (s:aT) (r:RS),(af G i ts f n s r).1.next<=r.next+ag ((ts.drop f).take n)
 | [],_,_,_,_,_=>by rw[af];simp
 | t::ts,i,f+1,n,s,r=>by
  rw[af,List.drop_succ_cons];exact qO G ts i f n s r
 | t::ts,i,0,0,s,r=>by rw[af];simp
 | t::ts,i,0,n+1,s,r=>by
  rw[af];have h1:=Lm G t i s r;have h2:=qO G ts i 0 n (aL G i t s r).2 (aL G i t s r).1;simp only[List.drop_zero,List.take_succ_cons,ag]at h2⊢;omega
end
structure rz (a b:RS):Prop where
 next:a.next<=b.next
 aR:b.aR.length+a.next<=a.aR.length+b.next
 ds:b.ds.length+a.next<=a.ds.length+b.next
 bH:(∀x∈a.bH,x.1<(a.next:Int))->∀x∈b.bH,x.1<(b.next:Int)
 CU:b.uses.length=a.uses.length
theorem Oh{K V:Type}[DecidableEq K]:∀(l:List (K×V)) (k:K) (v:V),∀x∈dK l k v,x∈l\/x=(k,v)
 | [],k,v,x,h=>by
  rw[dK,List.mem_singleton]at h;exact .inr h
 | y::l,k,v,x,h=>by
  rw[dK]at h;by_cases hk:k=y.1
  ·rw[if_pos hk]at h
   rcases List.mem_cons.1 h with h|h
   ·exact .inr h
   ·exact .inl (List.mem_cons_of_mem _ h)
  ·rw[if_neg hk]at h
   rcases List.mem_cons.1 h with h|h
   ·exact .inl (by rw[h];simp)
   ·rcases Oh l k v x h with h|h
    ·exact .inl (List.mem_cons_of_mem _ h)
    ·exact .inr h
theorem Dw(r:RS)(i:Bool)(v:List Int)(h:∀x∈r.bH,x.1<(r.next:Int)):∀x∈(aB r i v).bH,x.1<((r.next+1:Nat):Int):=by
 intro x hx;unfold aB at hx;cases i
 ·have:=h x hx
  omega
 ·rcases Oh _ _ _ x hx with hx|rfl
  ·have:=h x hx
   omega
  ·simp
   omega
theorem dW:DF rz where
 refl:=fun r=>⟨aab _,aab _,aab _,fun h=>h,rfl⟩
 trans:=fun h k=>⟨aac h.next k.next,by have:=h.aR;have:=k.aR;omega,by have:=h.ds;have:=k.ds;omega,fun hv=>k.bH (h.bH hv),by rw[k.CU,h.CU]⟩
 none_:=fun r i v=>⟨Nat.le_succ _,by show r.aR.length+r.next<=r.aR.length+(r.next+1);omega,by show r.ds.length+r.next<=r.ds.length+(r.next+1);omega,Dw r i v,rfl⟩
 say:=fun r i v c t=>⟨Nat.le_succ _,by simp[pV,aB];omega,by show r.ds.length+r.next<=r.ds.length+(r.next+1);omega,Dw r i v,rfl⟩
 decl:=fun r i v c t=>⟨Nat.le_succ _,by show r.aR.length+r.next<=r.aR.length+(r.next+1);omega,by simp[jk,aB];omega,Dw r i v,List.length_set⟩
 use:=fun r i v k=>⟨Nat.le_succ _,by show r.aR.length+r.next<=r.aR.length+(r.next+1);omega,by show r.ds.length+r.next<=r.ds.length+(r.next+1);omega,Dw r i v,List.length_set⟩
 owner:=fun r o=>⟨aab _,aab _,aab _,fun h=>h,rfl⟩
theorem CR(G:bD)(t:aa)(i:Bool)(s:aT)(r:RS):rz r (aL G i t s r).1:=Bq dW G t i s r
theorem xS(G:bD)(ts:List aa)(i:Bool)(f n:Nat)(s:aT)(r:RS):rz r (af G i ts f n s r).1:=qD dW G ts i f n s r
theorem qI(l:nA)(s:aT):(aj (l::s)).length=l.length+(aj s).length:=by
 show(List.flatMap (fun l:nA=>l.map (·.2)) (l::s)).length=l.length+(List.flatMap (fun l:nA=>l.map (·.2)) s).length;rw[List.flatMap_cons,aam,List.length_map]
theorem Oi{K V:Type}[DecidableEq K]:∀(l:List (K×V)) (k:K) (v:V),(dK l k v).length<=l.length+1
 | [],k,v=>by simp[dK]
 | y::l,k,v=>by
  rw[dK];split
  ·simp
  ·have:=Oi l k v
   simp;omega
theorem Qg:∀(l:nA) (x:nA),(l.foldl (fun a y=>dK a y.1 y.2) x).length<=x.length+l.length
 | [],x=>by simp
 | y::l,x=>by
  rw[List.foldl_cons];have h1:=Qg l (dK x y.1 y.2);have h2:=Oi x y.1 y.2;simp only[aao];omega
theorem Qt(s:aT)(l:nA):(aj (lL s l)).length<=(aj s).length+l.length:=by
 cases s with
 | nil=>simp[lL]
 | cons x s=>
  have:=Qg l x;show(aj ((l.foldl (fun a y=>dK a y.1 y.2) x)::s)).length<=_;rw[qI,qI];have h2:(l.foldl (fun a y=>dK a y.1 y.2) x).length<=x.length+l.length:=this;clear this;exact aac (Nat.add_le_add_right h2 _) (by omega)
theorem M4(s:aT):(aj s.tail).length<=(aj s).length:=by
 cases s with
 | nil=>simp
 | cons x s=>
  rw[qI];show(aj s).length<=_;omega
theorem Ja(G:bD)(r:RS)(c:Int)(n:Nat)(t:aa)(s:aT):(aj (aD G r c n t s).2).length<=(aj s).length+1:=by
 unfold aD;split
 ·show(aj s).length<=_
  omega
 ·exact Qt _ _
theorem Ps(G:bD)(r:RS)(c:Int)(n:Nat)(t:aa)(s:aT):((aD G r c n t ([]::s)).2.headD []).length<=1:=by
 unfold aD;split
 ·simp
 ·simp[lL,dK]
mutual
theorem Vg(G:bD):∀(t:aa) (i:Bool) (s:aT) (r:RS),(aj (aL G i t s r).2).length+r.next<=(aj s).length+(aL G i t s r).1.next
 | .node k x a e kids,i,s,r=>by
  by_cases h5:k=5
  ·have h2:(aL G i (.node k x a e kids) s r).2=s:=by rw[di,if_neg (by omega),if_neg (by omega),if_pos h5]
   rw[h2];have:=(CR G (.node k x a e kids) i s r).next;omega
  rw[di];split
  ·have h:=jl G kids i 0 kids.length s { bF (aB r i (ah (aj s))) 0 r.next (.node k x a e kids) (decide ((bY G.globals x).getD 0≠(r.next:Int))) with owner:=(r.next:Int) }
   have hn:({ bF (aB r i (ah (aj s))) 0 r.next (.node k x a e kids) (decide ((bY G.globals x).getD 0≠(r.next:Int))) with owner:=(r.next:Int) }:RS).next=r.next+1:=rP r i _ 0 _ _;omega
  split
  ·have h:=jl G kids i 0 kids.length s (bF (aB r i (ah (aj s))) 1 r.next (.node k x a e kids) (decide ((bY G.fields x).getD 0≠(r.next:Int))))
   rw[rP]at h;omega
  split
  ·have h:=jl G kids i 0 kids.length (aD G (aB r i (ah (aj s))) 3 r.next (.node k x a e kids) s).2 (aD G (aB r i (ah (aj s))) 3 r.next (.node k x a e kids) s).1
   have h2:=Ja G (aB r i (ah (aj s))) 3 r.next (.node k x a e kids) s;rw[pE]at h;omega
  split
  ·have h:=jl G kids i 0 kids.length ([]::s) (aB r i (ah (aj s)))
   have h2:=M4 (af G i kids 0 kids.length ([]::s) (aB r i (ah (aj s)))).2;have hn:(aB r i (ah (aj s))).next=r.next+1:=rfl;rw[qI]at h;dsimp only
   simp only[List.length_nil]at h;omega
  split
  ·have h:=jl G kids i 0 2 s (aD G (aB r i (ah (aj s))) 4 r.next (.node k x a e kids) ([]::s)).1
   have h2:=Qt (af G i kids 0 2 s (aD G (aB r i (ah (aj s))) 4 r.next (.node k x a e kids) ([]::s)).1).2 ((aD G (aB r i (ah (aj s))) 4 r.next (.node k x a e kids) ([]::s)).2.headD []);have h3:=Ps G (aB r i (ah (aj s))) 4 r.next (.node k x a e kids) s;rw[pE]at h;dsimp only
   omega
  split
  ·have h:=jl G kids i 0 2 s (aD G (aB r i (ah (aj s))) 5 r.next (.node k x a e kids) ([]::s)).1
   have h3:=Ps G (aB r i (ah (aj s))) 5 r.next (.node k x a e kids) s;have h4:=jl G kids i 2 1 ((aD G (aB r i (ah (aj s))) 5 r.next (.node k x a e kids) ([]::s)).2.headD []::(af G i kids 0 2 s (aD G (aB r i (ah (aj s))) 5 r.next (.node k x a e kids) ([]::s)).1).2) (af G i kids 0 2 s (aD G (aB r i (ah (aj s))) 5 r.next (.node k x a e kids) ([]::s)).1).1;have h5:=M4 (af G i kids 2 1 ((aD G (aB r i (ah (aj s))) 5 r.next (.node k x a e kids) ([]::s)).2.headD []::(af G i kids 0 2 s (aD G (aB r i (ah (aj s))) 5 r.next (.node k x a e kids) ([]::s)).1).2) (af G i kids 0 2 s (aD G (aB r i (ah (aj s))) 5 r.next (.node k x a e kids) ([]::s)).1).1).2;rw[pE]at h;rw[qI]at h4;dsimp only
   omega
  ·have h:=jl G kids i 0 kids.length s (ik G s r (aB r i (ah (aj s))) (.node k x a e kids))
   rw[Jr]at h;omega
theorem jl(G:bD):∀(ts:List aa) (i:Bool) (f n:Nat) (s:aT) (r:RS),(aj (af G i ts f n s r).2).length+r.next<=(aj s).length+(af G i ts f n s r).1.next
 | [],_,_,_,_,_=>by rw[af];exact aab _
 | t::ts,i,f+1,n,s,r=>by rw[af];exact jl G ts i f n s r
 | t::ts,i,0,0,s,r=>by rw[af];exact aab _
 | t::ts,i,0,n+1,s,r=>by
  rw[af];have h1:=Vg G t i s r;have h2:=jl G ts i 0 n (aL G i t s r).2 (aL G i t s r).1;omega
end
structure RB (r:RS) (s:aT) (n:Nat):Prop where
 aR:r.aR.length<=r.next
 ds:r.ds.length<=r.next
 uP:(aj s).length<=r.next
 bH:∀x∈r.bH,x.1<(r.next:Int)
 room:r.next+n<=r.uses.length
 most:r.uses.length<=1000000
theorem RB.slow{r q:RS}{s s':aT}{n m:Nat}(h:RB r s n)(k:rz r q)(ha:(aj s').length+r.next<=(aj s).length+q.next)(hn:q.next+m<=r.next+n):RB q s' m where
 aR:=by have:=h.aR;have:=k.aR;omega
 ds:=by have:=h.ds;have:=k.ds;omega
 uP:=by have:=h.uP;omega
 bH:=k.bH h.bH
 room:=by have:=h.room;rw[k.CU];omega
 most:=by rw[k.CU];exact h.most
theorem BO(G:bD)(i:Bool):∀(ts:List aa) (f n:Nat) (s:aT) (r:RS) (t:aa),ts[f+n]? =some t ->
 af G i ts f (n+1) s r=aL G i t (af G i ts f n s r).2 (af G i ts f n s r).1
 | [],f,n,s,r,t,h=>by simp at h
 | u::ts,f+1,n,s,r,t,h=>by
  rw[af,af];exact BO G i ts f n s r t (by rw[show f+1+n=(f+n)+1 by omega]at h;simpa using h)
 | u::ts,0,0,s,r,t,h=>by
  simp at h;subst h;rw[af,af]
  cases ts with
  | nil=>simp only[af]
  | cons=>simp only[af]
 | u::ts,0,n+1,s,r,t,h=>by
  rw[af,af];exact BO G i ts 0 n _ _ t (by rw[Nat.zero_add];simpa using h)
theorem Gn(G:bD)(i:Bool)(ts:List aa)(f:Nat)(s:aT)(r:RS):af G i ts f 0 s r=(r,s):=by
 induction ts generalizing f with
 | nil=>rw[af]
 | cons t ts ih=>
  cases f with
  | zero=>rw[af]
  | succ f=>rw[af];exact ih f
def vE:aa->Bool
 | .node k _ _ _ kids=>(decide (k=3)&&kids.all fun f=>decide (f.kind=4)&&vF f.kids) || (decide (k=5)&&decide (kids.length=3)&&vF kids)
def I8(G:bD)(fs:List aa)(n:Nat):Nat:=((Ym fs n).filter fun y=>decide ((bY G.fields y.1.text).getD 0≠(y.2:Int))).length
def G8(G:bD)(k:aa)(n:Nat):Nat:=(decide ((bY G.globals k.text).getD 0≠(n:Int))).toNat+(if k.kind=3 then I8 G k.kids (n+1) else 0)
def own(k:aa):Nat:=1+(if k.kind=3 then k.kids.length else 0)
theorem Sl(G:bD)(x:ByteArray)(a e:Int)(kids:List aa)(n:Nat):G8 G (.node 3 x a e kids) n=(decide ((bY G.globals x).getD 0≠(n:Int))).toNat+I8 G kids (n+1):=by
 unfold G8;rw[if_pos (show(aa.node 3 x a e kids).kind=3 from rfl)];rfl
theorem Qp(G:bD)(x:ByteArray)(a e:Int)(kids:List aa)(n:Nat):G8 G (.node 5 x a e kids) n=(decide ((bY G.globals x).getD 0≠(n:Int))).toNat:=by
 unfold G8;rw[if_neg (show ¬(aa.node 5 x a e kids).kind=3 by show ¬((5:Int)=3);decide)];rfl
theorem own_rec(x:ByteArray)(a e:Int)(kids:List aa):own (.node 3 x a e kids)=1+kids.length:=by
 unfold own;rw[if_pos (show(aa.node 3 x a e kids).kind=3 from rfl)];rfl
theorem Yk(x:ByteArray)(a e:Int)(kids:List aa):own (.node 5 x a e kids)=1:=by
 unfold own;rw[if_neg (show ¬(aa.node 5 x a e kids).kind=3 by show ¬((5:Int)=3);decide)]
def FZ(m b1 b2 u:Nat)(r1 q1 r2 q2:RS):Prop:=
 ∃p d,q1.aR.length=r1.aR.length+b1+p/\q2.aR.length=r2.aR.length+b2+p/\q1.ds.length+b1=r1.ds.length+u+d/\q2.ds.length+b2=r2.ds.length+u+d/\q1.next=r1.next+m/\q2.next=r2.next+m
theorem vU.ZN{m:Nat}{r1 q1 r2 q2:RS}(h:vU m r1 q1 r2 q2):FZ m 0 0 0 r1 q1 r2 q2:=by
 obtain⟨p,d,h⟩:=h;exact⟨p,d,by simpa using h.p1,by simpa using h.p2,by simpa using h.d1,by simpa using h.d2,h.n1,h.n2⟩
theorem FZ.trans{m b1 b2 u m' b1' b2' u' n c1 c2 v:Nat}{r1 q1 t1 r2 q2 t2:RS}(h:FZ m b1 b2 u r1 q1 r2 q2)(k:FZ m' b1' b2' u' q1 t1 q2 t2)(hn:n=m+m')(h1:c1=b1+b1')(h2:c2=b2+b2')(hv:v=u+u'):FZ n c1 c2 v r1 t1 r2 t2:=by
 obtain⟨p,d,a1,a2,a3,a4,a5,a6⟩:=h;obtain⟨p',d',c1',c2',c3',c4',c5',c6'⟩:=k;exact⟨p+p',d+d',by omega,by omega,by omega,by omega,by omega,by omega⟩
theorem Ce(r1 r2:RS)(c:Int)(n1 n2:Nat)(t:aa)(a1 a2:Bool):FZ 0 a1.toNat a2.toNat 1 r1 (bF r1 c n1 t a1) r2 (bF r2 c n2 t a2):=by
 refine⟨0,0,?_⟩;cases a1<;>cases a2<;>simp[bF,pV,jk]
theorem I5(r1 r2:RS)(v1 v2:List (Int×List Int)):FZ 1 0 0 0 r1 { r1 with next:=r1.next+1,bH:=v1 } r2 { r2 with next:=r2.next+1,bH:=v2 }:=⟨0,0,rfl,rfl,rfl,rfl,rfl,rfl⟩
theorem MO(r1 r2:RS)(o1 o2:Int):FZ 0 0 0 0 r1 { r1 with owner:=o1 } r2 { r2 with owner:=o2 }:=⟨0,0,rfl,rfl,rfl,rfl,rfl,rfl⟩
theorem wX(r:RS)(c:Int)(n:Nat)(t:aa)(a:Bool):(bF r c n t a).next=r.next:=by cases a<;>rfl
theorem M0(G:bD)(f:aa)(fs:List aa)(n:Nat):I8 G (f::fs) n=(decide ((bY G.fields f.text).getD 0≠(n:Int))).toNat+I8 G fs (n+ai f):=by
 unfold I8;rw[Ym,List.filter_cons];by_cases h:(bY G.fields f.text).getD 0=(n:Int)
 ·simp[h]
 ·simp[h];omega
theorem Jt{G1 G2:bD}(hG:yh G1 G2):∀(fs:List aa) (s1 s2:aT) (r1 r2:RS) (n1 n2:Nat),r1.next=n1->r2.next=n2->(fs.all fun f=>decide (f.kind=4)&&vF f.kids)=true->dL s1=dL s2 ->
 FZ (ag fs) (I8 G1 fs n1) (I8 G2 fs n2) fs.length r1 (af G1 false fs 0 fs.length s1 r1).1 r2 (af G2 false fs 0 fs.length s2 r2).1/\dL (af G1 false fs 0 fs.length s1 r1).2=dL (af G2 false fs 0 fs.length s2 r2).2
 | [],s1,s2,r1,r2,n1,n2,_,_,_,hs=>by
  simp only[af,List.length_nil];exact⟨(vU.refl r1 r2).ZN,hs⟩
 | .node k x a e kids::fs,s1,s2,r1,r2,n1,n2,e1,e2,h,hs=>by
  subst e1;subst e2;rw[List.all_cons,aad,aad,decide_eq_true_eq]at h;obtain⟨⟨hk,hin⟩,hrest⟩:=h;have hk':k=4:=hk;subst hk';have hin':vF kids=true:=hin;simp only[aao,af]
  obtain⟨A,hA,B⟩:∃A:FZ (ai (.node 4 x a e kids)) (decide ((bY G1.fields x).getD 0≠(r1.next:Int))).toNat (decide ((bY G2.fields x).getD 0≠(r2.next:Int))).toNat 1 r1 (aL G1 false (.node 4 x a e kids) s1 r1).1 r2 (aL G2 false (.node 4 x a e kids) s2 r2).1,
   ((aL G1 false (.node 4 x a e kids) s1 r1).1.next=r1.next+ai (.node 4 x a e kids)/\(aL G2 false (.node 4 x a e kids) s2 r2).1.next=r2.next+ai (.node 4 x a e kids)) /\
   dL (aL G1 false (.node 4 x a e kids) s1 r1).2=dL (aL G2 false (.node 4 x a e kids) s2 r2).2:=by
   rw[aL,aL,ai];simp only[show ¬((4:Int)=3) by decide,if_false,if_true];obtain⟨b1,b2⟩:=mR hG kids false 0 kids.length s1 s2 (bF { r1 with next:=r1.next+1 } 1 r1.next (.node 4 x a e kids) (decide ((bY G1.fields x).getD 0≠(r1.next:Int)))) (bF { r2 with next:=r2.next+1 } 1 r2.next (.node 4 x a e kids) (decide ((bY G2.fields x).getD 0≠(r2.next:Int)))) hin' hs;have hg:=(I5 r1 r2 r1.bH r2.bH).trans ((Ce { r1 with next:=r1.next+1 } { r2 with next:=r2.next+1 } 1 r1.next r2.next (.node 4 x a e kids) (decide ((bY G1.fields x).getD 0≠(r1.next:Int))) (decide ((bY G2.fields x).getD 0≠(r2.next:Int)))).trans b1.ZN rfl rfl rfl rfl) rfl rfl rfl rfl;have hm:1+(0+ag (List.take kids.length (List.drop 0 kids)))=1+ag kids:=by simp
   rw[hm]at hg;simp only[Nat.zero_add,Nat.add_zero]at hg;refine⟨hg,?_,b2⟩;obtain⟨_,_,_,_,_,_,h5,h6⟩:=hg;exact⟨h5,h6⟩
  obtain⟨c1,c2⟩:=Jt hG fs _ _ (aL G1 false (.node 4 x a e kids) s1 r1).1 (aL G2 false (.node 4 x a e kids) s2 r2).1 _ _ hA.1 hA.2 hrest B;refine⟨A.trans c1 (by rw[ag]) ?_ ?_ (by omega),c2⟩
  ·rw[M0];rfl
  ·rw[M0];rfl
theorem VJ{G1 G2:bD}(hG:yh G1 G2)(t:aa)(ht:vE t=true)(s1 s2:aT)(r1 r2:RS)(hs:dL s1=dL s2):
 FZ (ai t) (G8 G1 t r1.next) (G8 G2 t r2.next) (own t) r1 (aL G1 false t s1 r1).1 r2 (aL G2 false t s2 r2).1/\dL (aL G1 false t s1 r1).2=dL (aL G2 false t s2 r2).2:=by
 obtain⟨k,x,a,e,kids⟩:=t;rw[vE,Bool.or_eq_true,aad,aad,aad,decide_eq_true_eq,decide_eq_true_eq,decide_eq_true_eq]at ht;rcases ht with⟨rfl,hf⟩| ⟨⟨rfl,hl⟩,hin⟩
 ·rw[aL,aL,ai]
  simp only[if_true];obtain⟨b1,b2⟩:=Jt hG kids s1 s2 { bF { r1 with next:=r1.next+1 } 0 r1.next (.node 3 x a e kids) (decide ((bY G1.globals x).getD 0≠(r1.next:Int))) with owner:=(r1.next:Int) } { bF { r2 with next:=r2.next+1 } 0 r2.next (.node 3 x a e kids) (decide ((bY G2.globals x).getD 0≠(r2.next:Int))) with owner:=(r2.next:Int) } (r1.next+1) (r2.next+1) (wX _ _ _ _ _) (wX _ _ _ _ _) hf hs;refine⟨?_,b2⟩;have hg:=(I5 r1 r2 r1.bH r2.bH).trans ((Ce { r1 with next:=r1.next+1 } { r2 with next:=r2.next+1 } 0 r1.next r2.next (.node 3 x a e kids) (decide ((bY G1.globals x).getD 0≠(r1.next:Int))) (decide ((bY G2.globals x).getD 0≠(r2.next:Int)))).trans ((MO _ _ (r1.next:Int) (r2.next:Int)).trans b1 rfl rfl rfl rfl) rfl rfl rfl rfl) rfl rfl rfl rfl;simp only[Nat.zero_add]at hg;rw[Sl,Sl,own_rec];exact hg
 ·match kids,hl with
  | [u,v,w],_=>
   rw[aL,aL,ai];simp only[show ¬((5:Int)=3) by decide,show ¬((5:Int)=4) by decide,if_false,if_true];obtain⟨b1,b2⟩:=mR hG [u,v,w] false 0 2 [[]] [[]] { bF { r1 with next:=r1.next+1 } 2 r1.next (.node 5 x a e [u,v,w]) (decide ((bY G1.globals x).getD 0≠(r1.next:Int))) with owner:=(r1.next:Int) } { bF { r2 with next:=r2.next+1 } 2 r2.next (.node 5 x a e [u,v,w]) (decide ((bY G2.globals x).getD 0≠(r2.next:Int))) with owner:=(r2.next:Int) } hin rfl;obtain⟨c1,c2⟩:=mR hG [u,v,w] true 2 1 _ _ _ _ hin (wY (l:=[]) (m:=[]) b2 rfl);refine⟨?_,hs⟩;have hg:=(I5 r1 r2 r1.bH r2.bH).trans ((Ce { r1 with next:=r1.next+1 } { r2 with next:=r2.next+1 } 2 r1.next r2.next (.node 5 x a e [u,v,w]) (decide ((bY G1.globals x).getD 0≠(r1.next:Int))) (decide ((bY G2.globals x).getD 0≠(r2.next:Int)))).trans ((MO _ _ (r1.next:Int) (r2.next:Int)).trans (b1.ZN.trans c1.ZN rfl rfl rfl rfl) rfl rfl rfl rfl) rfl rfl rfl rfl) rfl rfl rfl rfl;have hm:1+(0+(0+(ag (List.take 2 (List.drop 0 [u,v,w]))+ag (List.take 1 (List.drop 2 [u,v,w])))))=1+ag [u,v,w]:=by simp[ag];omega
   rw[hm]at hg;simp only[Nat.zero_add,Nat.add_zero]at hg;rw[Qp,Qp,Yk];exact hg
def Oq:RS:=⟨[],[],[],[],0,0⟩
def Z0(G:bD)(t:aa):Nat:=(aL G false t [] Oq).1.aR.length - G8 G t 0
def decT(G:bD)(t:aa):Nat:=(aL G false t [] Oq).1.ds.length+G8 G t 0 - own t
theorem Rz{G G2:bD}(hG:yh G G2)(t:aa)(ht:vE t=true)(s:aT)(r:RS)(hs:dL s=[]):
 (aL G2 false t s r).1.aR.length=r.aR.length+G8 G2 t r.next+Z0 G t/\(aL G2 false t s r).1.ds.length+G8 G2 t r.next=r.ds.length+own t+decT G t/\(aL G2 false t s r).1.next=r.next+ai t/\dL (aL G2 false t s r).2=dL (aL G false t [] Oq).2:=by
 obtain⟨⟨p,d,h1,h2,h3,h4,h5,h6⟩,h7⟩:=VJ hG t ht [] s Oq r hs.symm;unfold Z0 decT;have e1:Oq.aR.length=0:=rfl;have e2:Oq.ds.length=0:=rfl;have e3:Oq.next=0:=rfl;rw[e1,e3]at h1;rw[e2,e3]at h3;refine⟨by omega,by omega,h6,h7.symm⟩
theorem KL(s:aT)(l:nA):(lL s l).length=s.length:=by cases s<;>rfl
theorem yM(G:bD)(r:RS)(k:Int)(n:Nat)(t:aa)(s:aT):(aD G r k n t s).2.length=s.length:=by
 unfold aD;split
 ·rfl
 ·exact KL _ _
mutual
theorem Eu(G:bD):∀(t:aa) (i:Bool) (s:aT) (r:RS),(aL G i t s r).2.length=s.length
 | .node k x a e kids,i,s,r=>by
  rw[di];split
  ·exact kM G kids _ _ _ _ _
  split
  ·exact kM G kids _ _ _ _ _
  split
  ·rfl
  split
  ·rw[kM,yM]
  split
  ·rw[List.length_tail,kM];rfl
  split
  ·rw[KL,kM]
  split
  ·rw[List.length_tail,kM,aao,kM];rfl
  ·exact kM G kids _ _ _ _ _
theorem kM(G:bD):∀(ts:List aa) (i:Bool) (f n:Nat) (s:aT) (r:RS),(af G i ts f n s r).2.length=s.length
 | [],_,_,_,_,_=>by rw[af]
 | t::ts,i,f+1,n,s,r=>by rw[af];exact kM G ts _ _ _ _ _
 | t::ts,i,0,0,s,r=>by rw[af]
 | t::ts,i,0,n+1,s,r=>by rw[af];rw[kM G ts,Eu G t]
end
open Go.RowKit
def gQ(E:RC)(G:bD)(B:Nat)(t:aa):Prop:=
 ∀(i:Bool) (s:aT) (p:Option Addr) (ms:List Nat) (r:RS) (V:RV) (w:World) (A:Option Addr) (c:Nat),
  bf E G r V w->aW w E.base p s ms->Eg E ms->aK w B A 0 t.kids->t.kids.length<=c->E.base<=w.heap.size->qx s.isEmpty t=true->RB r s (ai t) ->
  Calls Tryz.prog 79 #[.pointer (some ⟨E.rp,0,none⟩),bB t A c,.pointer p,.bool i] w fun e w'=>e= .returned (.tuple #[])/\∃V',bf E G (aL G i t s r).1 V' w'/\aW w' E.base p (aL G i t s r).2 ms/\KX E (fun g=>g=E.vi\/ms.head? =some g) w w'
theorem BX{α:Type}{a b:List α}(h:a.length=b.length):a.isEmpty=b.isEmpty:=by
 cases a<;>cases b<;>first|rfl|cases h
theorem Ns{P:Program}(w:World)(t e:TypeId)(i:TypeInfo)(ht:P.underlying t=some (.slice e))(hi:P.info? e=some i)(a:Option Addr)(len cap lo MC:Nat)(h1:lo<=MC)(h2:MC<=cap):
 (Instr.slice t (.slice a len cap) (some (.int .i64 (lo:Int))) (some (.int .i64 (MC:Int))) none).run P w= .ok (.slice (if cap=lo then a else a.map (·.add (lo*i.size))) (MC - lo) (cap - lo)) w:=by
 simp[Instr.slice,run_underlying ht,Instr.sliceBounds,Instr.sliceBound,asIntOf,sizeOf,typeInfo,hi];rw[if_pos h2,if_pos h1]
theorem bf.V7{E:RC}{G:bD}{r:RS}{V:RV}{w:World}(h:bf E G r V w){g:Nat}{cs:Array Value}(hb:ak w g 68 cs):E.uA.map (·.block)≠some g:=by
 intro hg
 have hv:(Value.slice E.uA r.uses.length E.uc).ownBlock=some g:=by
  cases hA:E.uA with
  | none=>rw[hA]at hg;cases hg
  | some p=>rw[hA]at hg;simpa [Value.ownBlock] using hg
 exact h.us.fe hb (by decide) hv
theorem OW(E:RC)(G:bD)(B:Nat)(hB:B<=E.base)(kids:List aa)(hih:∀k∈kids,gQ E G B k)(i:Bool)(s:aT)(p:Option Addr)(ms:List Nat)(r:RS)(V:RV)(w:World)
 (k0:Int) (x0:ByteArray) (a0 z0:Int) (A:Option Addr) (nk c f n gu bn br:Nat) (hnk:kids.length=nk) (hto:gu=f+n) (h:bf E G r V w) (hs:aW w E.base p s ms) (hsep:Eg E ms) (hk:aK w B A 0 kids) (hcap:nk<=c) (hfn:f+n<=nk) (hbase:E.base<=w.heap.size)
 (hbn:ak w bn 24 #[.int .i64 k0,.string x0,.int .i64 a0,.int .i64 z0,.slice A nk c]) (hbr:ak w br 68 #[.pointer (some ⟨E.rp,0,none⟩)]) (hv:mq s.isEmpty kids=true) (hrb:RB r s (ag ((kids.drop f).take n))):
 Calls Tryz.prog 146 #[.int .i64 (f:Int),.int .i64 (gu:Int),.pointer p,.bool i,.pointer (some ⟨bn,0,none⟩),.pointer (some ⟨br,0,none⟩)] w fun e w'=>e= .returned (.tuple #[])/\∃V',bf E G (af G i kids f n s r).1 V' w'/\aW w' E.base p (af G i kids f n s r).2 ms/\KX E (fun g=>g=E.vi\/ms.head? =some g) w w':=by
 obtain⟨i0,hi0,hz0,hz1,hz2⟩:=info_parts pF;have hsl:=Ns (P:=Tryz.prog) w 22 24 i0 Tryz.underlying22 hi0 A nk c f gu (by omega) (by omega);rw[hz1,show gu - f=n by omega]at hsl;obtain⟨A1,hA1⟩:∃A1,(if c=f then A else A.map (·.add (f*5)))=A1:=⟨_,rfl⟩
 rw[hA1]at hsl;obtain⟨c1,hc1⟩:∃q,c - f=q:=⟨_,rfl⟩
 rw[hc1]at hsl
 have hnm:n<=1000000:=by
  have h1:=hrb.room;have h2:=hrb.most;have h3:=dU ((kids.drop f).take n);simp at h3;omega
 have b4:=hbn.cell 4;have lb:=hbn.lt;have HA1:=kH hA1;have fO:=kH hih;have H:=kH h;have HS:=kH hs;have HK:=kH hk;have CL:=kH hbn;have qm:=kH hbr;have HV:=kH hv;have dC:=kH hrb;have gX:=kH hnk;have Ho:Hid (f+n<=nk/\nk<=c/\B<=E.base/\E.base<=w.heap.size):=kH ⟨hfn,hcap,hB,hbase⟩;clear hA1 hih h hs hk hbn hbr hv hrb hnk hto hcap hfn hB hbase hc1 hi0 hz0 hz1 hz2;go_enter Tryz.func146,Tryz.ntmps146
 go_wp2_with fail
 go_loopg [18] n (fun gk s18 wr=> ∃(j:Nat) (Vj:RV),j+gk=n/\s18= .int .i64 (j:Int)/\Hid (bf E G (af G i kids f j s r).1 Vj wr)/\Hid (aW wr E.base p (af G i kids f j s r).2 ms)/\Hid (KX E (fun g=>g=E.vi\/ms.head? =some g) w wr))
 case atStart=>exact⟨0,V,by omega,rfl,by rw[Gn];exact H,by rw[Gn];exact HS,kH (KX.refl _ _ _)⟩
 case round=>
  obtain⟨j,Vj,hj,rfl,Hj,Na,XK⟩:=hrel;have HJ:=kH hj;have hjn:j<=n:=by omega
  clear hj;by_cases hlt:j<n
  ·have hlt':(j:Int)<(n:Int):=by omega
   obtain⟨u,hu⟩:∃u,kids[f+j]? =some u:=⟨_,aaf (by rw[gX.out];have:=Ho.out;omega)⟩
   have hbW:Below E.base w wr:=XK.out.low Ho.out.2.2.2;have hkr:aK wr B A 0 kids:=aK.below (hbW.mono Ho.out.2.2.1) (aab _) _ _ _ HK.out;obtain⟨vals,⟨b,off,hA,hbl,hcs⟩,hT⟩:=hkr.get (f+j) u hu;obtain⟨A',c',lh,hK'⟩:=hT.five;subst hA;subst lh;have qa:=hT.cap;have hsz:=XK.out.size
   have hA1:A1=some ⟨b,off+f*5,none⟩:=by
    rw[<- HA1.out,if_neg (by have:=Ho.out;omega)];simp[Addr.add_lit]
   subst hA1;have hbb:b<wr.heap.size:=by have:=Ho.out;omega
   obtain⟨uk,DY⟩:∃q,u.kind=q:=⟨_,rfl⟩
   obtain⟨ux,DX⟩:∃q,u.text=q:=⟨_,rfl⟩
   obtain⟨ua,GR⟩:∃q,u.at_=q:=⟨_,rfl⟩
   obtain⟨uz,GQ⟩:∃q,u.end_=q:=⟨_,rfl⟩
   obtain⟨un,hun⟩:∃q,u.kids.length=q:=⟨_,rfl⟩
   have hcs':∀q v,[Value.int .i64 uk,.string ux,.int .i64 ua,.int .i64 uz,.slice A' un c'][q]? =some v->wr.cell? ⟨b,off+f*5+j*5+q,none⟩=some v:=fun q v hq=>by
    have:=hcs q v (by rw[DY,DX,GR,GQ,hun];exact hq);rw[show off+(0+(f+j))*5+q=off+f*5+j*5+q by omega]at this;exact this
   have t0:wr.cell? ⟨b,off+f*5+j*5,none⟩=some (.int .i64 uk):=by simpa using hcs' 0 _ rfl
   have t1:wr.cell? ⟨b,off+f*5+j*5+1,none⟩=some (.string ux):=by simpa using hcs' 1 _ rfl
   have t2:wr.cell? ⟨b,off+f*5+j*5+2,none⟩=some (.int .i64 ua):=by simpa using hcs' 2 _ rfl
   have t3:wr.cell? ⟨b,off+f*5+j*5+3,none⟩=some (.int .i64 uz):=by simpa using hcs' 3 _ rfl
   have t4:wr.cell? ⟨b,off+f*5+j*5+4,none⟩=some (.slice A' un c'):=by simpa using hcs' 4 _ rfl
   have hbR:=XK.out.blk qm.out (by decide) (by decide) (by decide) (H.out.V7 qm.out);have hmem:u∈kids:=aan hu
   have hrbj:RB (af G i kids f j s r).1 (af G i kids f j s r).2 (ai u):=by
    refine dC.out.slow (xS G kids i f j s r) (jl G kids i f j s r) ?_;have h1:=qO G kids i f j s r;have h2:((kids.drop f).take n)[j]? =some u:=by rw[List.getElem?_take_of_lt hlt,List.getElem?_drop];exact hu
    have h3:=gP _ j u h2;have h4:=iZ ((kids.drop f).take n) (j+1);have e:((kids.drop f).take n).take j=(kids.drop f).take j:=by rw[List.take_take,Nat.min_eq_left hjn]
    rw[e]at h3;omega
   have hvj:qx (af G i kids f j s r).2.isEmpty u=true:=by
    rw[BX (kM G kids i f j s r)];exact Zm HV.out u hmem
   obtain⟨X,hX⟩:∃X,wr.alloc (.cells #[.int .i64 uk,.string ux,.int .i64 ua,.int .i64 uz,.slice A' un c'] 24)=X:=⟨_,rfl⟩
   have hbX:Below wr.heap.size wr X:=by rw[<- hX];exact ae _ _
   have hcall:=fO.out u hmem i (af G i kids f j s r).2 p ms (af G i kids f j s r).1 Vj X A' c' (Hj.out.below hbX) (Na.out.below hbX) hsep (aK.below hbX (by have:=Ho.out;omega) _ _ _ hK') qa (by have:=Ho.out;have:=hbX.size;omega) hvj hrbj;unfold bB at hcall;rw[DY,DX,GR,GQ,hun,<- BO G i kids f j s r u hu]at hcall;have HC:=kH hcall;have qy:=kH hbX;have D9:ak X wr.heap.size 24 #[.int .i64 uk,.string ux,.int .i64 ua,.int .i64 uz,.slice A' un c']:=by rw[<- hX];exact ak.new wr _ _
   have Km:=hbR.below hbX hbR.lt;have r0:=Km.cell 0;have lr:=Km.lt;have y0:=D9.cell 0;have y1:=D9.cell 1;have y2:=D9.cell 2;have y3:=D9.cell 3;have y4:=D9.cell 4;have ly:=D9.lt;have hwj:IntKind.i64.wrap ((j:Int)+1)=(j:Int)+1:=IntWalk.i64_in _ (by omega);clear hcs hcs' hT hK' hkr hbW hu hcall hbX hrbj hvj hmem DY DX GR GQ hun qa hbR D9 Km;go_wp2_with (rw[hX])
   refine HC.out.mono ?_;rintro e w5 ⟨rfl,V5,h5,s5,k5⟩;have H5:=kH h5;have S5:=kH s5;have K5:Hid (KX E (fun g=>g=E.vi\/ms.head? =some g) w w5):=kH (XK.out.trans ((KX.of_below (M:=fun g=>g=E.vi\/ms.head? =some g) qy.out).trans k5 (fun g hg=>.inl hg)) (fun g hg=>.inl hg));clear h5 s5 k5 t0 t1 t2 t3 t4 r0 y0 y1 y2 y3 y4 lr ly;go_wp2_with fail
   go_roundg (gk - 1)
   case measure=>have:=HJ.out;omega
   case rel=>exact⟨j+1,V5,by have:=HJ.out;omega,by simp,H5,S5,K5⟩
  ·have hje:j=n:=by omega
   subst hje;go_wp2_with fail
   go_end0
   exact⟨rfl,Vj,Hj.out,Na.out,XK.out⟩
end Go.Proofs.YtoepemlnlpamlaaGreat
