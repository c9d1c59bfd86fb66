/- The law NamesResolves holds where what it reads is of bulk at most 1048576: it returns true, and its argument reads as before. Part 22: VisM VOk At5 Free Std2. -/
import Derived.Test.YtoepemlnlpamlaaGreatReso02
import Derived.Test.YtoepemlnlpamlaaGreatReso21
set_option maxRecDepth 100000
set_option maxHeartbeats 4000000
namespace Go.Proofs.YtoepemlnlpamlaaGreat
mutual
def qb(nl:Bool):ae->Bool
 | .node k _ _ _ kids=>
  if k=5 then decide (kids.length=3)&&lU false kids
  else if k=11 then lU false kids
  else if k=7\/k=8\/k=12\/k=16 then !nl&&(decide (k≠12) || decide (kids.length=2))&&(decide (k≠16) || decide (kids.length=3))&&lU nl kids
  else lU nl kids
def lU(nl:Bool):List ae->Bool
 | []=>true
 | t::ts=>qb nl t&&lU nl ts
end
theorem abj{nl:Bool}{ts:List ae}:lU nl ts=true->∀t∈ts,qb nl t=true:=by
 induction ts with
 | nil=>intro _ t h;cases h
 | cons a ts ih=>
  intro h t ht;rw[lU,abG]at h;rcases List.mem_cons.1 ht with rfl|ht
  ·exact h.1
  ·exact ih h.2 t ht
theorem zg:∀(a b:List ae),aG (a++b)=aG a+aG b
 | [],b=>by simp[aG]
 | t::a,b=>by
  rw[List.cons_append,aG,aG,zg a b];omega
theorem AZ(l:List ae)(a b:Nat):aG (l.take a)+aG ((l.drop a).take b)<=aG l:=by
 have h1:aG (l.take a)+aG (l.drop a)=aG l:=by rw[<- zg,List.take_append_drop]
 have h2:aG ((l.drop a).take b)+aG ((l.drop a).drop b)=aG (l.drop a):=by rw[<- zg,List.take_append_drop]
 omega
theorem rV(r:RS)(i:Bool)(v:List Int)(c:Int)(t:ae)(b:Bool):(aU (aC r i v) c r.next t b).next=r.next+1:=by cases b<;>rfl
theorem oW(G:bf)(r:RS)(i:Bool)(v:List Int)(c:Int)(t:ae)(s:aQ):(aD G (aC r i v) c r.next t s).1.next=r.next+1:=by
 unfold aD;split<;>rfl
theorem Ky(G:bf)(s:aQ)(r:RS)(i:Bool)(v:List Int)(t:ae):(iN G s r (aC r i v) t).next=r.next+1:=by
 have hu:∀tq,(gT (aC r i v) r.next t tq).next=r.next+1:=fun tq=>by cases tq<;>rfl
 unfold iN;split
 ·exact hu _
 split
 ·exact hu _
 split
 ·exact hu _
 split
 ·exact hu _
 split
 ·exact hu _
 ·rfl
mutual
theorem GY(G:bf):∀(t:ae) (i:Bool) (s:aQ) (r:RS),(aJ G i t s r).1.next<=r.next+au t
 | .node k x a e kids,i,s,r=>by
  have hall:∀s' (u:RS),u.next=r.next+1->(ah G i kids 0 kids.length s' u).1.next<=r.next+au (.node k x a e kids):=fun s' u h=>by
   have:=qK G kids i 0 kids.length s' u;rw[h]at this;simp only[List.drop_zero,List.take_length]at this;rw[au];omega
  have htwo:∀i1 i2 s1 s2 (u:RS),u.next=r.next+1->(ah G i2 kids 2 1 s2 (ah G i1 kids 0 2 s1 u).1).1.next<=r.next+au (.node k x a e kids):=fun i1 i2 s1 s2 u h=>by
   have h1:=qK G kids i1 0 2 s1 u;have h2:=qK G kids i2 2 1 s2 (ah G i1 kids 0 2 s1 u).1;have h3:=AZ kids 2 1;rw[h]at h1;simp only[List.drop_zero]at h1;rw[au];omega
  have hone:∀s' (u:RS),u.next=r.next+1->(ah G i kids 0 2 s' u).1.next<=r.next+au (.node k x a e kids):=fun s' u h=>by
   have h1:=qK G kids i 0 2 s' u;have h3:=AZ kids 2 1;rw[h]at h1;simp only[List.drop_zero]at h1;rw[au];omega
  rw[dh];split
  ·exact hall _ _ (rV r i _ 0 _ _)
  split
  ·exact hall _ _ (rV r i _ 1 _ _)
  split
  ·exact htwo _ _ _ _ _ (rV r i _ 2 _ _)
  split
  ·exact hall _ _ (oW _ _ _ _ _ _ _)
  split
  ·exact hall _ _ rfl
  split
  ·exact hone _ _ (oW _ _ _ _ _ _ _)
  split
  ·exact htwo _ _ _ _ _ (oW _ _ _ _ _ _ _)
  ·exact hall _ _ (Ky _ _ _ _ _ _)
theorem qK(G:bf):∀(ts:List ae) (i:Bool) (f n:Nat) (s:aQ) (r:RS),(ah G i ts f n s r).1.next<=r.next+aG ((ts.drop f).take n)
 | [],_,_,_,_,_=>by rw[ah];simp
 | t::ts,i,f+1,n,s,r=>by
  rw[ah,List.drop_succ_cons];exact qK G ts i f n s r
 | t::ts,i,0,0,s,r=>by rw[ah];simp
 | t::ts,i,0,n+1,s,r=>by
  rw[ah];have h1:=GY G t i s r;have h2:=qK G ts i 0 n (aJ G i t s r).2 (aJ G i t s r).1;simp only[List.drop_zero,List.take_succ_cons,aG]at h2⊢;omega
end
structure rC (a b:RS):Prop where
 next:a.next<=b.next
 aW:b.aW.length+a.next<=a.aW.length+b.next
 ds:b.ds.length+a.next<=a.ds.length+b.next
 aS:(∀x∈a.aS,x.1<(a.next:Int))->∀x∈b.aS,x.1<(b.next:Int)
 qX:b.uses.length=a.uses.length
theorem PT{K V:Type}[DecidableEq K]:∀(l:List (K×V)) (k:K) (v:V),∀x∈cZ l k v,x∈l\/x=(k,v)
 | [],k,v,x,h=>by
  rw[cZ,List.mem_singleton]at h;exact .inr h
 | y::l,k,v,x,h=>by
  rw[cZ]at h;by_cases hk:k=y.1
  ·rw[if_pos hk]at h
   rcases List.mem_cons.1 h with h|h
   ·exact .inr h
   ·exact .inl (List.mem_cons_of_mem _ h)
  ·rw[if_neg hk]at h
   rcases List.mem_cons.1 h with h|h
   ·exact .inl (by rw[h];simp)
   ·rcases PT l k v x h with h|h
    ·exact .inl (List.mem_cons_of_mem _ h)
    ·exact .inr h
theorem Eo(r:RS)(i:Bool)(v:List Int)(h:∀x∈r.aS,x.1<(r.next:Int)):∀x∈(aC r i v).aS,x.1<((r.next+1:Nat):Int):=by
 intro x hx;unfold aC at hx;cases i
 ·have:=h x hx
  omega
 ·rcases PT _ _ _ x hx with hx|rfl
  ·have:=h x hx
   omega
  ·simp
   omega
theorem dM:Eu rC where
 refl:=fun r=>⟨abE _,abE _,abE _,fun h=>h,rfl⟩
 trans:=fun h k=>⟨abF h.next k.next,by have:=h.aW;have:=k.aW;omega,by have:=h.ds;have:=k.ds;omega,fun hv=>k.aS (h.aS hv),by rw[k.qX,h.qX]⟩
 none_:=fun r i v=>⟨Nat.le_succ _,by show r.aW.length+r.next<=r.aW.length+(r.next+1);omega,by show r.ds.length+r.next<=r.ds.length+(r.next+1);omega,Eo r i v,rfl⟩
 say:=fun r i v c t=>⟨Nat.le_succ _,by simp[qg,aC];omega,by show r.ds.length+r.next<=r.ds.length+(r.next+1);omega,Eo r i v,rfl⟩
 decl:=fun r i v c t=>⟨Nat.le_succ _,by show r.aW.length+r.next<=r.aW.length+(r.next+1);omega,by simp[kU,aC];omega,Eo r i v,List.length_set⟩
 use:=fun r i v k=>⟨Nat.le_succ _,by show r.aW.length+r.next<=r.aW.length+(r.next+1);omega,by show r.ds.length+r.next<=r.ds.length+(r.next+1);omega,Eo r i v,List.length_set⟩
 owner:=fun r o=>⟨abE _,abE _,abE _,fun h=>h,rfl⟩
theorem zA(G:bf)(t:ae)(i:Bool)(s:aQ)(r:RS):rC r (aJ G i t s r).1:=Br dM G t i s r
theorem ym(G:bf)(ts:List ae)(i:Bool)(f n:Nat)(s:aQ)(r:RS):rC r (ah G i ts f n s r).1:=qo dM G ts i f n s r
theorem qD(l:kP)(s:aQ):(ak (l::s)).length=l.length+(ak s).length:=by
 show(List.flatMap (fun l:kP=>l.map (·.2)) (l::s)).length=l.length+(List.flatMap (fun l:kP=>l.map (·.2)) s).length;rw[List.flatMap_cons,abP,List.length_map]
theorem PU{K V:Type}[DecidableEq K]:∀(l:List (K×V)) (k:K) (v:V),(cZ l k v).length<=l.length+1
 | [],k,v=>by simp[cZ]
 | y::l,k,v=>by
  rw[cZ];split
  ·simp
  ·have:=PU l k v
   simp;omega
theorem Rz:∀(l:kP) (x:kP),(l.foldl (fun a y=>cZ a y.1 y.2) x).length<=x.length+l.length
 | [],x=>by simp
 | y::l,x=>by
  rw[List.foldl_cons];have h1:=Rz l (cZ x y.1 y.2);have h2:=PU x y.1 y.2;simp only[abR];omega
theorem RP(s:aQ)(l:kP):(ak (kr s l)).length<=(ak s).length+l.length:=by
 cases s with
 | nil=>simp[kr]
 | cons x s=>
  have:=Rz l x;show(ak ((l.foldl (fun a y=>cZ a y.1 y.2) x)::s)).length<=_;rw[qD,qD];have h2:(l.foldl (fun a y=>cZ a y.1 y.2) x).length<=x.length+l.length:=this;clear this;exact abF (Nat.add_le_add_right h2 _) (by omega)
theorem Oq(s:aQ):(ak s.tail).length<=(ak s).length:=by
 cases s with
 | nil=>simp
 | cons x s=>
  rw[qD];show(ak s).length<=_;omega
theorem J6(G:bf)(r:RS)(c:Int)(n:Nat)(t:ae)(s:aQ):(ak (aD G r c n t s).2).length<=(ak s).length+1:=by
 unfold aD;split
 ·show(ak s).length<=_
  omega
 ·exact RP _ _
theorem Q8(G:bf)(r:RS)(c:Int)(n:Nat)(t:ae)(s:aQ):((aD G r c n t ([]::s)).2.headD []).length<=1:=by
 unfold aD;split
 ·simp
 ·simp[kr,cZ]
mutual
theorem WX(G:bf):∀(t:ae) (i:Bool) (s:aQ) (r:RS),(ak (aJ G i t s r).2).length+r.next<=(ak s).length+(aJ G i t s r).1.next
 | .node k x a e kids,i,s,r=>by
  by_cases h5:k=5
  ·have h2:(aJ G i (.node k x a e kids) s r).2=s:=by rw[dh,if_neg (by omega),if_neg (by omega),if_pos h5]
   rw[h2];have:=(zA G (.node k x a e kids) i s r).next;omega
  rw[dh];split
  ·have h:=iZ G kids i 0 kids.length s { aU (aC r i (aj (ak s))) 0 r.next (.node k x a e kids) (decide ((aT G.globals x).getD 0≠(r.next:Int))) with owner:=(r.next:Int) }
   have hn:({ aU (aC r i (aj (ak s))) 0 r.next (.node k x a e kids) (decide ((aT G.globals x).getD 0≠(r.next:Int))) with owner:=(r.next:Int) }:RS).next=r.next+1:=rV r i _ 0 _ _;omega
  split
  ·have h:=iZ G kids i 0 kids.length s (aU (aC r i (aj (ak s))) 1 r.next (.node k x a e kids) (decide ((aT G.fields x).getD 0≠(r.next:Int))))
   rw[rV]at h;omega
  split
  ·have h:=iZ G kids i 0 kids.length (aD G (aC r i (aj (ak s))) 3 r.next (.node k x a e kids) s).2 (aD G (aC r i (aj (ak s))) 3 r.next (.node k x a e kids) s).1
   have h2:=J6 G (aC r i (aj (ak s))) 3 r.next (.node k x a e kids) s;rw[oW]at h;omega
  split
  ·have h:=iZ G kids i 0 kids.length ([]::s) (aC r i (aj (ak s)))
   have h2:=Oq (ah G i kids 0 kids.length ([]::s) (aC r i (aj (ak s)))).2;have hn:(aC r i (aj (ak s))).next=r.next+1:=rfl;rw[qD]at h;dsimp only
   simp only[List.length_nil]at h;omega
  split
  ·have h:=iZ G kids i 0 2 s (aD G (aC r i (aj (ak s))) 4 r.next (.node k x a e kids) ([]::s)).1
   have h2:=RP (ah G i kids 0 2 s (aD G (aC r i (aj (ak s))) 4 r.next (.node k x a e kids) ([]::s)).1).2 ((aD G (aC r i (aj (ak s))) 4 r.next (.node k x a e kids) ([]::s)).2.headD []);have h3:=Q8 G (aC r i (aj (ak s))) 4 r.next (.node k x a e kids) s;rw[oW]at h;dsimp only
   omega
  split
  ·have h:=iZ G kids i 0 2 s (aD G (aC r i (aj (ak s))) 5 r.next (.node k x a e kids) ([]::s)).1
   have h3:=Q8 G (aC r i (aj (ak s))) 5 r.next (.node k x a e kids) s;have h4:=iZ G kids i 2 1 ((aD G (aC r i (aj (ak s))) 5 r.next (.node k x a e kids) ([]::s)).2.headD []::(ah G i kids 0 2 s (aD G (aC r i (aj (ak s))) 5 r.next (.node k x a e kids) ([]::s)).1).2) (ah G i kids 0 2 s (aD G (aC r i (aj (ak s))) 5 r.next (.node k x a e kids) ([]::s)).1).1;have h5:=Oq (ah G i kids 2 1 ((aD G (aC r i (aj (ak s))) 5 r.next (.node k x a e kids) ([]::s)).2.headD []::(ah G i kids 0 2 s (aD G (aC r i (aj (ak s))) 5 r.next (.node k x a e kids) ([]::s)).1).2) (ah G i kids 0 2 s (aD G (aC r i (aj (ak s))) 5 r.next (.node k x a e kids) ([]::s)).1).1).2;rw[oW]at h;rw[qD]at h4;dsimp only
   omega
  ·have h:=iZ G kids i 0 kids.length s (iN G s r (aC r i (aj (ak s))) (.node k x a e kids))
   rw[Ky]at h;omega
theorem iZ(G:bf):∀(ts:List ae) (i:Bool) (f n:Nat) (s:aQ) (r:RS),(ak (ah G i ts f n s r).2).length+r.next<=(ak s).length+(ah G i ts f n s r).1.next
 | [],_,_,_,_,_=>by rw[ah];exact abE _
 | t::ts,i,f+1,n,s,r=>by rw[ah];exact iZ G ts i f n s r
 | t::ts,i,0,0,s,r=>by rw[ah];exact abE _
 | t::ts,i,0,n+1,s,r=>by
  rw[ah];have h1:=WX G t i s r;have h2:=iZ G ts i 0 n (aJ G i t s r).2 (aJ G i t s r).1;omega
end
structure RB (r:RS) (s:aQ) (n:Nat):Prop where
 aW:r.aW.length<=r.next
 ds:r.ds.length<=r.next
 Xa:(ak s).length<=r.next
 aS:∀x∈r.aS,x.1<(r.next:Int)
 room:r.next+n<=r.uses.length
 most:r.uses.length<=1000000
theorem RB.slow{r q:RS}{s s':aQ}{n m:Nat}(h:RB r s n)(k:rC r q)(ha:(ak s').length+r.next<=(ak s).length+q.next)(hn:q.next+m<=r.next+n):RB q s' m where
 aW:=by have:=h.aW;have:=k.aW;omega
 ds:=by have:=h.ds;have:=k.ds;omega
 Xa:=by have:=h.Xa;omega
 aS:=k.aS h.aS
 room:=by have:=h.room;rw[k.qX];omega
 most:=by rw[k.qX];exact h.most
theorem BZ(G:bf)(i:Bool):∀(ts:List ae) (f n:Nat) (s:aQ) (r:RS) (t:ae),ts[f+n]? =some t ->
 ah G i ts f (n+1) s r=aJ G i t (ah G i ts f n s r).2 (ah G i ts f n s r).1
 | [],f,n,s,r,t,h=>by simp at h
 | u::ts,f+1,n,s,r,t,h=>by
  rw[ah,ah];exact BZ G i ts f n s r t (by rw[show f+1+n=(f+n)+1 by omega]at h;simpa using h)
 | u::ts,0,0,s,r,t,h=>by
  simp at h;subst h;rw[ah,ah]
  cases ts with
  | nil=>simp only[ah]
  | cons=>simp only[ah]
 | u::ts,0,n+1,s,r,t,h=>by
  rw[ah,ah];exact BZ G i ts 0 n _ _ t (by rw[Nat.zero_add];simpa using h)
theorem Hm(G:bf)(i:Bool)(ts:List ae)(f:Nat)(s:aQ)(r:RS):ah G i ts f 0 s r=(r,s):=by
 induction ts generalizing f with
 | nil=>rw[ah]
 | cons t ts ih=>
  cases f with
  | zero=>rw[ah]
  | succ f=>rw[ah];exact ih f
theorem He{nl:Bool}:∀{ts:List ae},(∀t∈ts,qb nl t=true)->lU nl ts=true
 | [],_=>by rw[lU]
 | t::ts,h=>by
  rw[lU,abG];exact⟨h t (by simp),He fun u hu=>h u (by simp[hu])⟩
mutual
theorem vok_inT:∀(t:ae),Dn t=true->qb false t=true
 | .node k x a e kids,h=>by
  rw[Dn]at h;simp only[abG,Bool.or_eq_true,decide_eq_true_eq]at h;obtain⟨⟨⟨hk,h12⟩,h16⟩,hks⟩:=h;have hv:=E8 kids hks;rw[qb,if_neg (show ¬k=5 by omega)];split
  ·exact hv
  split
  ·simp only[Bool.not_false,Bool.true_and,abG,Bool.or_eq_true,decide_eq_true_eq]
   exact⟨⟨h12,h16⟩,hv⟩
  ·exact hv
theorem E8:∀(ts:List ae),lV ts=true->lU false ts=true
 | [],_=>by rw[lU]
 | t::ts,h=>by
  rw[lV,abG]at h;rw[lU,abG];exact⟨vok_inT t h.1,E8 ts h.2⟩
end
theorem Qy{c:ae}(h:fJ c=true)(hk:c.kind=9):c.kids=[]:=by
 rw[jV,abG]at h;obtain⟨sh,hs,hf⟩:=jL h.1;obtain⟨-,hc,-⟩:=mD hf;rw[hk]at hs;have he:some _=some sh:=hs;cases he
 have:c.kids.length=0:=by simpa [qB] using hc
 exact List.length_eq_zero_iff.1 this
theorem LZ{f:ae}(h:fJ f=true)(hk:f.kind=4):∀c∈f.kids,c.kind=9:=by
 rw[jV,abG]at h;obtain⟨sh,hs,hf⟩:=jL h.1;obtain⟨-,-,oG⟩:=mD hf;rw[hk]at hs;have he:some _=some sh:=hs;cases he
 intro c hc;obtain⟨p,hp,hpk⟩:=nG _ f.kids 0 oG c hc;rcases hp with hp|hp
 ·cases hp
 ·simp only[List.mem_cons,List.not_mem_nil,or_false]at hp
  subst hp;simpa [bR] using hpk
theorem XC{f:ae}(h:fJ f=true)(hk:f.kind=4):qb true f=true:=by
 have h1:=LZ h hk;have h2:=jW h;obtain⟨k,x,a,e,kids⟩:=f;have hk':k=4:=hk;subst hk';rw[qb,if_neg (by decide),if_neg (by decide),if_neg (by decide)];refine He fun c hc=>?_
 have h3:=Qy (h2 c hc) (h1 c hc);have h4:=h1 c hc;obtain⟨k,x,a,e,kids⟩:=c;have h5:kids=[]:=h3;have h6:k=9:=h4;subst h5 h6;rw[qb,if_neg (by decide),if_neg (by decide),if_neg (by decide),lU]
theorem vok_top{t:ae}(h:fJ t=true)(ht:uu t=true):qb true t=true:=by
 have h2:=jW h;obtain⟨k,x,a,e,kids⟩:=t;rw[uu,Bool.or_eq_true,abG,abG,abG,decide_eq_true_eq,decide_eq_true_eq,decide_eq_true_eq]at ht;rcases ht with⟨rfl,hf⟩| ⟨⟨rfl,hl⟩,hin⟩
 ·rw[qb,if_neg (by decide),if_neg (by decide),if_neg (by decide)]
  refine He fun f hfm=>?_
  have h3:=List.all_eq_true.1 hf f hfm;rw[abG,decide_eq_true_eq]at h3;exact XC (h2 f hfm) h3.1
 ·rw[qb,if_pos rfl,abG,decide_eq_true_eq]
  exact⟨hl,E8 kids hin⟩
theorem Nl{t:ae}(h:iJ t=true):qb true t=true:=by
 obtain⟨h1,h2⟩:=KA h;unfold iJ at h;rw[abG]at h;have h3:=jW h.2;obtain⟨k,x,a,e,kids⟩:=t;have hk:k=2:=h1;subst hk;rw[qb,if_neg (by decide),if_neg (by decide),if_neg (by decide)];exact He fun c hc=>vok_top (h3 c hc) (h2 c hc)
def vL(q:ae):Prop:=q.kids=[]/\(q.kind<2\/8<q.kind)/\q.kind<11
theorem QD{q:ae}(h:vL q):ES q=true:=by
 obtain⟨h1,h2,h3⟩:=h;obtain⟨k,x,a,e,kids⟩:=q;have hk:kids=[]:=h1;subst hk;have h2':k<2\/8<k:=h2;have h3':k<11:=h3;rw[ES];simp only[abG,Bool.or_eq_true,decide_eq_true_eq];exact⟨⟨⟨⟨h2',.inl (by omega)⟩,.inl (by omega)⟩,.inr rfl⟩,by rw[tH]⟩
theorem Io{q:ae}(h:fJ q=true)(hk:gG di q.kind=true):vL q:=by
 rw[jV,abG]at h;obtain⟨sh,hs,hf⟩:=jL h.1;obtain⟨-,hc,-⟩:=mD hf;unfold gG di at hk;simp only[Bool.or_eq_true,decide_eq_true_eq]at hk;refine⟨?_,by omega,by omega⟩;rcases hk with hk|hk|hk
 all_goals
  rw[hk]at hs;have he:some _=some sh:=hs;cases he
  have:q.kids.length=0:=by simpa [qB] using hc
  exact List.length_eq_zero_iff.1 this
theorem VF{p:ae}(h:fJ p=true)(hk:p.kind=7\/p.kind=8):∀q∈p.kids,vL q:=by
 have h2:=jW h;rw[jV,abG]at h;obtain⟨sh,hs,hf⟩:=jL h.1;obtain⟨-,-,oG⟩:=mD hf;intro q hq;obtain⟨p1,hp,hpk⟩:=nG _ p.kids 0 oG q hq;refine Io (h2 q hq) ?_;rcases hk with hk|hk
 all_goals
  rw[hk]at hs;have he:some _=some sh:=hs;cases he
  rcases hp with hp|hp
  ·cases hp
  ·simp only[List.mem_cons,List.not_mem_nil,or_false]at hp
   subst hp;exact hpk
theorem K4{x:ByteArray}{a e:Int}{kids:List ae}(h:fJ (.node 5 x a e kids)=true):
 ∃b c d,kids=[b,c,d]/\b.kind=6/\(∀p∈b.kids,(p.kind=7\/p.kind=8)/\∀q∈p.kids,vL q)/\vL c/\d.kind=11/\ES d=true:=by
 have h2:=jW h;rw[jV,abG]at h;obtain⟨sh,hs,hf⟩:=jL h.1;obtain⟨-,hc,oG⟩:=mD hf;have he:some _=some sh:=hs;cases he
 have hl:kids.length=3:=by simpa [qB,ae.kids] using hc
 match kids,hl,oG,h2 with
 | [b,c,d],_,oG,h2=>
  have hkf':df ⟨cO,[bR [6],gG di,bR [11]],none,0⟩ 0 [b,c,d]=true:=oG;simp only[df,ko,abG,abL,abM]at hkf';obtain⟨hb,hc,hd,-⟩:=hkf';have hb6:b.kind=6:=by simpa [bR] using hb
  have hd11:d.kind=11:=by simpa [bR] using hd
  have hsb:=h2 b (by simp[ae.kids]);refine⟨b,c,d,rfl,hb6,fun p hp=>?_,Io (h2 c (by simp[ae.kids])) hc,hd11,Ll d (h2 d (by simp[ae.kids])) (by omega)⟩;have hps:=jW hsb p hp
  have hpk:p.kind=7\/p.kind=8:=by
   rw[jV,abG]at hsb;obtain⟨sh,hs,hf⟩:=jL hsb.1;obtain⟨-,-,oG⟩:=mD hf;rw[hb6]at hs;have he:some _=some sh:=hs;cases he
   obtain⟨p1,hp1,hpk⟩:=nG _ b.kids 0 oG p hp;rcases hp1 with hp1|hp1
   ·cases hp1
    simpa [bR] using hpk
   ·cases hp1
  exact⟨hpk,VF hps hpk⟩
theorem Lh:∀{l:List ae},(∀q∈l,vL q)->tH l=true/\∀q∈l,q.kind≠12
 | [],_=>⟨by rw[tH],by simp⟩
 | q::l,h=>by
  obtain⟨h1,h2⟩:=Lh (l:=l) fun u hu=>h u (by simp[hu])
  have hq:=h q (by simp);refine⟨by rw[tH,abG];exact⟨QD hq,h1⟩,fun u hu=>?_⟩;rcases List.mem_cons.1 hu with rfl|hu
  ·have:=hq.2.2
   omega
  ·exact h2 u hu
theorem bab(k j:ByteArray):(k==j)=decide (k=j):=by
 obtain⟨a⟩:=k;obtain⟨b⟩:=j;show(a==b)=_;rw[Bool.eq_iff_iff];simp
instance lawfulBA:LawfulBEq ByteArray where
 eq_of_beq {a b} h:=by
  rw[bab]at h;exact of_decide_eq_true h
 rfl {a}:=by
  rw[bab];simp
def J8(t:ae)(S:List (List ByteArray)):List (List ByteArray):=if t.kind=12 then(match S with| []=>[]|l::S=>(l++[t.text])::S) else S
theorem qL(k:Int)(x:ByteArray)(t:ae)(ts:List ae)(i:Nat)(S:List (List ByteArray))(out:List ByteArray):
 uW k x (t::ts) i S out=uW k x ts (i+1) (J8 t S) (nI t (if k=16/\i=2 then [x]::S else S) out):=by
 first|rfl|(rw[uW.eq_def];rfl)
theorem JJ:∀(ds:List Dc) (i:Nat) (l:List (Int×Int)) (u:Int),(ds.map (·.node)).Nodup->bG (y7 ds i l) u=match ds.findIdx? fun d=>decide (d.node=u) with|some j=>some ((i+j:Nat):Int)|none=>bG l u
 | [],i,l,u,_=>by simp[y7]
 | d::ds,i,l,u,hn=>by
  rw[List.map_cons,List.nodup_cons]at hn;rw[y7,JJ ds (i+1) _ u hn.2,List.findIdx?_cons];by_cases h:d.node=u
  ·have hnone:(ds.findIdx? fun d=>decide (d.node=u))=none:=by
    rw[List.findIdx?_eq_none_iff];intro y hy;rw[decide_eq_false_iff_not];exact fun e=>hn.1 (by rw[h,<- e];exact List.mem_map.2 ⟨y,hy,rfl⟩)
   rw[hnone,if_pos (by simp[h])];simp only;rw[nE,if_pos h.symm];rfl
  ·rw[if_neg (by simp[h])]
   cases hf:ds.findIdx? fun d=>decide (d.node=u) with
   | none=>
    simp only[Option.map_none];rw[nE,if_neg (fun e=>h e.symm)]
   | some j=>
    simp only[Option.map_some];congr 2
    omega
theorem Ac{ds:List Dc}(hn:(ds.map (·.node)).Nodup){j:Nat}{d:Dc}(hd:ds[j]? =some d):nV ds d.node=(j:Int):=by
 unfold nV;rw[JJ ds 0 _ _ hn]
 have hf:(ds.findIdx? fun x=>decide (x.node=d.node))=some j:=by
  obtain⟨hlt,he⟩:=abK.1 hd;rw[List.findIdx?_eq_some_iff_getElem];refine⟨hlt,by rw[he];simp,fun q hq=>?_⟩;rw[decide_eq_true_eq];intro e;have h1:=List.pairwise_iff_getElem.1 hn q j (by simp;omega) (by simpa using hlt) hq;simp only[List.getElem_map]at h1;exact h1 (by rw[e,he])
 rw[hf];simp
theorem U2{ds:List Dc}(hn:(ds.map (·.node)).Nodup)(hp:∀d∈ds,0<=d.node):nV ds (-1)= -1:=by
 unfold nV;rw[JJ ds 0 _ _ hn]
 have hf:(ds.findIdx? fun x=>decide (x.node= -1))=none:=by
  rw[List.findIdx?_eq_none_iff];intro y hy;have:=hp y hy;simp;omega
 rw[hf];rfl
theorem Lf{V W:Type}(f:V->W):∀(l:List (Int×V)) (k:Int),bG (l.map fun x=>(x.1,f x.2)) k=(bG l k).map f
 | [],_=>rfl
 | x::l,k=>by
  rw[List.map_cons,bG,bG];by_cases h:k=x.1
  ·rw[if_pos h,if_pos h];rfl
  ·rw[if_neg h,if_neg h,Lf f l k]
theorem OM(x:ByteArray)(a e:Int)(ks:List ae):
 (aJ (dG (.node 2 x a e ks)) false (.node 2 x a e ks) [] ⟨[],List.replicate (au (.node 2 x a e ks)) (-1),[],[],0,0⟩).1=(ah (sM ks) false ks 0 ks.length [] ⟨[],List.replicate (au (.node 2 x a e ks)) (-1),[],[],1,0⟩).1:=by
 simp only[aJ];rfl
theorem Zb(s:aQ):ak s=s.flatten.map (·.2):=by
 unfold ak;rw[List.flatMap_def,List.map_flatten]
theorem F9:∀{s:aQ}{x:ByteArray}{n:Int},eP s x=some n->(x,n)∈s.flatten
 | [],_,_,h=>by cases h
 | l::s,x,n,h=>by
  rw[eP]at h;rw[List.flatten_cons,List.mem_append]
  have hl:∀{l:kP}{n:Int},bG l x=some n->(x,n)∈l:=by
   intro l
   induction l with
   | nil=>intro n h;cases h
   | cons y l ih=>
    intro n h;rw[bG]at h;by_cases hx:x=y.1
    ·rw[if_pos hx,abJ]at h
     rw[hx,<- h];simp
    ·rw[if_neg hx]at h
     exact List.mem_cons_of_mem _ (ih h)
  cases hq:aT l x with
  | some k=>
   rw[hq]at h;simp only[abJ]at h;subst h;exact .inl (hl hq)
  | none=>
   rw[hq]at h;exact .inr (F9 h)
theorem XR{r0 q:RS}(h:qc r0 q)(h0:r0.ds=[]):(q.ds.map (·.node)).Nodup/\∀d∈q.ds,(r0.next:Int)<=d.node:=by
 obtain⟨l,e,hp,hb⟩:=h.ds;rw[h0,List.nil_append]at e;rw[e];refine⟨?_,fun d hd=>(hb d hd).1⟩;refine List.Pairwise.map _ (fun a b hab=>?_) hp;omega
theorem FC{K V:Type}[DecidableEq K]:∀{l:List (K×V)}{k:K}{v:V},(l.map (·.1)).Nodup->(k,v)∈l->bG l k=some v
 | [],_,_,_,h=>by cases h
 | x::l,k,v,hn,h=>by
  rw[List.map_cons,List.nodup_cons]at hn;rw[bG];rcases List.mem_cons.1 h with rfl|h
  ·rw[if_pos rfl]
  ·by_cases hk:k=x.1
   ·exact absurd (List.mem_map.2 ⟨_,h,hk⟩) hn.1
   ·rw[if_neg hk]
    exact FC hn.2 h
theorem F8:∀{s:aQ}{x:ByteArray}{n:Int},(s.flatten.map (·.1)).Nodup->(x,n)∈s.flatten->eP s x=some n
 | [],_,_,_,h=>by cases h
 | l::s,x,n,hn,h=>by
  rw[List.flatten_cons,List.map_append,List.nodup_append]at hn;obtain⟨h1,h2,h3⟩:=hn;rw[List.flatten_cons,List.mem_append]at h;rw[eP];rcases h with h|h
  ·have:aT l x=some n:=FC h1 h
   rw[this]
  ·have hx:aT l x=none:=by
    cases hq:aT l x with
    | none=>rfl
    | some k=>
     have hm:(x,k)∈[l].flatten:=F9 (s:=[l]) (by rw[eP,hq]);have hm':(x,k)∈l:=by simpa using hm
     exact absurd rfl (h3 x (List.mem_map.2 ⟨_,hm',rfl⟩) x (List.mem_map.2 ⟨_,h,rfl⟩))
   rw[hx];exact F8 h2 h
section
variable (G:bf) (k0:Int) (nm:ByteArray) (a' e':Int)
end
end Go.Proofs.YtoepemlnlpamlaaGreat
