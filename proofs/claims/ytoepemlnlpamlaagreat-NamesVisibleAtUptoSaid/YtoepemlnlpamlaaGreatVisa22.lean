/- The law NamesVisibleAt holds where what it reads is of bulk at most 1048576: it returns true, and its arguments read as before. Part 22: VisM VOk At5 Free Std2. -/
import Derived.Test.YtoepemlnlpamlaaGreatVisa02
import Derived.Test.YtoepemlnlpamlaaGreatVisa21
set_option maxRecDepth 100000
set_option maxHeartbeats 4000000
namespace Go.Proofs.YtoepemlnlpamlaaGreat
mutual
def qA(nl:Bool):ae->Bool
 | .node k _ _ _ kids=>
  if k=5 then decide (kids.length=3)&&mG false kids
  else if k=11 then mG false kids
  else if k=7\/k=8\/k=12\/k=16 then !nl&&(decide (k≠12) || decide (kids.length=2))&&(decide (k≠16) || decide (kids.length=3))&&mG nl kids
  else mG nl kids
def mG(nl:Bool):List ae->Bool
 | []=>true
 | t::ts=>qA nl t&&mG nl ts
end
theorem VOks_mem{B:Bool}{ts:List ae}:mG B ts=true->∀t∈ts,qA B t=true:=by
 induction ts with
 | nil=>intro _ t h;cases h
 | cons a ts ih=>
  intro h t A;rw[mG,aad]at h;rcases List.mem_cons.1 A with rfl|A
  ·exact h.1
  ·exact ih h.2 t A
theorem zT:∀(a b:List ae),aD (a++b)=aD a+aD b
 | [],b=>by simp[aD]
 | t::a,b=>by
  rw[List.cons_append,aD,aD,zT a b];omega
theorem BQ(l:List ae)(a b:Nat):aD (l.take a)+aD ((l.drop a).take b)<=aD l:=by
 have A:aD (l.take a)+aD (l.drop a)=aD l:=by rw[<- zT,List.take_append_drop]
 have B:aD ((l.drop a).take b)+aD ((l.drop a).drop b)=aD (l.drop a):=by rw[<- zT,List.take_append_drop]
 omega
theorem sJ(r:RS)(i:Bool)(v:List Int)(c:Int)(t:ae)(b:Bool):(aW (aG r i v) c r.next t b).next=r.next+1:=by cases b<;>rfl
theorem pM(G:bC)(r:RS)(i:Bool)(v:List Int)(c:Int)(t:ae)(s:aS):(aH G (aG r i v) c r.next t s).1.next=r.next+1:=by
 unfold aH;split<;>rfl
theorem LH(G:bC)(s:aS)(r:RS)(i:Bool)(v:List Int)(t:ae):(iR G s r (aG r i v) t).next=r.next+1:=by
 have A:∀B,(gV (aG r i v) r.next t B).next=r.next+1:=fun B=>by cases B<;>rfl
 unfold iR;split
 ·exact A _
 split
 ·exact A _
 split
 ·exact A _
 split
 ·exact A _
 split
 ·exact A _
 ·rfl
mutual
theorem Iz(G:bC):∀(t:ae) (i:Bool) (s:aS) (r:RS),(aM G i t s r).1.next<=r.next+ai t
 | .node k x a e kids,i,s,r=>by
  have A:∀C (u:RS),u.next=r.next+1->(ah G i kids 0 kids.length C u).1.next<=r.next+ai (.node k x a e kids):=fun C u h=>by
   have:=rq G kids i 0 kids.length C u;rw[h]at this;simp only[List.drop_zero,List.take_length]at this;rw[ai];omega
  have B:∀F H s1 I (u:RS),u.next=r.next+1->(ah G H kids 2 1 I (ah G F kids 0 2 s1 u).1).1.next<=r.next+ai (.node k x a e kids):=fun F H s1 I u h=>by
   have D:=rq G kids F 0 2 s1 u;have K:=rq G kids H 2 1 I (ah G F kids 0 2 s1 u).1;have J:=BQ kids 2 1;rw[h]at D;simp only[List.drop_zero]at D;rw[ai];omega
  have E:∀C (u:RS),u.next=r.next+1->(ah G i kids 0 2 C u).1.next<=r.next+ai (.node k x a e kids):=fun C u h=>by
   have D:=rq G kids i 0 2 C u;have J:=BQ kids 2 1;rw[h]at D;simp only[List.drop_zero]at D;rw[ai];omega
  rw[dx];split
  ·exact A _ _ (sJ r i _ 0 _ _)
  split
  ·exact A _ _ (sJ r i _ 1 _ _)
  split
  ·exact B _ _ _ _ _ (sJ r i _ 2 _ _)
  split
  ·exact A _ _ (pM _ _ _ _ _ _ _)
  split
  ·exact A _ _ rfl
  split
  ·exact E _ _ (pM _ _ _ _ _ _ _)
  split
  ·exact B _ _ _ _ _ (pM _ _ _ _ _ _ _)
  ·exact A _ _ (LH _ _ _ _ _ _)
theorem rq(G:bC):∀(ts:List ae) (i:Bool) (f n:Nat) (s:aS) (r:RS),(ah G i ts f n s r).1.next<=r.next+aD ((ts.drop f).take n)
 | [],_,_,_,_,_=>by rw[ah];simp
 | t::ts,i,f+1,n,s,r=>by
  rw[ah,List.drop_succ_cons];exact rq G ts i f n s r
 | t::ts,i,0,0,s,r=>by rw[ah];simp
 | t::ts,i,0,n+1,s,r=>by
  rw[ah];have B:=Iz G t i s r;have A:=rq G ts i 0 n (aM G i t s r).2 (aM G i t s r).1;simp only[List.drop_zero,List.take_succ_cons,aD]at A⊢;omega
end
structure rX (a b:RS):Prop where
 next:a.next<=b.next
 aY:b.aY.length+a.next<=a.aY.length+b.next
 ds:b.ds.length+a.next<=a.ds.length+b.next
 aR:(∀x∈a.aR,x.1<(a.next:Int))->∀x∈b.aR,x.1<(b.next:Int)
 sU:b.uses.length=a.uses.length
theorem JW{K V:Type}[DecidableEq K]:∀(l:List (K×V)) (k:K) (v:V),∀x∈dh l k v,x∈l\/x=(k,v)
 | [],k,v,x,h=>by
  rw[dh,List.mem_singleton]at h;exact .inr h
 | y::l,k,v,x,h=>by
  rw[dh]at h;by_cases A:k=y.1
  ·rw[if_pos A]at h
   rcases List.mem_cons.1 h with h|h
   ·exact .inr h
   ·exact .inl (List.mem_cons_of_mem _ h)
  ·rw[if_neg A]at h
   rcases List.mem_cons.1 h with h|h
   ·exact .inl (by rw[h];simp)
   ·rcases JW l k v x h with h|h
    ·exact .inl (List.mem_cons_of_mem _ h)
    ·exact .inr h
theorem E9(r:RS)(i:Bool)(v:List Int)(h:∀x∈r.aR,x.1<(r.next:Int)):∀x∈(aG r i v).aR,x.1<((r.next+1:Nat):Int):=by
 intro x A;unfold aG at A;cases i
 ·have:=h x A
  omega
 ·rcases JW _ _ _ x A with A|rfl
  ·have:=h x A
   omega
  ·simp
   omega
theorem dQ:CQ rX where
 refl:=fun r=>⟨aab _,aab _,aab _,fun h=>h,rfl⟩
 trans:=fun h k=>⟨aac h.next k.next,by have:=h.aY;have:=k.aY;omega,by have:=h.ds;have:=k.ds;omega,fun A=>k.aR (h.aR A),by rw[k.sU,h.sU]⟩
 none_:=fun r i v=>⟨Nat.le_succ _,by show r.aY.length+r.next<=r.aY.length+(r.next+1);omega,by show r.ds.length+r.next<=r.ds.length+(r.next+1);omega,E9 r i v,rfl⟩
 say:=fun r i v c t=>⟨Nat.le_succ _,by simp[qF,aG];omega,by show r.ds.length+r.next<=r.ds.length+(r.next+1);omega,E9 r i v,rfl⟩
 decl:=fun r i v c t=>⟨Nat.le_succ _,by show r.aY.length+r.next<=r.aY.length+(r.next+1);omega,by simp[lM,aG];omega,E9 r i v,List.length_set⟩
 use:=fun r i v k=>⟨Nat.le_succ _,by show r.aY.length+r.next<=r.aY.length+(r.next+1);omega,by show r.ds.length+r.next<=r.ds.length+(r.next+1);omega,E9 r i v,List.length_set⟩
 owner:=fun r o=>⟨aab _,aab _,aab _,fun h=>h,rfl⟩
theorem Ai(G:bC)(t:ae)(i:Bool)(s:aS)(r:RS):rX r (aM G i t s r).1:=zg dQ G t i s r
theorem yU(G:bC)(ts:List ae)(i:Bool)(f n:Nat)(s:aS)(r:RS):rX r (ah G i ts f n s r).1:=qJ dQ G ts i f n s r
theorem qU(l:lH)(s:aS):(ay (l::s)).length=l.length+(ay s).length:=by
 show(List.flatMap (fun l:lH=>l.map (·.2)) (l::s)).length=l.length+(List.flatMap (fun l:lH=>l.map (·.2)) s).length;rw[List.flatMap_cons,aam,List.length_map]
theorem QU{K V:Type}[DecidableEq K]:∀(l:List (K×V)) (k:K) (v:V),(dh l k v).length<=l.length+1
 | [],k,v=>by simp[dh]
 | y::l,k,v=>by
  rw[dh];split
  ·simp
  ·have:=QU l k v
   simp;omega
theorem Td:∀(l:lH) (x:lH),(l.foldl (fun a y=>dh a y.1 y.2) x).length<=x.length+l.length
 | [],x=>by simp
 | y::l,x=>by
  rw[List.foldl_cons];have A:=Td l (dh x y.1 y.2);have B:=QU x y.1 y.2;simp only[aao];omega
theorem Tx(s:aS)(l:lH):(ay (kT s l)).length<=(ay s).length+l.length:=by
 cases s with
 | nil=>simp[kT]
 | cons x s=>
  have:=Td l x;show(ay ((l.foldl (fun a y=>dh a y.1 y.2) x)::s)).length<=_;rw[qU,qU];have A:(l.foldl (fun a y=>dh a y.1 y.2) x).length<=x.length+l.length:=this;clear this;exact aac (Nat.add_le_add_right A _) (by omega)
theorem Pn(s:aS):(ay s.tail).length<=(ay s).length:=by
 cases s with
 | nil=>simp
 | cons x s=>
  rw[qU];show(ay s).length<=_;omega
theorem La(G:bC)(r:RS)(c:Int)(n:Nat)(t:ae)(s:aS):(ay (aH G r c n t s).2).length<=(ay s).length+1:=by
 unfold aH;split
 ·show(ay s).length<=_
  omega
 ·exact Tx _ _
theorem Sr(G:bC)(r:RS)(c:Int)(n:Nat)(t:ae)(s:aS):((aH G r c n t ([]::s)).2.headD []).length<=1:=by
 unfold aH;split
 ·simp
 ·simp[kT,dh]
mutual
theorem Yt(G:bC):∀(t:ae) (i:Bool) (s:aS) (r:RS),(ay (aM G i t s r).2).length+r.next<=(ay s).length+(aM G i t s r).1.next
 | .node k x a e kids,i,s,r=>by
  by_cases B:k=5
  ·have A:(aM G i (.node k x a e kids) s r).2=s:=by rw[dx,if_neg (by omega),if_neg (by omega),if_pos B]
   rw[A];have:=(Ai G (.node k x a e kids) i s r).next;omega
  rw[dx];split
  ·have h:=je G kids i 0 kids.length s { aW (aG r i (ak (ay s))) 0 r.next (.node k x a e kids) (decide ((aU G.globals x).getD 0≠(r.next:Int))) with owner:=(r.next:Int) }
   have E:({ aW (aG r i (ak (ay s))) 0 r.next (.node k x a e kids) (decide ((aU G.globals x).getD 0≠(r.next:Int))) with owner:=(r.next:Int) }:RS).next=r.next+1:=sJ r i _ 0 _ _;omega
  split
  ·have h:=je G kids i 0 kids.length s (aW (aG r i (ak (ay s))) 1 r.next (.node k x a e kids) (decide ((aU G.fields x).getD 0≠(r.next:Int))))
   rw[sJ]at h;omega
  split
  ·have h:=je G kids i 0 kids.length (aH G (aG r i (ak (ay s))) 3 r.next (.node k x a e kids) s).2 (aH G (aG r i (ak (ay s))) 3 r.next (.node k x a e kids) s).1
   have A:=La G (aG r i (ak (ay s))) 3 r.next (.node k x a e kids) s;rw[pM]at h;omega
  split
  ·have h:=je G kids i 0 kids.length ([]::s) (aG r i (ak (ay s)))
   have A:=Pn (ah G i kids 0 kids.length ([]::s) (aG r i (ak (ay s)))).2;have E:(aG r i (ak (ay s))).next=r.next+1:=rfl;rw[qU]at h;dsimp only
   simp only[List.length_nil]at h;omega
  split
  ·have h:=je G kids i 0 2 s (aH G (aG r i (ak (ay s))) 4 r.next (.node k x a e kids) ([]::s)).1
   have A:=Tx (ah G i kids 0 2 s (aH G (aG r i (ak (ay s))) 4 r.next (.node k x a e kids) ([]::s)).1).2 ((aH G (aG r i (ak (ay s))) 4 r.next (.node k x a e kids) ([]::s)).2.headD []);have C:=Sr G (aG r i (ak (ay s))) 4 r.next (.node k x a e kids) s;rw[pM]at h;dsimp only
   omega
  split
  ·have h:=je G kids i 0 2 s (aH G (aG r i (ak (ay s))) 5 r.next (.node k x a e kids) ([]::s)).1
   have C:=Sr G (aG r i (ak (ay s))) 5 r.next (.node k x a e kids) s;have D:=je G kids i 2 1 ((aH G (aG r i (ak (ay s))) 5 r.next (.node k x a e kids) ([]::s)).2.headD []::(ah G i kids 0 2 s (aH G (aG r i (ak (ay s))) 5 r.next (.node k x a e kids) ([]::s)).1).2) (ah G i kids 0 2 s (aH G (aG r i (ak (ay s))) 5 r.next (.node k x a e kids) ([]::s)).1).1;have B:=Pn (ah G i kids 2 1 ((aH G (aG r i (ak (ay s))) 5 r.next (.node k x a e kids) ([]::s)).2.headD []::(ah G i kids 0 2 s (aH G (aG r i (ak (ay s))) 5 r.next (.node k x a e kids) ([]::s)).1).2) (ah G i kids 0 2 s (aH G (aG r i (ak (ay s))) 5 r.next (.node k x a e kids) ([]::s)).1).1).2;rw[pM]at h;rw[qU]at D;dsimp only
   omega
  ·have h:=je G kids i 0 kids.length s (iR G s r (aG r i (ak (ay s))) (.node k x a e kids))
   rw[LH]at h;omega
theorem je(G:bC):∀(ts:List ae) (i:Bool) (f n:Nat) (s:aS) (r:RS),(ay (ah G i ts f n s r).2).length+r.next<=(ay s).length+(ah G i ts f n s r).1.next
 | [],_,_,_,_,_=>by rw[ah];exact aab _
 | t::ts,i,f+1,n,s,r=>by rw[ah];exact je G ts i f n s r
 | t::ts,i,0,0,s,r=>by rw[ah];exact aab _
 | t::ts,i,0,n+1,s,r=>by
  rw[ah];have A:=Yt G t i s r;have B:=je G ts i 0 n (aM G i t s r).2 (aM G i t s r).1;omega
end
structure RB (r:RS) (s:aS) (n:Nat):Prop where
 aY:r.aY.length<=r.next
 ds:r.ds.length<=r.next
 Yv:(ay s).length<=r.next
 aR:∀x∈r.aR,x.1<(r.next:Int)
 room:r.next+n<=r.uses.length
 most:r.uses.length<=1000000
theorem RB.slow{r q:RS}{s A:aS}{n m:Nat}(h:RB r s n)(k:rX r q)(B:(ay A).length+r.next<=(ay s).length+q.next)(C:q.next+m<=r.next+n):RB q A m where
 aY:=by have:=h.aY;have:=k.aY;omega
 ds:=by have:=h.ds;have:=k.ds;omega
 Yv:=by have:=h.Yv;omega
 aR:=k.aR h.aR
 room:=by have:=h.room;rw[k.sU];omega
 most:=by rw[k.sU];exact h.most
theorem CW(G:bC)(i:Bool):∀(ts:List ae) (f n:Nat) (s:aS) (r:RS) (t:ae),ts[f+n]? =some t ->
 ah G i ts f (n+1) s r=aM G i t (ah G i ts f n s r).2 (ah G i ts f n s r).1
 | [],f,n,s,r,t,h=>by simp at h
 | u::ts,f+1,n,s,r,t,h=>by
  rw[ah,ah];exact CW G i ts f n s r t (by rw[show f+1+n=(f+n)+1 by omega]at h;simpa using h)
 | u::ts,0,0,s,r,t,h=>by
  simp at h;subst h;rw[ah,ah]
  cases ts with
  | nil=>simp only[ah]
  | cons=>simp only[ah]
 | u::ts,0,n+1,s,r,t,h=>by
  rw[ah,ah];exact CW G i ts 0 n _ _ t (by rw[Nat.zero_add];simpa using h)
theorem IX(G:bC)(i:Bool)(ts:List ae)(f:Nat)(s:aS)(r:RS):ah G i ts f 0 s r=(r,s):=by
 induction ts generalizing f with
 | nil=>rw[ah]
 | cons t ts ih=>
  cases f with
  | zero=>rw[ah]
  | succ f=>rw[ah];exact ih f
theorem IQ{A:Bool}:∀{ts:List ae},(∀t∈ts,qA A t=true)->mG A ts=true
 | [],_=>by rw[mG]
 | t::ts,h=>by
  rw[mG,aad];exact⟨h t (by simp),IQ fun u B=>h u (by simp[B])⟩
mutual
theorem vok_inT:∀(t:ae),Ei t=true->qA false t=true
 | .node k x a e kids,h=>by
  rw[Ei]at h;simp only[aad,Bool.or_eq_true,decide_eq_true_eq]at h;obtain⟨⟨⟨E,A⟩,B⟩,C⟩:=h;have D:=F5 kids C;rw[qA,if_neg (show ¬k=5 by omega)];split
  ·exact D
  split
  ·simp only[Bool.not_false,Bool.true_and,aad,Bool.or_eq_true,decide_eq_true_eq]
   exact⟨⟨A,B⟩,D⟩
  ·exact D
theorem F5:∀(ts:List ae),mH ts=true->mG false ts=true
 | [],_=>by rw[mG]
 | t::ts,h=>by
  rw[mH,aad]at h;rw[mG,aad];exact⟨vok_inT t h.1,F5 ts h.2⟩
end
theorem Rt{c:ae}(h:fP c=true)(E:c.kind=9):c.kids=[]:=by
 rw[kC,aad]at h;obtain⟨F,A,D⟩:=jZ h.1;obtain⟨-,B,-⟩:=mX D;rw[E]at A;have C:some _=some F:=A;cases C
 have:c.kids.length=0:=by simpa [qQ] using B
 exact List.length_eq_zero_iff.1 this
theorem M0{f:ae}(h:fP f=true)(H:f.kind=4):∀c∈f.kids,c.kind=9:=by
 rw[kC,aad]at h;obtain⟨J,C,F⟩:=jZ h.1;obtain⟨-,-,I⟩:=mX F;rw[H]at C;have E:some _=some J:=C;cases E
 intro c D;obtain⟨p,A,B⟩:=nX _ f.kids 0 I c D;rcases A with A|A
 ·cases A
 ·simp only[List.mem_cons,List.not_mem_nil,or_false]at A
  subst A;simpa [bS] using B
theorem YX{f:ae}(h:fP f=true)(E:f.kind=4):qA true f=true:=by
 have D:=M0 h E;have F:=jG h;obtain⟨k,x,a,e,A⟩:=f;have C:k=4:=E;subst C;rw[qA,if_neg (by decide),if_neg (by decide),if_neg (by decide)];refine IQ fun c B=>?_
 have H:=Rt (F c B) (D c B);have I:=D c B;obtain⟨k,x,a,e,A⟩:=c;have J:A=[]:=H;have K:k=9:=I;subst J K;rw[qA,if_neg (by decide),if_neg (by decide),if_neg (by decide),mG]
theorem vok_top{t:ae}(h:fP t=true)(E:uP t=true):qA true t=true:=by
 have F:=jG h;obtain⟨k,x,a,e,B⟩:=t;rw[uP,Bool.or_eq_true,aad,aad,aad,decide_eq_true_eq,decide_eq_true_eq,decide_eq_true_eq]at E;rcases E with⟨rfl,H⟩| ⟨⟨rfl,I⟩,C⟩
 ·rw[qA,if_neg (by decide),if_neg (by decide),if_neg (by decide)]
  refine IQ fun f A=>?_
  have D:=List.all_eq_true.1 H f A;rw[aad,decide_eq_true_eq]at D;exact YX (F f A) D.1
 ·rw[qA,if_pos rfl,aad,decide_eq_true_eq]
  exact⟨I,F5 B C⟩
theorem Ol{t:ae}(h:jC t=true):qA true t=true:=by
 obtain⟨C,D⟩:=LK h;unfold jC at h;rw[aad]at h;have E:=jG h.2;obtain⟨k,x,a,e,B⟩:=t;have F:k=2:=C;subst F;rw[qA,if_neg (by decide),if_neg (by decide),if_neg (by decide)];exact IQ fun c A=>vok_top (E c A) (D c A)
def wK(q:ae):Prop:=q.kids=[]/\(q.kind<2\/8<q.kind)/\q.kind<11
theorem Ry{q:ae}(h:wK q):FP q=true:=by
 obtain⟨C,D,E⟩:=h;obtain⟨k,x,a,e,A⟩:=q;have H:A=[]:=C;subst H;have B:k<2\/8<k:=D;have F:k<11:=E;rw[FP];simp only[aad,Bool.or_eq_true,decide_eq_true_eq];exact⟨⟨⟨⟨B,.inl (by omega)⟩,.inl (by omega)⟩,.inr rfl⟩,by rw[um]⟩
theorem Jl{q:ae}(h:fP q=true)(A:gL dC q.kind=true):wK q:=by
 rw[kC,aad]at h;obtain⟨F,B,E⟩:=jZ h.1;obtain⟨-,C,-⟩:=mX E;unfold gL dC at A;simp only[Bool.or_eq_true,decide_eq_true_eq]at A;refine⟨?_,by omega,by omega⟩;rcases A with A|A|A
 all_goals
  rw[A]at B;have D:some _=some F:=B;cases D
  have:q.kids.length=0:=by simpa [qQ] using C
  exact List.length_eq_zero_iff.1 this
theorem Xo{p:ae}(h:fP p=true)(B:p.kind=7\/p.kind=8):∀q∈p.kids,wK q:=by
 have F:=jG h;rw[kC,aad]at h;obtain⟨K,E,I⟩:=jZ h.1;obtain⟨-,-,J⟩:=mX I;intro q D;obtain⟨p1,A,C⟩:=nX _ p.kids 0 J q D;refine Jl (F q D) ?_;rcases B with B|B
 all_goals
  rw[B]at E;have H:some _=some K:=E;cases H
  rcases A with A|A
  ·cases A
  ·simp only[List.mem_cons,List.not_mem_nil,or_false]at A
   subst A;exact C
theorem Ez{x:ByteArray}{a e:Int}{A:List ae}(h:fP (.node 5 x a e A)=true):
 ∃b c d,A=[b,c,d]/\b.kind=6/\(∀p∈b.kids,(p.kind=7\/p.kind=8)/\∀q∈p.kids,wK q)/\wK c/\d.kind=11/\FP d=true:=by
 have F:=jG h;rw[kC,aad]at h;obtain⟨P,K,N⟩:=jZ h.1;obtain⟨-,L,J⟩:=mX N;have M:some _=some P:=K;cases M
 have T:A.length=3:=by simpa [qQ,ae.kids] using L
 match A,T,J,F with
 | [b,c,d],_,J,F=>
  have D:dm ⟨df,[bS [6],gL dC,bS [11]],none,0⟩ 0 [b,c,d]=true:=J;simp only[dm,kR,aad,aai,aaj]at D;obtain⟨R,L,S,-⟩:=D;have H:b.kind=6:=by simpa [bS] using R
  have I:d.kind=11:=by simpa [bS] using S
  have E:=F b (by simp[ae.kids]);refine⟨b,c,d,rfl,H,fun p Q=>?_,Jl (F c (by simp[ae.kids])) L,I,Mw d (F d (by simp[ae.kids])) (by omega)⟩;have O:=jG E p Q
  have C:p.kind=7\/p.kind=8:=by
   rw[kC,aad]at E;obtain⟨P,K,N⟩:=jZ E.1;obtain⟨-,-,J⟩:=mX N;rw[H]at K;have M:some _=some P:=K;cases M
   obtain⟨p1,B,C⟩:=nX _ b.kids 0 J p Q;rcases B with B|B
   ·cases B
    simpa [bS] using C
   ·cases B
  exact⟨C,Xo O C⟩
theorem Mt:∀{l:List ae},(∀q∈l,wK q)->um l=true/\∀q∈l,q.kind≠12
 | [],_=>⟨by rw[um],by simp⟩
 | q::l,h=>by
  obtain⟨C,D⟩:=Mt (l:=l) fun u A=>h u (by simp[A])
  have B:=h q (by simp);refine⟨by rw[um,aad];exact⟨Ry B,C⟩,fun u A=>?_⟩;rcases List.mem_cons.1 A with rfl|A
  ·have:=B.2.2
   omega
  ·exact D u A
theorem bab(k j:ByteArray):(k==j)=decide (k=j):=by
 obtain⟨a⟩:=k;obtain⟨b⟩:=j;show(a==b)=_;rw[Bool.eq_iff_iff];simp
instance lawfulBA:LawfulBEq ByteArray where
 eq_of_beq {a b} h:=by
  rw[bab]at h;exact of_decide_eq_true h
 rfl {a}:=by
  rw[bab];simp
def Lc(t:ae)(S:List (List ByteArray)):List (List ByteArray):=if t.kind=12 then(match S with| []=>[]|l::S=>(l++[t.text])::S) else S
theorem ru(k:Int)(x:ByteArray)(t:ae)(ts:List ae)(i:Nat)(S:List (List ByteArray))(A:List ByteArray):
 rT k x (t::ts) i S A=rT k x ts (i+1) (Lc t S) (jd t (if k=16/\i=2 then [x]::S else S) A):=by
 first|rfl|(rw[rT.eq_def];rfl)
theorem KA:∀(ds:List Dc) (i:Nat) (l:List (Int×Int)) (u:Int),(ds.map (·.node)).Nodup->bE (zM ds i l) u=match ds.findIdx? fun d=>decide (d.node=u) with|some j=>some ((i+j:Nat):Int)|none=>bE l u
 | [],i,l,u,_=>by simp[zM]
 | d::ds,i,l,u,hn=>by
  rw[List.map_cons,List.nodup_cons]at hn;rw[zM,KA ds (i+1) _ u hn.2,List.findIdx?_cons];by_cases h:d.node=u
  ·have A:(ds.findIdx? fun d=>decide (d.node=u))=none:=by
    rw[List.findIdx?_eq_none_iff];intro y B;rw[decide_eq_false_iff_not];exact fun e=>hn.1 (by rw[h,<- e];exact List.mem_map.2 ⟨y,B,rfl⟩)
   rw[A,if_pos (by simp[h])];simp only;rw[nW,if_pos h.symm];rfl
  ·rw[if_neg (by simp[h])]
   cases C:ds.findIdx? fun d=>decide (d.node=u) with
   | none=>
    simp only[Option.map_none];rw[nW,if_neg (fun e=>h e.symm)]
   | some j=>
    simp only[Option.map_some];congr 2
    omega
theorem Bi{ds:List Dc}(D:(ds.map (·.node)).Nodup){j:Nat}{d:Dc}(E:ds[j]? =some d):oG ds d.node=(j:Int):=by
 unfold oG;rw[KA ds 0 _ _ D]
 have F:(ds.findIdx? fun x=>decide (x.node=d.node))=some j:=by
  obtain⟨A,C⟩:=aah.1 E;rw[List.findIdx?_eq_some_iff_getElem];refine⟨A,by rw[C];simp,fun q H=>?_⟩;rw[decide_eq_true_eq];intro e;have B:=List.pairwise_iff_getElem.1 D q j (by simp;omega) (by simpa using A) H;simp only[List.getElem_map]at B;exact B (by rw[e,C])
 rw[F];simp
theorem WA{ds:List Dc}(B:(ds.map (·.node)).Nodup)(C:∀d∈ds,0<=d.node):oG ds (-1)= -1:=by
 unfold oG;rw[KA ds 0 _ _ B]
 have A:(ds.findIdx? fun x=>decide (x.node= -1))=none:=by
  rw[List.findIdx?_eq_none_iff];intro y D;have:=C y D;simp;omega
 rw[A];rfl
theorem Mr{V W:Type}(f:V->W):∀(l:List (Int×V)) (k:Int),bE (l.map fun x=>(x.1,f x.2)) k=(bE l k).map f
 | [],_=>rfl
 | x::l,k=>by
  rw[List.map_cons,bE,bE];by_cases h:k=x.1
  ·rw[if_pos h,if_pos h];rfl
  ·rw[if_neg h,if_neg h,Mr f l k]
theorem PU(x:ByteArray)(a e:Int)(ks:List ae):
 (aM (dO (.node 2 x a e ks)) false (.node 2 x a e ks) [] ⟨[],List.replicate (ai (.node 2 x a e ks)) (-1),[],[],0,0⟩).1=(ah (tN ks) false ks 0 ks.length [] ⟨[],List.replicate (ai (.node 2 x a e ks)) (-1),[],[],1,0⟩).1:=by
 simp only[aM];rfl
theorem allS_flat(s:aS):ay s=s.flatten.map (·.2):=by
 unfold ay;rw[List.flatMap_def,List.map_flatten]
theorem G7:∀{s:aS}{x:ByteArray}{n:Int},fe s x=some n->(x,n)∈s.flatten
 | [],_,_,h=>by cases h
 | l::s,x,n,h=>by
  rw[fe]at h;rw[List.flatten_cons,List.mem_append]
  have C:∀{l:lH}{n:Int},bE l x=some n->(x,n)∈l:=by
   intro l
   induction l with
   | nil=>intro n h;cases h
   | cons y l ih=>
    intro n h;rw[bE]at h;by_cases B:x=y.1
    ·rw[if_pos B,aag]at h
     rw[B,<- h];simp
    ·rw[if_neg B]at h
     exact List.mem_cons_of_mem _ (ih h)
  cases A:aU l x with
  | some k=>
   rw[A]at h;simp only[aag]at h;subst h;exact .inl (C A)
  | none=>
   rw[A]at h;exact .inr (G7 h)
theorem Zb{A q:RS}(h:qB A q)(B:A.ds=[]):(q.ds.map (·.node)).Nodup/\∀d∈q.ds,(A.next:Int)<=d.node:=by
 obtain⟨l,e,F,D⟩:=h.ds;rw[B,List.nil_append]at e;rw[e];refine⟨?_,fun d E=>(D d E).1⟩;refine List.Pairwise.map _ (fun a b C=>?_) F;omega
theorem Gu{K V:Type}[DecidableEq K]:∀{l:List (K×V)}{k:K}{v:V},(l.map (·.1)).Nodup->(k,v)∈l->bE l k=some v
 | [],_,_,_,h=>by cases h
 | x::l,k,v,hn,h=>by
  rw[List.map_cons,List.nodup_cons]at hn;rw[bE];rcases List.mem_cons.1 h with rfl|h
  ·rw[if_pos rfl]
  ·by_cases A:k=x.1
   ·exact absurd (List.mem_map.2 ⟨_,h,A⟩) hn.1
   ·rw[if_neg A]
    exact Gu hn.2 h
theorem G6:∀{s:aS}{x:ByteArray}{n:Int},(s.flatten.map (·.1)).Nodup->(x,n)∈s.flatten->fe s x=some n
 | [],_,_,_,h=>by cases h
 | l::s,x,n,hn,h=>by
  rw[List.flatten_cons,List.map_append,List.nodup_append]at hn;obtain⟨B,C,D⟩:=hn;rw[List.flatten_cons,List.mem_append]at h;rw[fe];rcases h with h|h
  ·have:aU l x=some n:=Gu B h
   rw[this]
  ·have H:aU l x=none:=by
    cases F:aU l x with
    | none=>rfl
    | some k=>
     have E:(x,k)∈[l].flatten:=G7 (s:=[l]) (by rw[fe,F]);have A:(x,k)∈l:=by simpa using E
     exact absurd rfl (D x (List.mem_map.2 ⟨_,A,rfl⟩) x (List.mem_map.2 ⟨_,h,rfl⟩))
   rw[H];exact G6 C h
section
variable (G:bC) (k0:Int) (nm:ByteArray) (a' e':Int)
end
end Go.Proofs.YtoepemlnlpamlaaGreat
