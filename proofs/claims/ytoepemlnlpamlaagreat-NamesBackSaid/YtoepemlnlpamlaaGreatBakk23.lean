/- The law NamesBack holds for every text and every number: it returns true, and its arguments read as before. No condition. Part 23: At4 VisM VOk At5 Free Shelf Sort. -/
import Derived.Shelf.Sort.Plain
import Derived.Shelf.Slices.In.SortNone
import Derived.Test.YtoepemlnlpamlaaGreatProg
import Derived.Test.YtoepemlnlpamlaaGreatBakk02
import Derived.Test.YtoepemlnlpamlaaGreatBakk17
import Derived.Test.YtoepemlnlpamlaaGreatBakk22
set_option maxRecDepth 100000
set_option maxHeartbeats 4000000
namespace Go.Proofs.YtoepemlnlpamlaaGreat
def P8(p:Int->Bool):Prop:=∀k,p k=true->(k<2\/8<k)
def mG(p:Int->Bool):Prop:=∀k,p k=true->k≠12
theorem LU:P8 fq:=fun k h=>by unfold fq at h;simp only[Bool.or_eq_true,decide_eq_true_eq]at h;omega
theorem p8_stmt:P8 sI:=fun k h=>by unfold sI at h;simp only[aaF,decide_eq_true_eq]at h;omega
theorem xD:P8 bA:=fun k h=>by unfold bA at h;simp only[aaF,decide_eq_true_eq]at h;omega
theorem IE:P8 mU:=fun k h=>by unfold mU at h;simp only[Bool.or_eq_true,decide_eq_true_eq]at h;omega
theorem vW{p:Int->Bool}(h:P8 p):P8 (jE p):=fun k hk=>by
 unfold jE at hk;simp only[Bool.or_eq_true,decide_eq_true_eq]at hk;rcases hk with hk|hk
 ·omega
 ·exact h k hk
theorem BX{l:List Int}(h:∀y∈l,y<2\/8<y):P8 (dF l):=fun k hk=>by
 unfold dF at hk;rw[List.any_eq_true]at hk;obtain⟨y,hy,hk⟩:=hk;rw[decide_eq_true_eq]at hk;subst hk;exact h _ hy
theorem IG:mG fq:=fun k h=>by unfold fq at h;simp only[Bool.or_eq_true,decide_eq_true_eq]at h;omega
theorem uY:mG bA:=fun k h=>by unfold bA at h;simp only[aaF,decide_eq_true_eq]at h;omega
theorem EA:mG mU:=fun k h=>by unfold mU at h;simp only[Bool.or_eq_true,decide_eq_true_eq]at h;omega
theorem ui{p:Int->Bool}(h:mG p):mG (jE p):=fun k hk=>by
 unfold jE at hk;simp only[Bool.or_eq_true,decide_eq_true_eq]at hk;rcases hk with hk|hk
 ·omega
 ·exact h k hk
theorem zm{l:List Int}(h:∀y∈l,y≠12):mG (dF l):=fun k hk=>by
 unfold dF at hk;rw[List.any_eq_true]at hk;obtain⟨y,hy,hk⟩:=hk;rw[decide_eq_true_eq]at hk;subst hk;exact h _ hy
theorem WB{k:Int}{sh:vN}(h:lJ k=some sh)(h2:k<2\/8<k):(∀p,sh.list=some p->P8 p/\(k≠11->mG p))/\∀p∈sh.kids,P8 p/\mG p:=by
 cases k with
 | negSucc n=>cases h
 | ofNat n=>
  have h5:sP n=some sh:=h
  have n2:n<2\/8<n:=by
   rcases h2 with h2|h2
   ·have:(n:Int)<2:=h2
    omega
   ·have:(8:Int)<n:=h2
    omega
  have e11:(Int.ofNat n≠11)->n≠11:=fun h e=>h (by rw[e];rfl)
  clear h h2;unfold sP at h5;split at h5<;>first|(cases h5;done)|(exfalso;omega)|skip
  all_goals
   cases h5
   refine⟨?_,?_⟩
   ·intro p hp
    first
     | (cases hp;done)
     | (cases hp;first|exact⟨xD,fun _=>uY⟩|exact⟨p8_stmt,fun h=>absurd rfl (e11 h)⟩)
   ·intro p hp
    first
     | (cases hp;done)
     | (simp only[List.mem_cons,List.not_mem_nil,or_false]at hp
        first
         | (rcases hp with rfl|rfl|rfl<;>first|exact⟨xD,uY⟩|exact⟨IE,EA⟩|exact⟨BX (by decide),zm (by decide)⟩|exact⟨vW LU,ui IG⟩|exact⟨vW xD,ui uY⟩|exact⟨vW (BX (by decide)),ui (zm (by decide))⟩)
         | (rcases hp with rfl|rfl<;>first|exact⟨xD,uY⟩|exact⟨IE,EA⟩|exact⟨BX (by decide),zm (by decide)⟩|exact⟨vW LU,ui IG⟩|exact⟨vW xD,ui uY⟩|exact⟨vW (BX (by decide)),ui (zm (by decide))⟩)
         | (subst hp;first|exact⟨xD,uY⟩|exact⟨IE,EA⟩|exact⟨BX (by decide),zm (by decide)⟩|exact⟨vW LU,ui IG⟩|exact⟨vW xD,ui uY⟩|exact⟨vW (BX (by decide)),ui (zm (by decide))⟩))
mutual
theorem Kc:∀(t:aa),gJ t=true->(t.kind<2\/8<t.kind)->xe t=true
 | .node k x a e kids,h,hk=>by
  rw[jA,aaF]at h;obtain⟨sh,hs,hf⟩:=iL h.1;obtain⟨-,hc,oq⟩:=ko hf;have hk':k<2\/8<k:=hk;have hs':lJ k=some sh:=hs;obtain⟨hi1,hi2⟩:=WB hs' hk';have hmem:=ni sh kids 0 oq;rw[xe];simp only[aaF,Bool.or_eq_true,decide_eq_true_eq,List.all_eq_true];refine⟨⟨⟨⟨hk',?_⟩,?_⟩,?_⟩,GL kids h.2 fun c hc=>?_⟩
  ·by_cases h12:k=12
   ·subst h12
    right
    have:some _=some sh:=hs';cases this
    simpa [qB,aa.kids] using hc
   ·exact .inl h12
  ·by_cases h16:k=16
   ·subst h16
    right
    have:some _=some sh:=hs';cases this
    simpa [qB,aa.kids] using hc
   ·exact .inl h16
  ·by_cases h11:k=11
   ·exact .inl h11
   ·right
    intro c hc;obtain⟨p,hp,hpk⟩:=hmem c hc;rcases hp with hp|hp
    ·exact(hi1 p hp).2 h11 _ hpk
    ·exact(hi2 p hp).2 _ hpk
  ·obtain⟨p,hp,hpk⟩:=hmem c hc
   rcases hp with hp|hp
   ·exact(hi1 p hp).1 _ hpk
   ·exact(hi2 p hp).1 _ hpk
theorem GL:∀(ts:List aa),(dh ts).all fJ=true->(∀c∈ts,c.kind<2\/8<c.kind)->nK ts=true
 | [],_,_=>by rw[nK]
 | t::ts,h,hc=>by
  rw[dh,List.all_append,aaF]at h;rw[nK,aaF];exact⟨Kc t h.1 (hc t (by simp)),GL ts h.2 fun c hx=>hc c (by simp[hx])⟩
end
mutual
def pY(nl:Bool):aa->Bool
 | .node k _ _ _ kids=>
  if k=5 then decide (kids.length=3)&&lT false kids
  else if k=11 then lT false kids
  else if k=7\/k=8\/k=12\/k=16 then !nl&&(decide (k≠12) || decide (kids.length=2))&&(decide (k≠16) || decide (kids.length=3))&&lT nl kids
  else lT nl kids
def lT(nl:Bool):List aa->Bool
 | []=>true
 | t::ts=>pY nl t&&lT nl ts
end
theorem aad{nl:Bool}{ts:List aa}:lT nl ts=true->∀t∈ts,pY nl t=true:=by
 induction ts with
 | nil=>intro _ t h;cases h
 | cons a ts ih=>
  intro h t ht;rw[lT,aaF]at h;rcases List.mem_cons.1 ht with rfl|ht
  ·exact h.1
  ·exact ih h.2 t ht
theorem uV:∀(a b:List aa),ag (a++b)=ag a+ag b
 | [],b=>by simp[ag]
 | t::a,b=>by
  rw[List.cons_append,ag,ag,uV a b];omega
theorem Ac(l:List aa)(a b:Nat):ag (l.take a)+ag ((l.drop a).take b)<=ag l:=by
 have h1:ag (l.take a)+ag (l.drop a)=ag l:=by rw[<- uV,List.take_append_drop]
 have h2:ag ((l.drop a).take b)+ag ((l.drop a).drop b)=ag (l.drop a):=by rw[<- uV,List.take_append_drop]
 omega
theorem rD(r:RS)(i:Bool)(v:List Int)(c:Int)(t:aa)(b:Bool):(aQ (aC r i v) c r.next t b).next=r.next+1:=by cases b<;>rfl
theorem oP(G:aW)(r:RS)(i:Bool)(v:List Int)(c:Int)(t:aa)(s:aK):(aA G (aC r i v) c r.next t s).1.next=r.next+1:=by
 unfold aA;split<;>rfl
theorem JA(G:aW)(s:aK)(r:RS)(i:Bool)(v:List Int)(t:aa):(gH G s r (aC r i v) t).next=r.next+1:=by
 have hu:∀tq,(fC (aC r i v) r.next t tq).next=r.next+1:=fun tq=>by cases tq<;>rfl
 unfold gH;split
 ·exact hu _
 split
 ·exact hu _
 split
 ·exact hu _
 split
 ·exact hu _
 split
 ·exact hu _
 ·rfl
mutual
theorem LX(G:aW):∀(t:aa) (i:Bool) (s:aK) (r:RS),(aF G i t s r).1.next<=r.next+ah t
 | .node k x a e kids,i,s,r=>by
  have hall:∀s' (u:RS),u.next=r.next+1->(ae G i kids 0 kids.length s' u).1.next<=r.next+ah (.node k x a e kids):=fun s' u h=>by
   have:=o9 G kids i 0 kids.length s' u;rw[h]at this;simp only[List.drop_zero,List.take_length]at this;rw[ah];omega
  have htwo:∀i1 i2 s1 s2 (u:RS),u.next=r.next+1->(ae G i2 kids 2 1 s2 (ae G i1 kids 0 2 s1 u).1).1.next<=r.next+ah (.node k x a e kids):=fun i1 i2 s1 s2 u h=>by
   have h1:=o9 G kids i1 0 2 s1 u;have h2:=o9 G kids i2 2 1 s2 (ae G i1 kids 0 2 s1 u).1;have h3:=Ac kids 2 1;rw[h]at h1;simp only[List.drop_zero]at h1;rw[ah];omega
  have hone:∀s' (u:RS),u.next=r.next+1->(ae G i kids 0 2 s' u).1.next<=r.next+ah (.node k x a e kids):=fun s' u h=>by
   have h1:=o9 G kids i 0 2 s' u;have h3:=Ac kids 2 1;rw[h]at h1;simp only[List.drop_zero]at h1;rw[ah];omega
  rw[bY];split
  ·exact hall _ _ (rD r i _ 0 _ _)
  split
  ·exact hall _ _ (rD r i _ 1 _ _)
  split
  ·exact htwo _ _ _ _ _ (rD r i _ 2 _ _)
  split
  ·exact hall _ _ (oP _ _ _ _ _ _ _)
  split
  ·exact hall _ _ rfl
  split
  ·exact hone _ _ (oP _ _ _ _ _ _ _)
  split
  ·exact htwo _ _ _ _ _ (oP _ _ _ _ _ _ _)
  ·exact hall _ _ (JA _ _ _ _ _ _)
theorem o9(G:aW):∀(ts:List aa) (i:Bool) (f n:Nat) (s:aK) (r:RS),(ae G i ts f n s r).1.next<=r.next+ag ((ts.drop f).take n)
 | [],_,_,_,_,_=>by rw[ae];simp
 | t::ts,i,f+1,n,s,r=>by
  rw[ae,List.drop_succ_cons];exact o9 G ts i f n s r
 | t::ts,i,0,0,s,r=>by rw[ae];simp
 | t::ts,i,0,n+1,s,r=>by
  rw[ae];have h1:=LX G t i s r;have h2:=o9 G ts i 0 n (aF G i t s r).2 (aF G i t s r).1;simp only[List.drop_zero,List.take_succ_cons,ag]at h2⊢;omega
end
structure qY (a b:RS):Prop where
 next:a.next<=b.next
 aO:b.aO.length+a.next<=a.aO.length+b.next
 ds:b.ds.length+a.next<=a.ds.length+b.next
 bQ:(∀x∈a.bQ,x.1<(a.next:Int))->∀x∈b.bQ,x.1<(b.next:Int)
 zF:b.uses.length=a.uses.length
theorem Hw{K V:Type}[DecidableEq K]:∀(l:List (K×V)) (k:K) (v:V),∀x∈cO l k v,x∈l\/x=(k,v)
 | [],k,v,x,h=>by
  rw[cO,List.mem_singleton]at h;exact .inr h
 | y::l,k,v,x,h=>by
  rw[cO]at h;by_cases hk:k=y.1
  ·rw[if_pos hk]at h
   rcases List.mem_cons.1 h with h|h
   ·exact .inr h
   ·exact .inl (List.mem_cons_of_mem _ h)
  ·rw[if_neg hk]at h
   rcases List.mem_cons.1 h with h|h
   ·exact .inl (by rw[h];simp)
   ·rcases Hw l k v x h with h|h
    ·exact .inl (List.mem_cons_of_mem _ h)
    ·exact .inr h
theorem Dh(r:RS)(i:Bool)(v:List Int)(h:∀x∈r.bQ,x.1<(r.next:Int)):∀x∈(aC r i v).bQ,x.1<((r.next+1:Nat):Int):=by
 intro x hx;unfold aC at hx;cases i
 ·have:=h x hx
  omega
 ·rcases Hw _ _ _ x hx with hx|rfl
  ·have:=h x hx
   omega
  ·simp
   omega
theorem dH:AY qY where
 refl:=fun r=>⟨aaD _,aaD _,aaD _,fun h=>h,rfl⟩
 trans:=fun h k=>⟨aaE h.next k.next,by have:=h.aO;have:=k.aO;omega,by have:=h.ds;have:=k.ds;omega,fun hv=>k.bQ (h.bQ hv),by rw[k.zF,h.zF]⟩
 none_:=fun r i v=>⟨Nat.le_succ _,by show r.aO.length+r.next<=r.aO.length+(r.next+1);omega,by show r.ds.length+r.next<=r.ds.length+(r.next+1);omega,Dh r i v,rfl⟩
 say:=fun r i v c t=>⟨Nat.le_succ _,by simp[oI,aC];omega,by show r.ds.length+r.next<=r.ds.length+(r.next+1);omega,Dh r i v,rfl⟩
 decl:=fun r i v c t=>⟨Nat.le_succ _,by show r.aO.length+r.next<=r.aO.length+(r.next+1);omega,by simp[iR,aC];omega,Dh r i v,List.length_set⟩
 use:=fun r i v k=>⟨Nat.le_succ _,by show r.aO.length+r.next<=r.aO.length+(r.next+1);omega,by show r.ds.length+r.next<=r.ds.length+(r.next+1);omega,Dh r i v,List.length_set⟩
 owner:=fun r o=>⟨aaD _,aaD _,aaD _,fun h=>h,rfl⟩
theorem Cu(G:aW)(t:aa)(i:Bool)(s:aK)(r:RS):qY r (aF G i t s r).1:=Au dH G t i s r
theorem xO(G:aW)(ts:List aa)(i:Bool)(f n:Nat)(s:aK)(r:RS):qY r (ae G i ts f n s r).1:=oH dH G ts i f n s r
theorem qC(l:jr)(s:aK):(ak (l::s)).length=l.length+(ak s).length:=by
 show(List.flatMap (fun l:jr=>l.map (·.2)) (l::s)).length=l.length+(List.flatMap (fun l:jr=>l.map (·.2)) s).length;rw[List.flatMap_cons,aaO,List.length_map]
theorem OE{K V:Type}[DecidableEq K]:∀(l:List (K×V)) (k:K) (v:V),(cO l k v).length<=l.length+1
 | [],k,v=>by simp[cO]
 | y::l,k,v=>by
  rw[cO];split
  ·simp
  ·have:=OE l k v
   simp;omega
theorem QI:∀(l:jr) (x:jr),(l.foldl (fun a y=>cO a y.1 y.2) x).length<=x.length+l.length
 | [],x=>by simp
 | y::l,x=>by
  rw[List.foldl_cons];have h1:=QI l (cO x y.1 y.2);have h2:=OE x y.1 y.2;simp only[aaQ];omega
theorem QV(s:aK)(l:jr):(ak (fP s l)).length<=(ak s).length+l.length:=by
 cases s with
 | nil=>simp[fP]
 | cons x s=>
  have:=QI l x;show(ak ((l.foldl (fun a y=>cO a y.1 y.2) x)::s)).length<=_;rw[qC,qC];have h2:(l.foldl (fun a y=>cO a y.1 y.2) x).length<=x.length+l.length:=this;clear this;exact aaE (Nat.add_le_add_right h2 _) (by omega)
theorem Nq(s:aK):(ak s.tail).length<=(ak s).length:=by
 cases s with
 | nil=>simp
 | cons x s=>
  rw[qC];show(ak s).length<=_;omega
theorem Jf(G:aW)(r:RS)(c:Int)(n:Nat)(t:aa)(s:aK):(ak (aA G r c n t s).2).length<=(ak s).length+1:=by
 unfold aA;split
 ·show(ak s).length<=_
  omega
 ·exact QV _ _
theorem Qg(G:aW)(r:RS)(c:Int)(n:Nat)(t:aa)(s:aK):((aA G r c n t ([]::s)).2.headD []).length<=1:=by
 unfold aA;split
 ·simp
 ·simp[fP,cO]
mutual
theorem VN(G:aW):∀(t:aa) (i:Bool) (s:aK) (r:RS),(ak (aF G i t s r).2).length+r.next<=(ak s).length+(aF G i t s r).1.next
 | .node k x a e kids,i,s,r=>by
  by_cases h5:k=5
  ·have h2:(aF G i (.node k x a e kids) s r).2=s:=by rw[bY,if_neg (by omega),if_neg (by omega),if_pos h5]
   rw[h2];have:=(Cu G (.node k x a e kids) i s r).next;omega
  rw[bY];split
  ·have h:=iT G kids i 0 kids.length s { aQ (aC r i (aj (ak s))) 0 r.next (.node k x a e kids) (decide ((aN G.globals x).getD 0≠(r.next:Int))) with owner:=(r.next:Int) }
   have hn:({ aQ (aC r i (aj (ak s))) 0 r.next (.node k x a e kids) (decide ((aN G.globals x).getD 0≠(r.next:Int))) with owner:=(r.next:Int) }:RS).next=r.next+1:=rD r i _ 0 _ _;omega
  split
  ·have h:=iT G kids i 0 kids.length s (aQ (aC r i (aj (ak s))) 1 r.next (.node k x a e kids) (decide ((aN G.fields x).getD 0≠(r.next:Int))))
   rw[rD]at h;omega
  split
  ·have h:=iT G kids i 0 kids.length (aA G (aC r i (aj (ak s))) 3 r.next (.node k x a e kids) s).2 (aA G (aC r i (aj (ak s))) 3 r.next (.node k x a e kids) s).1
   have h2:=Jf G (aC r i (aj (ak s))) 3 r.next (.node k x a e kids) s;rw[oP]at h;omega
  split
  ·have h:=iT G kids i 0 kids.length ([]::s) (aC r i (aj (ak s)))
   have h2:=Nq (ae G i kids 0 kids.length ([]::s) (aC r i (aj (ak s)))).2;have hn:(aC r i (aj (ak s))).next=r.next+1:=rfl;rw[qC]at h;dsimp only
   simp only[List.length_nil]at h;omega
  split
  ·have h:=iT G kids i 0 2 s (aA G (aC r i (aj (ak s))) 4 r.next (.node k x a e kids) ([]::s)).1
   have h2:=QV (ae G i kids 0 2 s (aA G (aC r i (aj (ak s))) 4 r.next (.node k x a e kids) ([]::s)).1).2 ((aA G (aC r i (aj (ak s))) 4 r.next (.node k x a e kids) ([]::s)).2.headD []);have h3:=Qg G (aC r i (aj (ak s))) 4 r.next (.node k x a e kids) s;rw[oP]at h;dsimp only
   omega
  split
  ·have h:=iT G kids i 0 2 s (aA G (aC r i (aj (ak s))) 5 r.next (.node k x a e kids) ([]::s)).1
   have h3:=Qg G (aC r i (aj (ak s))) 5 r.next (.node k x a e kids) s;have h4:=iT G kids i 2 1 ((aA G (aC r i (aj (ak s))) 5 r.next (.node k x a e kids) ([]::s)).2.headD []::(ae G i kids 0 2 s (aA G (aC r i (aj (ak s))) 5 r.next (.node k x a e kids) ([]::s)).1).2) (ae G i kids 0 2 s (aA G (aC r i (aj (ak s))) 5 r.next (.node k x a e kids) ([]::s)).1).1;have h5:=Nq (ae G i kids 2 1 ((aA G (aC r i (aj (ak s))) 5 r.next (.node k x a e kids) ([]::s)).2.headD []::(ae G i kids 0 2 s (aA G (aC r i (aj (ak s))) 5 r.next (.node k x a e kids) ([]::s)).1).2) (ae G i kids 0 2 s (aA G (aC r i (aj (ak s))) 5 r.next (.node k x a e kids) ([]::s)).1).1).2;rw[oP]at h;rw[qC]at h4;dsimp only
   omega
  ·have h:=iT G kids i 0 kids.length s (gH G s r (aC r i (aj (ak s))) (.node k x a e kids))
   rw[JA]at h;omega
theorem iT(G:aW):∀(ts:List aa) (i:Bool) (f n:Nat) (s:aK) (r:RS),(ak (ae G i ts f n s r).2).length+r.next<=(ak s).length+(ae G i ts f n s r).1.next
 | [],_,_,_,_,_=>by rw[ae];exact aaD _
 | t::ts,i,f+1,n,s,r=>by rw[ae];exact iT G ts i f n s r
 | t::ts,i,0,0,s,r=>by rw[ae];exact aaD _
 | t::ts,i,0,n+1,s,r=>by
  rw[ae];have h1:=VN G t i s r;have h2:=iT G ts i 0 n (aF G i t s r).2 (aF G i t s r).1;omega
end
structure RB (r:RS) (s:aK) (n:Nat):Prop where
 aO:r.aO.length<=r.next
 ds:r.ds.length<=r.next
 VP:(ak s).length<=r.next
 bQ:∀x∈r.bQ,x.1<(r.next:Int)
 room:r.next+n<=r.uses.length
 most:r.uses.length<=1000000
theorem RB.slow{r q:RS}{s s':aK}{n m:Nat}(h:RB r s n)(k:qY r q)(ha:(ak s').length+r.next<=(ak s).length+q.next)(hn:q.next+m<=r.next+n):RB q s' m where
 aO:=by have:=h.aO;have:=k.aO;omega
 ds:=by have:=h.ds;have:=k.ds;omega
 VP:=by have:=h.VP;omega
 bQ:=k.bQ h.bQ
 room:=by have:=h.room;rw[k.zF];omega
 most:=by rw[k.zF];exact h.most
theorem Bg(G:aW)(i:Bool):∀(ts:List aa) (f n:Nat) (s:aK) (r:RS) (t:aa),ts[f+n]? =some t ->
 ae G i ts f (n+1) s r=aF G i t (ae G i ts f n s r).2 (ae G i ts f n s r).1
 | [],f,n,s,r,t,h=>by simp at h
 | u::ts,f+1,n,s,r,t,h=>by
  rw[ae,ae];exact Bg G i ts f n s r t (by rw[show f+1+n=(f+n)+1 by omega]at h;simpa using h)
 | u::ts,0,0,s,r,t,h=>by
  simp at h;subst h;rw[ae,ae]
  cases ts with
  | nil=>simp only[ae]
  | cons=>simp only[ae]
 | u::ts,0,n+1,s,r,t,h=>by
  rw[ae,ae];exact Bg G i ts 0 n _ _ t (by rw[Nat.zero_add];simpa using h)
theorem Gg(G:aW)(i:Bool)(ts:List aa)(f:Nat)(s:aK)(r:RS):ae G i ts f 0 s r=(r,s):=by
 induction ts generalizing f with
 | nil=>rw[ae]
 | cons t ts ih=>
  cases f with
  | zero=>rw[ae]
  | succ f=>rw[ae];exact ih f
theorem Ga{nl:Bool}:∀{ts:List aa},(∀t∈ts,pY nl t=true)->lT nl ts=true
 | [],_=>by rw[lT]
 | t::ts,h=>by
  rw[lT,aaF];exact⟨h t (by simp),Ga fun u hu=>h u (by simp[hu])⟩
mutual
theorem vok_inT:∀(t:aa),K7 t=true->pY false t=true
 | .node k x a e kids,h=>by
  rw[K7]at h;simp only[aaF,Bool.or_eq_true,decide_eq_true_eq]at h;obtain⟨⟨⟨hk,h12⟩,h16⟩,hks⟩:=h;have hv:=Eg kids hks;rw[pY,if_neg (show ¬k=5 by omega)];split
  ·exact hv
  split
  ·simp only[Bool.not_false,Bool.true_and,aaF,Bool.or_eq_true,decide_eq_true_eq]
   exact⟨⟨h12,h16⟩,hv⟩
  ·exact hv
theorem Eg:∀(ts:List aa),uJ ts=true->lT false ts=true
 | [],_=>by rw[lT]
 | t::ts,h=>by
  rw[uJ,aaF]at h;rw[lT,aaF];exact⟨vok_inT t h.1,Eg ts h.2⟩
end
theorem Pj{c:aa}(h:gJ c=true)(hk:c.kind=9):c.kids=[]:=by
 rw[jA,aaF]at h;obtain⟨sh,hs,hf⟩:=iL h.1;obtain⟨-,hc,-⟩:=ko hf;rw[hk]at hs;have he:some _=some sh:=hs;cases he
 have:c.kids.length=0:=by simpa [qB] using hc
 exact List.length_eq_zero_iff.1 this
theorem KI{f:aa}(h:gJ f=true)(hk:f.kind=4):∀c∈f.kids,c.kind=9:=by
 rw[jA,aaF]at h;obtain⟨sh,hs,hf⟩:=iL h.1;obtain⟨-,-,oq⟩:=ko hf;rw[hk]at hs;have he:some _=some sh:=hs;cases he
 intro c hc;obtain⟨p,hp,hpk⟩:=ni _ f.kids 0 oq c hc;rcases hp with hp|hp
 ·cases hp
 ·simp only[List.mem_cons,List.not_mem_nil,or_false]at hp
  subst hp;simpa [dF] using hpk
theorem Wp{f:aa}(h:gJ f=true)(hk:f.kind=4):pY true f=true:=by
 have h1:=KI h hk;have h2:=jZ h;obtain⟨k,x,a,e,kids⟩:=f;have hk':k=4:=hk;subst hk';rw[pY,if_neg (by decide),if_neg (by decide),if_neg (by decide)];refine Ga fun c hc=>?_
 have h3:=Pj (h2 c hc) (h1 c hc);have h4:=h1 c hc;obtain⟨k,x,a,e,kids⟩:=c;have h5:kids=[]:=h3;have h6:k=9:=h4;subst h5 h6;rw[pY,if_neg (by decide),if_neg (by decide),if_neg (by decide),lT]
theorem vok_top{t:aa}(h:gJ t=true)(ht:vD t=true):pY true t=true:=by
 have h2:=jZ h;obtain⟨k,x,a,e,kids⟩:=t;rw[vD,Bool.or_eq_true,aaF,aaF,aaF,decide_eq_true_eq,decide_eq_true_eq,decide_eq_true_eq]at ht;rcases ht with⟨rfl,hf⟩| ⟨⟨rfl,hl⟩,hin⟩
 ·rw[pY,if_neg (by decide),if_neg (by decide),if_neg (by decide)]
  refine Ga fun f hfm=>?_
  have h3:=List.all_eq_true.1 hf f hfm;rw[aaF,decide_eq_true_eq]at h3;exact Wp (h2 f hfm) h3.1
 ·rw[pY,if_pos rfl,aaF,decide_eq_true_eq]
  exact⟨hl,Eg kids hin⟩
theorem Mt{t:aa}(h:iJ t=true):pY true t=true:=by
 obtain⟨h1,h2⟩:=Cw h;unfold iJ at h;rw[aaF]at h;have h3:=jZ h.2;obtain⟨k,x,a,e,kids⟩:=t;have hk:k=2:=h1;subst hk;rw[pY,if_neg (by decide),if_neg (by decide),if_neg (by decide)];exact Ga fun c hc=>vok_top (h3 c hc) (h2 c hc)
def tV(q:aa):Prop:=q.kids=[]/\(q.kind<2\/8<q.kind)/\q.kind<11
theorem IK{q:aa}(h:tV q):xe q=true:=by
 obtain⟨h1,h2,h3⟩:=h;obtain⟨k,x,a,e,kids⟩:=q;have hk:kids=[]:=h1;subst hk;have h2':k<2\/8<k:=h2;have h3':k<11:=h3;rw[xe];simp only[aaF,Bool.or_eq_true,decide_eq_true_eq];exact⟨⟨⟨⟨h2',.inl (by omega)⟩,.inl (by omega)⟩,.inr rfl⟩,by rw[nK]⟩
theorem GJ{q:aa}(h:gJ q=true)(hk:jE fq q.kind=true):tV q:=by
 rw[jA,aaF]at h;obtain⟨sh,hs,hf⟩:=iL h.1;obtain⟨-,hc,-⟩:=ko hf;unfold jE fq at hk;simp only[Bool.or_eq_true,decide_eq_true_eq]at hk;refine⟨?_,by omega,by omega⟩;rcases hk with hk|hk|hk
 all_goals
  rw[hk]at hs;have he:some _=some sh:=hs;cases he
  have:q.kids.length=0:=by simpa [qB] using hc
  exact List.length_eq_zero_iff.1 this
theorem UQ{p:aa}(h:gJ p=true)(hk:p.kind=7\/p.kind=8):∀q∈p.kids,tV q:=by
 have h2:=jZ h;rw[jA,aaF]at h;obtain⟨sh,hs,hf⟩:=iL h.1;obtain⟨-,-,oq⟩:=ko hf;intro q hq;obtain⟨p1,hp,hpk⟩:=ni _ p.kids 0 oq q hq;refine GJ (h2 q hq) ?_;rcases hk with hk|hk
 all_goals
  rw[hk]at hs;have he:some _=some sh:=hs;cases he
  rcases hp with hp|hp
  ·cases hp
  ·simp only[List.mem_cons,List.not_mem_nil,or_false]at hp
   subst hp;exact hpk
theorem JZ{x:ByteArray}{a e:Int}{kids:List aa}(h:gJ (.node 5 x a e kids)=true):
 ∃b c d,kids=[b,c,d]/\b.kind=6/\(∀p∈b.kids,(p.kind=7\/p.kind=8)/\∀q∈p.kids,tV q)/\tV c/\d.kind=11/\xe d=true:=by
 have h2:=jZ h;rw[jA,aaF]at h;obtain⟨sh,hs,hf⟩:=iL h.1;obtain⟨-,hc,oq⟩:=ko hf;have he:some _=some sh:=hs;cases he
 have hl:kids.length=3:=by simpa [qB,aa.kids] using hc
 match kids,hl,oq,h2 with
 | [b,c,d],_,oq,h2=>
  have hkf':fA ⟨cZ,[dF [6],jE fq,dF [11]],none,0⟩ 0 [b,c,d]=true:=oq;simp only[fA,yh,aaF,aaK,aaL]at hkf';obtain⟨hb,hc,hd,-⟩:=hkf';have hb6:b.kind=6:=by simpa [dF] using hb
  have Zy:d.kind=11:=by simpa [dF] using hd
  have hsb:=h2 b (by simp[aa.kids]);refine⟨b,c,d,rfl,hb6,fun p hp=>?_,GJ (h2 c (by simp[aa.kids])) hc,Zy,Kc d (h2 d (by simp[aa.kids])) (by omega)⟩;have hps:=jZ hsb p hp
  have hpk:p.kind=7\/p.kind=8:=by
   rw[jA,aaF]at hsb;obtain⟨sh,hs,hf⟩:=iL hsb.1;obtain⟨-,-,oq⟩:=ko hf;rw[hb6]at hs;have he:some _=some sh:=hs;cases he
   obtain⟨p1,hp1,hpk⟩:=ni _ b.kids 0 oq p hp;rcases hp1 with hp1|hp1
   ·cases hp1
    simpa [dF] using hpk
   ·cases hp1
  exact⟨hpk,UQ hps hpk⟩
theorem zb:∀{l:List aa},(∀q∈l,tV q)->nK l=true/\∀q∈l,q.kind≠12
 | [],_=>⟨by rw[nK],by simp⟩
 | q::l,h=>by
  obtain⟨h1,h2⟩:=zb (l:=l) fun u hu=>h u (by simp[hu])
  have hq:=h q (by simp);refine⟨by rw[nK,aaF];exact⟨IK hq,h1⟩,fun u hu=>?_⟩;rcases List.mem_cons.1 hu with rfl|hu
  ·have:=hq.2.2
   omega
  ·exact h2 u hu
theorem WN(G:aW)(i:Bool){p:aa}(hk:p.kind=7\/p.kind=8)(hq:∀q∈p.kids,tV q){s:aK}{r:RS}(hc:oO r (aF G i p s r).1)(hs:uu s r):
 uu (aF G i p s r).2 (aF G i p s r).1/\(aF G i p s r).1.next=r.next+ah p:=by
 obtain⟨k,x,a,e,kids⟩:=p;have hk':k=7\/k=8:=hk;have hq':∀q∈kids,tV q:=hq;obtain⟨hin,hno⟩:=zb hq';rw[bY,if_neg (by omega),if_neg (by omega),if_neg (by omega),if_pos hk']at hc⊢;have hr:=zl G r i (aj (ak s)) 3 (.node k x a e kids) s;have hr2:=eU G kids i 0 kids.length (aA G (aC r i (aj (ak s))) 3 r.next (.node k x a e kids) s).2 (aA G (aC r i (aj (ak s))) 3 r.next (.node k x a e kids) s).1;obtain⟨hc1,-⟩:=oO.split hr hr2 hc;obtain⟨hf,-,he⟩:=El hc1;rw[jo G kids i 0 kids.length _ _ hin hno,mZ G kids i 0 kids.length _ _ hin];rw[he]at hr hr2⊢;refine⟨?_,?_⟩
 ·have hd:∃d∈(iR (aC r i (aj (ak s))) 3 r.next (.node k x a e kids)).ds,d.node=(r.next:Int)/\d.name=x:=⟨⟨3,x,(r.next:Int),_⟩,by unfold iR;exact List.mem_append_right _ (List.mem_singleton.2 rfl),rfl,rfl⟩
  exact(((hs.mono hr).var hf hd).1).mono hr2
 ·show(r.next+1)+ag ((kids.drop 0).take kids.length)=r.next+ah (.node k x a e kids)
  rw[ah];simp;omega
theorem J2(G:aW)(i:Bool):∀{ps:List aa},(∀p∈ps,(p.kind=7\/p.kind=8)/\∀q∈p.kids,tV q)->∀{s:aK}{r:RS},oO r (ae G i ps 0 ps.length s r).1->uu s r ->
 uu (ae G i ps 0 ps.length s r).2 (ae G i ps 0 ps.length s r).1/\(ae G i ps 0 ps.length s r).1.next=r.next+ag ps
 | [],_,s,r,_,hs=>by rw[ae];exact⟨hs,by rw[ag];rfl⟩
 | p::ps,h,s,r,hc,hs=>by
  rw[aaQ,ae]at hc⊢;have hr1:=qi G p i s r;have hr2:=eU G ps i 0 ps.length (aF G i p s r).2 (aF G i p s r).1;obtain⟨hc1,hc2⟩:=oO.split hr1 hr2 hc;obtain⟨h1,h2⟩:=WN G i (h p (by simp)).1 (h p (by simp)).2 hc1 hs;obtain⟨h3,h4⟩:=J2 G i (fun q hq=>h q (by simp[hq])) hc2 h1;exact⟨h3,by rw[h4,h2,ag];omega⟩
theorem WE(r:RS):uu [[]] r:=⟨by simp,fun y hy=>by simp at hy⟩
theorem bab(k j:ByteArray):(k==j)=decide (k=j):=by
 obtain⟨a⟩:=k;obtain⟨b⟩:=j;show(a==b)=_;rw[Bool.eq_iff_iff];simp
instance lawfulBA:LawfulBEq ByteArray where
 eq_of_beq {a b} h:=by
  rw[bab]at h;exact of_decide_eq_true h
 rfl {a}:=by
  rw[bab];simp
def Jg(t:aa)(S:List (List ByteArray)):List (List ByteArray):=if t.kind=12 then(match S with| []=>[]|l::S=>(l++[t.text])::S) else S
theorem qJ(k:Int)(x:ByteArray)(t:aa)(ts:List aa)(i:Nat)(S:List (List ByteArray))(out:List ByteArray):
 uO k x (t::ts) i S out=uO k x ts (i+1) (Jg t S) (ny t (if k=16/\i=2 then [x]::S else S) out):=by
 first|rfl|(rw[uO.eq_def];rfl)
theorem IU:∀(ds:List Dc) (i:Nat) (l:List (Int×Int)) (u:Int),(ds.map (·.node)).Nodup->bJ (uI ds i l) u=match ds.findIdx? fun d=>decide (d.node=u) with|some j=>some ((i+j:Nat):Int)|none=>bJ l u
 | [],i,l,u,_=>by simp[uI]
 | d::ds,i,l,u,hn=>by
  rw[List.map_cons,List.nodup_cons]at hn;rw[uI,IU ds (i+1) _ u hn.2,List.findIdx?_cons];by_cases h:d.node=u
  ·have hnone:(ds.findIdx? fun d=>decide (d.node=u))=none:=by
    rw[List.findIdx?_eq_none_iff];intro y hy;rw[decide_eq_false_iff_not];exact fun e=>hn.1 (by rw[h,<- e];exact List.mem_map.2 ⟨y,hy,rfl⟩)
   rw[hnone,if_pos (by simp[h])];simp only;rw[rP,if_pos h.symm];rfl
  ·rw[if_neg (by simp[h])]
   cases hf:ds.findIdx? fun d=>decide (d.node=u) with
   | none=>
    simp only[Option.map_none];rw[rP,if_neg (fun e=>h e.symm)]
   | some j=>
    simp only[Option.map_some];congr 2
    omega
theorem Hr{ds:List Dc}(hn:(ds.map (·.node)).Nodup){j:Nat}{d:Dc}(hd:ds[j]? =some d):mK ds d.node=(j:Int):=by
 unfold mK;rw[IU ds 0 _ _ hn]
 have hf:(ds.findIdx? fun x=>decide (x.node=d.node))=some j:=by
  obtain⟨hlt,he⟩:=aaJ.1 hd;rw[List.findIdx?_eq_some_iff_getElem];refine⟨hlt,by rw[he];simp,fun q hq=>?_⟩;rw[decide_eq_true_eq];intro e;have h1:=List.pairwise_iff_getElem.1 hn q j (by simp;omega) (by simpa using hlt) hq;simp only[List.getElem_map]at h1;exact h1 (by rw[e,he])
 rw[hf];simp
theorem T9{ds:List Dc}(hn:(ds.map (·.node)).Nodup)(hp:∀d∈ds,0<=d.node):mK ds (-1)= -1:=by
 unfold mK;rw[IU ds 0 _ _ hn]
 have hf:(ds.findIdx? fun x=>decide (x.node= -1))=none:=by
  rw[List.findIdx?_eq_none_iff];intro y hy;have:=hp y hy;simp;omega
 rw[hf];rfl
theorem yG(x:ByteArray)(a e:Int)(ks:List aa):
 (aF (eP (.node 2 x a e ks)) false (.node 2 x a e ks) [] ⟨[],List.replicate (ah (.node 2 x a e ks)) (-1),[],[],0,0⟩).1=(ae (fO ks) false ks 0 ks.length [] ⟨[],List.replicate (ah (.node 2 x a e ks)) (-1),[],[],1,0⟩).1:=by
 simp only[aF];rfl
theorem WJ{r0 q:RS}(h:nS r0 q)(h0:r0.ds=[]):(q.ds.map (·.node)).Nodup/\∀d∈q.ds,(r0.next:Int)<=d.node:=by
 obtain⟨l,e,hp,hb⟩:=h.ds;rw[h0,List.nil_append]at e;rw[e];refine⟨?_,fun d hd=>(hb d hd).1⟩;refine List.Pairwise.map _ (fun a b hab=>?_) hp;omega
end Go.Proofs.YtoepemlnlpamlaaGreat
namespace Go.Proofs
open Go.Shelf
def Tryz.RO:Go.Shelf.Ren:=⟨fun|189=>101|125=>170|257=>169|128=>221|129=>222|294=>212|295=>213|296=>214|297=>215|298=>216|299=>217|216=>218|300=>219|301=>220|328=>237|329=>238|330=>239|331=>240|332=>241|215=>151|343=>254|n=>n,fun|28=>28|3=>3|46=>218|0=>0|51=>239|53=>252|4=>4|183=>244|182=>243|131=>88|5=>5|9=>9|218=>263|222=>101|228=>273|229=>207|n=>n,fun|n=>n⟩
theorem Tryz.SF:Go.Proofs.Lays.n189 Tryz.prog Tryz.RO:={
 mixed:=by kernel_rfl
 f125:=Tryz.func170.trans (congrArg some (by kernel_rfl))
 f128:=Tryz.func221.trans (congrArg some (by kernel_rfl))
 f129:=Tryz.func222.trans (congrArg some (by kernel_rfl))
 f189:=Tryz.func101.trans (congrArg some (by kernel_rfl))
 f215:=Tryz.func151.trans (congrArg some (by kernel_rfl))
 f216:=Tryz.func218.trans (congrArg some (by kernel_rfl))
 f257:=Tryz.func169.trans (congrArg some (by kernel_rfl))
 f294:=Tryz.func212.trans (congrArg some (by kernel_rfl))
 f295:=Tryz.func213.trans (congrArg some (by kernel_rfl))
 f296:=Tryz.func214.trans (congrArg some (by kernel_rfl))
 f297:=Tryz.func215.trans (congrArg some (by kernel_rfl))
 f298:=Tryz.func216.trans (congrArg some (by kernel_rfl))
 f299:=Tryz.func217.trans (congrArg some (by kernel_rfl))
 f300:=Tryz.func219.trans (congrArg some (by kernel_rfl))
 f301:=Tryz.func220.trans (congrArg some (by kernel_rfl))
 f328:=Tryz.func237.trans (congrArg some (by kernel_rfl))
 f329:=Tryz.func238.trans (congrArg some (by kernel_rfl))
 f330:=Tryz.func239.trans (congrArg some (by kernel_rfl))
 f331:=Tryz.func240.trans (congrArg some (by kernel_rfl))
 f332:=Tryz.func241.trans (congrArg some (by kernel_rfl))
 f343:=Tryz.func254.trans (congrArg some (by kernel_rfl))
 t0:=Tryz.underlying0
 a0:=Tryz.isAgg0
 z0:=Tryz.sizeOf0
 v0:=Tryz.zeroValue0
 t3:=Tryz.underlying3
 a3:=Tryz.isAgg3
 z3:=Tryz.sizeOf3
 v3:=Tryz.zeroValue3
 t4:=Tryz.underlying4
 a4:=Tryz.isAgg4
 z4:=Tryz.sizeOf4
 v4:=Tryz.zeroValue4
 t5:=Tryz.underlying5
 a5:=Tryz.isAgg5
 z5:=Tryz.sizeOf5
 v5:=Tryz.zeroValue5
 t9:=Tryz.underlying9
 a9:=Tryz.isAgg9
 z9:=Tryz.sizeOf9
 v9:=Tryz.zeroValue9
 t28:=Tryz.underlying28
 a28:=Tryz.isAgg28
 z28:=Tryz.sizeOf28
 v28:=Tryz.zeroValue28
 t46:=Tryz.underlying218
 a46:=Tryz.isAgg218
 z46:=Tryz.sizeOf218
 v46:=Tryz.zeroValue218
 t51:=Tryz.underlying239
 a51:=Tryz.isAgg239
 z51:=Tryz.sizeOf239
 v51:=Tryz.zeroValue239
 t53:=Tryz.underlying252
 a53:=Tryz.isAgg252
 z53:=Tryz.sizeOf252
 v53:=Tryz.zeroValue252
 t131:=Tryz.underlying88
 a131:=Tryz.isAgg88
 z131:=Tryz.sizeOf88
 v131:=Tryz.zeroValue88
 t182:=Tryz.underlying243
 a182:=Tryz.isAgg243
 z182:=Tryz.sizeOf243
 v182:=Tryz.zeroValue243
 t183:=Tryz.underlying244
 a183:=Tryz.isAgg244
 z183:=Tryz.sizeOf244
 v183:=Tryz.zeroValue244
 t218:=Tryz.underlying263
 a218:=Tryz.isAgg263
 z218:=Tryz.sizeOf263
 v218:=Tryz.zeroValue263
 t222:=Tryz.underlying101
 a222:=Tryz.isAgg101
 z222:=Tryz.sizeOf101
 v222:=Tryz.zeroValue101
 t228:=Tryz.underlying273
 a228:=Tryz.isAgg273
 z228:=Tryz.sizeOf273
 v228:=Tryz.zeroValue273
 t229:=Tryz.underlying207
 a229:=Tryz.isAgg207
 z229:=Tryz.sizeOf207
 v229:=Tryz.zeroValue207 }
open Go.Sort Go.RowKit in
theorem Tryz.slices_Sort_int(blk off cap:Nat)(zs:List Int)(w:World)(hH:Holds (Value.int .i64) w blk off zs.toArray)(hblk:blk<w.heap.size)(hsz:zs.length<4611686018427387904):
 Calls Tryz.prog 101 #[.slice (some ⟨blk,off,none⟩) zs.length cap] w fun e w'=>
  e= .returned (.tuple #[])/\∃n os,w'=grow (putRow (Value.int .i64) (Sort.ahead w n) blk off (zs.mergeSort fun x y=>decide (x<=y)).toArray) os:=Any.slices_Sort_int Tryz.SF blk off cap zs w hH hblk hsz
open Go.RowKit Go.Sort in
theorem Tryz.slices_Sort_int_none(p:Option Addr)(cap:Nat)(w:World):
 Calls Tryz.prog 101 #[.slice p 0 cap] w fun e w'=>e= .returned (.tuple #[])/\w'=w:=Any.slices_Sort_int_none Tryz.SF p cap w
end Go.Proofs
namespace Go.Proofs.YtoepemlnlpamlaaGreat
open Go.RowKit Go.Sort
abbrev iE(l:List Int):List Value:=l.map (Value.int .i64)
theorem aae(v:Value)(base n:Nat)(zs:List Int)(w:World)(h:aL w base 3 1 v n (iE zs))(hn:n<=1000000):
 Calls Tryz.prog 101 #[v] w fun e w'=>e= .returned (.tuple #[])/\aL w' base 3 1 v n (iE (zs.mergeSort fun x y=>decide (x<=y)))/\w.grownBy w' v.ownBlock:=by
 have hl:zs.length=n:=by have:=h.1;simpa using this
 by_cases h0:n=0
 ·subst h0
  have hz:zs=[]:=List.eq_nil_of_length_eq_zero hl;subst hz;obtain⟨A,c,hA,_,_⟩:=h.shape;subst hA;refine(Tryz.slices_Sort_int_none A c w).mono ?_;rintro e w' ⟨rfl,rfl⟩;exact⟨rfl,by simpa using h,⟨rfl,rfl,rfl,aaD _,fun _ _ _=>rfl⟩⟩
 ·rcases h.2 with⟨_,h1⟩| ⟨g,off,cap,cur,rfl,hb,hg,hnc,hm,hs,ht⟩
  ·omega
  ·have hlt:g<w.heap.size:=(aaG.1 hg).1
   have hH:Holds (Value.int .i64) w g off zs.toArray:=by
    intro j hj;have hj':j<zs.length:=by simpa using hj
    refine⟨?_,by simp[World.frozen?,hg]⟩;obtain⟨g',off',cap',hv',_,_,_,_,hc⟩:=h.form (by omega);cases hv'
    refine hc j _ ?_;simp[hj']
   rw[<- hl];refine(Tryz.slices_Sort_int g off cap zs w hH hlt (by omega)).mono ?_;rintro e w' ⟨rfl,q,os,rfl⟩
   have hheap:(grow (putRow (Value.int .i64) (Sort.ahead w q) g off (zs.mergeSort fun x y=>decide (x<=y)).toArray) os).heap[g]? =some (.cells (putCells (Value.int .i64) off (zs.mergeSort fun x y=>decide (x<=y)).toArray cur) 3 (0,0)):=by
    rw[heap_grow_old _ _ (by simpa using hlt)];simp[putRow,mapBlock,Sort.ahead,Array.getElem?_modify,hg,onCells]
   refine⟨rfl,⟨by simp,.inr ⟨g,off,cap,_,rfl,hb,hheap,by omega,hm,by simp[putCells];omega,?_⟩⟩,⟨rfl,rfl,rfl,by simp,fun k hk hne=>?_⟩⟩
   ·apply List.ext_getElem?
    intro j;by_cases hj:j<zs.length
    ·rw[Nat.mul_one,List.getElem?_take_of_lt hj,List.getElem?_drop,Array.getElem?_toList]
     have h1:off+j<cur.size:=by omega
     simp[putCells,hj,h1]
    ·rw[Nat.mul_one,List.getElem?_take_eq_none (by omega),List.getElem?_eq_none (by simp;omega)]
   ·rw[heap_grow_old _ _ (by simpa using hk)]
    have Qc:g≠k:=fun e=>hne (by simp[Value.ownBlock,e])
    simp[putRow,mapBlock,Sort.ahead,Array.getElem?_modify,Qc]
end Go.Proofs.YtoepemlnlpamlaaGreat
