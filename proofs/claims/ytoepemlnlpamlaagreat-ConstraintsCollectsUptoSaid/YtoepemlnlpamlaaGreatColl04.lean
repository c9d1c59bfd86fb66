/- Collect agrees with the reference. Part 4: At1 VisM Ord3 Nam8 Nam9 Vis3 VisW VisH VisA0 VisA1 VisA2 VisA3 VisB0 VisB1. -/
import Derived.Test.YtoepemlnlpamlaaGreatColl03
set_option maxRecDepth 100000
set_option maxHeartbeats 4000000
namespace Go.Proofs.YtoepemlnlpamlaaGreat
structure Fh (R:RS->RS->Prop):Prop where
 refl:∀r,R r r
 trans:∀{a b c},R a b->R b c->R a c
 none_:∀(r:RS) (i:Bool) (v:List Int),R r (aI r i v)
 say:∀(r:RS) (i:Bool) (v:List Int) (c:Int) (t:ae),R r (pE (aI r i v) c r.next t)
 decl:∀(r:RS) (i:Bool) (v:List Int) (c:Int) (t:ae),R r (kK (aI r i v) c r.next t)
 use:∀(r:RS) (i:Bool) (v:List Int) (k:Int),R r { aI r i v with uses:=r.uses.set r.next k }
 owner:∀(r:RS) (o:Int),R r { r with owner:=o }
section
variable {R:RS->RS->Prop}(hR:Fh R)
include hR
theorem Fh.declare(r:RS)(i:Bool)(v:List Int)(c:Int)(t:ae)(a:Bool):R r (aX (aI r i v) c r.next t a):=by
 cases a
 ·exact hR.decl r i v c t
 exact hR.say r i v 9 t
theorem Fh.mR(G:bf)(r:RS)(i:Bool)(v:List Int)(c:Int)(t:ae)(s:aR):R r (aJ G (aI r i v) c r.next t s).1:=by
 unfold aJ;split
 ·exact hR.say r i v 9 t
 exact hR.decl r i v c t
theorem Fh.En(r:RS)(i:Bool)(v:List Int)(t:ae)(C:Option Int):R r (iw (aI r i v) r.next t C):=by
 cases C with
 | none=>exact hR.say r i v 8 t
 | some k=>exact hR.use r i v k
mutual
theorem BN(G:bf):∀(t:ae) (i:Bool) (s:aR) (r:RS),R r (aK G i t s r).1
 | .node k x a e kids,i,s,r=>by
  have C:∀u f n s',R r u->R r (aj G i kids f n s' u).1:=fun u f n s' D=>hR.trans D (pM G kids i f n s' u)
  have J:∀c F,R r { aX (aI r i (aF (aH s))) c r.next (.node k x a e kids) F with owner:=(r.next:Int) }:=fun c F=>hR.trans (hR.declare r i _ c _ F) (hR.owner _ _)
  have I:∀c s',R r (aJ G (aI r i (aF (aH s))) c r.next (.node k x a e kids) s').1:=fun c s'=>hR.mR G r i _ c _ s'
  have D:∀H,R r (iw (aI r i (aF (aH s))) r.next (.node k x a e kids) H):=fun H=>hR.En r i _ _ H
  rw[dz];split
  ·exact C _ _ _ _ (J _ _)
  split
  ·exact C _ _ _ _ (hR.declare r i _ _ _ _)
  split
  ·exact hR.trans (hR.trans (J _ _) (pM G kids false 0 2 _ _)) (pM G kids true 2 1 _ _)
  split
  ·exact C _ _ _ _ (I _ _)
  split
  ·exact C _ _ _ _ (hR.none_ r i _)
  split
  ·exact C _ _ _ _ (I _ _)
  split
  ·exact hR.trans (C _ _ _ _ (I _ _)) (pM G kids i 2 1 _ _)
  refine C _ _ _ _ ?_;unfold ik;split
  ·exact D _
  split
  ·exact D _
  split
  ·exact D _
  split
  ·exact D _
  split
  ·exact D _
  exact hR.none_ r i _
theorem pM(G:bf):∀(ts:List ae) (i:Bool) (f n:Nat) (s:aR) (r:RS),R r (aj G i ts f n s r).1
 | [],_,_,_,_,r=>by rw[aj];exact hR.refl r
 | t::ts,i,f+1,n,s,r=>by rw[aj];exact pM G ts i f n s r
 | t::ts,i,0,0,s,r=>by rw[aj];exact hR.refl r
 | t::ts,i,0,n+1,s,r=>by rw[aj];exact hR.trans (BN G t i s r) (pM G ts i 0 n _ _)
end
end
structure pz (a b:RS):Prop where
 next:a.next<=b.next
 aU:∃l,b.aU=a.aU++l/\(l.Pairwise fun x y=>x.1<y.1)/\∀x∈l,(a.next:Int)<=x.1/\x.1<(b.next:Int)
 ds:∃l,b.ds=a.ds++l/\(l.Pairwise fun x y=>x.node<y.node)/\∀d∈l,(a.next:Int)<=d.node/\d.node<(b.next:Int)
 qF:b.uses.length=a.uses.length
 uses:∀j,j<a.next\/b.next<=j->b.uses[j]? =a.uses[j]?
 aP:∀m:Nat,m<a.next\/b.next<=m->bK b.aP (m:Int)=bK a.aP (m:Int)
theorem pz.of_same{a b:RS}(I:b.next=a.next)(D:b.aU=a.aU)(F:b.ds=a.ds)(C:b.uses=a.uses)(H:b.aP=a.aP):pz a b:=
 ⟨by omega,⟨[],by simp[D],List.Pairwise.nil,by simp⟩,⟨[],by simp[F],List.Pairwise.nil,by simp⟩,by rw[C],fun _ _=>by rw[C],fun _ _=>by rw[H]⟩
theorem pz.trans{a b c:RS}(h:pz a b)(k:pz b c):pz a c:=by
 have Y:=h.next;have v:=k.next;obtain⟨W,S,J,D⟩:=h.aU;obtain⟨X,T,O,H⟩:=k.aU;obtain⟨U,Q,I,P⟩:=h.ds;obtain⟨le,kd,L,F⟩:=k.ds;refine⟨by omega,⟨W++X,by rw[T,S,List.append_assoc],List.pairwise_append.2 ⟨J,O,fun x C y K=>?_⟩,fun x C=>?_⟩,⟨U++le,by rw[kd,Q,List.append_assoc],List.pairwise_append.2 ⟨I,L,fun x C y K=>?_⟩,fun x C=>?_⟩,by rw[k.qF,h.qF],fun j Z=>?_,fun m z=>?_⟩
 ·have:=(D x C).2;have:=(H y K).1;omega
 ·rcases List.mem_append.1 C with C|C
  ·have:=D x C;omega
  have:=H x C;omega
 ·have:=(P x C).2;have:=(F y K).1;omega
 ·rcases List.mem_append.1 C with C|C
  ·have:=P x C;omega
  have:=F x C;omega
 ·rw[k.uses j (by omega),h.uses j (by omega)]
 rw[k.aP m (by omega),h.aP m (by omega)]
theorem Iu(r:RS)(i:Bool)(v:List Int)(m:Nat)(h:m≠r.next):bK (aI r i v).aP (m:Int)=bK r.aP (m:Int):=by
 cases i
 ·rfl
 show bK (dZ r.aP (r.next:Int) v) (m:Int)=_;rw[pU,if_neg (by omega)]
theorem TJ(l:List Int)(n:Nat)(k:Int)(j:Nat)(h:j≠n):(l.set n k)[j]? =l[j]? :=by
 rw[List.getElem?_set];rw[if_neg (fun e=>h e.symm)]
theorem qR:Fh pz where
 refl:=fun r=>pz.of_same rfl rfl rfl rfl rfl
 trans:=pz.trans
 none_:=fun r i v=>⟨Nat.le_succ _,⟨[],by simp[aI],List.Pairwise.nil,by simp⟩,⟨[],by simp[aI],List.Pairwise.nil,by simp⟩,rfl,fun _ _=>rfl,fun m D=>Iu r i v m (by have:(aI r i v).next=r.next+1:=rfl;omega)⟩
 say:=fun r i v c t=>⟨Nat.le_succ _,⟨_,rfl,List.pairwise_singleton _ _,fun x C=>by
  rw[List.mem_singleton]at C;subst C;have:(pE (aI r i v) c r.next t).next=r.next+1:=rfl;rw[this];simp only
  omega⟩,⟨[],by simp[aI,pE],List.Pairwise.nil,by simp⟩,rfl,fun _ _=>rfl,fun m D=>Iu r i v m (by have:(pE (aI r i v) c r.next t).next=r.next+1:=rfl;omega)⟩
 decl:=fun r i v c t=>⟨Nat.le_succ _,⟨[],by simp[aI,kK],List.Pairwise.nil,by simp⟩,⟨_,rfl,List.pairwise_singleton _ _,fun x C=>by
  rw[List.mem_singleton]at C;subst C;have:(kK (aI r i v) c r.next t).next=r.next+1:=rfl;rw[this];simp only
  omega⟩,List.length_set,fun j F=>TJ _ _ _ _ (by have:(kK (aI r i v) c r.next t).next=r.next+1:=rfl;omega),fun m D=>Iu r i v m (by have:(kK (aI r i v) c r.next t).next=r.next+1:=rfl;omega)⟩
 use:=fun r i v k=>⟨Nat.le_succ _,⟨[],by simp[aI],List.Pairwise.nil,by simp⟩,⟨[],by simp[aI],List.Pairwise.nil,by simp⟩,List.length_set,fun j F=>TJ _ _ _ _ (by have:({ aI r i v with uses:=r.uses.set r.next k }:RS).next=r.next+1:=rfl;omega),fun m D=>Iu r i v m (by have:({ aI r i v with uses:=r.uses.set r.next k }:RS).next=r.next+1:=rfl;omega)⟩
 owner:=fun r o=>pz.of_same rfl rfl rfl rfl rfl
theorem mQ(G:bf)(t:ae)(i:Bool)(s:aR)(r:RS):pz r (aK G i t s r).1:=BN qR G t i s r
theorem eF(G:bf)(ts:List ae)(i:Bool)(f n:Nat)(s:aR)(r:RS):pz r (aj G i ts f n s r).1:=pM qR G ts i f n s r
mutual
def pq(nl:Bool):ae->Bool
 | .node k _ _ _ kids=>
  if k=5 then decide (kids.length=3)&&lG false kids
  else if k=11 then lG false kids
  else if k=7\/k=8\/k=12\/k=16 then !nl&&(decide (k≠12) || decide (kids.length=2))&&(decide (k≠16) || decide (kids.length=3))&&lG nl kids
  else lG nl kids
def lG(nl:Bool):List ae->Bool
 | []=>true
 | t::ts=>pq nl t&&lG nl ts
end
theorem abM{D:Bool}{ts:List ae}:lG D ts=true->∀t∈ts,pq D t=true:=by
 induction ts with
 | nil=>intro _ t h;cases h
 | cons a ts ih=>
  intro h t C;rw[lG,acb]at h;rcases List.mem_cons.1 C with rfl|C
  ·exact h.1
  exact ih h.2 t C
theorem zU:∀(a b:List ae),aC (a++b)=aC a+aC b
 | [],b=>by simp[aC]
 | t::a,b=>by
  rw[List.cons_append,aC,aC,zU a b];omega
theorem BC(l:List ae)(a b:Nat):aC (l.take a)+aC ((l.drop a).take b)<=aC l:=by
 have C:aC (l.take a)+aC (l.drop a)=aC l:=by rw[<- zU,List.take_append_drop]
 have D:aC ((l.drop a).take b)+aC ((l.drop a).drop b)=aC (l.drop a):=by rw[<- zU,List.take_append_drop]
 omega
theorem qV(r:RS)(i:Bool)(v:List Int)(c:Int)(t:ae)(b:Bool):(aX (aI r i v) c r.next t b).next=r.next+1:=by cases b<;>rfl
theorem nX(G:bf)(r:RS)(i:Bool)(v:List Int)(c:Int)(t:ae)(s:aR):(aJ G (aI r i v) c r.next t s).1.next=r.next+1:=by
 unfold aJ;split<;>rfl
theorem Kw(G:bf)(s:aR)(r:RS)(i:Bool)(v:List Int)(t:ae):(ik G s r (aI r i v) t).next=r.next+1:=by
 have C:∀D,(iw (aI r i v) r.next t D).next=r.next+1:=fun D=>by cases D<;>rfl
 unfold ik;split
 ·exact C _
 split
 ·exact C _
 split
 ·exact C _
 split
 ·exact C _
 split
 ·exact C _
 rfl
mutual
theorem MI(G:bf):∀(t:ae) (i:Bool) (s:aR) (r:RS),(aK G i t s r).1.next<=r.next+aB t
 | .node k x a e kids,i,s,r=>by
  have C:∀s' (u:RS),u.next=r.next+1->(aj G i kids 0 kids.length s' u).1.next<=r.next+aB (.node k x a e kids):=fun s' u h=>by
   have:=qc G kids i 0 kids.length s' u;rw[h]at this;simp only[List.drop_zero,List.take_length]at this;rw[aB];omega
  have D:∀I J s1 K (u:RS),u.next=r.next+1->(aj G J kids 2 1 K (aj G I kids 0 2 s1 u).1).1.next<=r.next+aB (.node k x a e kids):=fun I J s1 K u h=>by
   have F:=qc G kids I 0 2 s1 u;have O:=qc G kids J 2 1 K (aj G I kids 0 2 s1 u).1;have L:=BC kids 2 1;rw[h]at F;simp only[List.drop_zero]at F;rw[aB];omega
  have H:∀s' (u:RS),u.next=r.next+1->(aj G i kids 0 2 s' u).1.next<=r.next+aB (.node k x a e kids):=fun s' u h=>by
   have F:=qc G kids i 0 2 s' u;have L:=BC kids 2 1;rw[h]at F;simp only[List.drop_zero]at F;rw[aB];omega
  rw[dz];split
  ·exact C _ _ (qV r i _ 0 _ _)
  split
  ·exact C _ _ (qV r i _ 1 _ _)
  split
  ·exact D _ _ _ _ _ (qV r i _ 2 _ _)
  split
  ·exact C _ _ (nX _ _ _ _ _ _ _)
  split
  ·exact C _ _ rfl
  split
  ·exact H _ _ (nX _ _ _ _ _ _ _)
  split
  ·exact D _ _ _ _ _ (nX _ _ _ _ _ _ _)
  exact C _ _ (Kw _ _ _ _ _ _)
theorem qc(G:bf):∀(ts:List ae) (i:Bool) (f n:Nat) (s:aR) (r:RS),(aj G i ts f n s r).1.next<=r.next+aC ((ts.drop f).take n)
 | [],_,_,_,_,_=>by rw[aj];simp
 | t::ts,i,f+1,n,s,r=>by
  rw[aj,List.drop_succ_cons];exact qc G ts i f n s r
 | t::ts,i,0,0,s,r=>by rw[aj];simp
 | t::ts,i,0,n+1,s,r=>by
  rw[aj];have D:=MI G t i s r;have C:=qc G ts i 0 n (aK G i t s r).2 (aK G i t s r).1;simp only[List.drop_zero,List.take_succ_cons,aC]at C⊢;omega
end
structure qM (a b:RS):Prop where
 next:a.next<=b.next
 aU:b.aU.length+a.next<=a.aU.length+b.next
 ds:b.ds.length+a.next<=a.ds.length+b.next
 aP:(∀x∈a.aP,x.1<(a.next:Int))->∀x∈b.aP,x.1<(b.next:Int)
 qF:b.uses.length=a.uses.length
theorem PT{K V:Type}[DecidableEq K]:∀(l:List (K×V)) (k:K) (v:V),∀x∈dZ l k v,x∈l\/x=(k,v)
 | [],k,v,x,h=>by
  rw[dZ,List.mem_singleton]at h;exact .inr h
 | y::l,k,v,x,h=>by
  rw[dZ]at h;by_cases C:k=y.1
  ·rw[if_pos C]at h
   rcases List.mem_cons.1 h with h|h
   ·exact .inr h
   exact .inl (List.mem_cons_of_mem _ h)
  rw[if_neg C]at h;rcases List.mem_cons.1 h with h|h
  ·exact .inl (by rw[h];simp)
  rcases PT l k v x h with h|h
  ·exact .inl (List.mem_cons_of_mem _ h)
  exact .inr h
theorem E8(r:RS)(i:Bool)(v:List Int)(h:∀x∈r.aP,x.1<(r.next:Int)):∀x∈(aI r i v).aP,x.1<((r.next+1:Nat):Int):=by
 intro x C;unfold aI at C;cases i
 ·have:=h x C
  omega
 rcases PT _ _ _ x C with C|rfl
 ·have:=h x C
  omega
 simp;omega
theorem dY:Fh qM where
 refl:=fun r=>⟨ab9 _,ab9 _,ab9 _,fun h=>h,rfl⟩
 trans:=fun h k=>⟨aca h.next k.next,by have:=h.aU;have:=k.aU;omega,by have:=h.ds;have:=k.ds;omega,fun C=>k.aP (h.aP C),by rw[k.qF,h.qF]⟩
 none_:=fun r i v=>⟨Nat.le_succ _,by show r.aU.length+r.next<=r.aU.length+(r.next+1);omega,by show r.ds.length+r.next<=r.ds.length+(r.next+1);omega,E8 r i v,rfl⟩
 say:=fun r i v c t=>⟨Nat.le_succ _,by simp[pE,aI];omega,by show r.ds.length+r.next<=r.ds.length+(r.next+1);omega,E8 r i v,rfl⟩
 decl:=fun r i v c t=>⟨Nat.le_succ _,by show r.aU.length+r.next<=r.aU.length+(r.next+1);omega,by simp[kK,aI];omega,E8 r i v,List.length_set⟩
 use:=fun r i v k=>⟨Nat.le_succ _,by show r.aU.length+r.next<=r.aU.length+(r.next+1);omega,by show r.ds.length+r.next<=r.ds.length+(r.next+1);omega,E8 r i v,List.length_set⟩
 owner:=fun r o=>⟨ab9 _,ab9 _,ab9 _,fun h=>h,rfl⟩
theorem El(G:bf)(t:ae)(i:Bool)(s:aR)(r:RS):qM r (aK G i t s r).1:=BN dY G t i s r
theorem yF(G:bf)(ts:List ae)(i:Bool)(f n:Nat)(s:aR)(r:RS):qM r (aj G i ts f n s r).1:=pM dY G ts i f n s r
theorem pY(l:lL)(s:aR):(aH (l::s)).length=l.length+(aH s).length:=by
 show(List.flatMap (fun l:lL=>l.map (·.2)) (l::s)).length=l.length+(List.flatMap (fun l:lL=>l.map (·.2)) s).length;rw[List.flatMap_cons,acm,List.length_map]
theorem PU{K V:Type}[DecidableEq K]:∀(l:List (K×V)) (k:K) (v:V),(dZ l k v).length<=l.length+1
 | [],k,v=>by simp[dZ]
 | y::l,k,v=>by
  rw[dZ];split
  ·simp
  have:=PU l k v;simp;omega
theorem Rf:∀(l:lL) (x:lL),(l.foldl (fun a y=>dZ a y.1 y.2) x).length<=x.length+l.length
 | [],x=>by simp
 | y::l,x=>by
  rw[List.foldl_cons];have C:=Rf l (dZ x y.1 y.2);have D:=PU x y.1 y.2;simp only[aco];omega
theorem RD(s:aR)(l:lL):(aH (lh s l)).length<=(aH s).length+l.length:=by
 cases s with
 | nil=>simp[lh]
 | cons x s=>
  have:=Rf l x;show(aH ((l.foldl (fun a y=>dZ a y.1 y.2) x)::s)).length<=_;rw[pY,pY];have C:(l.foldl (fun a y=>dZ a y.1 y.2) x).length<=x.length+l.length:=this;clear this;exact aca (Nat.add_le_add_right C _) (by omega)
theorem Oo(s:aR):(aH s.tail).length<=(aH s).length:=by
 cases s with
 | nil=>simp
 | cons x s=>
  rw[pY];show(aH s).length<=_;omega
theorem Kg(G:bf)(r:RS)(c:Int)(n:Nat)(t:ae)(s:aR):(aH (aJ G r c n t s).2).length<=(aH s).length+1:=by
 unfold aJ;split
 ·show(aH s).length<=_
  omega
 exact RD _ _
theorem QT(G:bf)(r:RS)(c:Int)(n:Nat)(t:ae)(s:aR):((aJ G r c n t ([]::s)).2.headD []).length<=1:=by
 unfold aJ;split
 ·simp
 simp[lh,dZ]
mutual
theorem WO(G:bf):∀(t:ae) (i:Bool) (s:aR) (r:RS),(aH (aK G i t s r).2).length+r.next<=(aH s).length+(aK G i t s r).1.next
 | .node k x a e kids,i,s,r=>by
  by_cases D:k=5
  ·have C:(aK G i (.node k x a e kids) s r).2=s:=by rw[dz,if_neg (by omega),if_neg (by omega),if_pos D]
   rw[C];have:=(El G (.node k x a e kids) i s r).next;omega
  rw[dz];split
  ·have h:=iI G kids i 0 kids.length s { aX (aI r i (aF (aH s))) 0 r.next (.node k x a e kids) (decide ((aV G.globals x).getD 0≠(r.next:Int))) with owner:=(r.next:Int) }
   have I:({ aX (aI r i (aF (aH s))) 0 r.next (.node k x a e kids) (decide ((aV G.globals x).getD 0≠(r.next:Int))) with owner:=(r.next:Int) }:RS).next=r.next+1:=qV r i _ 0 _ _;omega
  split
  ·have h:=iI G kids i 0 kids.length s (aX (aI r i (aF (aH s))) 1 r.next (.node k x a e kids) (decide ((aV G.fields x).getD 0≠(r.next:Int))))
   rw[qV]at h;omega
  split
  ·have h:=iI G kids i 0 kids.length (aJ G (aI r i (aF (aH s))) 3 r.next (.node k x a e kids) s).2 (aJ G (aI r i (aF (aH s))) 3 r.next (.node k x a e kids) s).1
   have C:=Kg G (aI r i (aF (aH s))) 3 r.next (.node k x a e kids) s;rw[nX]at h;omega
  split
  ·have h:=iI G kids i 0 kids.length ([]::s) (aI r i (aF (aH s)))
   have C:=Oo (aj G i kids 0 kids.length ([]::s) (aI r i (aF (aH s)))).2;have I:(aI r i (aF (aH s))).next=r.next+1:=rfl;rw[pY]at h;dsimp only
   simp only[List.length_nil]at h;omega
  split
  ·have h:=iI G kids i 0 2 s (aJ G (aI r i (aF (aH s))) 4 r.next (.node k x a e kids) ([]::s)).1
   have C:=RD (aj G i kids 0 2 s (aJ G (aI r i (aF (aH s))) 4 r.next (.node k x a e kids) ([]::s)).1).2 ((aJ G (aI r i (aF (aH s))) 4 r.next (.node k x a e kids) ([]::s)).2.headD []);have F:=QT G (aI r i (aF (aH s))) 4 r.next (.node k x a e kids) s;rw[nX]at h;dsimp only
   omega
  split
  ·have h:=iI G kids i 0 2 s (aJ G (aI r i (aF (aH s))) 5 r.next (.node k x a e kids) ([]::s)).1
   have F:=QT G (aI r i (aF (aH s))) 5 r.next (.node k x a e kids) s;have H:=iI G kids i 2 1 ((aJ G (aI r i (aF (aH s))) 5 r.next (.node k x a e kids) ([]::s)).2.headD []::(aj G i kids 0 2 s (aJ G (aI r i (aF (aH s))) 5 r.next (.node k x a e kids) ([]::s)).1).2) (aj G i kids 0 2 s (aJ G (aI r i (aF (aH s))) 5 r.next (.node k x a e kids) ([]::s)).1).1;have D:=Oo (aj G i kids 2 1 ((aJ G (aI r i (aF (aH s))) 5 r.next (.node k x a e kids) ([]::s)).2.headD []::(aj G i kids 0 2 s (aJ G (aI r i (aF (aH s))) 5 r.next (.node k x a e kids) ([]::s)).1).2) (aj G i kids 0 2 s (aJ G (aI r i (aF (aH s))) 5 r.next (.node k x a e kids) ([]::s)).1).1).2;rw[nX]at h;rw[pY]at H;dsimp only
   omega
  have h:=iI G kids i 0 kids.length s (ik G s r (aI r i (aF (aH s))) (.node k x a e kids));rw[Kw]at h;omega
theorem iI(G:bf):∀(ts:List ae) (i:Bool) (f n:Nat) (s:aR) (r:RS),(aH (aj G i ts f n s r).2).length+r.next<=(aH s).length+(aj G i ts f n s r).1.next
 | [],_,_,_,_,_=>by rw[aj];exact ab9 _
 | t::ts,i,f+1,n,s,r=>by rw[aj];exact iI G ts i f n s r
 | t::ts,i,0,0,s,r=>by rw[aj];exact ab9 _
 | t::ts,i,0,n+1,s,r=>by
  rw[aj];have C:=WO G t i s r;have D:=iI G ts i 0 n (aK G i t s r).2 (aK G i t s r).1;omega
end
structure RB (r:RS) (s:aR) (n:Nat):Prop where
 aU:r.aU.length<=r.next
 ds:r.ds.length<=r.next
 WR:(aH s).length<=r.next
 aP:∀x∈r.aP,x.1<(r.next:Int)
 room:r.next+n<=r.uses.length
 most:r.uses.length<=1000000
theorem RB.slow{r q:RS}{s s':aR}{n m:Nat}(h:RB r s n)(k:qM r q)(C:(aH s').length+r.next<=(aH s).length+q.next)(D:q.next+m<=r.next+n):RB q s' m where
 aU:=by have:=h.aU;have:=k.aU;omega
 ds:=by have:=h.ds;have:=k.ds;omega
 WR:=by have:=h.WR;omega
 aP:=k.aP h.aP
 room:=by have:=h.room;rw[k.qF];omega
 most:=by rw[k.qF];exact h.most
theorem Cx(G:bf)(i:Bool):∀(ts:List ae) (f n:Nat) (s:aR) (r:RS) (t:ae),ts[f+n]? =some t ->
 aj G i ts f (n+1) s r=aK G i t (aj G i ts f n s r).2 (aj G i ts f n s r).1
 | [],f,n,s,r,t,h=>by simp at h
 | u::ts,f+1,n,s,r,t,h=>by
  rw[aj,aj];exact Cx G i ts f n s r t (by rw[show f+1+n=(f+n)+1 by omega]at h;simpa using h)
 | u::ts,0,0,s,r,t,h=>by
  simp at h;subst h;rw[aj,aj]
  cases ts with
  | nil=>simp only[aj]
  | cons=>simp only[aj]
 | u::ts,0,n+1,s,r,t,h=>by
  rw[aj,aj];exact Cx G i ts 0 n _ _ t (by rw[Nat.zero_add];simpa using h)
theorem IG(G:bf)(i:Bool)(ts:List ae)(f:Nat)(s:aR)(r:RS):aj G i ts f 0 s r=(r,s):=by
 induction ts generalizing f with
 | nil=>rw[aj]
 | cons t ts ih=>
  cases f with
  | zero=>rw[aj]
  | succ f=>rw[aj];exact ih f
def qd:ae->Bool
 | .node k _ _ _ kids=>(decide (k=3)&&kids.all fun f=>decide (f.kind=4)&&lH f.kids) || (decide (k=5)&&decide (kids.length=3)&&lH kids)
def Ke(G:bf)(fs:List ae)(n:Nat):Nat:=((fD fs n).filter fun y=>decide ((aV G.fields y.1.text).getD 0≠(y.2:Int))).length
def bad(G:bf)(k:ae)(n:Nat):Nat:=(decide ((aV G.globals k.text).getD 0≠(n:Int))).toNat+(if k.kind=3 then Ke G k.kids (n+1) else 0)
def own(k:ae):Nat:=1+(if k.kind=3 then k.kids.length else 0)
theorem Us(G:bf)(x:ByteArray)(a e:Int)(kids:List ae)(n:Nat):bad G (.node 3 x a e kids) n=(decide ((aV G.globals x).getD 0≠(n:Int))).toNat+Ke G kids (n+1):=by
 unfold bad;rw[if_pos (show(ae.node 3 x a e kids).kind=3 from rfl)];rfl
theorem Ry(G:bf)(x:ByteArray)(a e:Int)(kids:List ae)(n:Nat):bad G (.node 5 x a e kids) n=(decide ((aV G.globals x).getD 0≠(n:Int))).toNat:=by
 unfold bad;rw[if_neg (show ¬(ae.node 5 x a e kids).kind=3 by show ¬((5:Int)=3);decide)];rfl
theorem own_rec(x:ByteArray)(a e:Int)(kids:List ae):own (.node 3 x a e kids)=1+kids.length:=by
 unfold own;rw[if_pos (show(ae.node 3 x a e kids).kind=3 from rfl)];rfl
theorem aat(x:ByteArray)(a e:Int)(kids:List ae):own (.node 5 x a e kids)=1:=by
 unfold own;rw[if_neg (show ¬(ae.node 5 x a e kids).kind=3 by show ¬((5:Int)=3);decide)]
def Ih(m b1 b2 u:Nat)(r1 q1 r2 q2:RS):Prop:=
 ∃p d,q1.aU.length=r1.aU.length+b1+p/\q2.aU.length=r2.aU.length+b2+p/\q1.ds.length+b1=r1.ds.length+u+d/\q2.ds.length+b2=r2.ds.length+u+d/\q1.next=r1.next+m/\q2.next=r2.next+m
theorem vW.toB{m:Nat}{F C H D:RS}(h:vW m F C H D):Ih m 0 0 0 F C H D:=by
 obtain⟨p,d,h⟩:=h;exact⟨p,d,by simpa using h.p1,by simpa using h.p2,by simpa using h.d1,by simpa using h.d2,h.n1,h.n2⟩
theorem Ih.trans{m F H u K C D U n I J v:Nat}{P L S Q O T:RS}(h:Ih m F H u P L Q O)(k:Ih K C D U L S O T)(hn:n=m+K)(h1:I=F+C)(h2:J=H+D)(hv:v=u+U):Ih n I J v P S Q T:=by
 obtain⟨p,d,q,l,j,g,f,b⟩:=h;obtain⟨p',t,W,X,Y,Z,z,y⟩:=k;exact⟨p+p',d+t,by omega,by omega,by omega,by omega,by omega,by omega⟩
theorem CZ(F H:RS)(c:Int)(I J:Nat)(t:ae)(C D:Bool):Ih 0 C.toNat D.toNat 1 F (aX F c I t C) H (aX H c J t D):=by
 refine⟨0,0,?_⟩;cases C<;>cases D<;>simp[aX,pE,kK]
theorem J4(C D:RS)(F H:List (Int×List Int)):Ih 1 0 0 0 C { C with next:=C.next+1,aP:=F } D { D with next:=D.next+1,aP:=H }:=⟨0,0,rfl,rfl,rfl,rfl,rfl,rfl⟩
theorem Oa(C D:RS)(F H:Int):Ih 0 0 0 0 C { C with owner:=F } D { D with owner:=H }:=⟨0,0,rfl,rfl,rfl,rfl,rfl,rfl⟩
theorem oO(r:RS)(c:Int)(n:Nat)(t:ae)(a:Bool):(aX r c n t a).next=r.next:=by cases a<;>rfl
theorem Om(G:bf)(f:ae)(C:List ae)(n:Nat):Ke G (f::C) n=(decide ((aV G.fields f.text).getD 0≠(n:Int))).toNat+Ke G C (n+aB f):=by
 unfold Ke;rw[fD,List.filter_cons];by_cases h:(aV G.fields f.text).getD 0=(n:Int)
 ·simp[h]
 simp[h];omega
theorem KE{H I:bf}(W:xE H I):∀(F:List ae) (s1 J:aR) (C D:RS) (P Q:Nat),C.next=P->D.next=Q->(F.all fun f=>decide (f.kind=4)&&lH f.kids)=true->di s1=di J ->
 Ih (aC F) (Ke H F P) (Ke I F Q) F.length C (aj H false F 0 F.length s1 C).1 D (aj I false F 0 F.length J D).1/\di (aj H false F 0 F.length s1 C).2=di (aj I false F 0 F.length J D).2
 | [],s1,J,C,D,P,Q,_,_,_,hs=>by
  simp only[aj,List.length_nil];exact⟨(vW.refl C D).toB,hs⟩
 | .node k x a e kids::F,s1,J,C,D,P,Q,e1,e2,h,hs=>by
  subst e1;subst e2;rw[List.all_cons,acb,acb,decide_eq_true_eq]at h;obtain⟨⟨u,S⟩,K⟩:=h;have T:k=4:=u;subst T;have L:lH kids=true:=S;simp only[aco,aj]
  obtain⟨A,U,B⟩:∃A:Ih (aB (.node 4 x a e kids)) (decide ((aV H.fields x).getD 0≠(C.next:Int))).toNat (decide ((aV I.fields x).getD 0≠(D.next:Int))).toNat 1 C (aK H false (.node 4 x a e kids) s1 C).1 D (aK I false (.node 4 x a e kids) J D).1,
   ((aK H false (.node 4 x a e kids) s1 C).1.next=C.next+aB (.node 4 x a e kids)/\(aK I false (.node 4 x a e kids) J D).1.next=D.next+aB (.node 4 x a e kids)) /\
   di (aK H false (.node 4 x a e kids) s1 C).2=di (aK I false (.node 4 x a e kids) J D).2:=by
   rw[aK,aK,aB];simp only[show ¬((4:Int)=3) by decide,if_false,if_true];obtain⟨X,Y⟩:=lV W kids false 0 kids.length s1 J (aX { C with next:=C.next+1 } 1 C.next (.node 4 x a e kids) (decide ((aV H.fields x).getD 0≠(C.next:Int)))) (aX { D with next:=D.next+1 } 1 D.next (.node 4 x a e kids) (decide ((aV I.fields x).getD 0≠(D.next:Int)))) L hs;have O:=(J4 C D C.aP D.aP).trans ((CZ { C with next:=C.next+1 } { D with next:=D.next+1 } 1 C.next D.next (.node 4 x a e kids) (decide ((aV H.fields x).getD 0≠(C.next:Int))) (decide ((aV I.fields x).getD 0≠(D.next:Int)))).trans X.toB rfl rfl rfl rfl) rfl rfl rfl rfl;have t:1+(0+aC (List.take kids.length (List.drop 0 kids)))=1+aC kids:=by simp
   rw[t]at O;simp only[Nat.zero_add,Nat.add_zero]at O;refine⟨O,?_,Y⟩;obtain⟨_,_,_,_,_,_,y,v⟩:=O;exact⟨y,v⟩
  obtain⟨Z,z⟩:=KE W F _ _ (aK H false (.node 4 x a e kids) s1 C).1 (aK I false (.node 4 x a e kids) J D).1 _ _ U.1 U.2 K B;refine⟨A.trans Z (by rw[aC]) ?_ ?_ (by omega),z⟩
  ·rw[Om];rfl
  rw[Om];rfl
theorem Xy{F H:bf}(P:xE F H)(t:ae)(S:qd t=true)(s1 K:aR)(C D:RS)(Q:di s1=di K):
 Ih (aB t) (bad F t C.next) (bad H t D.next) (own t) C (aK F false t s1 C).1 D (aK H false t K D).1/\di (aK F false t s1 C).2=di (aK H false t K D).2:=by
 obtain⟨k,x,a,e,kids⟩:=t;rw[qd,Bool.or_eq_true,acb,acb,acb,decide_eq_true_eq,decide_eq_true_eq,decide_eq_true_eq]at S;rcases S with⟨rfl,U⟩| ⟨⟨rfl,W⟩,J⟩
 ·rw[aK,aK,aB]
  simp only[if_true];obtain⟨L,O⟩:=KE P kids s1 K { aX { C with next:=C.next+1 } 0 C.next (.node 3 x a e kids) (decide ((aV F.globals x).getD 0≠(C.next:Int))) with owner:=(C.next:Int) } { aX { D with next:=D.next+1 } 0 D.next (.node 3 x a e kids) (decide ((aV H.globals x).getD 0≠(D.next:Int))) with owner:=(D.next:Int) } (C.next+1) (D.next+1) (oO _ _ _ _ _) (oO _ _ _ _ _) U Q;refine⟨?_,O⟩;have I:=(J4 C D C.aP D.aP).trans ((CZ { C with next:=C.next+1 } { D with next:=D.next+1 } 0 C.next D.next (.node 3 x a e kids) (decide ((aV F.globals x).getD 0≠(C.next:Int))) (decide ((aV H.globals x).getD 0≠(D.next:Int)))).trans ((Oa _ _ (C.next:Int) (D.next:Int)).trans L rfl rfl rfl rfl) rfl rfl rfl rfl) rfl rfl rfl rfl;simp only[Nat.zero_add]at I;rw[Us,Us,own_rec];exact I
 match kids,W with
 | [u,v,w],_=>
  rw[aK,aK,aB];simp only[show ¬((5:Int)=3) by decide,show ¬((5:Int)=4) by decide,if_false,if_true];obtain⟨L,O⟩:=lV P [u,v,w] false 0 2 [[]] [[]] { aX { C with next:=C.next+1 } 2 C.next (.node 5 x a e [u,v,w]) (decide ((aV F.globals x).getD 0≠(C.next:Int))) with owner:=(C.next:Int) } { aX { D with next:=D.next+1 } 2 D.next (.node 5 x a e [u,v,w]) (decide ((aV H.globals x).getD 0≠(D.next:Int))) with owner:=(D.next:Int) } J rfl;obtain⟨T,Y⟩:=lV P [u,v,w] true 2 1 _ _ _ _ J (xh (l:=[]) (m:=[]) O rfl);refine⟨?_,Q⟩;have I:=(J4 C D C.aP D.aP).trans ((CZ { C with next:=C.next+1 } { D with next:=D.next+1 } 2 C.next D.next (.node 5 x a e [u,v,w]) (decide ((aV F.globals x).getD 0≠(C.next:Int))) (decide ((aV H.globals x).getD 0≠(D.next:Int)))).trans ((Oa _ _ (C.next:Int) (D.next:Int)).trans (L.toB.trans T.toB rfl rfl rfl rfl) rfl rfl rfl rfl) rfl rfl rfl rfl) rfl rfl rfl rfl;have X:1+(0+(0+(aC (List.take 2 (List.drop 0 [u,v,w]))+aC (List.take 1 (List.drop 2 [u,v,w])))))=1+aC [u,v,w]:=by simp[aC];omega
  rw[X]at I;simp only[Nat.zero_add,Nat.add_zero]at I;rw[Ry,Ry,aat];exact I
def Qg:RS:=⟨[],[],[],[],0,0⟩
def probT(G:bf)(t:ae):Nat:=(aK G false t [] Qg).1.aU.length - bad G t 0
def decT(G:bf)(t:ae):Nat:=(aK G false t [] Qg).1.ds.length+bad G t 0 - own t
theorem TF{G C:bf}(O:xE G C)(t:ae)(Q:qd t=true)(s:aR)(r:RS)(P:di s=[]):
 (aK C false t s r).1.aU.length=r.aU.length+bad C t r.next+probT G t/\(aK C false t s r).1.ds.length+bad C t r.next=r.ds.length+own t+decT G t/\(aK C false t s r).1.next=r.next+aB t/\di (aK C false t s r).2=di (aK G false t [] Qg).2:=by
 obtain⟨⟨p,d,I,S,J,T,U,K⟩,L⟩:=Xy O t Q [] s Qg r P.symm;unfold probT decT;have F:Qg.aU.length=0:=rfl;have H:Qg.ds.length=0:=rfl;have D:Qg.next=0:=rfl;rw[F,D]at I;rw[H,D]at J;refine⟨by omega,by omega,K,L.symm⟩
theorem Mc(s:aR)(l:lL):(lh s l).length=s.length:=by cases s<;>rfl
theorem zI(G:bf)(r:RS)(k:Int)(n:Nat)(t:ae)(s:aR):(aJ G r k n t s).2.length=s.length:=by
 unfold aJ;split
 ·rfl
 exact Mc _ _
mutual
theorem vK(G:bf):∀(t:ae) (i:Bool) (s:aR) (r:RS),(aK G i t s r).2.length=s.length
 | .node k x a e kids,i,s,r=>by
  rw[dz];split
  ·exact jL G kids _ _ _ _ _
  split
  ·exact jL G kids _ _ _ _ _
  split
  ·rfl
  split
  ·rw[jL,zI]
  split
  ·rw[List.length_tail,jL];rfl
  split
  ·rw[Mc,jL]
  split
  ·rw[List.length_tail,jL,aco,jL];rfl
  exact jL G kids _ _ _ _ _
theorem jL(G:bf):∀(ts:List ae) (i:Bool) (f n:Nat) (s:aR) (r:RS),(aj G i ts f n s r).2.length=s.length
 | [],_,_,_,_,_=>by rw[aj]
 | t::ts,i,f+1,n,s,r=>by rw[aj];exact jL G ts _ _ _ _ _
 | t::ts,i,0,0,s,r=>by rw[aj]
 | t::ts,i,0,n+1,s,r=>by rw[aj];rw[jL G ts,vK G t]
end
open Go.RowKit
def fO(E:RC)(G:bf)(B:Nat)(t:ae):Prop:=
 ∀(i:Bool) (s:aR) (p:Option Addr) (ms:List Nat) (r:RS) (V:RV) (w:World) (A:Option Addr) (c:Nat),
  aQ E G r V w->bY w E.base p s ms->Ec E ms->aD w B A 0 t.kids->t.kids.length<=c->E.base<=w.heap.size->pq s.isEmpty t=true->RB r s (aB t) ->
  Calls Tryz.prog 79 #[.pointer (some ⟨E.rp,0,none⟩),aO t A c,.pointer p,.bool i] w fun e w'=>e= .returned (.tuple #[])/\∃V',aQ E G (aK G i t s r).1 V' w'/\bY w' E.base p (aK G i t s r).2 ms/\KX E (fun g=>g=E.vi\/ms.head? =some g) w w'
theorem CQ{C:Type}{a b:List C}(h:a.length=b.length):a.isEmpty=b.isEmpty:=by
 cases a<;>cases b<;>first|rfl|cases h
theorem OQ{P:Program}(w:World)(t e:TypeId)(i:TypeInfo)(L:P.underlying t=some (.slice e))(K:P.info? e=some i)(a:Option Addr)(H C F D:Nat)(I:F<=D)(J:D<=C):
 (Instr.slice t (.slice a H C) (some (.int .i64 (F:Int))) (some (.int .i64 (D:Int))) none).run P w= .ok (.slice (if C=F then a else a.map (·.add (F*i.size))) (D - F) (C - F)) w:=by
 simp[Instr.slice,run_underlying L,Instr.sliceBounds,Instr.sliceBound,asIntOf,sizeOf,typeInfo,K];rw[if_pos J,if_pos I]
theorem aQ.XX{E:RC}{G:bf}{r:RS}{V:RV}{w:World}(h:aQ E G r V w){g:Nat}{F:Array Value}(H:ah w g 68 F):E.uA.map (·.block)≠some g:=by
 intro C
 have I:(Value.slice E.uA r.uses.length E.uc).ownBlock=some g:=by
  cases D:E.uA with
  | none=>rw[D]at C;cases C
  | some p=>rw[D]at C;simpa [Value.ownBlock] using C
 exact h.us.bB H (by decide) I
theorem Qw(E:RC)(G:bf)(B:Nat)(hB:B<=E.base)(kids:List ae)(af:∀k∈kids,fO E G B k)(i:Bool)(s:aR)(p:Option Addr)(ms:List Nat)(r:RS)(V:RV)(w:World)
 (k0:Int) (x0:ByteArray) (a0 z0:Int) (A:Option Addr) (nk c f n Nh bn br:Nat) (an:kids.length=nk) (ax:Nh=f+n) (h:aQ E G r V w) (hs:bY w E.base p s ms) (a1:Ec E ms) (hk:aD w B A 0 kids) (S:nk<=c) (ab:f+n<=nk) (K:E.base<=w.heap.size)
 (O:ah w bn 24 #[.int .i64 k0,.string x0,.int .i64 a0,.int .i64 z0,.slice A nk c]) (a7:ah w br 68 #[.pointer (some ⟨E.rp,0,none⟩)]) (hv:lG s.isEmpty kids=true) (Q:RB r s (aC ((kids.drop f).take n))):
 Calls Tryz.prog 146 #[.int .i64 (f:Int),.int .i64 (Nh:Int),.pointer p,.bool i,.pointer (some ⟨bn,0,none⟩),.pointer (some ⟨br,0,none⟩)] w fun e w'=>e= .returned (.tuple #[])/\∃V',aQ E G (aj G i kids f n s r).1 V' w'/\bY w' E.base p (aj G i kids f n s r).2 ms/\KX E (fun g=>g=E.vi\/ms.head? =some g) w w':=by
 obtain⟨i0,ad,ay,aq,az⟩:=info_parts Nw;have z:=OQ (P:=Tryz.prog) w 22 24 i0 Tryz.underlying22 ad A nk c f Nh (by omega) (by omega);rw[aq,show Nh - f=n by omega]at z;obtain⟨A1, J⟩:=ag ((if c=f then A else A.map (·.add (f*5))));rw[J]at z;obtain⟨c1, a8⟩:=ag (c - f);rw[a8]at z
 have b3:n<=1000000:=by
  have h1:=Q.room;have h2:=Q.most;have h3:=dO ((kids.drop f).take n);simp at h3;omega
 have b4:=O.cell 4;have lb:=O.lt;have ar:=kH J;have jo:=kH af;have H:=kH h;have HS:=kH hs;have HK:=kH hk;have b0:=kH O;have mF:=kH a7;have HV:=kH hv;have dR:=kH Q;have eT:=kH an;have W:Hid (f+n<=nk/\nk<=c/\B<=E.base/\E.base<=w.heap.size):=kH ⟨ab,S,hB,K⟩;clear J af h hs hk O a7 hv Q an ax S ab hB K a8 ad ay aq az;go_in
 go_wp2_with fail
 go_loopg [18] n (fun gk aE wr=> ∃(j:Nat) (Vj:RV),j+gk=n/\aE= .int .i64 (j:Int)/\Hid (aQ E G (aj G i kids f j s r).1 Vj wr)/\Hid (bY wr E.base p (aj G i kids f j s r).2 ms)/\Hid (KX E (fun g=>g=E.vi\/ms.head? =some g) w wr))
 case atStart=>exact⟨0,V,by omega,rfl,by rw[IG];exact H,by rw[IG];exact HS,kH (KX.refl _ _ _)⟩
 obtain⟨j,Vj,hj,rfl,Hj,Ow,m⟩:=hrel;have HJ:=kH hj;have au:j<=n:=by omega
 clear hj;by_cases av:j<n
 ·have aw:(j:Int)<(n:Int):=by omega
  obtain⟨u,hu⟩:∃u,kids[f+j]? =some u:=⟨_,ace (by rw[eT.out];have:=W.out;omega)⟩
  have a6:Below E.base w wr:=m.out.low W.out.2.2.2;have al:aD wr B A 0 kids:=aD.below (a6.mono W.out.2.2.1) (ab9 _) _ _ _ HK.out;obtain⟨vals,⟨b,F,hA,b2,aa⟩,hT⟩:=al.get (f+j) u hu;obtain⟨t,l,iY,d⟩:=hT.five;subst hA;subst iY;have iR:=hT.cap;have b5:=m.out.size
  have J:A1=some ⟨b,F+f*5,none⟩:=by
   rw[<- ar.out,if_neg (by have:=W.out;omega)];simp[Addr.add_lit]
  subst J;have b1:b<wr.heap.size:=by have:=W.out;omega
  obtain⟨uk, nJ⟩:=ag u.kind;obtain⟨ux, oI⟩:=ag u.text;obtain⟨ua, qm⟩:=ag u.at_;obtain⟨uz, rP⟩:=ag u.end_;obtain⟨un, y⟩:=ag u.kids.length
  have C:∀q v,[Value.int .i64 uk,.string ux,.int .i64 ua,.int .i64 uz,.slice t un l][q]? =some v->wr.cell? ⟨b,F+f*5+j*5+q,none⟩=some v:=fun q v hq=>by
   have:=aa q v (by rw[nJ,oI,qm,rP,y];exact hq);rw[show F+(0+(f+j))*5+q=F+f*5+j*5+q by omega]at this;exact this
  have t0:wr.cell? ⟨b,F+f*5+j*5,none⟩=some (.int .i64 uk):=by simpa using C 0 _ rfl
  have t1:wr.cell? ⟨b,F+f*5+j*5+1,none⟩=some (.string ux):=by simpa using C 1 _ rfl
  have t2:wr.cell? ⟨b,F+f*5+j*5+2,none⟩=some (.int .i64 ua):=by simpa using C 2 _ rfl
  have t3:wr.cell? ⟨b,F+f*5+j*5+3,none⟩=some (.int .i64 uz):=by simpa using C 3 _ rfl
  have t4:wr.cell? ⟨b,F+f*5+j*5+4,none⟩=some (.slice t un l):=by simpa using C 4 _ rfl
  have Z:=m.out.blk mF.out (by decide) (by decide) (by decide) (H.out.XX mF.out);have L:u∈kids:=acn hu
  have T:RB (aj G i kids f j s r).1 (aj G i kids f j s r).2 (aB u):=by
   refine dR.out.slow (yF G kids i f j s r) (iI G kids i f j s r) ?_;have h1:=qc G kids i f j s r;have h2:((kids.drop f).take n)[j]? =some u:=by rw[List.getElem?_take_of_lt av,List.getElem?_drop];exact hu
   have h3:=dI _ j u h2;have h4:=fe ((kids.drop f).take n) (j+1);have e:((kids.drop f).take n).take j=(kids.drop f).take j:=by rw[List.take_take,Nat.min_eq_left au]
   rw[e]at h3;omega
  have ao:pq (aj G i kids f j s r).2.isEmpty u=true:=by
   rw[CQ (jL G kids i f j s r)];exact abM HV.out u L
  obtain⟨X, hX⟩:=ag (wr.alloc (.cells #[.int .i64 uk,.string ux,.int .i64 ua,.int .i64 uz,.slice t un l] 24));have I:Below wr.heap.size wr X:=by rw[<- hX];exact ai _ _
  have D:=jo.out u L i (aj G i kids f j s r).2 p ms (aj G i kids f j s r).1 Vj X t l (Hj.out.below I) (Ow.out.below I) a1 (aD.below I (by have:=W.out;omega) _ _ _ d) iR (by have:=W.out;have:=I.size;omega) ao T;unfold aO at D;rw[nJ,oI,qm,rP,y,<- Cx G i kids f j s r u hu]at D;have HC:=kH D;have Jw:=kH I;have U:ah X wr.heap.size 24 #[.int .i64 uk,.string ux,.int .i64 ua,.int .i64 uz,.slice t un l]:=by rw[<- hX];exact ah.new wr _ _
  have Y:=Z.below I Z.lt;have r0:=Y.cell 0;have lr:=Y.lt;have y0:=U.cell 0;have y1:=U.cell 1;have y2:=U.cell 2;have y3:=U.cell 3;have y4:=U.cell 4;have ly:=U.lt;have T9:IntKind.i64.wrap ((j:Int)+1)=(j:Int)+1:=IntWalk.i64_in _ (by omega);clear aa C hT d al a6 hu D I T ao L nJ oI qm rP y iR Z U Y;go_wp2_with (rw[hX])
  refine HC.out.mono ?_;rintro e w5 ⟨rfl,V5,h5,s5,k5⟩;have H5:=kH h5;have S5:=kH s5;have K5:Hid (KX E (fun g=>g=E.vi\/ms.head? =some g) w w5):=kH (m.out.trans ((KX.of_below (M:=fun g=>g=E.vi\/ms.head? =some g) Jw.out).trans k5 (fun g hg=>.inl hg)) (fun g hg=>.inl hg));clear h5 s5 k5 t0 t1 t2 t3 t4 r0 y0 y1 y2 y3 y4 lr ly;go_wp2_with fail
  go_roundg (gk - 1)
  case measure=>have:=HJ.out;omega
  exact⟨j+1,V5,by have:=HJ.out;omega,by simp,H5,S5,K5⟩
 have sW:j=n:=by omega
 subst sW;go_wp2_with fail
 go_end0
 exact⟨rfl,Vj,Hj.out,Ow.out,m.out⟩
theorem aQ.TK{E:RC}{G:bf}{r:RS}{V:RV}{w:World}(h:aQ E G r V w)(n:Nat)(M:Nat->Prop):
 aQ E G { r with next:=n } V (w.setCell ⟨E.rp,7,none⟩ (.int .i64 (n:Int)))/\KX E M w (w.setCell ⟨E.rp,7,none⟩ (.int .i64 (n:Int))):=by
 have J:ak (fun g=>g=E.rp) w (w.setCell ⟨E.rp,7,none⟩ (.int .i64 (n:Int))):=ak.setCell (S:=fun g=>g=E.rp) (ak.refl _ w) (p:=⟨E.rp,7,none⟩) (.inl rfl) _;have I:∀{K:Type} [DecidableEq K] {KK:nW K}{q:Nat}{m:List (K×Value)},aY KK w q m->aY KK (w.setCell ⟨E.rp,7,none⟩ (.int .i64 (n:Int))) q m:=fun F=>F.since J (fun C=>F.rX h.blk C)
 have D:∀{e size v n' xs},aG w E.base e size v n' xs->e≠75->aG (w.setCell ⟨E.rp,7,none⟩ (.int .i64 (n:Int))) E.base e size v n' xs:=fun F C=>F.since J (fun g H L=>F.bB h.blk C (by rw[H,L]))
 refine⟨⟨?_,I h.gl,I h.fl,I h.kn,I h.vi,?_,D h.ds (by decide),D h.us (by decide),D h.ps (by decide),h.low,h.apart⟩,?_⟩
 ·have:=h.blk.dB 7 (.int .i64 (n:Int))
  simpa using this
 ·refine fJ.of_block h.aP fun g cur H _=>J.block g (acd.1 H).1 fun C=>?_
  subst C;have O:w.heap[E.rp]? =some (.cells _ 75 (0,0)):=h.blk;rw[O]at H;simp at H
 refine ak.mono J fun g C=>?_
 subst C;exact⟨h.low.1,.inl ⟨_,_,_,h.blk,.inl rfl⟩⟩
theorem aQ.PN{E:RC}{G:bf}{r:RS}{V:RV}{w:World}(h:aQ E G r V w)(n:Int)(M:Nat->Prop):
 aQ E G { r with owner:=n } V (w.setCell ⟨E.rp,8,none⟩ (.int .i64 n))/\KX E M w (w.setCell ⟨E.rp,8,none⟩ (.int .i64 n)):=by
 have J:ak (fun g=>g=E.rp) w (w.setCell ⟨E.rp,8,none⟩ (.int .i64 n)):=ak.setCell (S:=fun g=>g=E.rp) (ak.refl _ w) (p:=⟨E.rp,8,none⟩) (.inl rfl) _;have I:∀{K:Type} [DecidableEq K] {KK:nW K}{q:Nat}{m:List (K×Value)},aY KK w q m->aY KK (w.setCell ⟨E.rp,8,none⟩ (.int .i64 n)) q m:=fun F=>F.since J (fun C=>F.rX h.blk C)
 have D:∀{e size v n' xs},aG w E.base e size v n' xs->e≠75->aG (w.setCell ⟨E.rp,8,none⟩ (.int .i64 n)) E.base e size v n' xs:=fun F C=>F.since J (fun g H L=>F.bB h.blk C (by rw[H,L]))
 refine⟨⟨?_,I h.gl,I h.fl,I h.kn,I h.vi,?_,D h.ds (by decide),D h.us (by decide),D h.ps (by decide),h.low,h.apart⟩,?_⟩
 ·have:=h.blk.dB 8 (.int .i64 n)
  simpa using this
 ·refine fJ.of_block h.aP fun g cur H _=>J.block g (acd.1 H).1 fun C=>?_
  subst C;have O:w.heap[E.rp]? =some (.cells _ 75 (0,0)):=h.blk;rw[O]at H;simp at H
 refine ak.mono J fun g C=>?_
 subst C;exact⟨h.low.1,.inl ⟨_,_,_,h.blk,.inl rfl⟩⟩
theorem fJ.snoc{w:World}{base:Nat}{H:Option Nat}{k:Int}{F:List Int}{v:Value}(J:aG w base 3 1 v F.length (bL F))(K:∀g,v.ownBlock=some g->H≠some g):∀{l:List (Int×List Int)}{vals:List (Int×Value)},fJ w base H l vals->(∀g,v.ownBlock=some g->∀y∈vals,y.2.ownBlock≠some g)->fJ w base H (l++[(k,F)]) (vals++[(k,v)])
 | [],vals,h,hn=>by
  have:vals=[]:=h;subst this;exact⟨v,[],rfl,J,fun g D=>⟨K g D,by simp⟩,rfl⟩
 | x::l,vals,h,hn=>by
  obtain⟨L,Q,rfl,O,I,P⟩:=h;refine⟨L,Q++[(k,v)],rfl,O,fun g D=>⟨(I g D).1,fun y C=>?_⟩,fJ.snoc J K P fun g D y C=>hn g D y (by simp[C])⟩;rcases List.mem_append.1 C with C|C
  ·exact(I g D).2 y C
  rw[List.mem_singleton]at C;subst C;exact fun e=>hn g e (x.1,L) (by simp) D
theorem fJ.lt{w:World}{base:Nat}{I:Option Nat}:∀{l:List (Int×List Int)}{vals:List (Int×Value)},fJ w base I l vals->∀y∈vals,∀g,y.2.ownBlock=some g->g<w.heap.size
 | [],vals,h,y,C=>by
  have:vals=[]:=h;subst this
  cases C
 | x::l,vals,h,y,C=>by
  obtain⟨K,L,rfl,D,J,F⟩:=h;rcases List.mem_cons.1 C with rfl|C
  ·exact fun g H=>(D.lt g H).2
  exact fJ.lt F y C
theorem fJ.keys{w:World}{base:Nat}{D:Option Nat}:∀{l:List (Int×List Int)}{vals:List (Int×Value)},fJ w base D l vals->vals.map (·.1)=l.map (·.1)
 | [],vals,h=>by
  have:vals=[]:=h;subst this;rfl
 | x::l,vals,h=>by
  obtain⟨I,J,rfl,F,H,C⟩:=h;simp[fJ.keys C]
theorem PO{K:Type}[DecidableEq K]:∀{m:List (K×Value)}{k:K}(v:Value),k ∉ m.map (·.1)->oD m k v=m++[(k,v)]
 | [],_,_,_=>rfl
 | x::m,k,v,h=>by
  rw[List.map_cons,List.mem_cons]at h;have D:k≠x.1:=fun e=>h (.inl e)
  rw[Gq _ _ _ _ D,PO v fun C=>h (.inr C)];rfl
theorem Gs{K V:Type}[DecidableEq K]:∀{l:List (K×V)}{k:K}(v:V),k ∉ l.map (·.1)->dZ l k v=l++[(k,v)]
 | [],_,_,_=>rfl
 | x::l,k,v,h=>by
  rw[List.map_cons,List.mem_cons]at h;have D:k≠x.1:=fun e=>h (.inl e)
  rw[dZ,if_neg D,Gs v fun C=>h (.inr C)];rfl
theorem aQ.TP{E:RC}{G:bf}{r:RS}{V:RV}{w L w':World}(h:aQ E G r V w)(Q:E.base<=w.heap.size)(P:Below w.heap.size w L)(n:Int)(l:List Int)(v:Value)(H:aG L w.heap.size 3 1 v l.length (bL l))(X:n ∉ r.aP.map (·.1))(M:Nat->Prop)(u:M E.vi)
 (q:aY iU w' E.vi (oD V.vals n v)) (K:ak (fun g=>g=E.vi) L w'):
 aQ E G { r with aP:=dZ r.aP n l } { V with vals:=oD V.vals n v } w'/\KX E M w w':=by
 have F:=h.below P;have C:=F.vi.isMap
 have O:∀{g:Nat}{t:TypeId}{Y:Array Value},ah L g t Y->g≠E.vi:=fun P e=>by
  obtain⟨T,S,H⟩:=C;subst e;have:L.heap[_]? =some (Obj.cells _ _ (0,0)):=P;rw[H]at this;cases this
 have I:∀{e size v n xs base},aG L base e size v n xs->aG w' base e size v n xs:=fun U=>U.since K (fun g D e=>by
  subst e;obtain⟨cur,W⟩:=U.obj _ D;obtain⟨T,S,H⟩:=C;rw[H]at W
  cases W)
 have J:n ∉ V.vals.map (·.1):=by rw[h.aP.keys];exact X
 refine⟨⟨F.blk.since K (O F.blk),F.gl.since K (fun e=>h.apart.1 e.symm),F.fl.since K (fun e=>h.apart.2.1 e.symm),F.kn.since K (fun e=>h.apart.2.2 e.symm),q,?_,I F.ds,I F.us,I F.ps,h.low,h.apart⟩,?_⟩
 ·show fJ w' E.base (Value.slice E.uA r.uses.length E.uc).ownBlock (dZ r.aP n l) (oD V.vals n v)
  rw[Gs l X,PO v J];refine fJ.snoc (I (H.mono Q)) (fun g D e=>?_) (fJ.of_block F.aP fun g cur D _=>K.block g (acd.1 D).1 fun e=>?_) (fun g D y m e=>?_)
  ·have Z:=(H.lt g D).1
   have z:=(h.us.lt g e).2;omega
  ·subst e
   obtain⟨T,S,H⟩:=C;rw[H]at D;cases D
  have Z:=(H.lt g D).1;have z:=h.aP.lt y m g e;omega
 exact(KX.of_below (M:=M) P).trans (KX.sQ K u h.low.2 C) (fun g D=>.inl D)
theorem aQ.xV{E:RC}{G:bf}{r:RS}{V:RV}{w w':World}{M:Nat->Prop}(h:aQ E G r V w)(F:KX E M w w'){g:Nat}{C:Array Value}(D:ah w g 24 C):ah w' g 24 C:=F.blk D (by decide) (by decide) (by decide) (h.TQ D)
theorem aQ.Gx{E:RC}{G:bf}{r:RS}{V:RV}{w w':World}{M:Nat->Prop}(h:aQ E G r V w)(F:KX E M w w'){g:Nat}{C:Array Value}(D:ah w g 68 C):ah w' g 68 C:=F.blk D (by decide) (by decide) (by decide) (h.XX D)
theorem bne_dec(a b:Int):(a !=b)=decide (a≠b):=by by_cases h:a=b<;>simp[h]
theorem Pn(E:RC)(G:bf)(B:Nat)(hB:B<=E.base)(x:ByteArray)(a e:Int)(kids:List ae)(au:∀k∈kids,fO E G B k):fO E G B (.node 3 x a e kids):=by
 intro i s p ms r V w A c h hs a1 hk F K hv Z;obtain⟨nk, O⟩:=ag kids.length
 have aE:lG s.isEmpty kids=true:=by
  rw[pq,if_neg (by decide),if_neg (by decide),if_neg (by decide)]at hv;exact hv
 have hq:aK G i (.node 3 x a e kids) s r=aj G i kids 0 kids.length s { aX (aI r i (aF (aH s))) 0 r.next (.node 3 x a e kids) (decide ((aV G.globals x).getD 0≠(r.next:Int))) with owner:=(r.next:Int) }:=by rw[dz,if_pos rfl]
 rw[hq,O];obtain⟨Q, hQ⟩:=ag (aj G i kids 0 nk s { aX (aI r i (aF (aH s))) 0 r.next (.node 3 x a e kids) (decide ((aV G.globals x).getD 0≠(r.next:Int))) with owner:=(r.next:Int) });rw[hQ];have HQ:=kH hQ;clear hq hQ;unfold aO;have EJ:(ae.node 3 x a e kids).kind=3/\(ae.node 3 x a e kids).text=x/\(ae.node 3 x a e kids).at_=a/\(ae.node 3 x a e kids).end_=e/\(ae.node 3 x a e kids).kids=kids:=⟨rfl,rfl,rfl,rfl,rfl⟩
 rw[EJ.1,EJ.2.1,EJ.2.2.1,EJ.2.2.2.1,EJ.2.2.2.2,O];rw[EJ.2.2.2.2]at hk F;rw[O]at F;obtain⟨nx, W⟩:=ag r.next;have bh:nx<=1000000:=by have:=Z.room;have:=Z.most;omega
 have qK:w.cell? ⟨E.rp,7,none⟩=some (.int .i64 (nx:Int)):=by rw[<- W];exact h.blk.cell 7
 have bj:=h.blk.lt;have bk:IntKind.i64.wrap ((nx:Int)+1)=(nx:Int)+1:=IntWalk.i64_in _ (by omega);have b7:=h.blk.frozen 7;have H:=kH h;have HS:=kH hs;have HK:=kH hk;have dR:=kH Z;have I:=kH W;have eT:=kH O;have kP:=kH aE;have jo:=kH au;have a6:=kH F;have v:=kH K;clear h hs hk Z W O aE au hv EJ F K;go_in
 go_upto_if 32 with fail
 generalize J:(((w.setCell ⟨E.rp,7,none⟩ (.int .i64 ((nx:Int)+1))).alloc (.cells #[.pointer (some ⟨E.rp,0,none⟩)] 68)).alloc (.cells #[.int .i64 3,.string x,.int .i64 a,.int .i64 e,.slice A nk c] 24))=W3
 obtain⟨ax,av⟩:=H.out.TK (nx+1) (fun _=>False)
 have ab:Below w.heap.size (w.setCell ⟨E.rp,7,none⟩ (.int .i64 ((nx:Int)+1))) W3:=by
  rw[<- J];have h1:=ai (w.setCell ⟨E.rp,7,none⟩ (.int .i64 ((nx:Int)+1))) (.cells #[.pointer (some ⟨E.rp,0,none⟩)] 68);have h2:=ai ((w.setCell ⟨E.rp,7,none⟩ (.int .i64 ((nx:Int)+1))).alloc (.cells #[.pointer (some ⟨E.rp,0,none⟩)] 68)) (.cells #[.int .i64 3,.string x,.int .i64 a,.int .i64 e,.slice A nk c] 24);have h3:=h1.trans (h2.mono (by simp));simpa using h3
 have MP:W3.heap.size=w.heap.size+2:=by rw[<- J];simp
 have vM:ah W3 (w.heap.size+1) 24 #[.int .i64 3,.string x,.int .i64 a,.int .i64 e,.slice A nk c]:=by
  have:=ah.new ((w.setCell ⟨E.rp,7,none⟩ (.int .i64 ((nx:Int)+1))).alloc (.cells #[.pointer (some ⟨E.rp,0,none⟩)] 68)) 24 #[.int .i64 3,.string x,.int .i64 a,.int .i64 e,.slice A nk c];rw[J]at this;simpa using this
 have X:ah W3 w.heap.size 68 #[.pointer (some ⟨E.rp,0,none⟩)]:=by
  have:=(ah.new (w.setCell ⟨E.rp,7,none⟩ (.int .i64 ((nx:Int)+1))) 68 #[.pointer (some ⟨E.rp,0,none⟩)]).alloc (.cells #[.int .i64 3,.string x,.int .i64 a,.int .i64 e,.slice A nk c] 24);rw[J]at this;simpa using this
 have C:Hid (aQ E G { r with next:=nx+1 } V W3):=kH (ax.below (by simpa using ab));have iT:Hid (KX E (fun _=>False) w W3):=kH (av.trans (KX.of_below (M:=fun _=>False) (by simpa using ab)) (fun g L=>.inl L));have iJ:Hid (bY W3 E.base p s ms):=kH (bY.kx iT.out H.out.nG HS.out (fun _ _ h=>h));have kE:=kH vM;have iX:=kH X;have b4:=kH MP;have c5:W3.cell? ⟨E.rp,5,none⟩=some (.map (some E.vi)):=C.out.blk.cell 5;have p0:=X.cell 0;have pR:=C.out.blk.lt;have qH:=X.lt;clear J ax av ab vM X MP qK b7;go_cut [] (fun wx=> ∃Vx,Hid (aQ E G (aI r i (aF (aH s))) Vx wx)/\Hid (KX E (fun g=>g=E.vi) W3 wx))
 case first=>
  cases i with
  | false=>
   go_wp2_with fail
   go_meet
   exact⟨V,by have:=C.out;rw[<- I.out]at this;exact kH this,kH (KX.refl _ _ _)⟩
  | true=>
   have b6:E.base<=W3.heap.size:=aca v.out iT.out.size;have n:=Ut E.base s p ms W3.drew (bY.below ((Below.refl _ W3).drew) iJ.out) (by have:=dR.out.WR;have:=I.out;omega);have iE:=kH n
   have fE:∀w':World,ak (fun g=>g=E.vi) W3 w'->w'.cell? ⟨E.rp,5,none⟩=some (.map (some E.vi))/\w'.cell? ⟨w.heap.size,0,none⟩=some (.pointer (some ⟨E.rp,0,none⟩)):=fun w' hw=>by
    have nm:∀{g:Nat}{t:TypeId}{cs:Array Value},ah W3 g t cs->g≠E.vi:=fun hb e=>by
     obtain⟨es,ck,ho⟩:=C.out.vi.isMap;subst e;have:W3.heap[_]? =some (Obj.cells _ _ (0,0)):=hb;rw[ho]at this;cases this
    exact⟨(C.out.blk.since hw (nm C.out.blk)).cell 5,(iX.out.since hw (nm iX.out)).cell 0⟩
   have bP:=kH fE;have ay:ak (fun g=>g=E.vi) W3 W3.drew:=(ak.refl _ W3).drew
   have qj:(nx:Int) ∉ r.aP.map (·.1):=fun hm=>by
    obtain⟨y,hy,he⟩:=List.mem_map.1 hm;have:=dR.out.aP y hy;have:=I.out;omega
   have b5:=kH qj;clear n fE qj;go_wp2_with fail
   go_region_held3 (fun w'=>w'.cell? ⟨E.rp,5,none⟩=some (.map (some E.vi))/\w'.cell? ⟨w.heap.size,0,none⟩=some (.pointer (some ⟨E.rp,0,none⟩))) (exact bP.out _ (by assumption)) ((go_at_call 145;refine iE.out.mono ?_;rintro e5 w5 ⟨v5,rfl,jE,U⟩;have az:=ay.below U;obtain⟨w6,b,QP,vO,bb⟩:=iO (P:=Tryz.prog) (KK:=iU) (t:=72) (kt:=3) (et:=28) Tryz.underlying72 Tryz.underlying3 ((aY.drew C.out.vi).Jm U) (nx:Int) v5;change (Instr.mapUpdate 72 (.map (some E.vi)) (Value.int .i64 (nx:Int)) v5).run Tryz.prog w5=_ at b;have ao:ak (fun g=>g=E.vi) w5 w6:=(ak.refl (fun g=>g=E.vi) w5).grown vO (fun k hk=>by cases hk;exact .inl rfl);have b9:=az.trans ao))
   have an:(aF (aH s)).length=(aH s).length:=List.length_mergeSort _;have l:Below W3.heap.size W3 w5:=((Below.refl _ W3).drew).trans U;have ui:=C.out.TP b6 l (nx:Int) (aF (aH s)) v5 (by rw[an];exact jE) b5.out (fun g=>g=E.vi) rfl QP ao;have yR:=kH ui;clear ui az ao b9 bb QP l U jE ay b vO;go_wp2_with fail
   go_meet
   exact⟨_,by have:=yR.out.1;rw[<- I.out]at this;exact kH this,kH yR.out.2⟩
 obtain⟨Vx,gJ,ng⟩:=hcut;have W:(aI r i (aF (aH s))).next=nx+1:=by rw[<- I.out];rfl
 have Eg:Hid (KX E (fun g=>g=E.vi) w wc):=kH ((iT.out.mono (fun _ hf=>hf.elim)).trans ng.out (fun g L=>.inl L));have Me:Hid (bY wc E.base p s ms):=kH (bY.kx ng.out C.out.nG iJ.out (fun m hm e=>(a1.apart m hm).2.2.2 e));have z:=C.out.xV ng.out kE.out;have Y:=C.out.Gx ng.out iX.out;have b8:=fun q=>oH (wc.drewN q) E.g G.globals (aY.drewN gJ.out.gl q) x
 obtain⟨u, af⟩:=ag ((bK G.globals x).getD 0);obtain⟨gb, ad⟩:=ag ((bK G.globals x).isSome);rw[af,ad]at b8;have c0:=gJ.out.blk.cell 0;have lr:=gJ.out.blk.lt;have q0:=Y.cell 0;have lp:=Y.lt;have n0:=z.cell 0;have n1:=z.cell 1;have n2:=z.cell 2;have n3:=z.cell 3;have n4:=z.cell 4;have ln:=z.lt;have a7:=kH z;have a8:=kH Y;have uy:=kH af;have Ag:=kH ad;clear z Y af ad c5 p0 pR qH;have ba:=dY.none_ r i (aF (aH s))
 have j:∀q al,Calls Tryz.prog 147 #[.pointer (some ⟨E.rp,0,none⟩),.int .i64 0,.int .i64 (nx:Int),.agg #[.int .i64 3,.string x,.int .i64 a,.int .i64 e,.slice A nk c],.bool al] (wc.drewN q) fun e' w'=>e'= .returned (.bool (!al))/\∃V',aQ E G (aX (aI r i (aF (aH s))) 0 nx (.node 3 x a e kids) al) V' w'/\KX E (fun _=>False) (wc.drewN q) w':=fun q al=>by
  have h1:=dR.out;have h2:=h1.room;have h3:=jk (.node 3 x a e kids);have:=BB E G (aI r i (aF (aH s))) Vx (wc.drewN q) (gJ.out.below (aL (Below.refl _ _) q)) (by show r.ds.length<=_;have:=h1.ds;have:=I.out;omega) (by show r.aU.length<=_;have:=h1.aU;have:=I.out;omega) (aca v.out (KX.low Eg.out v.out).size) 0 nx (by show nx<r.uses.length;have:=I.out;omega) (.node 3 x a e kids) A c al (fun _=>False);rw[<- eT.out];exact this
 have Ic:=kH j;clear j ba;go_wp2_with fail
 go_quiet (fail)
 go_wp2_with fail
 refine(Ic.out _ _).mono ?_;rintro e8 w8 ⟨rfl,V8,h8,k8⟩;have Yb:KX E (fun _=>False) wc w8:=(KX.of_below (M:=fun _=>False) (aL (Below.refl wc.heap.size wc) _)).trans k8 (fun g L=>L.elim);have b3:Hid (bY w8 E.base p s ms):=kH (bY.kx Yb gJ.out.nG Me.out (fun _ _ h=>h));have tL:=kH (gJ.out.xV Yb a7.out);have Uz:=kH (gJ.out.Gx Yb a8.out);have Af:Hid (KX E (fun g=>g=E.vi) w w8):=kH (Eg.out.trans Yb (fun g L=>L.elim));have T:=kH h8;have q8:=Uz.out.cell 0;have Bj:=Uz.out.lt;have o8:w8.cell? ⟨E.rp,8,none⟩=some (.int .i64 (aX (aI r i (aF (aH s))) 0 nx (.node 3 x a e kids) (u !=(nx:Int))).owner):=T.out.blk.cell 8;have l8:=T.out.blk.lt;have m0:=tL.out.cell 0;have m4:=tL.out.cell 4;have bl:=tL.out.lt;have bd:=T.out.blk.frozen 8;obtain⟨ow, aw⟩:=ag ((aX (aI r i (aF (aH s))) 0 nx (.node 3 x a e kids) (u !=(nx:Int))).owner);rw[aw]at o8;obtain⟨Jb,S⟩:=T.out.PN (nx:Int) (fun _=>False);obtain⟨W9, nC⟩:=ag (w8.setCell ⟨E.rp,8,none⟩ (.int .i64 (nx:Int)));rw[nC]at Jb S
 have aa:qM r { aX (aI r i (aF (aH s))) 0 nx (.node 3 x a e kids) (u !=(nx:Int)) with owner:=(nx:Int) }:=by
  have:=dY.trans (dY.declare r i (aF (aH s)) 0 (.node 3 x a e kids) (u !=(nx:Int))) (dY.owner _ (nx:Int));rw[I.out]at this;exact this
 have f:({ aX (aI r i (aF (aH s))) 0 nx (.node 3 x a e kids) (u !=(nx:Int)) with owner:=(nx:Int) }:RS).next=nx+1:=by
  have:=qV r i (aF (aH s)) 0 (.node 3 x a e kids) (u !=(nx:Int));rw[I.out]at this;exact this
 have d:RB { aX (aI r i (aF (aH s))) 0 nx (.node 3 x a e kids) (u !=(nx:Int)) with owner:=(nx:Int) } s (aC ((kids.drop 0).take nk)):=by
  refine dR.out.slow aa (by have:=aa.next;omega) ?_;rw[f,<- eT.out];have:=I.out;simp[aB];omega
 have D:=Qw E G B hB kids jo.out i s p ms _ V8 W9 3 x a e A nk c 0 nk nk (w.heap.size+1) w.heap.size eT.out (by omega) Jb (bY.kx S T.out.nG b3.out (fun _ _ h=>h)) a1 (aD.below (((KX.low Af.out v.out).trans (KX.low S (aca v.out (KX.low Af.out v.out).size))).mono hB) (ab9 _) _ _ _ HK.out) a6.out (by omega) (aca (aca v.out (KX.low Af.out v.out).size) S.size) (T.out.xV S tL.out) (T.out.Gx S Uz.out) kP.out d
 have jb:aj G i kids 0 nk s { aX (aI r i (aF (aH s))) 0 nx (.node 3 x a e kids) (u !=(nx:Int)) with owner:=(nx:Int) }=Q:=by
  rw[<- HQ.out,bne_dec,<- uy.out,I.out]
 rw[jb]at D;have m9:=(T.out.xV S tL.out).cell 4;have bm:=(T.out.xV S tL.out).lt;have aq:=kH D;have b2:=kH S;clear D S Jb jb d f aa aw Yb h8 k8;go_wp2_with (rw[nC])
 refine aq.out.mono ?_;rintro bc eP ⟨rfl,zq,ar,b1,b0⟩;have HE:Hid (∃V',aQ E G Q.1 V' eP/\bY eP E.base p Q.2 ms/\KX E (fun g=>g=E.vi\/ms.head? =some g) w eP):=kH ⟨zq,ar,b1,((Af.out.mono (M':=fun g=>g=E.vi\/ms.head? =some g) (fun _ h=>.inl h)).trans b2.out (fun g L=>L.elim)).trans b0 (fun g L=>.inl L)⟩;clear ar b1 b0 aq m9;go_wp2_with fail
 go_end0
 exact⟨rfl,HE.out⟩
structure NB where
 kids:List ae
 k:Int
 x:ByteArray
 a:Int
 z:Int
 A:Option Addr
 nk:Nat
 c:Nat
 bn:Nat
 br:Nat
structure VW (E:RC) (G:bf) (B:Nat) (N:NB) (w0:World) (M:Nat->Prop) (r:RS) (V:RV) (s:aR) (p:Option Addr) (ms:List Nat) (w:World):Prop where
 R:aQ E G r V w
 S:bY w E.base p s ms
 N_:ah w N.bn 24 #[.int .i64 N.k,.string N.x,.int .i64 N.a,.int .i64 N.z,.slice N.A N.nk N.c]
 P:ah w N.br 68 #[.pointer (some ⟨E.rp,0,none⟩)]
 K:KX E M w0 w
 KD:aD w B N.A 0 N.kids
 base:E.base<=w.heap.size
 low:B<=E.base
section
variable {E:RC}{G:bf}{B:Nat}{N:NB}{w0 w w':World}{M M':Nat->Prop}{r r':RS}{V V':RV}{s s':aR}{p p':Option Addr}{ms ms':List Nat}
theorem VW.step(h:VW E G B N w0 M r V s p ms w)(C:KX E M' w w')(F:aQ E G r' V' w')(H:bY w' E.base p' s' ms')(D:∀g,M' g->M g\/w0.heap.size<=g):VW E G B N w0 M r' V' s' p' ms' w' where
 R:=F
 S:=H
 N_:=h.R.xV C h.N_
 P:=h.R.Gx C h.P
 K:=h.K.trans C D
 KD:=aD.below ((KX.low C h.base).mono h.low) (ab9 _) _ _ _ h.KD
 base:=aca h.base C.size
 low:=h.low
theorem VW.O0(h:VW E G B N w0 M r V s p ms w)(D:KX E M' w w')(H:aQ E G r' V' w')(C:∀m∈ms,¬M' m)(F:∀g,M' g->M g\/w0.heap.size<=g):VW E G B N w0 M r' V' s p ms w':=
 h.step D H (bY.kx D h.R.nG h.S C) F
theorem VW.below(h:VW E G B N w0 M r V s p ms w)(C:Below w.heap.size w w'):VW E G B N w0 M r V s p ms w':=
 h.step (KX.of_below (M:=fun _=>False) C) (h.R.below C) (h.S.below C) (fun _ D=>D.elim)
theorem VW.drewN(h:VW E G B N w0 M r V s p ms w)(q:Nat):VW E G B N w0 M r V s p ms (w.drewN q):=h.below (aL (Below.refl _ _) q)
theorem VW.other(h:VW E G B N w0 M r V s p ms w)(C:bY w E.base p' s' ms'):VW E G B N w0 M r V s' p' ms' w:=⟨h.R,C,h.N_,h.P,h.K,h.KD,h.base,h.low⟩
theorem VW.cells(h:VW E G B N w0 M r V s p ms w):(w.cell? ⟨N.br,0,none⟩=some (.pointer (some ⟨E.rp,0,none⟩))/\N.br<w.heap.size)/\(w.cell? ⟨N.bn,0,none⟩=some (.int .i64 N.k)/\w.cell? ⟨N.bn,1,none⟩=some (.string N.x)/\w.cell? ⟨N.bn,2,none⟩=some (.int .i64 N.a)/\w.cell? ⟨N.bn,3,none⟩=some (.int .i64 N.z)/\w.cell? ⟨N.bn,4,none⟩=some (.slice N.A N.nk N.c)/\N.bn<w.heap.size) /\
 (w.cell? ⟨E.rp,0,none⟩=some (.map (some E.g))/\w.cell? ⟨E.rp,1,none⟩=some (.map (some E.f))/\w.cell? ⟨E.rp,2,none⟩=some (.map (some E.k))/\w.cell? ⟨E.rp,8,none⟩=some (.int .i64 r.owner)/\E.rp<w.heap.size):=
 ⟨⟨h.P.cell 0,h.P.lt⟩,⟨h.N_.cell 0,h.N_.cell 1,h.N_.cell 2,h.N_.cell 3,h.N_.cell 4,h.N_.lt⟩,⟨h.R.blk.cell 0,h.R.blk.cell 1,h.R.blk.cell 2,h.R.blk.cell 8,h.R.blk.lt⟩⟩
theorem VW.drew(h:VW E G B N w0 M r V s p ms w):VW E G B N w0 M r V s p ms w.drew:=h.below ((Below.refl _ _).drew)
theorem VW.kids(h:VW E G B N w0 M r V s p ms w)(I:∀k∈N.kids,fO E G B k)(i:Bool)(f n F:Nat)(L:F=f+n)(J:N.kids.length=N.nk)(H:f+n<=N.nk)(C:N.nk<=N.c)(X:lG s.isEmpty N.kids=true)(K:RB r s (aC ((N.kids.drop f).take n)))(D:Ec E ms)
 (W:∀g,(g=E.vi\/ms.head? =some g)->M g\/w0.heap.size<=g):
 Calls Tryz.prog 146 #[.int .i64 (f:Int),.int .i64 (F:Int),.pointer p,.bool i,.pointer (some ⟨N.bn,0,none⟩),.pointer (some ⟨N.br,0,none⟩)] w fun e w'=>e= .returned (.tuple #[])/\KX E (fun g=>g=E.vi\/ms.head? =some g) w w'/\∃V',VW E G B N w0 M (aj G i N.kids f n s r).1 V' (aj G i N.kids f n s r).2 p ms w':=
 (Qw E G B h.low N.kids I i s p ms r V w N.k N.x N.a N.z N.A N.nk N.c f n F N.bn N.br J L h.R h.S D h.KD C H h.base h.N_ h.P X K).mono fun _ _ ⟨Q,V',T,U,O⟩=>⟨Q,O,V',h.step O T U W⟩
theorem VW.JD(h:VW E G B N w0 M r V s p ms w)(t:ae)(C:t.kind=N.k/\t.text=N.x/\t.at_=N.a/\t.end_=N.z/\t.kids=N.kids)(H:N.kids.length=N.nk)(L:r.aU.length<=1000000)(n:Nat)(O:n<r.uses.length)(D:Option Int)(y:Int)(P:∀k,D=some k->k=y):
 Calls Tryz.prog 149 #[.pointer (some ⟨E.rp,0,none⟩),.int .i64 (n:Int),.agg #[.int .i64 N.k,.string N.x,.int .i64 N.a,.int .i64 N.z,.slice N.A N.nk N.c],.int .i64 y,.bool D.isSome] w fun e w'=>e= .returned (.tuple #[])/\∃V',VW E G B N w0 M (iw r n t D) V' s p ms w':=by
 have:=use_any E G r V w h.R L h.base n O t N.A N.c D y P (fun _=>False);unfold aO at this;rw[C.1,C.2.1,C.2.2.1,C.2.2.2.1,C.2.2.2.2,H]at this;exact this.mono fun _ _ ⟨I,V',J,K⟩=>⟨I,V',h.O0 K J (fun _ _ F=>F) (fun _ F=>F.elim)⟩
theorem VW.Rp(h:VW E G B N w0 M r V s p ms w)(t:ae)(C:t.kind=N.k/\t.text=N.x/\t.at_=N.a/\t.end_=N.z/\t.kids=N.kids)(H:N.kids.length=N.nk)(L:r.ds.length<=1000000)(O:r.aU.length<=1000000)(kind:Int)(n:Nat)(P:n<r.uses.length)(D:Bool):
 Calls Tryz.prog 147 #[.pointer (some ⟨E.rp,0,none⟩),.int .i64 kind,.int .i64 (n:Int),.agg #[.int .i64 N.k,.string N.x,.int .i64 N.a,.int .i64 N.z,.slice N.A N.nk N.c],.bool D] w fun e w'=>e= .returned (.bool (!D))/\∃V',VW E G B N w0 M (aX r kind n t D) V' s p ms w':=by
 have:=BB E G r V w h.R L O h.base kind n P t N.A N.c D (fun _=>False);unfold aO at this;rw[C.1,C.2.1,C.2.2.1,C.2.2.2.1,C.2.2.2.2,H]at this;exact this.mono fun _ _ ⟨I,V',J,K⟩=>⟨I,V',h.O0 K J (fun _ _ F=>F) (fun _ F=>F.elim)⟩
theorem VW.mR(h:VW E G B N w0 M r V s p ms w)(t:ae)(D:t.kind=N.k/\t.text=N.x/\t.at_=N.a/\t.end_=N.z/\t.kids=N.kids)(I:N.kids.length=N.nk)(Q:r.ds.length<=1000000)(T:r.aU.length<=1000000)(kind:Int)(n:Nat)(W:n<r.uses.length)
 (l:lL) (F:aR) (m:Nat) (H:List Nat) (J:bY w E.base p' (l::F) (m::H)) (C:Ec E (m::H)) (S:M m\/w0.heap.size<=m):
 Calls Tryz.prog 148 #[.pointer (some ⟨E.rp,0,none⟩),.int .i64 kind,.int .i64 (n:Int),.agg #[.int .i64 N.k,.string N.x,.int .i64 N.a,.int .i64 N.z,.slice N.A N.nk N.c],.pointer p'] w fun e w'=>e= .returned (.tuple #[])/\KX E (fun g=>g=m) w w'/\∃V',VW E G B N w0 M (aJ G r kind n t (l::F)).1 V' (aJ G r kind n t (l::F)).2 p' (m::H) w':=by
 have:=OI E G r V w h.R Q T h.base kind n W t N.A N.c l F p' m H J C;unfold aO at this;rw[D.1,D.2.1,D.2.2.1,D.2.2.2.1,D.2.2.2.2,I]at this;exact this.mono fun _ _ ⟨L,V',O,P,K⟩=>⟨L,K,V',h.step K O P (fun g U=>by rw[U];exact S)⟩
theorem bY.tail{b m:Nat}(h:bY w E.base (some ⟨b,0,none⟩) s (m::ms))(K:ah w b 95 #[.pointer p,.map (some m)]):bY w E.base p s.tail ms:=by
 cases s with
 | nil=>exact absurd h.2 (by simp)
 | cons l s=>
  obtain⟨L,O,p',ms',D,F,_,_,I,_,J⟩:=h;simp only[List.cons.injEq]at F;obtain⟨rfl,rfl⟩:=F;simp only[acf,Addr.mk.injEq,and_true]at D;subst D;have H:w.heap[b]? =some (Obj.cells _ _ (0,0)):=K;have C:w.heap[b]? =some (Obj.cells _ _ (0,0)):=I;rw[H]at C;simp at C;rw[C];exact J
theorem bY.head{b m:Nat}{l:lL}(h:bY w E.base (some ⟨b,0,none⟩) (l::s) (m::ms)):aY jS w m (jM l)/\E.base<=b/\E.base<=m/\∃p,ah w b 95 #[.pointer p,.map (some m)]/\bY w E.base p s ms:=by
 obtain⟨L,O,p',ms',C,D,F,H,I,J,K⟩:=h;simp only[List.cons.injEq]at D;obtain⟨rfl,rfl⟩:=D;simp only[acf,Addr.mk.injEq,and_true]at C;subst C;exact⟨J,F,H,p',I,K⟩
theorem VW.xQ(h:VW E G B N w0 M r V s p ms w)(F:KX E M' w w'){g:Nat}{C:Array Value}(D:ah w g 95 C):ah w' g 95 C:=
 F.blk D (by decide) (by decide) (by decide) (fun e=>h.R.nG g C e D)
theorem Ec.cons{m:Nat}(h:Ec E ms)(F:m ∉ ms)(D:m≠E.g/\m≠E.f/\m≠E.k/\m≠E.vi):Ec E (m::ms):=
 ⟨List.nodup_cons.2 ⟨F,h.nodup⟩,fun x C=>by rcases List.mem_cons.1 C with rfl|C;exact D;exact h.apart x C⟩
theorem bY.lt:∀{s:aR}{p:Option Addr}{ms:List Nat},bY w E.base p s ms->∀m∈ms,m<w.heap.size
 | [],_,_,h,m,C=>by rw[h.2]at C;cases C
 | _::_,_,_,⟨_,m',_,ms',_,h2,_,_,_,h6,h7⟩,m,C=>by
  rw[h2]at C;rcases List.mem_cons.1 C with rfl|C
  ·exact h6.lt
  exact bY.lt h7 m C
theorem VW.GL(h:VW E G B N w0 M r V s p ms w){p1:Option Addr}{s1:aR}{ms1:List Nat}(D:bY w E.base p1 s1 ms1)(C:Ec E ms1):
 Calls Tryz.prog 48 #[.pointer p1] w fun e w'=> ∃b m,e= .returned (.pointer (some ⟨b,0,none⟩))/\w.heap.size<=m/\ah w' b 95 #[.pointer p1,.map (some m)]/\aY jS w' m []/\bY w' E.base (some ⟨b,0,none⟩) ([]::s1) (m::ms1)/\Ec E (m::ms1)/\Below w.heap.size w w'/\VW E G B N w0 M r V s p ms w':=by
 refine(Yk p1 w).mono ?_;rintro e w' ⟨b,m,K,L,H,I,J,F⟩;have P:=h.below F;refine⟨b,m,K,H,I,J,⟨b,m,p1,ms1,rfl,rfl,aca h.base L,aca h.base H,I,J,D.below F⟩,C.cons (fun O=>?_) ?_,F,P⟩
 ·have:=bY.lt D m O
  omega
 have Q:=h.R.gl.lt;have S:=h.R.fl.lt;have T:=h.R.kn.lt;have U:=h.R.vi.lt;exact⟨by omega,by omega,by omega,by omega⟩
theorem VW.end_(h:VW E G B N w0 (fun g=>g=E.vi\/ms.head? =some g) r V s p ms w):∃V',aQ E G r V' w/\bY w E.base p s ms/\KX E (fun g=>g=E.vi\/ms.head? =some g) w0 w:=⟨V,h.R,h.S,h.K⟩
end
theorem KZ(w:World)(r:Nat)(l:lL)(h:aY jS w r (jM l))(x:ByteArray):
 (Instr.lookup 70 (.map (some r)) (.string x) false).run Tryz.prog w= .ok (.int .i64 ((bK l x).getD 0)) w:=by
 have:=zJ (P:=Tryz.prog) (KK:=jS) (t:=70) (kt:=9) (et:=3) Tryz.underlying70 Tryz.underlying9 Jy h x;unfold jM at this;rw[GD]at this
 cases C:bK l x with
 | none=>rw[C]at this;exact this
 | some k=>rw[C]at this;exact this
theorem uh(w:World)(r:Nat)(l:List (Int×Int))(h:aY iU w r (uD l))(x:Int):
 (Instr.lookup 71 (.map (some r)) (.int .i64 x) false).run Tryz.prog w= .ok (.int .i64 ((bK l x).getD 0)) w:=by
 have:=zJ (P:=Tryz.prog) (KK:=iU) (t:=71) (kt:=3) (et:=3) Tryz.underlying71 Tryz.underlying3 Jy h x;unfold uD at this;rw[GD]at this
 cases C:bK l x with
 | none=>rw[C]at this;exact this
 | some k=>rw[C]at this;exact this
theorem Rw(a b:Int):(a !=b)=decide (a≠b):=by by_cases h:a=b<;>simp[h]
theorem RB.kids{r q:RS}{s s':aR}{t:ae}{f n:Nat}(h:RB r s (aB t))(k:qM r q)(C:(aH s').length+r.next<=(aH s).length+q.next)(I:q.next<=r.next+1+aC (t.kids.take f)):RB q s' (aC ((t.kids.drop f).take n)):=by
 refine h.slow k C ?_;have D:=jk t;have F:=BC t.kids f n;have H:=eY t;omega
section
variable {E:RC}{G:bf}{B:Nat}{k:Int}{x:ByteArray}{a e:Int}{kids:List ae}{i:Bool}{s:aR}{p:Option Addr}{ms:List Nat}{r:RS}{V:RV}{w:World}{A:Option Addr}{c nk nx:Nat}
theorem Dt(h:aQ E G r V w)(C:RB r s (aB (.node k x a e kids)))(F:kids.length=nk):∃nx:Nat,Hid (r.next=nx)/\nx<=1000000/\nk<=1000000/\w.cell? ⟨E.rp,7,none⟩=some (.int .i64 (nx:Int))/\E.rp<w.heap.size/\IntKind.i64.wrap ((nx:Int)+1)=(nx:Int)+1/\w.frozen? ⟨E.rp,7,none⟩=false:=by
 have D:=C.room;have H:=C.most;have I:=dO kids;rw[aB]at D;exact⟨r.next,kH rfl,by omega,by omega,h.blk.cell 7,h.blk.lt,IntWalk.i64_in _ (by omega),h.blk.frozen 7⟩
theorem Dr{W3:World}(H:Hid (aQ E G r V w))(O:Hid (bY w E.base p s ms))(D:(((w.setCell ⟨E.rp,7,none⟩ (.int .i64 ((nx:Int)+1))).alloc (.cells #[.pointer (some ⟨E.rp,0,none⟩)] 68)).alloc (.cells #[.int .i64 k,.string x,.int .i64 a,.int .i64 e,.slice A nk c] 24))=W3):
 Hid (aQ E G { r with next:=nx+1 } V W3)/\Hid (KX E (fun _=>False) w W3)/\Hid (bY W3 E.base p s ms)/\Hid (ah W3 (w.heap.size+1) 24 #[.int .i64 k,.string x,.int .i64 a,.int .i64 e,.slice A nk c])/\Hid (ah W3 w.heap.size 68 #[.pointer (some ⟨E.rp,0,none⟩)]) /\
  W3.cell? ⟨E.rp,5,none⟩=some (.map (some E.vi))/\W3.cell? ⟨w.heap.size,0,none⟩=some (.pointer (some ⟨E.rp,0,none⟩))/\E.rp<W3.heap.size/\w.heap.size<W3.heap.size:=by
 obtain⟨K,J⟩:=H.out.TK (nx+1) (fun _=>False)
 have I:Below w.heap.size (w.setCell ⟨E.rp,7,none⟩ (.int .i64 ((nx:Int)+1))) W3:=by
  rw[<- D];have P:=ai (w.setCell ⟨E.rp,7,none⟩ (.int .i64 ((nx:Int)+1))) (.cells #[.pointer (some ⟨E.rp,0,none⟩)] 68);have Q:=ai ((w.setCell ⟨E.rp,7,none⟩ (.int .i64 ((nx:Int)+1))).alloc (.cells #[.pointer (some ⟨E.rp,0,none⟩)] 68)) (.cells #[.int .i64 k,.string x,.int .i64 a,.int .i64 e,.slice A nk c] 24);have S:=P.trans (Q.mono (by simp));simpa using S
 have U:ah W3 (w.heap.size+1) 24 #[.int .i64 k,.string x,.int .i64 a,.int .i64 e,.slice A nk c]:=by
  have:=ah.new ((w.setCell ⟨E.rp,7,none⟩ (.int .i64 ((nx:Int)+1))).alloc (.cells #[.pointer (some ⟨E.rp,0,none⟩)] 68)) 24 #[.int .i64 k,.string x,.int .i64 a,.int .i64 e,.slice A nk c];rw[D]at this;simpa using this
 have F:ah W3 w.heap.size 68 #[.pointer (some ⟨E.rp,0,none⟩)]:=by
  have:=(ah.new (w.setCell ⟨E.rp,7,none⟩ (.int .i64 ((nx:Int)+1))) 68 #[.pointer (some ⟨E.rp,0,none⟩)]).alloc (.cells #[.int .i64 k,.string x,.int .i64 a,.int .i64 e,.slice A nk c] 24);rw[D]at this;simpa using this
 have C:aQ E G { r with next:=nx+1 } V W3:=K.below (by simpa using I);have L:KX E (fun _=>False) w W3:=J.trans (KX.of_below (M:=fun _=>False) (by simpa using I)) (fun g T=>.inl T);exact⟨kH C,kH L,kH (bY.kx L H.out.nG O.out (fun _ _ h=>h)),kH U,kH F,C.blk.cell 5,F.cell 0,C.blk.lt,F.lt⟩
variable {W3:World}
theorem Dq(C:Hid (aQ E G { r with next:=nx+1 } V W3)) (F:Hid (ah W3 w.heap.size 68 #[.pointer (some ⟨E.rp,0,none⟩)])) (P:Hid (bY W3 E.base p s ms)) (K:Hid (RB r s (aB (.node k x a e kids)))) (I:Hid (r.next=nx)) (T:nx<=1000000):
 Hid (Calls Tryz.prog 145 #[.pointer p] W3.drew fun e w'=> ∃v,e= .returned v/\aG w' W3.drew.heap.size 3 1 v (aH s).length (bL (aF (aH s)))/\Below W3.drew.heap.size W3.drew w') /\
  Hid (∀w':World,ak (fun g=>g=E.vi) W3 w'->w'.cell? ⟨E.rp,5,none⟩=some (.map (some E.vi))/\w'.cell? ⟨w.heap.size,0,none⟩=some (.pointer (some ⟨E.rp,0,none⟩)))/\ak (fun g=>g=E.vi) W3 W3.drew:=by
 refine⟨kH (Ut E.base s p ms W3.drew (bY.below ((Below.refl _ W3).drew) P.out) (by have:=K.out.WR;have:=I.out;omega)),kH fun w' D=>?_,(ak.refl _ W3).drew⟩
 have H:∀{g:Nat}{t:TypeId}{J:Array Value},ah W3 g t J->g≠E.vi:=fun L e=>by
  obtain⟨S,Q,O⟩:=C.out.vi.isMap;subst e;have:W3.heap[_]? =some (Obj.cells _ _ (0,0)):=L;rw[O]at this;cases this
 exact⟨(C.out.blk.since D (H C.out.blk)).cell 5,(F.out.since D (H F.out)).cell 0⟩
theorem Dp{D:World}(K:Hid (aQ E G { r with next:=nx+1 } V W3)) (F:Below W3.drew.heap.size W3.drew D) (L:ak (fun g=>g=E.vi) W3 W3.drew) (O:Value):
 ak (fun g=>g=E.vi) W3 D/\∃C,(Instr.mapUpdate 72 (.map (some E.vi)) (Value.int .i64 (nx:Int)) O).run Tryz.prog D= .ok () C/\Hid (aY iU C E.vi (oD V.vals (nx:Int) O)/\ak (fun g=>g=E.vi) D C)/\ak (fun g=>g=E.vi) W3 C:=by
 have I:=L.below F;obtain⟨C,H,Q,U,T⟩:=iO (P:=Tryz.prog) (KK:=iU) (t:=72) (kt:=3) (et:=28) Tryz.underlying72 Tryz.underlying3 ((aY.drew K.out.vi).Jm F) (nx:Int) O;have J:ak (fun g=>g=E.vi) D C:=(ak.refl (fun g=>g=E.vi) D).grown U (fun k S=>by cases S;exact .inl rfl);exact⟨I,C,H,kH ⟨Q,J⟩,I.trans J⟩
theorem Dn{J D:World}{I:Value}(F:Hid (aQ E G { r with next:=nx+1 } V W3)) (W:Hid (KX E (fun _=>False) w W3)) (S:Hid (RB r s (aB (.node k x a e kids)))) (K:Hid (r.next=nx)) (Q:Hid (E.base<=w.heap.size)) (H:Below W3.drew.heap.size W3.drew J) (X:aG J W3.drew.heap.size 3 1 I (aH s).length (bL (aF (aH s))))
 (L:Hid (aY iU D E.vi (oD V.vals (nx:Int) I)/\ak (fun g=>g=E.vi) J D)):∃P,Hid (aQ E G (aI r true (aF (aH s))) P D)/\Hid (KX E (fun g=>g=E.vi) W3 D):=by
 have C:(aF (aH s)).length=(aH s).length:=List.length_mergeSort _
 have O:=F.out.TP (aca Q.out W.out.size) (((Below.refl _ W3).drew).trans H) (nx:Int) (aF (aH s)) I (by rw[C];exact X) (fun T=>by
  obtain⟨y,U,Y⟩:=List.mem_map.1 T;have:=S.out.aP y U;have:=K.out
  omega) (fun g=>g=E.vi) rfl L.out.1 L.out.2
 exact⟨_,by have:=O.1;rw[<- K.out]at this;exact kH this,kH O.2⟩
theorem Dm{wc:World}{K:RV}(L:B<=E.base)(D:Ec E ms)(Q:Hid (aQ E G (aI r i (aF (aH s))) K wc))(F:Hid (KX E (fun g=>g=E.vi) W3 wc))(C:Hid (aQ E G { r with next:=nx+1 } V W3)) (Z:Hid (KX E (fun _=>False) w W3)) (Y:Hid (bY W3 E.base p s ms))
 (y:Hid (ah W3 (w.heap.size+1) 24 #[.int .i64 k,.string x,.int .i64 a,.int .i64 e,.slice A nk c])) (z:Hid (ah W3 w.heap.size 68 #[.pointer (some ⟨E.rp,0,none⟩)])) (O:Hid (aD w B A 0 kids)) (J:Hid (RB r s (aB (.node k x a e kids)))) (P:Hid (r.next=nx)) (I:Hid (E.base<=w.heap.size)) (t:nx<=1000000):
 Hid (VW E G B ⟨kids,k,x,a,e,A,nk,c,w.heap.size+1,w.heap.size⟩ w (fun g=>g=E.vi\/ms.head? =some g) (aI r i (aF (aH s))) K s p ms wc)/\Hid ((aI r i (aF (aH s))).ds.length<=1000000)/\Hid ((aI r i (aF (aH s))).aU.length<=1000000)/\Hid (nx<(aI r i (aF (aH s))).uses.length) /\
  Hid (∀u:RS,u.next=r.next+1->u.next<=r.next+1+aC ((ae.node k x a e kids).kids.take 0)):=by
 have H:KX E (fun g=>g=E.vi) w wc:=(Z.out.mono (fun _ T=>T.elim)).trans F.out (fun g U=>.inl U);have S:=J.out.room;have v:=P.out;rw[aB]at S;refine⟨kH ⟨Q.out,bY.kx F.out C.out.nG Y.out (fun m W e=>(D.apart m W).2.2.2 e),C.out.xV F.out y.out,C.out.Gx F.out z.out,H.mono (fun _ h=>.inl h),aD.below ((KX.low H I.out).mono L) (ab9 _) _ _ _ O.out,aca I.out (KX.low H I.out).size,L⟩,kH ?_,kH ?_,kH ?_,kH fun u X=>by rw[X];exact Nat.le_add_right _ _⟩
 ·show r.ds.length<=_
  have:=J.out.ds;omega
 ·show r.aU.length<=_
  have:=J.out.aU;omega
 show nx<r.uses.length;omega
theorem Dl{wc:World}{F:RV}{q:RS}(H:Hid (aQ E G q F wc))(x:ByteArray):∃(D:Int) (C:Bool),Hid ((bK G.globals x).getD 0=D)/\Hid ((bK G.globals x).isSome=C)/\∀q,(Instr.lookup 70 (.map (some E.g)) (.string x) true).run Tryz.prog (wc.drewN q)= .ok (.tuple #[.int .i64 D,.bool C]) (wc.drewN q):=
 ⟨_,_,kH rfl,kH rfl,fun q=>oH (wc.drewN q) E.g G.globals (aY.drewN H.out.gl q) x⟩
end
theorem SB(E:RC)(G:bf)(B:Nat)(hB:B<=E.base)(k:Int)(x:ByteArray)(a e:Int)(kids:List ae)(U:∀k∈kids,fO E G B k)(f:¬k=3)(d:¬k=4)(W:¬k=5)(a7:¬k=7)(a8:¬k=8)(JU:¬k=11)(oL:¬k=12)(oK:¬k=16)(MV:¬k=20)(u:¬k=22)(CU:¬k=27)(n:¬k=19)(vN:¬k=9):fO E G B (.node k x a e kids):=by
 intro i s p ms r V w A c h hs K hk J D hv O;obtain⟨nk, I⟩:=ag kids.length
 have z:lG s.isEmpty kids=true:=by
  rw[pq,if_neg W,if_neg JU,if_neg (by omega)]at hv;exact hv
 have hq:aK G i (ae.node k x a e kids) s r=aj G i kids 0 kids.length s (ik G s r (aI r i (aF (aH s))) (ae.node k x a e kids)):=by
  rw[dz,if_neg f,if_neg d,if_neg W,if_neg (by omega),if_neg JU,if_neg oL,if_neg oK]
 rw[hq];obtain⟨Q, l⟩:=ag (aj G i kids 0 kids.length s (ik G s r (aI r i (aF (aH s))) (ae.node k x a e kids)));rw[l];have HQ:=kH l;clear hq l;rw[show aO (ae.node k x a e kids) A c= .agg #[.int .i64 k,.string x,.int .i64 a,.int .i64 e,.slice A nk c] by rw[<- I];rfl];obtain⟨nx,y,X,yf,qK,ab,ad,j⟩:=Dt h O I;have H:=kH h;have HS:=kH hs;have HK:Hid (aD w B A 0 kids):=kH hk;have v:=kH O;have eT:=kH I;have kP:=kH z;have jo:=kH U;have P:Hid (nk<=c):=kH (by rw[<- I];exact J);have dK:=kH D;clear h hs hk O I z U hv J D;go_in
 go_upto_if 32 with fail
 generalize T:World.alloc (World.alloc (World.setCell w _ _) _) _=W3
 obtain⟨C,iT,iJ,kE,iX,c5,p0,pR,qH⟩:=Dr H HS T;clear T qK j;go_cut [] (fun wx=> ∃Vx,Hid (aQ E G (aI r i (aF (aH s))) Vx wx)/\Hid (KX E (fun g=>g=E.vi) W3 wx))
 case first=>
  cases i with
  | false=>
   go_wp2_with fail
   go_meet
   exact⟨V,by have:=C.out;rw[<- y.out]at this;exact kH this,kH (KX.refl _ _ _)⟩
  | true=>
   obtain⟨iE,bP,Z⟩:=Dq C iX iJ v y X;go_wp2_with fail
   go_region_held3 (fun w'=>w'.cell? ⟨E.rp,5,none⟩=some (.map (some E.vi))/\w'.cell? ⟨w.heap.size,0,none⟩=some (.pointer (some ⟨E.rp,0,none⟩))) (exact bP.out _ (by assumption)) ((go_at_call 145;refine iE.out.mono ?_;rintro e5 w5 ⟨v5,rfl,jE,L⟩;obtain⟨b,w6,Y,lD,a1⟩:=Dp C L Z v5))
   have HX:=kH (Dn C iT v y dK L jE lD);clear b a1 lD L jE Z Y;go_wp2_with fail
   go_meet
   exact HX.out
 obtain⟨Vx,gJ,ng⟩:=hcut;obtain⟨HV,HD,tJ,HU,rq⟩:=Dm hB K gJ ng C iT iJ kE iX HK v y dK X;obtain⟨gi,gb,uy,Ag,aa⟩:=Dl gJ x;obtain⟨⟨q0,lp⟩,⟨n0,n1,n2,n3,n4,ln⟩,⟨c0,c1,c2,c8,lr⟩⟩:=HV.out.cells;clear c5 p0 pR qH c8
 have hu:ik G s r (aI r i (aF (aH s))) (ae.node k x a e kids)=(aI r i (aF (aH s))):=by
  unfold ik;show(if k=20 then _ else if k=22 then _ else if k=27 then _ else if k=19 then _ else if k=9/\ek x=false then _ else _)=_;rw[if_neg MV,if_neg u,if_neg CU,if_neg n,if_neg (fun(h:k=9/\ek x=false)=>vN h.1)]
 have F:=fun q=>(HV.out.drewN q).kids jo.out i 0 nk nk (by omega) eT.out (by show 0+nk<=nk;omega) P.out kP.out (v.out.kids (t:=(ae.node k x a e kids)) (dY.none_ r i _) (Nat.add_le_add_left (Nat.le_succ _) _) (rq.out _ rfl)) K (fun g hg=>.inl hg)
 have jb:aj G i kids 0 nk s (aI r i (aF (aH s)))=Q:=by rw[<- HQ.out,hu,eT.out]
 have eQ:=kH jb;have zG:=kH F;clear F jb hu;go_wp2_with fail
 go_quiet (fail)
 go_wp2_with fail
 refine(zG.out _).mono ?_;rintro a6 m ⟨rfl,-,zq,S⟩;have HE:Hid (∃V',aQ E G Q.1 V' m/\bY m E.base p Q.2 ms/\KX E (fun g=>g=E.vi\/ms.head? =some g) w m):=kH (by rw[<- eQ.out];exact S.end_);clear S zG;go_wp2_with fail
 go_end0
 exact⟨rfl,HE.out⟩
theorem UO(E:RC)(G:bf)(B:Nat)(hB:B<=E.base)(x:ByteArray)(a e:Int)(kids:List ae)(Z:∀k∈kids,fO E G B k):fO E G B (.node 20 x a e kids):=by
 intro i s p ms r V w A c h hs L m K I hv P;obtain⟨nk, J⟩:=ag kids.length
 have u:lG s.isEmpty kids=true:=by
  rw[pq,if_neg (by decide),if_neg (by decide),if_neg (by decide)]at hv;exact hv
 have hq:aK G i (ae.node 20 x a e kids) s r=aj G i kids 0 kids.length s (ik G s r (aI r i (aF (aH s))) (ae.node 20 x a e kids)):=by
  rw[dz];repeat (rw[if_neg (by decide)])
 rw[hq];obtain⟨Q, hQ⟩:=ag (aj G i kids 0 kids.length s (ik G s r (aI r i (aF (aH s))) (ae.node 20 x a e kids)));rw[hQ];have HQ:=kH hQ;clear hq hQ;rw[show aO (ae.node 20 x a e kids) A c= .agg #[.int .i64 20,.string x,.int .i64 a,.int .i64 e,.slice A nk c] by rw[<- J];rfl];obtain⟨nx,U,z,yf,qK,af,al,a1⟩:=Dt h P J;have H:=kH h;have HS:=kH hs;have HK:Hid (aD w B A 0 kids):=kH m;have n:=kH P;have d:=kH J;have kP:=kH u;have jo:=kH Z;have W:Hid (nk<=c):=kH (by rw[<- J];exact K);have dK:=kH I;clear h hs m P J u Z hv K I;go_in
 go_upto_if 32 with fail
 generalize Y:World.alloc (World.alloc (World.setCell w _ _) _) _=W3
 obtain⟨F,iT,iJ,kE,iX,c5,p0,pR,qH⟩:=Dr H HS Y;clear Y qK a1;go_cut [] (fun wx=> ∃Vx,Hid (aQ E G (aI r i (aF (aH s))) Vx wx)/\Hid (KX E (fun g=>g=E.vi) W3 wx))
 case first=>
  cases i with
  | false=>
   go_wp2_with fail
   go_meet
   exact⟨V,by have:=F.out;rw[<- U.out]at this;exact kH this,kH (KX.refl _ _ _)⟩
  | true=>
   obtain⟨iE,bP,v⟩:=Dq F iX iJ n U z;go_wp2_with fail
   go_region_held3 (fun w'=>w'.cell? ⟨E.rp,5,none⟩=some (.map (some E.vi))/\w'.cell? ⟨w.heap.size,0,none⟩=some (.pointer (some ⟨E.rp,0,none⟩))) (exact bP.out _ (by assumption)) ((go_at_call 145;refine iE.out.mono ?_;rintro e5 w5 ⟨v5,rfl,jE,O⟩;obtain⟨a6,w6,y,lD,a7⟩:=Dp F O v v5))
   have HX:=kH (Dn F iT n U dK O jE lD);clear a6 a7 lD O jE v y;go_wp2_with fail
   go_meet
   exact HX.out
 obtain⟨Vx,gJ,ng⟩:=hcut;obtain⟨j,HD,tJ,HU,rq⟩:=Dm hB L gJ ng F iT iJ kE iX HK n U dK z;obtain⟨gi,gb,uy,Ag,ad⟩:=Dl gJ x;obtain⟨⟨q0,lp⟩,⟨n0,n1,n2,n3,n4,ln⟩,⟨c0,c1,c2,c8,lr⟩⟩:=j.out.cells;clear c5 p0 pR qH c8;obtain⟨T, l⟩:=ag (fF s x);have aa:=kH l
 have jb:aj G i kids 0 nk s (iw (aI r i (aF (aH s))) nx (ae.node 20 x a e kids) T)=Q:=by
  rw[<- HQ.out,d.out,<- l,<- U.out];rfl
 have eQ:=kH jb;have oV:Hid (qM r (iw (aI r i (aF (aH s))) nx (ae.node 20 x a e kids) T)):=kH (by have:=dY.En r i (aF (aH s)) (ae.node 20 x a e kids) T;rw[U.out]at this;exact this);have fw:Hid ((iw (aI r i (aF (aH s))) nx (ae.node 20 x a e kids) T).next=r.next+1):=kH (by cases T<;>rfl);clear jb;have D:=fun q=>Rk E.base x (wc.drewN q) s p ms ((j.out.drewN q).S)
 have mW:=fun q=>(j.out.drewN q).JD (ae.node 20 x a e kids) ⟨rfl,rfl,rfl,rfl,rfl⟩ d.out tJ.out nx HU.out T (T.getD 0) (fun k m=>by rw[m];rfl)
 rw[l]at D;have HF:=kH D;have qP:=kH mW;clear D mW l;go_wp2_with fail
 go_quiet (fail)
 go_wp2_with fail
 refine(HF.out _).mono ?_;rintro e7 w7 ⟨rfl,a8⟩;subst a8;go_wp2_with fail
 refine(qP.out _).mono ?_;rintro e8 w8 ⟨rfl,V8,b⟩;obtain⟨⟨q8,Bj⟩,⟨-,-,-,-,n8,I1⟩,-⟩:=b.cells;have C:=b.kids jo.out i 0 nk nk (by omega) d.out (by show 0+nk<=nk;omega) W.out kP.out (n.out.kids (t:=(ae.node 20 x a e kids)) oV.out (Nat.add_le_add_left oV.out.next _) (rq.out _ fw.out)) L (fun g hg=>.inl hg);rw[eQ.out]at C;have HC:=kH C;clear C b;go_wp2_with fail
 refine HC.out.mono ?_;rintro ab f ⟨rfl,-,zq,X⟩;have HE:Hid (∃V',aQ E G Q.1 V' f/\bY f E.base p Q.2 ms/\KX E (fun g=>g=E.vi\/ms.head? =some g) w f):=kH X.end_;clear X HC q8 n8;go_wp2_with fail
 go_end0
 exact⟨rfl,HE.out⟩
theorem UR(E:RC)(G:bf)(B:Nat)(hB:B<=E.base)(x:ByteArray)(a e:Int)(kids:List ae)(X:∀k∈kids,fO E G B k):fO E G B (.node 27 x a e kids):=by
 intro i s p ms r V w A c h hs L n K F hv P;obtain⟨nk, I⟩:=ag kids.length
 have y:lG s.isEmpty kids=true:=by
  rw[pq,if_neg (by decide),if_neg (by decide),if_neg (by decide)]at hv;exact hv
 have hq:aK G i (ae.node 27 x a e kids) s r=aj G i kids 0 kids.length s (ik G s r (aI r i (aF (aH s))) (ae.node 27 x a e kids)):=by
  rw[dz];repeat (rw[if_neg (by decide)])
 rw[hq];obtain⟨Q, f⟩:=ag (aj G i kids 0 kids.length s (ik G s r (aI r i (aF (aH s))) (ae.node 27 x a e kids)));rw[f];have HQ:=kH f;clear hq f;rw[show aO (ae.node 27 x a e kids) A c= .agg #[.int .i64 27,.string x,.int .i64 a,.int .i64 e,.slice A nk c] by rw[<- I];rfl];obtain⟨nx,S,Y,yf,qK,aa,ab,d⟩:=Dt h P I;have H:=kH h;have HS:=kH hs;have HK:Hid (aD w B A 0 kids):=kH n;have u:=kH P;have l:=kH I;have kP:=kH y;have jo:=kH X;have T:Hid (nk<=c):=kH (by rw[<- I];exact K);have dK:=kH F;clear h hs n P I y X hv K F;go_in
 go_upto_if 32 with fail
 generalize W:World.alloc (World.alloc (World.setCell w _ _) _) _=W3
 obtain⟨D,iT,iJ,kE,iX,c5,p0,pR,qH⟩:=Dr H HS W;clear W qK d;go_cut [] (fun wx=> ∃Vx,Hid (aQ E G (aI r i (aF (aH s))) Vx wx)/\Hid (KX E (fun g=>g=E.vi) W3 wx))
 case first=>
  cases i with
  | false=>
   go_wp2_with fail
   go_meet
   exact⟨V,by have:=D.out;rw[<- S.out]at this;exact kH this,kH (KX.refl _ _ _)⟩
  | true=>
   obtain⟨iE,bP,z⟩:=Dq D iX iJ u S Y;go_wp2_with fail
   go_region_held3 (fun w'=>w'.cell? ⟨E.rp,5,none⟩=some (.map (some E.vi))/\w'.cell? ⟨w.heap.size,0,none⟩=some (.pointer (some ⟨E.rp,0,none⟩))) (exact bP.out _ (by assumption)) ((go_at_call 145;refine iE.out.mono ?_;rintro e5 w5 ⟨v5,rfl,jE,O⟩;obtain⟨b,w6,Z,lD,a1⟩:=Dp D O z v5))
   have HX:=kH (Dn D iT u S dK O jE lD);clear b a1 lD O jE z Z;go_wp2_with fail
   go_meet
   exact HX.out
 obtain⟨Vx,gJ,ng⟩:=hcut;obtain⟨HV,HD,tJ,HU,rq⟩:=Dm hB L gJ ng D iT iJ kE iX HK u S dK Y;obtain⟨gi,gb,uy,Ag,a8⟩:=Dl gJ x;obtain⟨⟨q0,lp⟩,⟨n0,n1,n2,n3,n4,ln⟩,⟨c0,c1,c2,c8,lr⟩⟩:=HV.out.cells;clear c5 p0 pR qH c8;obtain⟨J, v⟩:=ag (aV G.globals x);have a6:=kH v
 have jb:aj G i kids 0 nk s (iw (aI r i (aF (aH s))) nx (ae.node 27 x a e kids) J)=Q:=by
  rw[<- HQ.out,l.out,<- v,<- S.out];rfl
 have eQ:=kH jb;have oV:Hid (qM r (iw (aI r i (aF (aH s))) nx (ae.node 27 x a e kids) J)):=kH (by have:=dY.En r i (aF (aH s)) (ae.node 27 x a e kids) J;rw[S.out]at this;exact this);have fw:Hid ((iw (aI r i (aF (aH s))) nx (ae.node 27 x a e kids) J).next=r.next+1):=kH (by cases J<;>rfl);clear jb;have mW:=fun q=>(HV.out.drewN q).JD (ae.node 27 x a e kids) ⟨rfl,rfl,rfl,rfl,rfl⟩ l.out tJ.out nx HU.out J (J.getD 0) (fun k n=>by rw[n];rfl)
 have e1:J.getD 0=gi:=by rw[<- uy.out,<- v]
 have e2:J.isSome=gb:=by rw[<- Ag.out,<- v]
 rw[e1,e2]at mW;have qP:=kH mW;clear mW v e1 e2;go_wp2_with fail
 go_quiet (fail)
 go_wp2_with fail
 refine(qP.out _).mono ?_;rintro e8 w8 ⟨rfl,V8,j⟩;obtain⟨⟨q8,Bj⟩,⟨-,-,-,-,n8,I1⟩,-⟩:=j.cells;have C:=j.kids jo.out i 0 nk nk (by omega) l.out (by show 0+nk<=nk;omega) T.out kP.out (u.out.kids (t:=(ae.node 27 x a e kids)) oV.out (Nat.add_le_add_left oV.out.next _) (rq.out _ fw.out)) L (fun g hg=>.inl hg);rw[eQ.out]at C;have HC:=kH C;clear C j;go_wp2_with fail
 refine HC.out.mono ?_;rintro a7 m ⟨rfl,-,zq,U⟩;have HE:Hid (∃V',aQ E G Q.1 V' m/\bY m E.base p Q.2 ms/\KX E (fun g=>g=E.vi\/ms.head? =some g) w m):=kH U.end_;clear U HC q8 n8;go_wp2_with fail
 go_end0
 exact⟨rfl,HE.out⟩
theorem Po(E:RC)(G:bf)(B:Nat)(hB:B<=E.base)(x:ByteArray)(a e:Int)(kids:List ae)(X:∀k∈kids,fO E G B k):fO E G B (.node 22 x a e kids):=by
 intro i s p ms r V w A c h hs L j K F hv P;obtain⟨nk, I⟩:=ag kids.length
 have n:lG s.isEmpty kids=true:=by
  rw[pq,if_neg (by decide),if_neg (by decide),if_neg (by decide)]at hv;exact hv
 have hq:aK G i (ae.node 22 x a e kids) s r=aj G i kids 0 kids.length s (ik G s r (aI r i (aF (aH s))) (ae.node 22 x a e kids)):=by
  rw[dz];repeat (rw[if_neg (by decide)])
 rw[hq];obtain⟨Q, hQ⟩:=ag (aj G i kids 0 kids.length s (ik G s r (aI r i (aF (aH s))) (ae.node 22 x a e kids)));rw[hQ];have HQ:=kH hQ;clear hq hQ;rw[show aO (ae.node 22 x a e kids) A c= .agg #[.int .i64 22,.string x,.int .i64 a,.int .i64 e,.slice A nk c] by rw[<- I];rfl];obtain⟨nx,S,Z,yf,qK,ad,af,a1⟩:=Dt h P I;have H:=kH h;have HS:=kH hs;have HK:Hid (aD w B A 0 kids):=kH j;have m:=kH P;have eT:=kH I;have kP:=kH n;have jo:=kH X;have T:Hid (nk<=c):=kH (by rw[<- I];exact K);have dK:=kH F;clear h hs j P I n X hv K F;go_in
 go_upto_if 32 with fail
 generalize W:World.alloc (World.alloc (World.setCell w _ _) _) _=W3
 obtain⟨D,iT,iJ,kE,iX,c5,p0,pR,qH⟩:=Dr H HS W;clear W qK a1;go_cut [] (fun wx=> ∃Vx,Hid (aQ E G (aI r i (aF (aH s))) Vx wx)/\Hid (KX E (fun g=>g=E.vi) W3 wx))
 case first=>
  cases i with
  | false=>
   go_wp2_with fail
   go_meet
   exact⟨V,by have:=D.out;rw[<- S.out]at this;exact kH this,kH (KX.refl _ _ _)⟩
  | true=>
   obtain⟨iE,bP,y⟩:=Dq D iX iJ m S Z;go_wp2_with fail
   go_region_held3 (fun w'=>w'.cell? ⟨E.rp,5,none⟩=some (.map (some E.vi))/\w'.cell? ⟨w.heap.size,0,none⟩=some (.pointer (some ⟨E.rp,0,none⟩))) (exact bP.out _ (by assumption)) ((go_at_call 145;refine iE.out.mono ?_;rintro e5 w5 ⟨v5,rfl,jE,O⟩;obtain⟨a6,w6,z,lD,a7⟩:=Dp D O y v5))
   have HX:=kH (Dn D iT m S dK O jE lD);clear a6 a7 lD O jE y z;go_wp2_with fail
   go_meet
   exact HX.out
 obtain⟨Vx,l,ng⟩:=hcut;obtain⟨HV,HD,tJ,HU,rq⟩:=Dm hB L l ng D iT iJ kE iX HK m S dK Z;obtain⟨gi,gb,uy,Ag,ab⟩:=Dl l x;obtain⟨⟨q0,lp⟩,⟨n0,n1,n2,n3,n4,ln⟩,⟨c0,c1,c2,c8,lr⟩⟩:=HV.out.cells;clear c5 p0 pR qH c8;obtain⟨J, d⟩:=ag (aV G.fields x);have a8:=kH d
 have jb:aj G i kids 0 nk s (iw (aI r i (aF (aH s))) nx (ae.node 22 x a e kids) J)=Q:=by
  rw[<- HQ.out,eT.out,<- d,<- S.out];rfl
 have eQ:=kH jb;have oV:Hid (qM r (iw (aI r i (aF (aH s))) nx (ae.node 22 x a e kids) J)):=kH (by have:=dY.En r i (aF (aH s)) (ae.node 22 x a e kids) J;rw[S.out]at this;exact this);have fw:Hid ((iw (aI r i (aF (aH s))) nx (ae.node 22 x a e kids) J).next=r.next+1):=kH (by cases J<;>rfl);clear jb;have mW:=fun q=>(HV.out.drewN q).JD (ae.node 22 x a e kids) ⟨rfl,rfl,rfl,rfl,rfl⟩ eT.out tJ.out nx HU.out J (J.getD 0) (fun k j=>by rw[j];rfl)
 have Y:=fun q q'=>oH ((wc.drewN q).drewN q') E.f G.fields (aY.drewN (aY.drewN l.out.fl q) q') x
 have wR:=fun q=>oH (wc.drewN q) E.f G.fields (aY.drewN l.out.fl q) x
 rw[show bK G.fields x=J from d]at Y wR;obtain⟨ti, u⟩:=ag (J.getD 0);obtain⟨tb, v⟩:=ag J.isSome;rw[u,v]at Y wR mW;have qP:=kH mW;clear mW d u v;go_wp2_with fail
 go_quiet (fail)
 go_wp2_with fail
 go_quiet (fail)
 go_wp2_with fail
 refine(qP.out _).mono ?_;rintro e8 w8 ⟨rfl,V8,h8⟩;obtain⟨⟨q8,Bj⟩,⟨-,-,-,-,n8,I1⟩,-⟩:=h8.cells;have C:=h8.kids jo.out i 0 nk nk (by omega) eT.out (by show 0+nk<=nk;omega) T.out kP.out (m.out.kids (t:=(ae.node 22 x a e kids)) oV.out (Nat.add_le_add_left oV.out.next _) (rq.out _ fw.out)) L (fun g hg=>.inl hg);rw[eQ.out]at C;have HC:=kH C;clear C h8;go_wp2_with fail
 refine HC.out.mono ?_;rintro aa b ⟨rfl,-,zq,U⟩;have HE:Hid (∃V',aQ E G Q.1 V' b/\bY b E.base p Q.2 ms/\KX E (fun g=>g=E.vi\/ms.head? =some g) w b):=kH U.end_;clear U HC q8 n8;go_wp2_with fail
 go_end0
 exact⟨rfl,HE.out⟩
theorem SC(E:RC)(G:bf)(B:Nat)(hB:B<=E.base)(x:ByteArray)(a e:Int)(kids:List ae)(z:∀k∈kids,fO E G B k):fO E G B (.node 4 x a e kids):=by
 intro i s p ms r V w A c h hs O hk K F W U;obtain⟨nk, I⟩:=ag kids.length
 have n:lG s.isEmpty kids=true:=by
  rw[pq,if_neg (by decide),if_neg (by decide),if_neg (by decide)]at W;exact W
 have hq:aK G i (ae.node 4 x a e kids) s r=aj G i kids 0 kids.length s (aX (aI r i (aF (aH s))) 1 r.next (ae.node 4 x a e kids) (decide ((aV G.fields x).getD 0≠(r.next:Int)))):=by
  rw[dz,if_neg (by decide),if_pos rfl]
 rw[hq];obtain⟨Q, hQ⟩:=ag (aj G i kids 0 kids.length s (aX (aI r i (aF (aH s))) 1 r.next (ae.node 4 x a e kids) (decide ((aV G.fields x).getD 0≠(r.next:Int)))));rw[hQ];have HQ:=kH hQ;clear hq hQ;rw[show aO (ae.node 4 x a e kids) A c= .agg #[.int .i64 4,.string x,.int .i64 a,.int .i64 e,.slice A nk c] by rw[<- I];rfl];obtain⟨nx,P,y,yf,qK,ad,af,a1⟩:=Dt h U I;have H:=kH h;have HS:=kH hs;have HK:Hid (aD w B A 0 kids):=kH hk;have l:=kH U;have b:=kH I;have kP:=kH n;have jo:=kH z;have X:Hid (nk<=c):=kH (by rw[<- I];exact K);have dK:=kH F;clear h hs hk U I n z W K F;go_in
 go_upto_if 32 with fail
 generalize Z:World.alloc (World.alloc (World.setCell w _ _) _) _=W3
 obtain⟨D,iT,iJ,kE,iX,c5,p0,pR,qH⟩:=Dr H HS Z;clear Z qK a1;go_cut [] (fun wx=> ∃Vx,Hid (aQ E G (aI r i (aF (aH s))) Vx wx)/\Hid (KX E (fun g=>g=E.vi) W3 wx))
 case first=>
  cases i with
  | false=>
   go_wp2_with fail
   go_meet
   exact⟨V,by have:=D.out;rw[<- P.out]at this;exact kH this,kH (KX.refl _ _ _)⟩
  | true=>
   obtain⟨iE,m,u⟩:=Dq D iX iJ l P y;go_wp2_with fail
   go_region_held3 (fun w'=>w'.cell? ⟨E.rp,5,none⟩=some (.map (some E.vi))/\w'.cell? ⟨w.heap.size,0,none⟩=some (.pointer (some ⟨E.rp,0,none⟩))) (exact m.out _ (by assumption)) ((go_at_call 145;refine iE.out.mono ?_;rintro e5 w5 ⟨v5,rfl,jE,T⟩;obtain⟨a7,w6,v,lD,a8⟩:=Dp D T u v5))
   have HX:=kH (Dn D iT l P dK T jE lD);clear a7 a8 lD T jE u v;go_wp2_with fail
   go_meet
   exact HX.out
 obtain⟨Vx,gJ,ng⟩:=hcut;obtain⟨j,HD,tJ,HU,rq⟩:=Dm hB O gJ ng D iT iJ kE iX HK l P dK y;obtain⟨gi,gb,uy,Ag,ab⟩:=Dl gJ x;obtain⟨⟨q0,lp⟩,⟨n0,n1,n2,n3,n4,ln⟩,⟨c0,c1,c2,c8,lr⟩⟩:=j.out.cells;clear c5 p0 pR qH c8;obtain⟨S, J⟩:=ag ((bK G.fields x).getD 0)
 have jb:aj G i kids 0 nk s (aX (aI r i (aF (aH s))) 1 nx (ae.node 4 x a e kids) (S !=(nx:Int)))=Q:=by
  rw[<- HQ.out,b.out,<- P.out,Rw,<- J]
 have eQ:=kH jb;have oV:Hid (qM r (aX (aI r i (aF (aH s))) 1 nx (ae.node 4 x a e kids) (S !=(nx:Int)))):=kH (by have:=dY.declare r i (aF (aH s)) 1 (ae.node 4 x a e kids) (S !=(nx:Int));rw[P.out]at this;exact this);have fw:Hid ((aX (aI r i (aF (aH s))) 1 nx (ae.node 4 x a e kids) (S !=(nx:Int))).next=r.next+1):=kH (by have:=qV r i (aF (aH s)) 1 (ae.node 4 x a e kids) (S !=(nx:Int));rw[P.out]at this⊢;exact this)
 have fE:∀r' V' w',VW E G B ⟨kids,4,x,a,e,A,nk,c,w.heap.size+1,w.heap.size⟩ w (fun g=>g=E.vi\/ms.head? =some g) r' V' s p ms w'->(w'.cell? ⟨w.heap.size,0,none⟩=some (.pointer (some ⟨E.rp,0,none⟩))/\w'.cell? ⟨w.heap.size+1,0,none⟩=some (.int .i64 4)/\w'.cell? ⟨w.heap.size+1,1,none⟩=some (.string x)/\w'.cell? ⟨w.heap.size+1,2,none⟩=some (.int .i64 a)/\w'.cell? ⟨w.heap.size+1,3,none⟩=some (.int .i64 e)/\w'.cell? ⟨w.heap.size+1,4,none⟩=some (.slice A nk c)/\w'.cell? ⟨E.rp,1,none⟩=some (.map (some E.f))/\(Instr.lookup 70 (.map (some E.f)) (.string x) false).run Tryz.prog w'= .ok (.int .i64 S) w'):=fun r' V' w' W=>by
  obtain⟨⟨y0,-⟩,⟨z0,z1,z2,z3,z4,-⟩,⟨-,d1,-,-,-⟩⟩:=W.cells;exact⟨y0,z0,z1,z2,z3,z4,d1,by have:=KZ w' E.f G.fields W.R.fl x;rw[J]at this;exact this⟩
 have m:=kH fE;have L:=fun q al=>((j.out.drewN q).drew).Rp (ae.node 4 x a e kids) ⟨rfl,rfl,rfl,rfl,rfl⟩ b.out HD.out tJ.out 1 nx HU.out al
 have NM:=fun q=>(j.out.drewN q).drew
 have RU:=kH NM;have Ic:=kH L;have a6:=fun q=>KZ (wc.drewN q) E.f G.fields (aY.drewN gJ.out.fl q) x
 rw[J]at a6;clear fE L NM jb J;go_wp2_with fail
 go_quiet (fail)
 go_wp2_with fail
 go_region_held3 (fun w'=>(w'.cell? ⟨w.heap.size,0,none⟩=some (.pointer (some ⟨E.rp,0,none⟩))/\w'.cell? ⟨w.heap.size+1,0,none⟩=some (.int .i64 4)/\w'.cell? ⟨w.heap.size+1,1,none⟩=some (.string x)/\w'.cell? ⟨w.heap.size+1,2,none⟩=some (.int .i64 a)/\w'.cell? ⟨w.heap.size+1,3,none⟩=some (.int .i64 e)/\w'.cell? ⟨w.heap.size+1,4,none⟩=some (.slice A nk c)/\w'.cell? ⟨E.rp,1,none⟩=some (.map (some E.f))/\(Instr.lookup 70 (.map (some E.f)) (.string x) false).run Tryz.prog w'= .ok (.int .i64 S) w')) (first|exact m.out _ _ _ (RU.out _)|exact m.out _ _ _ (by assumption)) ((go_at_call 147;refine(Ic.out _ _).mono ?_;rintro e8 w8 ⟨rfl,V8,h8⟩))
 obtain⟨⟨q8,Bj⟩,⟨-,-,-,-,n8,I1⟩,-⟩:=h8.cells;have C:=h8.kids jo.out i 0 nk nk (by omega) b.out (by show 0+nk<=nk;omega) X.out kP.out (l.out.kids (t:=(ae.node 4 x a e kids)) oV.out (Nat.add_le_add_left oV.out.next _) (rq.out _ fw.out)) O (fun g hg=>.inl hg);rw[eQ.out]at C;have HC:=kH C;clear C h8;go_wp2_with fail
 refine HC.out.mono ?_;rintro aa d ⟨rfl,-,zq,Y⟩;have HE:Hid (∃V',aQ E G Q.1 V' d/\bY d E.base p Q.2 ms/\KX E (fun g=>g=E.vi\/ms.head? =some g) w d):=kH Y.end_;clear Y HC q8 n8;go_wp2_with fail
 go_end0
 exact⟨rfl,HE.out⟩
theorem SA(E:RC)(G:bf)(B:Nat)(hB:B<=E.base)(x:ByteArray)(a e:Int)(kids:List ae)(Z:∀k∈kids,fO E G B k):fO E G B (.node 7 x a e kids):=by
 intro i s p ms r V w A c h hs J hk O F u U;obtain⟨nk, I⟩:=ag kids.length
 have n:s.isEmpty=false/\lG s.isEmpty kids=true:=by
  rw[pq,if_neg (by decide),if_neg (by decide),if_pos (by decide)]at u;simp only[acb,Bool.not_eq_true']at u;exact⟨u.1.1.1,u.2⟩
 have hq:aK G i (ae.node 7 x a e kids) s r=aj G i kids 0 kids.length (aJ G (aI r i (aF (aH s))) 3 r.next (ae.node 7 x a e kids) s).2 (aJ G (aI r i (aF (aH s))) 3 r.next (ae.node 7 x a e kids) s).1:=by
  rw[dz,if_neg (by decide),if_neg (by decide),if_neg (by decide),if_pos (by decide)]
 rw[hq];obtain⟨Q, hQ⟩:=ag (aj G i kids 0 kids.length (aJ G (aI r i (aF (aH s))) 3 r.next (ae.node 7 x a e kids) s).2 (aJ G (aI r i (aF (aH s))) 3 r.next (ae.node 7 x a e kids) s).1);rw[hQ];have HQ:=kH hQ;clear hq hQ;rw[show aO (ae.node 7 x a e kids) A c= .agg #[.int .i64 7,.string x,.int .i64 a,.int .i64 e,.slice A nk c] by rw[<- I];rfl];obtain⟨nx,P,z,yf,qK,ab,ad,a1⟩:=Dt h U I;have H:=kH h;have HS:=kH hs;have HK:Hid (aD w B A 0 kids):=kH hk;have dR:=kH U;have eT:=kH I;have kP:=kH n;have jo:=kH Z;have W:Hid (nk<=c):=kH (by rw[<- I];exact O);have dK:=kH F;clear h hs hk U I n Z u O F;go_in
 go_upto_if 32 with fail
 generalize Y:World.alloc (World.alloc (World.setCell w _ _) _) _=W3
 obtain⟨D,iT,iJ,kE,iX,c5,p0,pR,qH⟩:=Dr H HS Y;clear Y qK a1;go_cut [] (fun wx=> ∃Vx,Hid (aQ E G (aI r i (aF (aH s))) Vx wx)/\Hid (KX E (fun g=>g=E.vi) W3 wx))
 case first=>
  cases i with
  | false=>
   go_wp2_with fail
   go_meet
   exact⟨V,by have:=D.out;rw[<- P.out]at this;exact kH this,kH (KX.refl _ _ _)⟩
  | true=>
   obtain⟨iE,bP,v⟩:=Dq D iX iJ dR P z;go_wp2_with fail
   go_region_held3 (fun w'=>w'.cell? ⟨E.rp,5,none⟩=some (.map (some E.vi))/\w'.cell? ⟨w.heap.size,0,none⟩=some (.pointer (some ⟨E.rp,0,none⟩))) (exact bP.out _ (by assumption)) ((go_at_call 145;refine iE.out.mono ?_;rintro e5 w5 ⟨v5,rfl,jE,T⟩;obtain⟨a6,w6,y,lD,a7⟩:=Dp D T v v5))
   have HX:=kH (Dn D iT dR P dK T jE lD);clear a6 a7 lD T jE v y;go_wp2_with fail
   go_meet
   exact HX.out
 obtain⟨Vx,gJ,ng⟩:=hcut;obtain⟨d,HD,tJ,HU,rq⟩:=Dm hB J gJ ng D iT iJ kE iX HK dR P dK z;obtain⟨gi,gb,uy,Ag,aa⟩:=Dl gJ x;obtain⟨⟨q0,lp⟩,⟨n0,n1,n2,n3,n4,ln⟩,⟨c0,c1,c2,c8,lr⟩⟩:=d.out.cells;clear c5 p0 pR qH c8
 obtain⟨l,j,L⟩:∃l j,s=l::j:=by
  have:=kP.out.1
  cases s with
  | nil=>cases this
  | cons l j=>exact⟨l,j,rfl⟩
 obtain⟨m,zX,f⟩:∃m zX,ms=m::zX:=by
  have h1:=d.out.S;rw[L]at h1;obtain⟨b,m,p',ms',h2,h3,-⟩:=h1;exact⟨m,ms',h3⟩
 have jb:aj G i kids 0 nk (aJ G (aI r i (aF (aH s))) 3 nx (ae.node 7 x a e kids) s).2 (aJ G (aI r i (aF (aH s))) 3 nx (ae.node 7 x a e kids) s).1=Q:=by
  rw[<- HQ.out,eT.out,<- P.out]
 have eQ:=kH jb;have oV:Hid (qM r (aJ G (aI r i (aF (aH s))) 3 nx (ae.node 7 x a e kids) s).1):=kH (by have:=dY.mR G r i (aF (aH s)) 3 (ae.node 7 x a e kids) s;rw[P.out]at this;exact this);have fw:Hid ((aJ G (aI r i (aF (aH s))) 3 nx (ae.node 7 x a e kids) s).1.next=r.next+1):=kH (by have:=nX G r i (aF (aH s)) 3 (ae.node 7 x a e kids) s;rw[P.out]at this⊢;exact this);have K:=fun q=>(d.out.drewN q).mR (ae.node 7 x a e kids) ⟨rfl,rfl,rfl,rfl,rfl⟩ eT.out HD.out tJ.out 3 nx HU.out l j m zX (by have:=(d.out.drewN q).S;rw[L,f]at this;exact this) (by rw[<- f];exact J) (.inl (.inr (by rw[f];rfl)))
 rw[<- L,<- f]at K;have Kj:=kH K;clear K jb L f;go_wp2_with fail
 go_quiet (fail)
 go_wp2_with fail
 refine(Kj.out _).mono ?_;rintro e8 w8 ⟨rfl,-,V8,h8⟩;obtain⟨⟨q8,Bj⟩,⟨-,-,-,-,n8,I1⟩,-⟩:=h8.cells;have C:=h8.kids jo.out i 0 nk nk (by omega) eT.out (by show 0+nk<=nk;omega) W.out (by rw[CQ (zI G _ 3 nx (ae.node 7 x a e kids) s)];exact kP.out.2) (dR.out.kids (t:=(ae.node 7 x a e kids)) oV.out (by have h1:=Kg G (aI r i (aF (aH s))) 3 nx (ae.node 7 x a e kids) s;rw[fw.out];omega) (rq.out _ fw.out)) J (fun g hg=>.inl hg);rw[eQ.out]at C;have HC:=kH C;clear C h8;go_wp2_with fail
 refine HC.out.mono ?_;rintro a8 eP ⟨rfl,-,zq,X⟩;have HE:Hid (∃V',aQ E G Q.1 V' eP/\bY eP E.base p Q.2 ms/\KX E (fun g=>g=E.vi\/ms.head? =some g) w eP):=kH X.end_;clear X HC q8 n8;go_wp2_with fail
 go_end0
 exact⟨rfl,HE.out⟩
end Go.Proofs.YtoepemlnlpamlaaGreat
