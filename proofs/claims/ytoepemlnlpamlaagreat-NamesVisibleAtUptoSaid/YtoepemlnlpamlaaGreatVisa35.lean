/- The law NamesVisibleAt holds where what it reads is of bulk at most 1048576: it returns true, and its arguments read as before. Part 35: Wlk4 Rw1. -/
import Derived.Test.YtoepemlnlpamlaaGreatVisa33
import Derived.Test.YtoepemlnlpamlaaGreatVisa34
set_option maxRecDepth 100000
set_option maxHeartbeats 4000000
namespace Go.Proofs.YtoepemlnlpamlaaGreat
def pD(f:Bool)(x:ByteArray):Dc->Bool:=fun d=>(decide (d.kind=1)==f)&&decide (d.name=x)
theorem Dv{A:Type}(p:A->Bool):∀(l:List A),((l.findIdx? p).bind fun k=>l[k]?)=l.find? p
 | []=>rfl
 | a::l=>by
  rw[List.findIdx?_cons,List.find?_cons]
  cases B:p a with
  | true=>rfl
  | false=>
   rw[if_neg (by simp),<- Dv p l];cases l.findIdx? p<;>rfl
theorem KY(l:List Dc)(f:Bool)(x:ByteArray):nN l f x=l.find? (pD f x):=Dv _ l
theorem MV(l:List Dc)(f:Bool)(x:ByteArray):(pI l f x).isSome=(l.find? (pD f x)).isSome:=by
 unfold pI;rw[<- Dv (pD f x) l];show(l.findIdx? (pD f x)).isSome=_
 cases h:l.findIdx? (pD f x) with
 | none=>rfl
 | some j=>
  have:=List.findIdx?_eq_some_iff_getElem.1 h;obtain⟨A,-⟩:=this;show true=(l[j]?).isSome;rw[aaf A];rfl
theorem find_addD(A:List Dc)(d:Dc)(f:Bool)(x:ByteArray):(yP A d).find? (pD f x)=(A.find? (pD f x)).or (if pD f x d then some d else none):=by
 unfold yP;rw[MV];by_cases D:(A.find? (pD (decide (d.kind=1)) d.name)).isSome=true
 ·rw[if_pos D]
  by_cases B:pD f x d=true
  ·rw[if_pos B]
   have C:pD f x=pD (decide (d.kind=1)) d.name:=by
    unfold pD at B;rw[aad,beq_iff_eq,decide_eq_true_eq]at B;rw[<- B.1,<- B.2]
   rw[C];obtain⟨z,E⟩:=Option.isSome_iff_exists.1 D;rw[E];rfl
  ·rw[if_neg B,Option.or_none]
 ·rw[if_neg D,List.find?_append]
  congr 1
  rw[List.find?_cons];cases pD f x d<;>rfl
def jP:List ae->Nat->Int->List Dc
 | [],_,_=>[]
 | t::ts,i,o=>(if t.kind=3 then [⟨0,t.text,i,-1⟩] else if t.kind=5 then [⟨2,t.text,i,-1⟩] else if t.kind=4 then [⟨1,t.text,i,o⟩] else [])++jP ts (i+1) (if t.kind=3 then(i:Int) else o)
def wE:List ae->Nat->Int->Int
 | [],_,o=>o
 | t::ts,i,o=>wE ts (i+1) (if t.kind=3 then(i:Int) else o)
theorem KV:∀(ts:List ae) (i:Nat) (o:Int) (A:List Dc),iy ts i o A=(jP ts i o).foldl yP A
 | [],_,_,_=>rfl
 | t::ts,i,o,A=>by
  rw[iy,jP,KV ts,List.foldl_append];congr 1
  by_cases B:t.kind=3
  ·rw[if_pos B,if_pos B];rfl
  rw[if_neg B,if_neg B];by_cases D:t.kind=5
  ·rw[if_pos D,if_pos D];rfl
  rw[if_neg D,if_neg D];by_cases C:t.kind=4
  ·rw[if_pos C,if_pos C];rfl
  rw[if_neg C,if_neg C];rfl
theorem G5(f:Bool)(x:ByteArray):∀(L A:List Dc),(L.foldl yP A).find? (pD f x)=(A.find? (pD f x)).or (L.find? (pD f x))
 | [],A=>by simp
 | d::L,A=>by
  rw[List.foldl_cons,G5 f x L,find_addD,List.find?_cons,Option.or_assoc];congr 1
  cases pD f x d<;>rfl
theorem yf:∀(a b:List ae) (i:Nat) (o:Int),jP (a++b) i o=jP a i o++jP b (i+a.length) (wE a i o)
 | [],b,i,o=>rfl
 | t::a,b,i,o=>by
  rw[List.cons_append,jP,yf a b,jP,List.append_assoc,wE,aao,show i+1+a.length=i+(a.length+1) by omega]
theorem Fa:∀{ts:List ae}{i:Nat}{o:Int},(∀t∈ts,t.kind≠3/\t.kind≠4/\t.kind≠5)->jP ts i o=[]/\wE ts i o=o
 | [],_,_,_=>⟨rfl,rfl⟩
 | t::ts,i,o,h=>by
  obtain⟨A,D,E⟩:=h t (by simp);obtain⟨B,C⟩:=Fa (ts:=ts) (i:=i+1) (o:=o) fun c F=>h c (by simp[F])
  rw[jP,wE,if_neg A,if_neg E,if_neg D,if_neg A,B,C];exact⟨rfl,rfl⟩
mutual
theorem ZF:∀(t:ae),Ei t=true->∀y∈bT t,y.kind≠3/\y.kind≠4/\y.kind≠5
 | .node k x a e kids,h,y,A=>by
  obtain⟨B,C⟩:=Cz h;rw[bT,List.mem_cons]at A;rcases A with rfl|A
  ·exact⟨B.2.1,B.2.2.1,B.2.2.2⟩
  ·exact Ar kids C y A
theorem Ar:∀(ts:List ae),mH ts=true->∀y∈dz ts,y.kind≠3/\y.kind≠4/\y.kind≠5
 | [],_,y,A=>by cases A
 | t::ts,h,y,A=>by
  rw[mH,aad]at h;rw[dz,List.mem_append]at A;rcases A with A|A
  ·exact ZF t h.1 y A
  ·exact Ar ts h.2 y A
end
theorem Hg(o:Int):∀(A:List ae) (n:Nat),(∀f∈A,f.kind=4/\mH f.kids=true)->jP (dz A) n o=(fM A n).map (fun y=>⟨1,y.1.text,y.2,o⟩)/\wE (dz A) n o=o
 | [],n,_=>⟨rfl,rfl⟩
 | f::A,n,h=>by
  obtain⟨C,E⟩:=h f (by simp);have B:=Fa (i:=n+1) (o:=o) (Ar f.kids E)
  have e:jP (bT f) n o=[⟨1,f.text,n,o⟩]/\wE (bT f) n o=o:=by
   rw[wQ,jP,wE,if_neg (by omega),if_neg (by omega),if_pos C,if_neg (by omega),B.1,B.2];exact⟨rfl,rfl⟩
  obtain⟨G,H⟩:=Hg o A (n+ai f) fun c D=>h c (by simp[D])
  have F:∀(a b:List ae) (i:Nat) (o:Int),wE (a++b) i o=wE b (i+a.length) (wE a i o):=by
   intro a
   induction a with
   | nil=>intro b i o;rfl
   | cons t a ih=>intro b i o;rw[List.cons_append,wE,ih,wE,aao,show i+1+a.length=i+(a.length+1) by omega]
  rw[dz,yf,F,e.1,e.2,iY,G,H,fM];exact⟨rfl,rfl⟩
def zB(y:ae×Nat):Dc:=⟨if y.1.kind=3 then 0 else 2,y.1.text,y.2,-1⟩
theorem Pj(x:ByteArray):∀(ks:List ae) (n:Nat) (o:Int),(∀k∈ks,uP k=true) ->
 (jP (dz ks) n o).find? (pD false x)=((fM ks n).find? fun y=>decide (x=y.1.text)).map zB /\
 ((jP (dz ks) n o).find? (pD true x)).map (fun d=>(d.kind,d.node))=((qw (xB ks n)).find? fun y=>decide (x=y.1)).map fun y=>((1:Int),(y.2:Int))
 | [],n,o,_=>⟨rfl,rfl⟩
 | k::ks,n,o,h=>by
  have S:=h k (by simp);rw[dz,yf,iY,List.find?_append,List.find?_append,fM,xB];obtain⟨T,O⟩:=Pj x ks (n+ai k) (wE (bT k) n o) fun c D=>h c (by simp[D])
  rw[T];obtain⟨Y,y,a,e,A⟩:=k;have F:=S;rw[uP,Bool.or_eq_true,aad,aad,aad,decide_eq_true_eq,decide_eq_true_eq,decide_eq_true_eq]at F;rcases F with⟨rfl,I⟩| ⟨⟨rfl,-⟩,E⟩
  ·have M:∀f∈A,f.kind=4/\mH f.kids=true:=fun f J=>by
    have N:=List.all_eq_true.1 I f J;rw[aad,decide_eq_true_eq]at N;exact N
   have D:jP (bT (.node 3 y a e A)) n o=⟨0,y,n,-1⟩::(fM A (n+1)).map (fun z=>⟨1,z.1.text,z.2,(n:Int)⟩):=by
    rw[bT,jP,if_pos (show(ae.node 3 y a e A).kind=3 from rfl),if_pos (show(ae.node 3 y a e A).kind=3 from rfl),(Hg (n:Int) A (n+1) M).1];rfl
   rw[D];constructor
   ·rw[List.find?_cons,List.find?_cons]
    have C:pD false x ⟨0,y,n,-1⟩=decide (x=y):=by
     show(true&&decide (y=x))=_;rw[Bool.true_and];exact decide_eq_decide.2 ⟨Eq.symm,Eq.symm⟩
    have K:((fM A (n+1)).map (fun z=>(⟨1,z.1.text,z.2,(n:Int)⟩:Dc))).find? (pD false x)=none:=by
     rw[List.find?_eq_none];intro d G;obtain⟨z,-,rfl⟩:=List.mem_map.1 G;unfold pD;simp
    rw[C,K];show(match decide (x=y) with|true=>some _|false=>none).or _=((match decide (x=y) with|true=>some _|false=>_):Option (ae×Nat)).map zB;cases decide (x=y)<;>rfl
   ·have B:(fM A (n+1)).filter (fun z=>decide (z.1.kind=4))=fM A (n+1):=by
     rw[List.filter_eq_self];intro z L;have:z.1∈(fM A (n+1)).map (·.1):=List.mem_map.2 ⟨z,L,rfl⟩;rw[BA]at this;exact decide_eq_true (M z.1 this).1
    show((((_::_:List Dc)).find? (pD true x)).or ((jP (dz ks) (n+ai (.node 3 y a e A)) _).find? (pD true x))).map _=_;rw[show(ae.node 3 y a e A).kids=A from rfl,B]
    have C:pD true x ⟨0,y,n,-1⟩=false:=by
     unfold pD;simp
    have P:(((⟨0,y,n,-1⟩:Dc)::(fM A (n+1)).map (fun z=>(⟨1,z.1.text,z.2,(n:Int)⟩:Dc))).find? (pD true x)).map (fun d=>(d.kind,d.node))=((qw (fM A (n+1))).find? fun y=>decide (x=y.1)).map fun y=>((1:Int),(y.2:Int)):=by
     rw[List.find?_cons,C];unfold qw;show(((fM A (n+1)).map (fun z=>(⟨1,z.1.text,z.2,(n:Int)⟩:Dc))).find? (pD true x)).map (fun d=>(d.kind,d.node))=_;rw[List.find?_map,List.find?_map,Option.map_map,Option.map_map]
     have I:(pD true x ∘ fun z:ae×Nat=>(⟨1,z.1.text,z.2,(n:Int)⟩:Dc))=((fun y:ByteArray×Nat=>decide (x=y.1)) ∘ fun y:ae×Nat=>(y.1.text,y.2)):=by
      funext z
      show(true&&decide (z.1.text=x))=decide (x=z.1.text);rw[Bool.true_and];exact decide_eq_decide.2 ⟨Eq.symm,Eq.symm⟩
     rw[I];rfl
    have H:qw (fM A (n+1)++xB ks (n+ai (.node 3 y a e A)))=qw (fM A (n+1))++qw (xB ks (n+ai (.node 3 y a e A))):=by
     unfold qw;rw[List.map_append]
    rw[H,List.find?_append,Option.map_or,Option.map_or,P,O]
  ·have D:jP (bT (.node 5 y a e A)) n o=[⟨2,y,n,-1⟩]:=by
    have R:=Fa (i:=n+1) (o:=o) (Ar A E);rw[bT,jP,if_neg (show ¬(ae.node 5 y a e A).kind=3 from by show ¬(5:Int)=3;decide),if_pos (show(ae.node 5 y a e A).kind=5 from rfl),if_neg (show ¬(ae.node 5 y a e A).kind=3 from by show ¬(5:Int)=3;decide),R.1];rfl
   rw[D];constructor
   ·rw[List.find?_cons,List.find?_cons]
    have C:pD false x ⟨2,y,n,-1⟩=decide (x=y):=by
     show(true&&decide (y=x))=_;rw[Bool.true_and];exact decide_eq_decide.2 ⟨Eq.symm,Eq.symm⟩
    rw[C];show(match decide (x=y) with|true=>some _|false=>none).or _=((match decide (x=y) with|true=>some _|false=>_):Option (ae×Nat)).map zB;cases decide (x=y)<;>rfl
   ·have B:(fM A (n+1)).filter (fun z=>decide (z.1.kind=4))=[]:=by
     rw[List.filter_eq_nil_iff];intro z L;have:z.1∈(fM A (n+1)).map (·.1):=List.mem_map.2 ⟨z,L,rfl⟩;rw[BA]at this;have Q:=TE E z.1 this;obtain⟨V,u⟩:=z;obtain⟨Z,v,W,X,U⟩:=V;have:=(Cz Q).1.2.2.1;simp only[decide_eq_true_eq];exact this
    rw[show(ae.node 5 y a e A).kids=A from rfl,B,List.nil_append]
    have C:([⟨2,y,(n:Int),-1⟩]:List Dc).find? (pD true x)=none:=by
     rw[List.find?_eq_none];intro d G;rw[List.mem_singleton]at G;subst G;unfold pD;simp
    rw[C];exact O
theorem E5(x:ByteArray)(L:List (ae×Nat)):((qw L).find? fun y=>decide (x=y.1)).map (fun y=>(y.2:Int))=(L.find? fun y=>decide (x=y.1.text)).map fun y=>(y.2:Int):=by
 unfold qw;rw[List.find?_map,Option.map_map];rfl
def GnK(ks:List ae)(u:Int):Prop:=∃x,aU (tN ks).globals x=some u\/aU (tN ks).fields x=some u
theorem grel_top{x0:ByteArray}{a e:Int}{ks:List ae}(Q:∀k∈ks,uP k=true):yS (tN ks) (iy (bT (.node 2 x0 a e ks)) 0 (-1) []) (GnK ks):=by
 have N:jP (bT (.node 2 x0 a e ks)) 0 (-1)=jP (dz ks) 1 (-1):=by
  rw[bT,jP];rfl
 have H:∀f x,nN (iy (bT (.node 2 x0 a e ks)) 0 (-1) []) f x=(jP (dz ks) 1 (-1)).find? (pD f x):=fun f x=>by
  rw[KY,KV,G5,N];rfl
 have P:=fun x=>Pj x ks 1 (-1) Q
 have F:∀x,nN (iy (bT (.node 2 x0 a e ks)) 0 (-1) []) false x=((fM ks 1).find? fun y=>decide (x=y.1.text)).map zB:=fun x=>by rw[H];exact(P x).1
 have J:∀x,(nN (iy (bT (.node 2 x0 a e ks)) 0 (-1) []) true x).map (fun d=>(d.kind,d.node))=((qw (xB ks 1)).find? fun y=>decide (x=y.1)).map fun y=>((1:Int),(y.2:Int)):=fun x=>by rw[H];exact(P x).2
 have D:∀x,aU (tN ks).globals x=((fM ks 1).find? fun y=>decide (x=y.1.text)).map fun y=>(y.2:Int):=fun x=>by rw[Vz,E5]
 have E:∀y∈fM ks 1,y.1.kind=3\/y.1.kind=5:=fun y A=>by
  have:y.1∈(fM ks 1).map (·.1):=List.mem_map.2 ⟨y,A,rfl⟩;rw[BA]at this;have R:=Q _ this;obtain⟨U,V⟩:=y;obtain⟨k,x,a,e,S⟩:=U;rw[uP,Bool.or_eq_true,aad,aad,aad,decide_eq_true_eq,decide_eq_true_eq,decide_eq_true_eq]at R;exact R.imp (fun h=>h.1) (fun h=>h.1.1)
 have I:∀x (p q:Int) (K:Int),decide (p=1)=false->(∀y∈fM ks 1,(((zB y).kind=p\/(zB y).kind=q)↔y.1.kind=K))->gz (iy (bT (.node 2 x0 a e ks)) 0 (-1) []) p q x=(aU (tN ks).globals x).filter fun j=>decide (jM (tN ks) j=K):=fun x p q K T O=>by
  unfold gz;rw[T,F,D]
  cases C:(fM ks 1).find? fun y=>decide (x=y.1.text) with
  | none=>rfl
  | some y=>
   have A:=List.mem_of_find?_eq_some C;show(if (zB y).kind=p\/(zB y).kind=q then some (zB y).node else none)=(some (y.2:Int)).filter _;rw[Option.filter_some,glob_kind ks y A];by_cases L:(zB y).kind=p\/(zB y).kind=q
   ·rw[if_pos L,if_pos (decide_eq_true ((O y A).1 L))]
    rfl
   ·rw[if_neg L,if_neg (by simpa using fun h=>L ((O y A).2 h))]
 have G:∀y∈fM ks 1,((zB y).kind=0↔y.1.kind=3)/\((zB y).kind=2↔y.1.kind=5):=fun y A=>by
  unfold zB;rcases E y A with h|h
  ·rw[if_pos h,h]
   show((0:Int)=0↔(3:Int)=3)/\((0:Int)=2↔(3:Int)=5);decide
  ·rw[if_neg (by omega),h]
   show((2:Int)=0↔(5:Int)=3)/\((2:Int)=2↔(5:Int)=5);decide
 constructor
 ·intro x
  unfold gz;rw[show decide ((0:Int)=1)=false from rfl,F,D]
  cases C:(fM ks 1).find? fun y=>decide (x=y.1.text) with
  | none=>rfl
  | some y=>
   have A:=List.mem_of_find?_eq_some C;show(if (zB y).kind=0\/(zB y).kind=2 then some (zB y).node else none)=some (y.2:Int);have:=G y A;rw[if_pos ((E y A).imp this.1.2 this.2.2)];rfl
 ·intro x
  unfold gz;rw[show decide ((1:Int)=1)=true from rfl,IK];have h:=J x
  cases C:(qw (xB ks 1)).find? fun y=>decide (x=y.1) with
  | none=>
   rw[C]at h
   cases M:nN (iy (bT (.node 2 x0 a e ks)) 0 (-1) []) true x with
   | none=>rfl
   | some d=>rw[M]at h;cases h
  | some y=>
   rw[C]at h
   cases M:nN (iy (bT (.node 2 x0 a e ks)) 0 (-1) []) true x with
   | none=>rw[M]at h;cases h
   | some d=>
    rw[M]at h;simp only[Option.map_some,aag,Prod.mk.injEq]at h;show(if d.kind=1\/d.kind=1 then some d.node else none)=some (y.2:Int);rw[if_pos (.inl h.1),h.2]
 ·exact fun x=>I x 2 2 5 rfl fun y A=>by rw[(G y A).2];exact or_self_iff
 ·exact fun x=>I x 0 0 3 rfl fun y A=>by rw[(G y A).1];exact or_self_iff
 ·intro x
  rw[MV,<- KY,F,D];cases (fM ks 1).find? fun y=>decide (x=y.1.text)<;>rfl
 ·intro x
  rw[F,D,Option.map_map];rfl
 ·intro x
  rw[IK];have h:=congrArg (fun o=>Option.map (fun p:Int×Int=>p.2) o) (J x);simp only[Option.map_map]at h;exact h
 ·intro x n B
  refine⟨?_,x,.inl B⟩;rw[D]at B
  cases C:(fM ks 1).find? fun y=>decide (x=y.1.text) with
  | none=>rw[C]at B;cases B
  | some y=>rw[C]at B;simp only[Option.map_some,aag]at B;omega
 ·intro x n B
  refine⟨?_,x,.inr B⟩;rw[IK]at B
  cases C:(qw (xB ks 1)).find? fun y=>decide (x=y.1) with
  | none=>rw[C]at B;cases B
  | some y=>rw[C]at B;simp only[Option.map_some,aag]at B;omega
theorem Dy{c:Int}{lay:lH}{r:RS}{i:Bool}{v:List Int}{t:ae}(h:aU lay t.text=some (r.next:Int)):∃d∈(aW (aG r i v) c r.next t (decide ((aU lay t.text).getD 0≠(r.next:Int)))).ds,d.node=(r.next:Int):=by
 have A:decide ((aU lay t.text).getD 0≠(r.next:Int))=false:=by rw[h];simp
 rw[A];exact⟨_,by show _∈r.ds++[_];exact List.mem_append_right _ (List.mem_singleton.2 rfl),rfl⟩
theorem yN{a b:RS}(h:qB a b){u:Int}(C:∃d∈a.ds,d.node=u):∃d∈b.ds,d.node=u:=by
 obtain⟨l,e⟩:=h.grow;obtain⟨d,A,B⟩:=C;exact⟨d,by rw[e];exact List.mem_append_left _ A,B⟩
theorem OG(G:bC):∀(ts:List ae) (i:Bool) (s:aS) (r:RS),mH ts=true->(ah G i ts 0 ts.length s r).1.next=r.next+aD ts
 | [],_,_,r,_=>by rw[ah];simp[aD]
 | t::ts,i,s,r,h=>by
  rw[mH,aad]at h;rw[aao,ah];try simp only
  rw[OG G ts i _ _ h.2,Ku G t i s r h.1,aD];omega
theorem MZ(G:bC):∀(B:List ae),(∀f∈B,f.kind=4/\mH f.kids=true)->∀(s:aS) (r:RS),∀y∈fM B r.next,aU G.fields y.1.text=some (y.2:Int)->∃d∈(ah G false B 0 B.length s r).1.ds,d.node=(y.2:Int)
 | [],_,s,r,y,C,_=>by cases C
 | f::B,h,s,r,y,C,hl=>by
  rw[aao,ah];try simp only
  have E:=fF G B false 0 B.length (aM G false f s r).2 (aM G false f s r).1;obtain⟨H,J⟩:=h f (by simp);obtain⟨k,x,a,e,A⟩:=f;have D:k=4:=H;subst D
  have F:aM G false (.node 4 x a e A) s r=ah G false A 0 A.length s (aW (aG r false (ak (ay s))) 1 r.next (.node 4 x a e A) (decide ((aU G.fields x).getD 0≠(r.next:Int)))):=by
   rw[dx,if_neg (by decide),if_pos rfl]
  have K:(aM G false (.node 4 x a e A) s r).1.next=r.next+ai (.node 4 x a e A):=by
   rw[F,OG G A false s _ J,ql];show r.next+1+aD A=r.next+(1+aD A);omega
  rw[fM,List.mem_cons]at C;rcases C with rfl|C
  ·refine yN E ?_
   rw[F];exact yN (fF _ _ _ _ _ _ _) (Dy (c:=1) (lay:=G.fields) (t:=.node 4 x a e A) hl)
  ·rw[<- K]at C
   exact MZ G B (fun c I=>h c (by simp[I])) _ _ y C hl
theorem UT(G:bC):∀(ks:List ae),(∀k∈ks,uP k=true)->∀(r:RS),
 (∀y∈fM ks r.next,aU G.globals y.1.text=some (y.2:Int)->∃d∈(ah G false ks 0 ks.length [] r).1.ds,d.node=(y.2:Int)) /\
 (∀y∈xB ks r.next,aU G.fields y.1.text=some (y.2:Int)->∃d∈(ah G false ks 0 ks.length [] r).1.ds,d.node=(y.2:Int))
 | [],_,r=>⟨fun y B=>(by cases B),fun y B=>by cases B⟩
 | k::ks,h,r=>by
  rw[aao,ah];try simp only
  have M:=h k (by simp);have L:(aM G false k [] r).2=[]:=List.length_eq_zero_iff.1 (by rw[wN];rfl);rw[L];have F:=fF G ks false 0 ks.length [] (aM G false k [] r).1;have K:(aM G false k [] r).1.next=r.next+ai k:=(UR (yo.refl G) k M [] r rfl).2.2.1;obtain⟨Q,R⟩:=UT G ks (fun c U=>h c (by simp[U])) (aM G false k [] r).1;rw[K]at Q R;rw[fM,xB];refine⟨fun y B D=>?_,fun y B D=>?_⟩
  ·rcases List.mem_cons.1 B with rfl|B
   ·refine yN F ?_
    obtain⟨W,x,a,e,A⟩:=k;have C:=M;rw[uP,Bool.or_eq_true,aad,aad,aad,decide_eq_true_eq,decide_eq_true_eq,decide_eq_true_eq]at C;rcases C with⟨rfl,P⟩| ⟨⟨rfl,-⟩,E⟩
    ·rw[dx,if_pos rfl]
     exact yN (fF _ _ _ _ _ _ _) (Dy (c:=0) (lay:=G.globals) (t:=.node 3 x a e A) D)
    ·rw[dx,if_neg (by decide),if_neg (by decide),if_pos rfl]
     exact yN ((fF G A false 0 2 [[]] _).trans (fF _ _ _ _ _ _ _)) (Dy (c:=2) (lay:=G.globals) (t:=.node 5 x a e A) D)
   ·exact Q y B D
  ·rcases List.mem_append.1 B with B|B
   ·refine yN F ?_
    obtain⟨W,x,a,e,A⟩:=k;have C:=M;rw[uP,Bool.or_eq_true,aad,aad,aad,decide_eq_true_eq,decide_eq_true_eq,decide_eq_true_eq]at C;rcases C with⟨rfl,P⟩| ⟨⟨rfl,-⟩,E⟩
    ·have S:∀f∈A,f.kind=4/\mH f.kids=true:=fun f J=>by
      have O:=List.all_eq_true.1 P f J;rw[aad,decide_eq_true_eq]at O;exact O
     rw[dx,if_pos rfl];refine MZ G A S [] _ y ?_ D
     have I:({ aW (aG r false (ak (ay []))) 0 r.next (.node 3 x a e A) (decide ((aU G.globals x).getD 0≠(r.next:Int))) with owner:=(r.next:Int) }:RS).next=r.next+1:=by
      show(aW _ _ _ _ _).next=_;rw[ql];rfl
     rw[I];exact(List.mem_filter.1 B).1
    ·exfalso
     obtain⟨N,H⟩:=List.mem_filter.1 B;have:y.1∈(fM A (r.next+1)).map (·.1):=List.mem_map.2 ⟨y,N,rfl⟩;rw[BA]at this;have V:=TE E y.1 this;obtain⟨Y,q⟩:=y;obtain⟨v,u,Z,z,X⟩:=Y;have T:=(Cz V).1.2.2.1;simp only[decide_eq_true_eq]at H;exact T H
   ·exact R y B D
def jX(ds:List Dc)(u:Int):Int:=if u< -1 then(match ds.findIdx? fun d=>decide (d.node= -2 - u) with|some j=>(j:Int)|none=> -1) else u
theorem conv_rel{ds:List Dc}(A:(ds.map (·.node)).Nodup)(F:∀d∈ds,0<=d.node){Gn:Int->Prop}(K:∀u,Gn u->∃d∈ds,d.node=u){u v:Int}(h:Dz ds Gn u v):jX ds v=oG ds u:=by
 rcases h with⟨rfl,rfl⟩| ⟨j,d,B,rfl,rfl⟩| ⟨N,rfl,M⟩
 ·rw[WA A F]
  rfl
 ·rw[Bi A B]
  unfold jX;rw[if_neg (by omega)]
 ·obtain⟨d,B,L⟩:=K u M
  obtain⟨j,D⟩:=List.mem_iff_getElem?.1 B;rw[<- L,Bi A D];unfold jX;rw[if_pos (by have:=F d B;omega)]
  have C:(ds.findIdx? fun H=>decide (H.node= -2 - (-2 - d.node)))=some j:=by
   rw[List.findIdx?_eq_some_iff_getElem];obtain⟨E,G⟩:=aah.1 D;refine⟨E,by rw[G];simp;omega,fun i P=>?_⟩;simp only[decide_eq_true_eq];intro O;have I:=Bi A (aaf (show i<ds.length by omega));have J:=Bi A D;rw[show ds[i].node=d.node by omega,J]at I;omega
  rw[C]
theorem sort_at{ds:List Dc}{s:aS}{sq:List Nat}(h:pQ ds s sq)(N:ds.Pairwise fun a b=>a.node<b.node)(M:(ds.map (·.node)).Nodup):(ak (ay s)).map (oG ds)=sq.map fun(i:Nat)=>(i:Int):=by
 have B:(ay s).Perm (sq.map fun i=>(rD ds i).2):=by
  rw[allS_flat];have:=h.perm.map (·.2);rw[List.map_map]at this;exact this
 have A:(sq.map fun i=>(rD ds i).2).Pairwise (· < ·):=by
  refine List.pairwise_map.2 (h.inc.imp_of_mem fun {a b} J K F=>?_);have D:=h.lt a J;have G:=h.lt b K;have C:=List.pairwise_iff_getElem.1 N a b D G F;unfold rD;rw[aaf D,aaf G];exact C
 have O:ak (ay s)=sq.map fun i=>(rD ds i).2:=by
  unfold ak;have I:∀a b:Int,(decide (a<=b) || decide (b<=a))=true:=fun a b=>by simp;omega
  have P:∀a b c:Int,decide (a<=b)=true->decide (b<=c)=true->decide (a<=c)=true:=fun a b c=>by simp;omega
  refine List.Perm.eq_of_pairwise (le:=fun x y=>x<=y) ?_ ?_ ?_ ?_
  ·exact fun a b _ _ F D=>by omega
  ·exact(List.pairwise_mergeSort P I _).imp (by simp)
  ·exact A.imp fun h=>by omega
  ·exact(List.mergeSort_perm _ _).trans B
 rw[O,List.map_map];refine List.map_congr_left fun i L=>?_
 have E:=h.lt i L;show oG ds (rD ds i).2=_;have H:=aaf E;unfold rD;rw[H];exact Bi M H
theorem walk_all{t:ae}(J:jC t=true)(mk:Int):
 ∃W:RW,(bR (iy (bT t) 0 (-1) []) mk t (-1) [] ⟨[],List.replicate (ai t) (-1),[],0,[]⟩).1=W/\W.ds=(dZ t).ds/\W.list=(dZ t).aY.map (·.2)/\W.uses.map (jX W.ds)=(dZ t).uses /\
  ∀m:Nat,mk=(m:Int)->m<ai t->bE (dZ t).aR (m:Int)=if kP t.kids 1 m=true then some (W.at_.map fun(i:Nat)=>(i:Int)) else none:=by
 obtain⟨h2,g⟩:=LK J;unfold jC at J;rw[aad]at J;have Y:=jG J.2;obtain⟨k,x,a,e,ks⟩:=t;have j:k=2:=h2;subst j;have I:=PU x a e ks;obtain⟨F,D⟩:∃F:RS,(⟨[],List.replicate (ai (.node 2 x a e ks)) (-1),[],[],1,0⟩:RS)=F:=⟨_,rfl⟩
 have E:F.next=1:=by rw[<- D]
 have X:F.ds=[]:=by rw[<- D]
 have zo:F.aR=[]:=by rw[<- D]
 rw[D]at I;have hG:=grel_top (x0:=x) (a:=a) (e:=e) (ks:=ks) g;obtain⟨GW,Q⟩:∃GW,iy (bT (.node 2 x a e ks)) 0 (-1) []=GW:=⟨_,rfl⟩
 rw[Q]at hG⊢;obtain⟨O,N⟩:∃O:RW,(⟨[],List.replicate (ai (.node 2 x a e ks)) (-1),[],0,[]⟩:RW)=O:=⟨_,rfl⟩
 have lD:mI (GnK ks) F (dI mk O []):=by
  refine sH ?_ mk [];rw[<- D,<- N];refine⟨rfl,rfl,rfl,fun i u v P J=>?_⟩;have h1:=List.getElem?_replicate (n:=ai (.node 2 x a e ks)) (a:=(-1:Int)) (i:=i);rw[h1]at P J;split at P
  ·rename_i L
   rw[if_pos L]at J;cases P
   cases J
   exact .inl ⟨rfl,rfl⟩
  ·cases P
 have hw:(bR GW mk (.node 2 x a e ks) (-1) [] O).1=(dW GW mk 2 [] ks 0 (-1) [] (dI mk O [])).1:=by
  rw[bR];rfl
 obtain⟨G,T2,r⟩:=UQ (mk:=mk) hG [] ks (fun k j=>⟨Y k j,g k j⟩) 0 F (dI mk O []) (-1) (by omega) (by rw[qM,<- N,E]) lD;rw[N,hw];have A:=UT (tN ks) ks g F;obtain⟨R,hR⟩:∃R,ah (tN ks) false ks 0 ks.length [] F=R:=⟨_,rfl⟩
 have f:qB F R.1:=by rw[<- hR];exact fF _ _ _ _ _ _ _
 rw[hR]at I G T2 r A;obtain⟨W,hW⟩:∃W,(dW GW mk 2 [] ks 0 (-1) [] (dI mk O [])).1=W:=⟨_,rfl⟩
 rw[hW]at G r⊢
 have B:dZ (.node 2 x a e ks)= { R.1 with uses:=R.1.uses.map (oG R.1.ds),aR:=R.1.aR.map fun x=>(x.1,x.2.map (oG R.1.ds)) }:=by
  unfold dZ;rw[I]
 obtain⟨T,V⟩:=Zb f X
 have hpw:R.1.ds.Pairwise fun a b=>a.node<b.node:=by
  obtain⟨l,e1,h1,-⟩:=f.ds;rw[e1,X];exact h1
 have S:∀u,GnK ks u->∃d∈R.1.ds,d.node=u:=fun u P=>by
  obtain⟨y,h|h⟩:=P
  ·have C:=h
   rw[Vz,E5]at C
   cases K:(fM ks 1).find? fun z=>decide (y=z.1.text) with
   | none=>rw[K]at C;cases C
   | some z=>
    rw[K]at C;simp only[Option.map_some,aag]at C;have hz:=List.mem_of_find?_eq_some K;have U:=List.find?_some K;simp only[decide_eq_true_eq]at U;rw[E]at A;rw[<- C];exact A.1 z hz (by rw[<- U,h,C])
  ·have C:=h
   rw[IK,E5]at C
   cases K:(xB ks 1).find? fun z=>decide (y=z.1.text) with
   | none=>rw[K]at C;cases C
   | some z=>
    rw[K]at C;simp only[Option.map_some,aag]at C;have hz:=List.mem_of_find?_eq_some K;have U:=List.find?_some K;simp only[decide_eq_true_eq]at U;rw[E]at A;rw[<- C];exact A.2 z hz (by rw[<- U,h,C])
 have M:∀d∈R.1.ds,0<=d.node:=fun d hd=>by have:=V d hd;omega
 refine⟨W,rfl,by rw[B];exact G.qK.ds,by rw[B];exact G.qK.list,?_,fun m hm hmc=>?_⟩
 ·rw[B,G.qK.ds]
  show W.uses.map (jX R.1.ds)=R.1.uses.map (oG R.1.ds);refine List.ext_getElem? fun i=>?_
  rw[List.getElem?_map,List.getElem?_map];by_cases L:i<R.1.uses.length
  ·have H:i<W.uses.length:=by rw[G.qK.sU];exact L
   rw[aaf L,aaf H];show some _=some _;rw[conv_rel T M S (G.qK.uses i _ _ (aaf L) (aaf H))]
  ·have H:¬i<W.uses.length:=by rw[G.qK.sU];exact L
   rw[List.getElem?_eq_none (Nat.le_of_not_lt L),List.getElem?_eq_none (Nat.le_of_not_lt H)];rfl
 ·rw[B]
  show bE (R.1.aR.map fun x=>(x.1,x.2.map (oG R.1.ds))) (m:Int)=if kP ks 1 m=true then _ else _
  rw[Mr (fun l:List Int=>l.map (oG R.1.ds))];by_cases h0:m=0
  ·subst h0
   have q:kP ks 1 0=false:=by
    clear r T2 G A I hG Q hW hw hR B S lD Y g J hmc;suffices h:∀(l:List ae) (n:Nat),1<=n->kP l n 0=false by exact h ks 1 (aab _)
    intro l
    induction l with
    | nil=>intro n _;rfl
    | cons k l ih=>
     intro n hn;rw[kP,if_pos (by omega)];obtain⟨kk,xx,aa,ee,Z⟩:=k;show(decide (kk=5)&&match Z with| [b,c,_]=>decide (n+1+ai b+ai c<=0)|_=>false)=false;rw[Bool.and_eq_false_iff];right
     split
     ·simp
     ·rfl
   rw[q,if_neg (by simp),f.aR 0 (.inl (by omega)),zo];rfl
  ·have hlt:m<R.1.next:=by
    rw[T2,E];have:ai (.node 2 x a e ks)=1+aD ks:=rfl;omega
   have:=r m (by omega) hlt;rw[E]at this;by_cases q:kP ks 1 m=true
   ·rw[if_pos q]at this⊢
    obtain⟨s',sq',c1,c2,c3⟩:=this;rw[c1,c3 hm];exact congrArg some (sort_at c2 hpw T)
   ·rw[if_neg q]at this⊢
    rw[this,zo];rfl
open Go.RowKit
def vH(l:List Dc)(f:Bool)(x:ByteArray):Int:=match pI l f x with|some k=>(k:Int)|none=> -1
def yI(ds:List Dc)(s:List Nat)(x:ByteArray):Int:=match pF ds s x with|some k=>(k:Int)|none=> -1
theorem E8{A:Type}(p:A->Bool):∀(l:List A) (k:Nat) (d:A),(∀j e,j<k->l[j]? =some e->p e=false)->l[k]? =some d->p d=true->l.findIdx? p=some k
 | [],k,d,_,h,_=>by simp at h
 | a::l,0,d,_,h,hp=>by
  simp at h;subst h;rw[List.findIdx?_cons,hp];rfl
 | a::l,k+1,d,hno,h,hp=>by
  rw[List.findIdx?_cons,hno 0 a (Nat.succ_pos _) rfl,E8 p l k d (fun j e C B=>hno (j+1) e (by omega) (by simpa using B)) (by simpa using h) hp];rfl
theorem MU{B:Type}(p:B->Bool)(l:List B)(h:∀j e,j<l.length->l[j]? =some e->p e=false):l.findIdx? p=none:=by
 rw[List.findIdx?_eq_none_iff];intro x D;obtain⟨j,A,C⟩:=List.mem_iff_getElem.1 D;exact h j x A (by rw[aaf A,C])
theorem VC{A:Type}(p:A->Bool):∀(l:List A) (k:Nat) (d:A),(∀j e,j<k->l[j]? =some e->p e=false)->l[k]? =some d->p d=true->l.find? p=some d
 | [],k,d,_,h,_=>by simp at h
 | a::l,0,d,_,h,hp=>by
  simp at h;subst h;rw[List.find?_cons,hp]
 | a::l,k+1,d,hno,h,hp=>by
  rw[List.find?_cons,hno 0 a (Nat.succ_pos _) rfl,VC p l k d (fun j e C B=>hno (j+1) e (by omega) (by simpa using B)) (by simpa using h) hp]
theorem find_no{B:Type}(p:B->Bool)(l:List B)(h:∀j e,j<l.length->l[j]? =some e->p e=false):l.find? p=none:=by
 rw[List.find?_eq_none];intro x D;obtain⟨j,A,C⟩:=List.mem_iff_getElem.1 D;simp[h j x A (by rw[aaf A,C])]
theorem K7{x y:ByteArray}(h:¬x=y):(x.toList==y.toList)=false:=by
 rw[beq_eq_false_iff_ne];exact fun e=>h (mY (by rw[<- ByteArray.toList_eq,<- ByteArray.toList_eq,e]))
theorem Cv(A:Option Addr)(n c:Nat)(l:List Dc)(f:Bool)(x:ByteArray)(w:World)(h:bU 4 dL w w.heap.size A l)(v:l.length=n)(hn:n<=1000000):
 Calls Tryz.prog 155 #[.slice A n c,.bool f,.string x] w fun e w'=>e= .returned (.int .i64 (vH l f x))/\Below w.heap.size w w':=by
 have H:=kH h;have Y:=kH v;clear h v;go_in
 go_wp2_with fail
 go_loopg [7] n (fun gk s wr=> ∃k:Nat,k+gk=n/\s= .int .i64 (k:Int)/\Below w.heap.size w wr/\∀j d,j<k->l[j]? =some d->pD f x d=false)
 case atStart=>exact⟨0,by omega,rfl,Below.refl _ _,fun j d T=>by omega⟩
 case round=>
  obtain⟨k,y,rfl,m,u⟩:=hrel;have hk':k<=n:=by omega
  have F:=kH y;have Q:=kH u;clear y u;by_cases V:k<n
  ·obtain⟨d,S⟩:∃d,l[k]? =some d:=⟨_,aaf (by rw[Y.out];exact V)⟩
   obtain⟨b,o,r,hb,R⟩:=(H.out.below m (aab _)) k _ S;subst r;obtain⟨K,G⟩:∃q,d.kind=q:=⟨_,rfl⟩
   obtain⟨P,I⟩:∃q,d.name=q:=⟨_,rfl⟩
   have d0:wr.cell? ⟨b,o+k*4,none⟩=some (.int .i64 K):=by rw[<- G];simpa using R 0 _ rfl
   have d1:wr.cell? ⟨b,o+k*4+1,none⟩=some (.string P):=by rw[<- I];exact R 1 _ rfl
   have Z:pD f x d=((decide (K=1)==f)&&decide (P=x)):=by unfold pD;rw[G,I]
   have W:=kH S;have L:=kH Z;have hki:(k:Int)<(n:Int):=by omega
   have E:pD f x d=false->∀j e,j<k+1->l[j]? =some e->pD f x e=false:=fun g j e T M=>by
    by_cases U:j=k
    ·subst U
     rw[W.out]at M;cases M
     exact g
    ·exact Q.out j e (by omega) M
   have N:=kH E
   have z:pD f x d=true->vH l f x=(k:Int):=fun hp=>by
    unfold vH;rw[show pI l f x=some k from E8 _ l k d Q.out W.out hp]
   have X:=kH z;clear R S Z G I E z;have D:(decide (K=1)==f)=true\/(decide (K=1)==f)=false:=by cases (decide (K=1)==f)<;>simp
   by_cases O:K=1
   ·subst O
    cases f with
    | true=>
     by_cases J:P=x
     ·subst J
      have B:=X.out (by rw[L.out];simp);have C:=kH B;clear B D;go_wp2_with fail
      go_ret
      rw[C.out];exact⟨rfl,by(repeat (first|exact Below.refl _ _|assumption|refine Below.trans ?_ (Below.mono (by assumption) (by first|omega|(simp;done)|(simp;omega)))|refine Below.alloc ?_ (by first|omega|(simp;done)|(simp;omega)) _|refine Below.setCell ?_ (by first|omega|(simp;done)|(simp;omega)) _|refine Below.drew ?_|refine aT ?_ _))⟩
     ·have t:=K7 J
      have B:=N.out (by rw[L.out,decide_eq_false J];simp);have C:=kH B;clear B D;go_wp2_with fail
      go_roundg (gk - 1)
      case measure=>have:=F.out;omega
      case rel=>exact⟨k+1,by have:=F.out;omega,by go_num,by(repeat (first|exact Below.refl _ _|assumption|refine Below.trans ?_ (Below.mono (by assumption) (by first|omega|(simp;done)|(simp;omega)))|refine Below.alloc ?_ (by first|omega|(simp;done)|(simp;omega)) _|refine Below.setCell ?_ (by first|omega|(simp;done)|(simp;omega)) _|refine Below.drew ?_|refine aT ?_ _)),C.out⟩
    | false=>
     have B:=N.out (by rw[L.out];simp);have C:=kH B;clear B D;go_wp2_with fail
     go_roundg (gk - 1)
     case measure=>have:=F.out;omega
     case rel=>exact⟨k+1,by have:=F.out;omega,by go_num,by(repeat (first|exact Below.refl _ _|assumption|refine Below.trans ?_ (Below.mono (by assumption) (by first|omega|(simp;done)|(simp;omega)))|refine Below.alloc ?_ (by first|omega|(simp;done)|(simp;omega)) _|refine Below.setCell ?_ (by first|omega|(simp;done)|(simp;omega)) _|refine Below.drew ?_|refine aT ?_ _)),C.out⟩
   ·have hmb:(K==1)=false:=by simpa using O
    cases f with
    | false=>
     by_cases J:P=x
     ·subst J
      have B:=X.out (by rw[L.out,decide_eq_false O];simp);have C:=kH B;clear B D;go_wp2_with fail
      go_ret
      rw[C.out];exact⟨rfl,by(repeat (first|exact Below.refl _ _|assumption|refine Below.trans ?_ (Below.mono (by assumption) (by first|omega|(simp;done)|(simp;omega)))|refine Below.alloc ?_ (by first|omega|(simp;done)|(simp;omega)) _|refine Below.setCell ?_ (by first|omega|(simp;done)|(simp;omega)) _|refine Below.drew ?_|refine aT ?_ _))⟩
     ·have t:=K7 J
      have B:=N.out (by rw[L.out,decide_eq_false J];simp);have C:=kH B;clear B D;go_wp2_with fail
      go_roundg (gk - 1)
      case measure=>have:=F.out;omega
      case rel=>exact⟨k+1,by have:=F.out;omega,by go_num,by(repeat (first|exact Below.refl _ _|assumption|refine Below.trans ?_ (Below.mono (by assumption) (by first|omega|(simp;done)|(simp;omega)))|refine Below.alloc ?_ (by first|omega|(simp;done)|(simp;omega)) _|refine Below.setCell ?_ (by first|omega|(simp;done)|(simp;omega)) _|refine Below.drew ?_|refine aT ?_ _)),C.out⟩
    | true=>
     have B:=N.out (by rw[L.out,decide_eq_false O];simp);have C:=kH B;clear B D;go_wp2_with fail
     go_roundg (gk - 1)
     case measure=>have:=F.out;omega
     case rel=>exact⟨k+1,by have:=F.out;omega,by go_num,by(repeat (first|exact Below.refl _ _|assumption|refine Below.trans ?_ (Below.mono (by assumption) (by first|omega|(simp;done)|(simp;omega)))|refine Below.alloc ?_ (by first|omega|(simp;done)|(simp;omega)) _|refine Below.setCell ?_ (by first|omega|(simp;done)|(simp;omega)) _|refine Below.drew ?_|refine aT ?_ _)),C.out⟩
  ·have B:vH l f x= -1:=by
    unfold vH;rw[show pI l f x=none from MU _ l (fun j e T M=>Q.out j e (by rw[Y.out]at T;omega) M)]
   have C:=kH B;clear B;go_wp2_with fail
   go_ret
   rw[C.out];exact⟨rfl,by(repeat (first|exact Below.refl _ _|assumption|refine Below.trans ?_ (Below.mono (by assumption) (by first|omega|(simp;done)|(simp;omega)))|refine Below.alloc ?_ (by first|omega|(simp;done)|(simp;omega)) _|refine Below.setCell ?_ (by first|omega|(simp;done)|(simp;omega)) _|refine Below.drew ?_|refine aT ?_ _))⟩
theorem I4(E:RE)(G:List Dc)(mk:Int)(q:RW)(V:RQ)(w:World)(h:dP E G mk q V w)(ub:Option Nat)(A:Option Addr)(n c:Nat)(s:List Nat)(hs:gP w ub A s)(P:s.length=n)(D:∀i∈s,i<q.ds.length)(x:ByteArray)(hn:n<=1000000):
 Calls Tryz.prog 157 #[.pointer (some ⟨E.rp,0,none⟩),.slice A n c,.string x] w fun e w'=>e= .returned (.int .i64 (yI q.ds s x))/\Below w.heap.size w w':=by
 have F:=hs.rowAt;have U:=h.ds.rowAt (cells:=dL) (l:=q.ds) rfl rfl (fun _ _=>rfl) rfl;obtain⟨ds,N⟩:∃z,q.ds=z:=⟨_,rfl⟩
 have B:=h.blk;rw[N]at D U B⊢;obtain⟨u,J⟩:∃z,ds.length=z:=⟨_,rfl⟩
 rw[J]at B D;have H:=kH F;have HD:=kH U;have wX:=kH B;have Ia:=kH D;have ng:=kH P;have lh:=kH J;clear h hs F U B D P N J;go_in
 go_wp2_with fail
 go_loopg [7] n (fun gk sl wr=> ∃k:Nat,k+gk=n/\sl= .int .i64 (k:Int)/\Below w.heap.size w wr/\∀j i,j<k->s[j]? =some i->decide ((ds[i]?).map Dc.name=some x)=false)
 case atStart=>exact⟨0,by omega,rfl,Below.refl _ _,fun j d y=>by omega⟩
 case round=>
  obtain⟨k,hk,rfl,X,ht⟩:=hrel;have hk':k<=n:=by omega
  have r:=kH hk;have T:=kH ht;clear hk ht;by_cases D:k<n
  ·obtain⟨i,R⟩:∃d,s[k]? =some d:=⟨_,aaf (by rw[ng.out];exact D)⟩
   have Z:i<u:=Ia.out i (aan R);obtain⟨d,I⟩:∃d,ds[i]? =some d:=⟨_,aaf (by rw[lh.out];exact Z)⟩
   obtain⟨b,o,hA,hb,hc⟩:=(H.out.below X (aab _)) k _ R;subst hA;obtain⟨f,o2,W,Y,M⟩:=(HD.out.below X (aab _)) i _ I;have B:=wX.out.below X wX.out.lt;rw[W]at B;obtain⟨Q,K⟩:∃q,d.name=q:=⟨_,rfl⟩
   have r0:wr.cell? ⟨E.rp,0,none⟩=some (.slice (some ⟨f,o2,none⟩) u V.dc):=B.cell 0;have lr:=B.lt;have d0:wr.cell? ⟨b,o+k,none⟩=some (.int .i64 (i:Int)):=by simpa using hc 0 _ rfl
   have d1:wr.cell? ⟨f,o2+i*4+1,none⟩=some (.string Q):=by rw[<- K];exact M 1 _ rfl
   have g:decide ((ds[i]?).map Dc.name=some x)=decide (Q=x):=by
    rw[I,<- K];simp
   have t:=kH R;have m:=kH g;have hki:(k:Int)<(n:Int):=by omega
   have hii:(i:Int)<(u:Int):=by omega
   have hi0:¬((i:Int)<0):=by omega
   clear hc M I g K B R hb Y;by_cases S:Q=x
   ·subst S
    have C:yI ds s Q=(i:Int):=by
     unfold yI;rw[show pF ds s Q=some i from VC _ s k i T.out t.out (by rw[m.out];simp)]
    have L:=kH C;clear C;go_wp2_with fail
    go_quiet (fail)
    go_wp2_with fail
    go_ret
    rw[L.out];exact⟨rfl,by(repeat (first|exact Below.refl _ _|assumption|refine Below.trans ?_ (Below.mono (by assumption) (by first|omega|(simp;done)|(simp;omega)))|refine Below.alloc ?_ (by first|omega|(simp;done)|(simp;omega)) _|refine Below.setCell ?_ (by first|omega|(simp;done)|(simp;omega)) _|refine Below.drew ?_|refine aT ?_ _))⟩
   ·have Va:=K7 S
    have C:∀j i,j<k+1->s[j]? =some i->decide ((ds[i]?).map Dc.name=some x)=false:=fun j e y O=>by
     by_cases v:j=k
     ·subst v
      rw[t.out]at O;cases O
      rw[m.out];exact decide_eq_false S
     ·exact T.out j e (by omega) O
    have L:=kH C;clear C S;go_wp2_with fail
    go_quiet (fail)
    go_wp2_with fail
    go_roundg (gk - 1)
    case measure=>have:=r.out;omega
    case rel=>exact⟨k+1,by have:=r.out;omega,by go_num,by(repeat (first|exact Below.refl _ _|assumption|refine Below.trans ?_ (Below.mono (by assumption) (by first|omega|(simp;done)|(simp;omega)))|refine Below.alloc ?_ (by first|omega|(simp;done)|(simp;omega)) _|refine Below.setCell ?_ (by first|omega|(simp;done)|(simp;omega)) _|refine Below.drew ?_|refine aT ?_ _)),L.out⟩
  ·have C:yI ds s x= -1:=by
    unfold yI;rw[show pF ds s x=none from find_no _ s (fun j e y O=>T.out j e (by rw[ng.out]at y;omega) O)]
   have L:=kH C;clear C;go_wp2_with fail
   go_ret
   rw[L.out];exact⟨rfl,by(repeat (first|exact Below.refl _ _|assumption|refine Below.trans ?_ (Below.mono (by assumption) (by first|omega|(simp;done)|(simp;omega)))|refine Below.alloc ?_ (by first|omega|(simp;done)|(simp;omega)) _|refine Below.setCell ?_ (by first|omega|(simp;done)|(simp;omega)) _|refine Below.drew ?_|refine aT ?_ _))⟩
end Go.Proofs.YtoepemlnlpamlaaGreat
