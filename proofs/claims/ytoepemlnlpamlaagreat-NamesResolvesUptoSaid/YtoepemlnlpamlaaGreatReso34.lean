/- The law NamesResolves holds where what it reads is of bulk at most 1048576: it returns true, and its argument reads as before. Part 34: Wlk4 Rw1. -/
import Derived.Test.YtoepemlnlpamlaaGreatReso32
import Derived.Test.YtoepemlnlpamlaaGreatReso33
set_option maxRecDepth 100000
set_option maxHeartbeats 4000000
namespace Go.Proofs.YtoepemlnlpamlaaGreat
def pD(f:Bool)(x:ByteArray):Dc->Bool:=fun d=>(decide (d.kind=1)==f)&&decide (d.name=x)
theorem Cx{α:Type}(p:α->Bool):∀(l:List α),((l.findIdx? p).bind fun k=>l[k]?)=l.find? p
 | []=>rfl
 | a::l=>by
  rw[List.findIdx?_cons,List.find?_cons]
  cases hp:p a with
  | true=>rfl
  | false=>
   rw[if_neg (by simp),<- Cx p l];cases l.findIdx? p<;>rfl
theorem JX(l:List Dc)(f:Bool)(x:ByteArray):mW l f x=l.find? (pD f x):=Cx _ l
theorem LV(l:List Dc)(f:Bool)(x:ByteArray):(oP l f x).isSome=(l.find? (pD f x)).isSome:=by
 unfold oP;rw[<- Cx (pD f x) l];show(l.findIdx? (pD f x)).isSome=_
 cases h:l.findIdx? (pD f x) with
 | none=>rfl
 | some j=>
  have:=List.findIdx?_eq_some_iff_getElem.1 h;obtain⟨hj,-⟩:=this;show true=(l[j]?).isSome;rw[abI hj];rfl
theorem Y0(out:List Dc)(d:Dc)(f:Bool)(x:ByteArray):(xZ out d).find? (pD f x)=(out.find? (pD f x)).or (if pD f x d then some d else none):=by
 unfold xZ;rw[LV];by_cases hs:(out.find? (pD (decide (d.kind=1)) d.name)).isSome=true
 ·rw[if_pos hs]
  by_cases hp:pD f x d=true
  ·rw[if_pos hp]
   have hpe:pD f x=pD (decide (d.kind=1)) d.name:=by
    unfold pD at hp;rw[abG,beq_iff_eq,decide_eq_true_eq]at hp;rw[<- hp.1,<- hp.2]
   rw[hpe];obtain⟨z,hz⟩:=Option.isSome_iff_exists.1 hs;rw[hz];rfl
  ·rw[if_neg hp,Option.or_none]
 ·rw[if_neg hs,List.find?_append]
  congr 1
  rw[List.find?_cons];cases pD f x d<;>rfl
def jy:List ae->Nat->Int->List Dc
 | [],_,_=>[]
 | t::ts,i,o=>(if t.kind=3 then [⟨0,t.text,i,-1⟩] else if t.kind=5 then [⟨2,t.text,i,-1⟩] else if t.kind=4 then [⟨1,t.text,i,o⟩] else [])++jy ts (i+1) (if t.kind=3 then(i:Int) else o)
def vF:List ae->Nat->Int->Int
 | [],_,o=>o
 | t::ts,i,o=>vF ts (i+1) (if t.kind=3 then(i:Int) else o)
theorem JW:∀(ts:List ae) (i:Nat) (o:Int) (out:List Dc),il ts i o out=(jy ts i o).foldl xZ out
 | [],_,_,_=>rfl
 | t::ts,i,o,out=>by
  rw[il,jy,JW ts,List.foldl_append];congr 1
  by_cases h3:t.kind=3
  ·rw[if_pos h3,if_pos h3];rfl
  rw[if_neg h3,if_neg h3];by_cases h5:t.kind=5
  ·rw[if_pos h5,if_pos h5];rfl
  rw[if_neg h5,if_neg h5];by_cases h4:t.kind=4
  ·rw[if_pos h4,if_pos h4];rfl
  rw[if_neg h4,if_neg h4];rfl
theorem F7(f:Bool)(x:ByteArray):∀(L out:List Dc),(L.foldl xZ out).find? (pD f x)=(out.find? (pD f x)).or (L.find? (pD f x))
 | [],out=>by simp
 | d::L,out=>by
  rw[List.foldl_cons,F7 f x L,Y0,List.find?_cons,Option.or_assoc];congr 1
  cases pD f x d<;>rfl
theorem xy:∀(a b:List ae) (i:Nat) (o:Int),jy (a++b) i o=jy a i o++jy b (i+a.length) (vF a i o)
 | [],b,i,o=>rfl
 | t::a,b,i,o=>by
  rw[List.cons_append,jy,xy a b,jy,List.append_assoc,vF,abR,show i+1+a.length=i+(a.length+1) by omega]
theorem Er:∀{ts:List ae}{i:Nat}{o:Int},(∀t∈ts,t.kind≠3/\t.kind≠4/\t.kind≠5)->jy ts i o=[]/\vF ts i o=o
 | [],_,_,_=>⟨rfl,rfl⟩
 | t::ts,i,o,h=>by
  obtain⟨h3,h4,h5⟩:=h t (by simp);obtain⟨a1,a2⟩:=Er (ts:=ts) (i:=i+1) (o:=o) fun c hc=>h c (by simp[hc])
  rw[jy,vF,if_neg h3,if_neg h5,if_neg h4,if_neg h3,a1,a2];exact⟨rfl,rfl⟩
mutual
theorem Yq:∀(t:ae),Dn t=true->∀y∈bY t,y.kind≠3/\y.kind≠4/\y.kind≠5
 | .node k x a e kids,h,y,hy=>by
  obtain⟨hk,hks⟩:=BG h;rw[bY,List.mem_cons]at hy;rcases hy with rfl|hy
  ·exact⟨hk.2.1,hk.2.2.1,hk.2.2.2⟩
  ·exact zI kids hks y hy
theorem zI:∀(ts:List ae),lV ts=true->∀y∈dN ts,y.kind≠3/\y.kind≠4/\y.kind≠5
 | [],_,y,hy=>by cases hy
 | t::ts,h,y,hy=>by
  rw[lV,abG]at h;rw[dN,List.mem_append]at hy;rcases hy with hy|hy
  ·exact Yq t h.1 y hy
  ·exact zI ts h.2 y hy
end
theorem Gh(o:Int):∀(fs:List ae) (n:Nat),(∀f∈fs,f.kind=4/\lV f.kids=true)->jy (dN fs) n o=(fH fs n).map (fun y=>⟨1,y.1.text,y.2,o⟩)/\vF (dN fs) n o=o
 | [],n,_=>⟨rfl,rfl⟩
 | f::fs,n,h=>by
  obtain⟨h4,hk⟩:=h f (by simp);have hn:=Er (i:=n+1) (o:=o) (zI f.kids hk)
  have e:jy (bY f) n o=[⟨1,f.text,n,o⟩]/\vF (bY f) n o=o:=by
   rw[BD,jy,vF,if_neg (by omega),if_neg (by omega),if_pos h4,if_neg (by omega),hn.1,hn.2];exact⟨rfl,rfl⟩
  obtain⟨i1,i2⟩:=Gh o fs (n+au f) fun c hc=>h c (by simp[hc])
  have ho:∀(a b:List ae) (i:Nat) (o:Int),vF (a++b) i o=vF b (i+a.length) (vF a i o):=by
   intro a
   induction a with
   | nil=>intro b i o;rfl
   | cons t a ih=>intro b i o;rw[List.cons_append,vF,ih,vF,abR,show i+1+a.length=i+(a.length+1) by omega]
  rw[dN,xy,ho,e.1,e.2,mh,i1,i2,fH];exact⟨rfl,rfl⟩
def yS(y:ae×Nat):Dc:=⟨if y.1.kind=3 then 0 else 2,y.1.text,y.2,-1⟩
theorem Ol(x:ByteArray):∀(ks:List ae) (n:Nat) (o:Int),(∀k∈ks,uu k=true) ->
 (jy (dN ks) n o).find? (pD false x)=((fH ks n).find? fun y=>decide (x=y.1.text)).map yS /\
 ((jy (dN ks) n o).find? (pD true x)).map (fun d=>(d.kind,d.node))=((pY (wK ks n)).find? fun y=>decide (x=y.1)).map fun y=>((1:Int),(y.2:Int))
 | [],n,o,_=>⟨rfl,rfl⟩
 | k::ks,n,o,h=>by
  have ht:=h k (by simp);rw[dN,xy,mh,List.find?_append,List.find?_append,fH,wK];obtain⟨i1,i2⟩:=Ol x ks (n+au k) (vF (bY k) n o) fun c hc=>h c (by simp[hc])
  rw[i1];obtain⟨kk,y,a,e,kids⟩:=k;have ht':=ht;rw[uu,Bool.or_eq_true,abG,abG,abG,decide_eq_true_eq,decide_eq_true_eq,decide_eq_true_eq]at ht';rcases ht' with⟨rfl,hf⟩| ⟨⟨rfl,-⟩,hit⟩
  ·have FT:∀f∈kids,f.kind=4/\lV f.kids=true:=fun f hfm=>by
    have h3:=List.all_eq_true.1 hf f hfm;rw[abG,decide_eq_true_eq]at h3;exact h3
   have hc:jy (bY (.node 3 y a e kids)) n o=⟨0,y,n,-1⟩::(fH kids (n+1)).map (fun z=>⟨1,z.1.text,z.2,(n:Int)⟩):=by
    rw[bY,jy,if_pos (show(ae.node 3 y a e kids).kind=3 from rfl),if_pos (show(ae.node 3 y a e kids).kind=3 from rfl),(Gh (n:Int) kids (n+1) FT).1];rfl
   rw[hc];constructor
   ·rw[List.find?_cons,List.find?_cons]
    have hp:pD false x ⟨0,y,n,-1⟩=decide (x=y):=by
     show(true&&decide (y=x))=_;rw[Bool.true_and];exact decide_eq_decide.2 ⟨Eq.symm,Eq.symm⟩
    have hno:((fH kids (n+1)).map (fun z=>(⟨1,z.1.text,z.2,(n:Int)⟩:Dc))).find? (pD false x)=none:=by
     rw[List.find?_eq_none];intro d hd;obtain⟨z,-,rfl⟩:=List.mem_map.1 hd;unfold pD;simp
    rw[hp,hno];show(match decide (x=y) with|true=>some _|false=>none).or _=((match decide (x=y) with|true=>some _|false=>_):Option (ae×Nat)).map yS;cases decide (x=y)<;>rfl
   ·have hfil:(fH kids (n+1)).filter (fun z=>decide (z.1.kind=4))=fH kids (n+1):=by
     rw[List.filter_eq_self];intro z hz;have:z.1∈(fH kids (n+1)).map (·.1):=List.mem_map.2 ⟨z,hz,rfl⟩;rw[Ao]at this;exact decide_eq_true (FT z.1 this).1
    show((((_::_:List Dc)).find? (pD true x)).or ((jy (dN ks) (n+au (.node 3 y a e kids)) _).find? (pD true x))).map _=_;rw[show(ae.node 3 y a e kids).kids=kids from rfl,hfil]
    have hp:pD true x ⟨0,y,n,-1⟩=false:=by
     unfold pD;simp
    have hA:(((⟨0,y,n,-1⟩:Dc)::(fH kids (n+1)).map (fun z=>(⟨1,z.1.text,z.2,(n:Int)⟩:Dc))).find? (pD true x)).map (fun d=>(d.kind,d.node))=((pY (fH kids (n+1))).find? fun y=>decide (x=y.1)).map fun y=>((1:Int),(y.2:Int)):=by
     rw[List.find?_cons,hp];unfold pY;show(((fH kids (n+1)).map (fun z=>(⟨1,z.1.text,z.2,(n:Int)⟩:Dc))).find? (pD true x)).map (fun d=>(d.kind,d.node))=_;rw[List.find?_map,List.find?_map,Option.map_map,Option.map_map]
     have hf:(pD true x ∘ fun z:ae×Nat=>(⟨1,z.1.text,z.2,(n:Int)⟩:Dc))=((fun y:ByteArray×Nat=>decide (x=y.1)) ∘ fun y:ae×Nat=>(y.1.text,y.2)):=by
      funext z
      show(true&&decide (z.1.text=x))=decide (x=z.1.text);rw[Bool.true_and];exact decide_eq_decide.2 ⟨Eq.symm,Eq.symm⟩
     rw[hf];rfl
    have hap:pY (fH kids (n+1)++wK ks (n+au (.node 3 y a e kids)))=pY (fH kids (n+1))++pY (wK ks (n+au (.node 3 y a e kids))):=by
     unfold pY;rw[List.map_append]
    rw[hap,List.find?_append,Option.map_or,Option.map_or,hA,i2]
  ·have hc:jy (bY (.node 5 y a e kids)) n o=[⟨2,y,n,-1⟩]:=by
    have hn:=Er (i:=n+1) (o:=o) (zI kids hit);rw[bY,jy,if_neg (show ¬(ae.node 5 y a e kids).kind=3 from by show ¬(5:Int)=3;decide),if_pos (show(ae.node 5 y a e kids).kind=5 from rfl),if_neg (show ¬(ae.node 5 y a e kids).kind=3 from by show ¬(5:Int)=3;decide),hn.1];rfl
   rw[hc];constructor
   ·rw[List.find?_cons,List.find?_cons]
    have hp:pD false x ⟨2,y,n,-1⟩=decide (x=y):=by
     show(true&&decide (y=x))=_;rw[Bool.true_and];exact decide_eq_decide.2 ⟨Eq.symm,Eq.symm⟩
    rw[hp];show(match decide (x=y) with|true=>some _|false=>none).or _=((match decide (x=y) with|true=>some _|false=>_):Option (ae×Nat)).map yS;cases decide (x=y)<;>rfl
   ·have hfil:(fH kids (n+1)).filter (fun z=>decide (z.1.kind=4))=[]:=by
     rw[List.filter_eq_nil_iff];intro z hz;have:z.1∈(fH kids (n+1)).map (·.1):=List.mem_map.2 ⟨z,hz,rfl⟩;rw[Ao]at this;have hk:=R6 hit z.1 this;obtain⟨zt,zn⟩:=z;obtain⟨kz,xz,az,ez,kz'⟩:=zt;have:=(BG hk).1.2.2.1;simp only[decide_eq_true_eq];exact this
    rw[show(ae.node 5 y a e kids).kids=kids from rfl,hfil,List.nil_append]
    have hp:([⟨2,y,(n:Int),-1⟩]:List Dc).find? (pD true x)=none:=by
     rw[List.find?_eq_none];intro d hd;rw[List.mem_singleton]at hd;subst hd;unfold pD;simp
    rw[hp];exact i2
theorem El(x:ByteArray)(L:List (ae×Nat)):((pY L).find? fun y=>decide (x=y.1)).map (fun y=>(y.2:Int))=(L.find? fun y=>decide (x=y.1.text)).map fun y=>(y.2:Int):=by
 unfold pY;rw[List.find?_map,Option.map_map];rfl
def GnK(ks:List ae)(u:Int):Prop:=∃x,aT (sM ks).globals x=some u\/aT (sM ks).fields x=some u
theorem aa5{x0:ByteArray}{a e:Int}{ks:List ae}(hk:∀k∈ks,uu k=true):yj (sM ks) (il (bY (.node 2 x0 a e ks)) 0 (-1) []) (GnK ks):=by
 have hcs:jy (bY (.node 2 x0 a e ks)) 0 (-1)=jy (dN ks) 1 (-1):=by
  rw[bY,jy];rfl
 have hgf:∀f x,mW (il (bY (.node 2 x0 a e ks)) 0 (-1) []) f x=(jy (dN ks) 1 (-1)).find? (pD f x):=fun f x=>by
  rw[JX,JW,F7,hcs];rfl
 have hT:=fun x=>Ol x ks 1 (-1) hk
 have hfa:∀x,mW (il (bY (.node 2 x0 a e ks)) 0 (-1) []) false x=((fH ks 1).find? fun y=>decide (x=y.1.text)).map yS:=fun x=>by rw[hgf];exact(hT x).1
 have htr:∀x,(mW (il (bY (.node 2 x0 a e ks)) 0 (-1) []) true x).map (fun d=>(d.kind,d.node))=((pY (wK ks 1)).find? fun y=>decide (x=y.1)).map fun y=>((1:Int),(y.2:Int)):=fun x=>by rw[hgf];exact(hT x).2
 have hgl:∀x,aT (sM ks).globals x=((fH ks 1).find? fun y=>decide (x=y.1.text)).map fun y=>(y.2:Int):=fun x=>by rw[Uk,El]
 have hkind:∀y∈fH ks 1,y.1.kind=3\/y.1.kind=5:=fun y hy=>by
  have:y.1∈(fH ks 1).map (·.1):=List.mem_map.2 ⟨y,hy,rfl⟩;rw[Ao]at this;have ht:=hk _ this;obtain⟨yt,yn⟩:=y;obtain⟨k,x,a,e,kids⟩:=yt;rw[uu,Bool.or_eq_true,abG,abG,abG,decide_eq_true_eq,decide_eq_true_eq,decide_eq_true_eq]at ht;exact ht.imp (fun h=>h.1) (fun h=>h.1.1)
 have hgn:∀x (p q:Int) (K:Int),decide (p=1)=false->(∀y∈fH ks 1,(((yS y).kind=p\/(yS y).kind=q)↔y.1.kind=K))->gu (il (bY (.node 2 x0 a e ks)) 0 (-1) []) p q x=(aT (sM ks).globals x).filter fun j=>decide (jw (sM ks) j=K):=fun x p q K hp hK=>by
  unfold gu;rw[hp,hfa,hgl]
  cases jE:(fH ks 1).find? fun y=>decide (x=y.1.text) with
  | none=>rfl
  | some y=>
   have hy:=List.mem_of_find?_eq_some jE;show(if (yS y).kind=p\/(yS y).kind=q then some (yS y).node else none)=(some (y.2:Int)).filter _;rw[Option.filter_some,YV ks y hy];by_cases hc:(yS y).kind=p\/(yS y).kind=q
   ·rw[if_pos hc,if_pos (decide_eq_true ((hK y hy).1 hc))]
    rfl
   ·rw[if_neg hc,if_neg (by simpa using fun h=>hc ((hK y hy).2 h))]
 have hkd:∀y∈fH ks 1,((yS y).kind=0↔y.1.kind=3)/\((yS y).kind=2↔y.1.kind=5):=fun y hy=>by
  unfold yS;rcases hkind y hy with h|h
  ·rw[if_pos h,h]
   show((0:Int)=0↔(3:Int)=3)/\((0:Int)=2↔(3:Int)=5);decide
  ·rw[if_neg (by omega),h]
   show((2:Int)=0↔(5:Int)=3)/\((2:Int)=2↔(5:Int)=5);decide
 constructor
 ·intro x
  unfold gu;rw[show decide ((0:Int)=1)=false from rfl,hfa,hgl]
  cases jE:(fH ks 1).find? fun y=>decide (x=y.1.text) with
  | none=>rfl
  | some y=>
   have hy:=List.mem_of_find?_eq_some jE;show(if (yS y).kind=0\/(yS y).kind=2 then some (yS y).node else none)=some (y.2:Int);have:=hkd y hy;rw[if_pos ((hkind y hy).imp this.1.2 this.2.2)];rfl
 ·intro x
  unfold gu;rw[show decide ((1:Int)=1)=true from rfl,G9];have h:=htr x
  cases jE:(pY (wK ks 1)).find? fun y=>decide (x=y.1) with
  | none=>
   rw[jE]at h
   cases hg:mW (il (bY (.node 2 x0 a e ks)) 0 (-1) []) true x with
   | none=>rfl
   | some d=>rw[hg]at h;cases h
  | some y=>
   rw[jE]at h
   cases hg:mW (il (bY (.node 2 x0 a e ks)) 0 (-1) []) true x with
   | none=>rw[hg]at h;cases h
   | some d=>
    rw[hg]at h;simp only[Option.map_some,abJ,Prod.mk.injEq]at h;show(if d.kind=1\/d.kind=1 then some d.node else none)=some (y.2:Int);rw[if_pos (.inl h.1),h.2]
 ·exact fun x=>hgn x 2 2 5 rfl fun y hy=>by rw[(hkd y hy).2];exact or_self_iff
 ·exact fun x=>hgn x 0 0 3 rfl fun y hy=>by rw[(hkd y hy).1];exact or_self_iff
 ·intro x
  rw[LV,<- JX,hfa,hgl];cases (fH ks 1).find? fun y=>decide (x=y.1.text)<;>rfl
 ·intro x
  rw[hfa,hgl,Option.map_map];rfl
 ·intro x
  rw[G9];have h:=congrArg (fun o=>Option.map (fun p:Int×Int=>p.2) o) (htr x);simp only[Option.map_map]at h;exact h
 ·intro x n hn
  refine⟨?_,x,.inl hn⟩;rw[hgl]at hn
  cases jE:(fH ks 1).find? fun y=>decide (x=y.1.text) with
  | none=>rw[jE]at hn;cases hn
  | some y=>rw[jE]at hn;simp only[Option.map_some,abJ]at hn;omega
 ·intro x n hn
  refine⟨?_,x,.inr hn⟩;rw[G9]at hn
  cases jE:(pY (wK ks 1)).find? fun y=>decide (x=y.1) with
  | none=>rw[jE]at hn;cases hn
  | some y=>rw[jE]at hn;simp only[Option.map_some,abJ]at hn;omega
theorem CB{c:Int}{lay:kP}{r:RS}{i:Bool}{v:List Int}{t:ae}(h:aT lay t.text=some (r.next:Int)):∃d∈(aU (aC r i v) c r.next t (decide ((aT lay t.text).getD 0≠(r.next:Int)))).ds,d.node=(r.next:Int):=by
 have hd:decide ((aT lay t.text).getD 0≠(r.next:Int))=false:=by rw[h];simp
 rw[hd];exact⟨_,by show _∈r.ds++[_];exact List.mem_append_right _ (List.mem_singleton.2 rfl),rfl⟩
theorem xY{a b:RS}(h:qc a b){u:Int}(hd:∃d∈a.ds,d.node=u):∃d∈b.ds,d.node=u:=by
 obtain⟨l,e⟩:=h.grow;obtain⟨d,h1,h2⟩:=hd;exact⟨d,by rw[e];exact List.mem_append_left _ h1,h2⟩
theorem NF(G:bf):∀(ts:List ae) (i:Bool) (s:aQ) (r:RS),lV ts=true->(ah G i ts 0 ts.length s r).1.next=r.next+aG ts
 | [],_,_,r,_=>by rw[ah];simp[aG]
 | t::ts,i,s,r,h=>by
  rw[lV,abG]at h;rw[abR,ah];try simp only
  rw[NF G ts i _ _ h.2,JF G t i s r h.1,aG];omega
theorem LY(G:bf):∀(fs:List ae),(∀f∈fs,f.kind=4/\lV f.kids=true)->∀(s:aQ) (r:RS),∀y∈fH fs r.next,aT G.fields y.1.text=some (y.2:Int)->∃d∈(ah G false fs 0 fs.length s r).1.ds,d.node=(y.2:Int)
 | [],_,s,r,y,hy,_=>by cases hy
 | f::fs,h,s,r,y,hy,hl=>by
  rw[abR,ah];try simp only
  have hrr:=fe G fs false 0 fs.length (aJ G false f s r).2 (aJ G false f s r).1;obtain⟨h4,hk⟩:=h f (by simp);obtain⟨k,x,a,e,kids⟩:=f;have hk4:k=4:=h4;subst hk4
  have hv:aJ G false (.node 4 x a e kids) s r=ah G false kids 0 kids.length s (aU (aC r false (aj (ak s))) 1 r.next (.node 4 x a e kids) (decide ((aT G.fields x).getD 0≠(r.next:Int)))):=by
   rw[dh,if_neg (by decide),if_pos rfl]
  have hn:(aJ G false (.node 4 x a e kids) s r).1.next=r.next+au (.node 4 x a e kids):=by
   rw[hv,NF G kids false s _ hk,pU];show r.next+1+aG kids=r.next+(1+aG kids);omega
  rw[fH,List.mem_cons]at hy;rcases hy with rfl|hy
  ·refine xY hrr ?_
   rw[hv];exact xY (fe _ _ _ _ _ _ _) (CB (c:=1) (lay:=G.fields) (t:=.node 4 x a e kids) hl)
  ·rw[<- hn]at hy
   exact LY G fs (fun c hc=>h c (by simp[hc])) _ _ y hy hl
theorem TB(G:bf):∀(ks:List ae),(∀k∈ks,uu k=true)->∀(r:RS),
 (∀y∈fH ks r.next,aT G.globals y.1.text=some (y.2:Int)->∃d∈(ah G false ks 0 ks.length [] r).1.ds,d.node=(y.2:Int)) /\
 (∀y∈wK ks r.next,aT G.fields y.1.text=some (y.2:Int)->∃d∈(ah G false ks 0 ks.length [] r).1.ds,d.node=(y.2:Int))
 | [],_,r=>⟨fun y hy=>(by cases hy),fun y hy=>by cases hy⟩
 | k::ks,h,r=>by
  rw[abR,ah];try simp only
  have ht:=h k (by simp);have hs2:(aJ G false k [] r).2=[]:=List.length_eq_zero_iff.1 (by rw[vP];rfl);rw[hs2];have hrr:=fe G ks false 0 ks.length [] (aJ G false k [] r).1;have hnx:(aJ G false k [] r).1.next=r.next+au k:=(TA (xG.refl G) k ht [] r rfl).2.2.1;obtain⟨i1,i2⟩:=TB G ks (fun c hc=>h c (by simp[hc])) (aJ G false k [] r).1;rw[hnx]at i1 i2;rw[fH,wK];refine⟨fun y hy hl=>?_,fun y hy hl=>?_⟩
  ·rcases List.mem_cons.1 hy with rfl|hy
   ·refine xY hrr ?_
    obtain⟨kk,x,a,e,kids⟩:=k;have ht':=ht;rw[uu,Bool.or_eq_true,abG,abG,abG,decide_eq_true_eq,decide_eq_true_eq,decide_eq_true_eq]at ht';rcases ht' with⟨rfl,hf⟩| ⟨⟨rfl,-⟩,hit⟩
    ·rw[dh,if_pos rfl]
     exact xY (fe _ _ _ _ _ _ _) (CB (c:=0) (lay:=G.globals) (t:=.node 3 x a e kids) hl)
    ·rw[dh,if_neg (by decide),if_neg (by decide),if_pos rfl]
     exact xY ((fe G kids false 0 2 [[]] _).trans (fe _ _ _ _ _ _ _)) (CB (c:=2) (lay:=G.globals) (t:=.node 5 x a e kids) hl)
   ·exact i1 y hy hl
  ·rcases List.mem_append.1 hy with hy|hy
   ·refine xY hrr ?_
    obtain⟨kk,x,a,e,kids⟩:=k;have ht':=ht;rw[uu,Bool.or_eq_true,abG,abG,abG,decide_eq_true_eq,decide_eq_true_eq,decide_eq_true_eq]at ht';rcases ht' with⟨rfl,hf⟩| ⟨⟨rfl,-⟩,hit⟩
    ·have FT:∀f∈kids,f.kind=4/\lV f.kids=true:=fun f hfm=>by
      have h3:=List.all_eq_true.1 hf f hfm;rw[abG,decide_eq_true_eq]at h3;exact h3
     rw[dh,if_pos rfl];refine LY G kids FT [] _ y ?_ hl
     have hDn:({ aU (aC r false (aj (ak []))) 0 r.next (.node 3 x a e kids) (decide ((aT G.globals x).getD 0≠(r.next:Int))) with owner:=(r.next:Int) }:RS).next=r.next+1:=by
      show(aU _ _ _ _ _).next=_;rw[pU];rfl
     rw[hDn];exact(List.mem_filter.1 hy).1
    ·exfalso
     obtain⟨hy1,hy2⟩:=List.mem_filter.1 hy;have:y.1∈(fH kids (r.next+1)).map (·.1):=List.mem_map.2 ⟨y,hy1,rfl⟩;rw[Ao]at this;have hk:=R6 hit y.1 this;obtain⟨zt,zn⟩:=y;obtain⟨kz,xz,az,ez,kz'⟩:=zt;have h4:=(BG hk).1.2.2.1;simp only[decide_eq_true_eq]at hy2;exact h4 hy2
   ·exact i2 y hy hl
def jJ(ds:List Dc)(u:Int):Int:=if u< -1 then(match ds.findIdx? fun d=>decide (d.node= -2 - u) with|some j=>(j:Int)|none=> -1) else u
theorem aa9{ds:List Dc}(hn:(ds.map (·.node)).Nodup)(hp:∀d∈ds,0<=d.node){Gn:Int->Prop}(hG:∀u,Gn u->∃d∈ds,d.node=u){u v:Int}(h:CE ds Gn u v):jJ ds v=nV ds u:=by
 rcases h with⟨rfl,rfl⟩| ⟨j,d,hd,rfl,rfl⟩| ⟨h0,rfl,hg⟩
 ·rw[U2 hn hp]
  rfl
 ·rw[Ac hn hd]
  unfold jJ;rw[if_neg (by omega)]
 ·obtain⟨d,hd,he⟩:=hG u hg
  obtain⟨j,hj⟩:=List.mem_iff_getElem?.1 hd;rw[<- he,Ac hn hj];unfold jJ;rw[if_pos (by have:=hp d hd;omega)]
  have hix:(ds.findIdx? fun d'=>decide (d'.node= -2 - (-2 - d.node)))=some j:=by
   rw[List.findIdx?_eq_some_iff_getElem];obtain⟨hjl,NT⟩:=abK.1 hj;refine⟨hjl,by rw[NT];simp;omega,fun i hi=>?_⟩;simp only[decide_eq_true_eq];intro hc;have h1:=Ac hn (abI (show i<ds.length by omega));have h2:=Ac hn hj;rw[show ds[i].node=d.node by omega,h2]at h1;omega
  rw[hix]
theorem sort_at{ds:List Dc}{s:aQ}{sq:List Nat}(h:oZ ds s sq)(hp:ds.Pairwise fun a b=>a.node<b.node)(hn:(ds.map (·.node)).Nodup):(aj (ak s)).map (nV ds)=sq.map fun(i:Nat)=>(i:Int):=by
 have hperm:(ak s).Perm (sq.map fun i=>(qQ ds i).2):=by
  rw[Zb];have:=h.perm.map (·.2);rw[List.map_map]at this;exact this
 have hsorted:(sq.map fun i=>(qQ ds i).2).Pairwise (· < ·):=by
  refine List.pairwise_map.2 (h.inc.imp_of_mem fun {a b} ha hb h1=>?_);have h2:=h.lt a ha;have h3:=h.lt b hb;have hab2:=List.pairwise_iff_getElem.1 hp a b h2 h3 h1;unfold qQ;rw[abI h2,abI h3];exact hab2
 have hs:aj (ak s)=sq.map fun i=>(qQ ds i).2:=by
  unfold aj;have NN:∀a b:Int,(decide (a<=b) || decide (b<=a))=true:=fun a b=>by simp;omega
  have ht:∀a b c:Int,decide (a<=b)=true->decide (b<=c)=true->decide (a<=c)=true:=fun a b c=>by simp;omega
  refine List.Perm.eq_of_pairwise (le:=fun x y=>x<=y) ?_ ?_ ?_ ?_
  ·exact fun a b _ _ h1 h2=>by omega
  ·exact(List.pairwise_mergeSort ht NN _).imp (by simp)
  ·exact hsorted.imp fun h=>by omega
  ·exact(List.mergeSort_perm _ _).trans hperm
 rw[hs,List.map_map];refine List.map_congr_left fun i hi=>?_
 have hlt:=h.lt i hi;show nV ds (qQ ds i).2=_;have hg:=abI hlt;unfold qQ;rw[hg];exact Ac hn hg
theorem ZL{t:ae}(hv:iJ t=true)(mk:Int):
 ∃W:RW,(bQ (il (bY t) 0 (-1) []) mk t (-1) [] ⟨[],List.replicate (au t) (-1),[],0,[]⟩).1=W/\W.ds=(bS t).ds/\W.list=(bS t).aW.map (·.2)/\W.uses.map (jJ W.ds)=(bS t).uses /\
  ∀m:Nat,mk=(m:Int)->m<au t->bG (bS t).aS (m:Int)=if oQ t.kids 1 m=true then some (W.at_.map fun(i:Nat)=>(i:Int)) else none:=by
 obtain⟨h2,ht⟩:=KA hv;unfold iJ at hv;rw[abG]at hv;have hsh:=jW hv.2;obtain⟨k,x,a,e,ks⟩:=t;have hk:k=2:=h2;subst hk;have hst:=OM x a e ks;obtain⟨r0,hr0⟩:∃r0:RS,(⟨[],List.replicate (au (.node 2 x a e ks)) (-1),[],[],1,0⟩:RS)=r0:=⟨_,rfl⟩
 have hr1:r0.next=1:=by rw[<- hr0]
 have hrd:r0.ds=[]:=by rw[<- hr0]
 have yK:r0.aS=[]:=by rw[<- hr0]
 rw[hr0]at hst;have hG:=aa5 (x0:=x) (a:=a) (e:=e) (ks:=ks) ht;obtain⟨GW,hGW⟩:∃GW,il (bY (.node 2 x a e ks)) 0 (-1) []=GW:=⟨_,rfl⟩
 rw[hGW]at hG⊢;obtain⟨q0,hq0⟩:∃q0:RW,(⟨[],List.replicate (au (.node 2 x a e ks)) (-1),[],0,[]⟩:RW)=q0:=⟨_,rfl⟩
 have kJ:lX (GnK ks) r0 (dE mk q0 []):=by
  refine rR ?_ mk [];rw[<- hr0,<- hq0];refine⟨rfl,rfl,rfl,fun i u v hu hv=>?_⟩;have h1:=List.getElem?_replicate (n:=au (.node 2 x a e ks)) (a:=(-1:Int)) (i:=i);rw[h1]at hu hv;split at hu
  ·rename_i hi
   rw[if_pos hi]at hv;cases hu
   cases hv
   exact .inl ⟨rfl,rfl⟩
  ·cases hu
 have hw:(bQ GW mk (.node 2 x a e ks) (-1) [] q0).1=(dQ GW mk 2 [] ks 0 (-1) [] (dE mk q0 [])).1:=by
  rw[bQ];rfl
 obtain⟨T1,T2,T3⟩:=Tz (mk:=mk) hG [] ks (fun k hk=>⟨hsh k hk,ht k hk⟩) 0 r0 (dE mk q0 []) (-1) (by omega) (by rw[qx,<- hq0,hr1]) kJ;rw[hq0,hw];have hhas:=TB (sM ks) ks ht r0;obtain⟨R,hR⟩:∃R,ah (sM ks) false ks 0 ks.length [] r0=R:=⟨_,rfl⟩
 have JL:qc r0 R.1:=by rw[<- hR];exact fe _ _ _ _ _ _ _
 rw[hR]at hst T1 T2 T3 hhas;obtain⟨W,hW⟩:∃W,(dQ GW mk 2 [] ks 0 (-1) [] (dE mk q0 [])).1=W:=⟨_,rfl⟩
 rw[hW]at T1 T3⊢
 have hres:bS (.node 2 x a e ks)= { R.1 with uses:=R.1.uses.map (nV R.1.ds),aS:=R.1.aS.map fun x=>(x.1,x.2.map (nV R.1.ds)) }:=by
  unfold bS;rw[hst]
 obtain⟨hnd,hpos⟩:=XR JL hrd
 have hpw:R.1.ds.Pairwise fun a b=>a.node<b.node:=by
  obtain⟨l,e1,h1,-⟩:=JL.ds;rw[e1,hrd];exact h1
 have hGn:∀u,GnK ks u->∃d∈R.1.ds,d.node=u:=fun u hu=>by
  obtain⟨y,h|h⟩:=hu
  ·have h':=h
   rw[Uk,El]at h'
   cases jE:(fH ks 1).find? fun z=>decide (y=z.1.text) with
   | none=>rw[jE]at h';cases h'
   | some z=>
    rw[jE]at h';simp only[Option.map_some,abJ]at h';have hz:=List.mem_of_find?_eq_some jE;have hp:=List.find?_some jE;simp only[decide_eq_true_eq]at hp;rw[hr1]at hhas;rw[<- h'];exact hhas.1 z hz (by rw[<- hp,h,h'])
  ·have h':=h
   rw[G9,El]at h'
   cases jE:(wK ks 1).find? fun z=>decide (y=z.1.text) with
   | none=>rw[jE]at h';cases h'
   | some z=>
    rw[jE]at h';simp only[Option.map_some,abJ]at h';have hz:=List.mem_of_find?_eq_some jE;have hp:=List.find?_some jE;simp only[decide_eq_true_eq]at hp;rw[hr1]at hhas;rw[<- h'];exact hhas.2 z hz (by rw[<- hp,h,h'])
 have hpos':∀d∈R.1.ds,0<=d.node:=fun d hd=>by have:=hpos d hd;omega
 refine⟨W,rfl,by rw[hres];exact T1.qp.ds,by rw[hres];exact T1.qp.list,?_,fun m hm hmc=>?_⟩
 ·rw[hres,T1.qp.ds]
  show W.uses.map (jJ R.1.ds)=R.1.uses.map (nV R.1.ds);refine List.ext_getElem? fun i=>?_
  rw[List.getElem?_map,List.getElem?_map];by_cases hi:i<R.1.uses.length
  ·have hi2:i<W.uses.length:=by rw[T1.qp.qX];exact hi
   rw[abI hi,abI hi2];show some _=some _;rw[aa9 hnd hpos' hGn (T1.qp.uses i _ _ (abI hi) (abI hi2))]
  ·have hi2:¬i<W.uses.length:=by rw[T1.qp.qX];exact hi
   rw[List.getElem?_eq_none (Nat.le_of_not_lt hi),List.getElem?_eq_none (Nat.le_of_not_lt hi2)];rfl
 ·rw[hres]
  show bG (R.1.aS.map fun x=>(x.1,x.2.map (nV R.1.ds))) (m:Int)=if oQ ks 1 m=true then _ else _
  rw[Lf (fun l:List Int=>l.map (nV R.1.ds))];by_cases h0:m=0
  ·subst h0
   have hb:oQ ks 1 0=false:=by
    clear T3 T2 T1 hhas hst hG hGW hW hw hR hres hGn kJ hsh ht hv hmc;suffices h:∀(l:List ae) (n:Nat),1<=n->oQ l n 0=false by exact h ks 1 (abE _)
    intro l
    induction l with
    | nil=>intro n _;rfl
    | cons k l ih=>
     intro n hn;rw[oQ,if_pos (by omega)];obtain⟨kk,xx,aa,ee,kids⟩:=k;show(decide (kk=5)&&match kids with| [b,c,_]=>decide (n+1+au b+au c<=0)|_=>false)=false;rw[Bool.and_eq_false_iff];right
     split
     ·simp
     ·rfl
   rw[hb,if_neg (by simp),JL.aS 0 (.inl (by omega)),yK];rfl
  ·have hlt:m<R.1.next:=by
    rw[T2,hr1];have:au (.node 2 x a e ks)=1+aG ks:=rfl;omega
   have:=T3 m (by omega) hlt;rw[hr1]at this;by_cases hb:oQ ks 1 m=true
   ·rw[if_pos hb]at this⊢
    obtain⟨s',sq',c1,c2,c3⟩:=this;rw[c1,c3 hm];exact congrArg some (sort_at c2 hpw hnd)
   ·rw[if_neg hb]at this⊢
    rw[this,yK];rfl
open Go.RowKit
def uS(l:List Dc)(f:Bool)(x:ByteArray):Int:=match oP l f x with|some k=>(k:Int)|none=> -1
def xU(ds:List Dc)(s:List Nat)(x:ByteArray):Int:=match oN ds s x with|some k=>(k:Int)|none=> -1
theorem Em{α:Type}(p:α->Bool):∀(l:List α) (k:Nat) (d:α),(∀j e,j<k->l[j]? =some e->p e=false)->l[k]? =some d->p d=true->l.findIdx? p=some k
 | [],k,d,_,h,_=>by simp at h
 | a::l,0,d,_,h,hp=>by
  simp at h;subst h;rw[List.findIdx?_cons,hp];rfl
 | a::l,k+1,d,hno,h,hp=>by
  rw[List.findIdx?_cons,hno 0 a (Nat.succ_pos _) rfl,Em p l k d (fun j e hj he=>hno (j+1) e (by omega) (by simpa using he)) (by simpa using h) hp];rfl
theorem LU{α:Type}(p:α->Bool)(l:List α)(h:∀j e,j<l.length->l[j]? =some e->p e=false):l.findIdx? p=none:=by
 rw[List.findIdx?_eq_none_iff];intro x hx;obtain⟨j,hj,he⟩:=List.mem_iff_getElem.1 hx;exact h j x hj (by rw[abI hj,he])
theorem Um{α:Type}(p:α->Bool):∀(l:List α) (k:Nat) (d:α),(∀j e,j<k->l[j]? =some e->p e=false)->l[k]? =some d->p d=true->l.find? p=some d
 | [],k,d,_,h,_=>by simp at h
 | a::l,0,d,_,h,hp=>by
  simp at h;subst h;rw[List.find?_cons,hp]
 | a::l,k+1,d,hno,h,hp=>by
  rw[List.find?_cons,hno 0 a (Nat.succ_pos _) rfl,Um p l k d (fun j e hj he=>hno (j+1) e (by omega) (by simpa using he)) (by simpa using h) hp]
theorem find_no{α:Type}(p:α->Bool)(l:List α)(h:∀j e,j<l.length->l[j]? =some e->p e=false):l.find? p=none:=by
 rw[List.find?_eq_none];intro x hx;obtain⟨j,hj,he⟩:=List.mem_iff_getElem.1 hx;simp[h j x hj (by rw[abI hj,he])]
theorem J4{x y:ByteArray}(h:¬x=y):(x.toList==y.toList)=false:=by
 rw[beq_eq_false_iff_ne];exact fun e=>h (mE (by rw[<- ByteArray.toList_eq,<- ByteArray.toList_eq,e]))
theorem BA(A:Option Addr)(n c:Nat)(l:List Dc)(f:Bool)(x:ByteArray)(w:World)(h:bN 4 cB w w.heap.size A l)(hl:l.length=n)(hn:n<=1000000):
 Calls Tryz.prog 155 #[.slice A n c,.bool f,.string x] w fun e w'=>e= .returned (.int .i64 (uS l f x))/\Below w.heap.size w w':=by
 have H:=kH h;have HL:=kH hl;clear h hl;go_enter Tryz.func155,Tryz.ntmps155
 go_wp2_with fail
 go_loopg [7] n (fun gk s wr=> ∃k:Nat,k+gk=n/\s= .int .i64 (k:Int)/\Below w.heap.size w wr/\∀j d,j<k->l[j]? =some d->pD f x d=false)
 case atStart=>exact⟨0,by omega,rfl,Below.refl _ _,fun j d hj=>by omega⟩
 case round=>
  obtain⟨k,hk,rfl,hB,ht⟩:=hrel;have hk':k<=n:=by omega
  have HK:=kH hk;have HT:=kH ht;clear hk ht;by_cases hlt:k<n
  ·obtain⟨d,hd⟩:∃d,l[k]? =some d:=⟨_,abI (by rw[HL.out];exact hlt)⟩
   obtain⟨b,o,hA,hb,hc⟩:=(H.out.below hB (abE _)) k _ hd;subst hA;obtain⟨kd,hkd⟩:∃q,d.kind=q:=⟨_,rfl⟩
   obtain⟨nm,hnm⟩:∃q,d.name=q:=⟨_,rfl⟩
   have d0:wr.cell? ⟨b,o+k*4,none⟩=some (.int .i64 kd):=by rw[<- hkd];simpa using hc 0 _ rfl
   have d1:wr.cell? ⟨b,o+k*4+1,none⟩=some (.string nm):=by rw[<- hnm];exact hc 1 _ rfl
   have QU:pD f x d=((decide (kd=1)==f)&&decide (nm=x)):=by unfold pD;rw[hkd,hnm]
   have HD:=kH hd;have Ms:=kH QU;have hki:(k:Int)<(n:Int):=by omega
   have hnext:pD f x d=false->∀j e,j<k+1->l[j]? =some e->pD f x e=false:=fun hf j e hj he=>by
    by_cases hjk:j=k
    ·subst hjk
     rw[HD.out]at he;cases he
     exact hf
    ·exact HT.out j e (by omega) he
   have zO:=kH hnext
   have YE:pD f x d=true->uS l f x=(k:Int):=fun hp=>by
    unfold uS;rw[show oP l f x=some k from Em _ l k d HT.out HD.out hp]
   have HF:=kH YE;clear hc hd QU hkd hnm hnext YE;have hfm:(decide (kd=1)==f)=true\/(decide (kd=1)==f)=false:=by cases (decide (kd=1)==f)<;>simp
   by_cases hm:kd=1
   ·subst hm
    cases f with
    | true=>
     by_cases hx:nm=x
     ·subst hx
      have hres:=HF.out (by rw[Ms.out];simp);have aM:=kH hres;clear hres hfm;go_wp2_with fail
      go_ret
      rw[aM.out];exact⟨rfl,by(repeat (first|exact Below.refl _ _|assumption|refine Below.trans ?_ (Below.mono (by assumption) (by first|omega|(simp;done)|(simp;omega)))|refine Below.alloc ?_ (by first|omega|(simp;done)|(simp;omega)) _|refine Below.setCell ?_ (by first|omega|(simp;done)|(simp;omega)) _|refine Below.drew ?_|refine aR ?_ _))⟩
     ·have TR:=J4 hx
      have hres:=zO.out (by rw[Ms.out,decide_eq_false hx];simp);have aM:=kH hres;clear hres hfm;go_wp2_with fail
      go_roundg (gk - 1)
      case measure=>have:=HK.out;omega
      case rel=>exact⟨k+1,by have:=HK.out;omega,by go_num,by(repeat (first|exact Below.refl _ _|assumption|refine Below.trans ?_ (Below.mono (by assumption) (by first|omega|(simp;done)|(simp;omega)))|refine Below.alloc ?_ (by first|omega|(simp;done)|(simp;omega)) _|refine Below.setCell ?_ (by first|omega|(simp;done)|(simp;omega)) _|refine Below.drew ?_|refine aR ?_ _)),aM.out⟩
    | false=>
     have hres:=zO.out (by rw[Ms.out];simp);have aM:=kH hres;clear hres hfm;go_wp2_with fail
     go_roundg (gk - 1)
     case measure=>have:=HK.out;omega
     case rel=>exact⟨k+1,by have:=HK.out;omega,by go_num,by(repeat (first|exact Below.refl _ _|assumption|refine Below.trans ?_ (Below.mono (by assumption) (by first|omega|(simp;done)|(simp;omega)))|refine Below.alloc ?_ (by first|omega|(simp;done)|(simp;omega)) _|refine Below.setCell ?_ (by first|omega|(simp;done)|(simp;omega)) _|refine Below.drew ?_|refine aR ?_ _)),aM.out⟩
   ·have hmb:(kd==1)=false:=by simpa using hm
    cases f with
    | false=>
     by_cases hx:nm=x
     ·subst hx
      have hres:=HF.out (by rw[Ms.out,decide_eq_false hm];simp);have aM:=kH hres;clear hres hfm;go_wp2_with fail
      go_ret
      rw[aM.out];exact⟨rfl,by(repeat (first|exact Below.refl _ _|assumption|refine Below.trans ?_ (Below.mono (by assumption) (by first|omega|(simp;done)|(simp;omega)))|refine Below.alloc ?_ (by first|omega|(simp;done)|(simp;omega)) _|refine Below.setCell ?_ (by first|omega|(simp;done)|(simp;omega)) _|refine Below.drew ?_|refine aR ?_ _))⟩
     ·have TR:=J4 hx
      have hres:=zO.out (by rw[Ms.out,decide_eq_false hx];simp);have aM:=kH hres;clear hres hfm;go_wp2_with fail
      go_roundg (gk - 1)
      case measure=>have:=HK.out;omega
      case rel=>exact⟨k+1,by have:=HK.out;omega,by go_num,by(repeat (first|exact Below.refl _ _|assumption|refine Below.trans ?_ (Below.mono (by assumption) (by first|omega|(simp;done)|(simp;omega)))|refine Below.alloc ?_ (by first|omega|(simp;done)|(simp;omega)) _|refine Below.setCell ?_ (by first|omega|(simp;done)|(simp;omega)) _|refine Below.drew ?_|refine aR ?_ _)),aM.out⟩
    | true=>
     have hres:=zO.out (by rw[Ms.out,decide_eq_false hm];simp);have aM:=kH hres;clear hres hfm;go_wp2_with fail
     go_roundg (gk - 1)
     case measure=>have:=HK.out;omega
     case rel=>exact⟨k+1,by have:=HK.out;omega,by go_num,by(repeat (first|exact Below.refl _ _|assumption|refine Below.trans ?_ (Below.mono (by assumption) (by first|omega|(simp;done)|(simp;omega)))|refine Below.alloc ?_ (by first|omega|(simp;done)|(simp;omega)) _|refine Below.setCell ?_ (by first|omega|(simp;done)|(simp;omega)) _|refine Below.drew ?_|refine aR ?_ _)),aM.out⟩
  ·have hres:uS l f x= -1:=by
    unfold uS;rw[show oP l f x=none from LU _ l (fun j e hj he=>HT.out j e (by rw[HL.out]at hj;omega) he)]
   have aM:=kH hres;clear hres;go_wp2_with fail
   go_ret
   rw[aM.out];exact⟨rfl,by(repeat (first|exact Below.refl _ _|assumption|refine Below.trans ?_ (Below.mono (by assumption) (by first|omega|(simp;done)|(simp;omega)))|refine Below.alloc ?_ (by first|omega|(simp;done)|(simp;omega)) _|refine Below.setCell ?_ (by first|omega|(simp;done)|(simp;omega)) _|refine Below.drew ?_|refine aR ?_ _))⟩
theorem Ht(E:RE)(G:List Dc)(mk:Int)(q:RW)(V:RQ)(w:World)(h:dL E G mk q V w)(ub:Option Nat)(A:Option Addr)(n c:Nat)(s:List Nat)(hs:gK w ub A s)(hsn:s.length=n)(hlt:∀i∈s,i<q.ds.length)(x:ByteArray)(hn:n<=1000000):
 Calls Tryz.prog 157 #[.pointer (some ⟨E.rp,0,none⟩),.slice A n c,.string x] w fun e w'=>e= .returned (.int .i64 (xU q.ds s x))/\Below w.heap.size w w':=by
 have hrow:=hs.rowAt;have WC:=h.ds.rowAt (cells:=cB) (l:=q.ds) rfl rfl (fun _ _=>rfl) rfl;obtain⟨ds,hds⟩:∃z,q.ds=z:=⟨_,rfl⟩
 have hblk:=h.blk;rw[hds]at hlt WC hblk⊢;obtain⟨nd,hnd⟩:∃z,ds.length=z:=⟨_,rfl⟩
 rw[hnd]at hblk hlt;have H:=kH hrow;have HD:=kH WC;have vX:=kH hblk;have Gw:=kH hlt;have mF:=kH hsn;have lC:=kH hnd;clear h hs hrow WC hblk hlt hsn hds hnd;go_enter Tryz.func157,Tryz.ntmps157
 go_wp2_with fail
 go_loopg [7] n (fun gk sl wr=> ∃k:Nat,k+gk=n/\sl= .int .i64 (k:Int)/\Below w.heap.size w wr/\∀j i,j<k->s[j]? =some i->decide ((ds[i]?).map Dc.name=some x)=false)
 case atStart=>exact⟨0,by omega,rfl,Below.refl _ _,fun j d hj=>by omega⟩
 case round=>
  obtain⟨k,hk,rfl,hB,ht⟩:=hrel;have hk':k<=n:=by omega
  have HK:=kH hk;have HT:=kH ht;clear hk ht;by_cases hlt:k<n
  ·obtain⟨i,hi⟩:∃d,s[k]? =some d:=⟨_,abI (by rw[mF.out];exact hlt)⟩
   have hin:i<nd:=Gw.out i (abQ hi);obtain⟨d,hd'⟩:∃d,ds[i]? =some d:=⟨_,abI (by rw[lC.out];exact hin)⟩
   obtain⟨b,o,hA,hb,hc⟩:=(H.out.below hB (abE _)) k _ hi;subst hA;obtain⟨b2,o2,hA2,hb2,hc2⟩:=(HD.out.below hB (abE _)) i _ hd';have hblk:=vX.out.below hB vX.out.lt;rw[hA2]at hblk;obtain⟨nm,hnm⟩:∃q,d.name=q:=⟨_,rfl⟩
   have r0:wr.cell? ⟨E.rp,0,none⟩=some (.slice (some ⟨b2,o2,none⟩) nd V.dc):=hblk.cell 0;have lr:=hblk.lt;have d0:wr.cell? ⟨b,o+k,none⟩=some (.int .i64 (i:Int)):=by simpa using hc 0 _ rfl
   have d1:wr.cell? ⟨b2,o2+i*4+1,none⟩=some (.string nm):=by rw[<- hnm];exact hc2 1 _ rfl
   have QU:decide ((ds[i]?).map Dc.name=some x)=decide (nm=x):=by
    rw[hd',<- hnm];simp
   have HI:=kH hi;have Ms:=kH QU;have hki:(k:Int)<(n:Int):=by omega
   have hii:(i:Int)<(nd:Int):=by omega
   have hi0:¬((i:Int)<0):=by omega
   clear hc hc2 hd' QU hnm hblk hi hb hb2;by_cases hx:nm=x
   ·subst hx
    have hres:xU ds s nm=(i:Int):=by
     unfold xU;rw[show oN ds s nm=some i from Um _ s k i HT.out HI.out (by rw[Ms.out];simp)]
    have aM:=kH hres;clear hres;go_wp2_with fail
    go_quiet (fail)
    go_wp2_with fail
    go_ret
    rw[aM.out];exact⟨rfl,by(repeat (first|exact Below.refl _ _|assumption|refine Below.trans ?_ (Below.mono (by assumption) (by first|omega|(simp;done)|(simp;omega)))|refine Below.alloc ?_ (by first|omega|(simp;done)|(simp;omega)) _|refine Below.setCell ?_ (by first|omega|(simp;done)|(simp;omega)) _|refine Below.drew ?_|refine aR ?_ _))⟩
   ·have TR:=J4 hx
    have hres:∀j i,j<k+1->s[j]? =some i->decide ((ds[i]?).map Dc.name=some x)=false:=fun j e hj he=>by
     by_cases hjk:j=k
     ·subst hjk
      rw[HI.out]at he;cases he
      rw[Ms.out];exact decide_eq_false hx
     ·exact HT.out j e (by omega) he
    have aM:=kH hres;clear hres hx;go_wp2_with fail
    go_quiet (fail)
    go_wp2_with fail
    go_roundg (gk - 1)
    case measure=>have:=HK.out;omega
    case rel=>exact⟨k+1,by have:=HK.out;omega,by go_num,by(repeat (first|exact Below.refl _ _|assumption|refine Below.trans ?_ (Below.mono (by assumption) (by first|omega|(simp;done)|(simp;omega)))|refine Below.alloc ?_ (by first|omega|(simp;done)|(simp;omega)) _|refine Below.setCell ?_ (by first|omega|(simp;done)|(simp;omega)) _|refine Below.drew ?_|refine aR ?_ _)),aM.out⟩
  ·have hres:xU ds s x= -1:=by
    unfold xU;rw[show oN ds s x=none from find_no _ s (fun j e hj he=>HT.out j e (by rw[mF.out]at hj;omega) he)]
   have aM:=kH hres;clear hres;go_wp2_with fail
   go_ret
   rw[aM.out];exact⟨rfl,by(repeat (first|exact Below.refl _ _|assumption|refine Below.trans ?_ (Below.mono (by assumption) (by first|omega|(simp;done)|(simp;omega)))|refine Below.alloc ?_ (by first|omega|(simp;done)|(simp;omega)) _|refine Below.setCell ?_ (by first|omega|(simp;done)|(simp;omega)) _|refine Below.drew ?_|refine aR ?_ _))⟩
end Go.Proofs.YtoepemlnlpamlaaGreat
