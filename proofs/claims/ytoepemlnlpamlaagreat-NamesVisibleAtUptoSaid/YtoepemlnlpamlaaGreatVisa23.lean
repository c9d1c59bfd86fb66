/- The law NamesVisibleAt holds where what it reads is of bulk at most 1048576: it returns true, and its arguments read as before. Part 23: Wlk1 Shelf Sort NamW Nam1. -/
import Derived.Shelf.Sort.Plain
import Derived.Shelf.Slices.In.SortNone
import Derived.Test.YtoepemlnlpamlaaGreatProg
import Derived.Deep.QuietTactic
import Derived.Test.YtoepemlnlpamlaaGreatVisa01
import Derived.Test.YtoepemlnlpamlaaGreatVisa16
import Derived.Test.YtoepemlnlpamlaaGreatVisa22
set_option maxRecDepth 100000
set_option maxHeartbeats 4000000
namespace Go.Proofs.YtoepemlnlpamlaaGreat
structure RW where
 ds:List Dc
 uses:List Int
 list:List Dg
 num:Nat
 at_:List Nat
def pI(l:List Dc)(f:Bool)(x:ByteArray):Option Nat:=l.findIdx? fun d=>(decide (d.kind=1)==f)&&decide (d.name=x)
def yP(out:List Dc)(d:Dc):List Dc:=if (pI out (decide (d.kind=1)) d.name).isSome then out else out++[d]
def iy:List ae->Nat->Int->List Dc->List Dc
 | [],_,_,out=>out
 | t::ts,i,o,out=>iy ts (i+1) (if t.kind=3 then(i:Int) else o)
  (if t.kind=3 then yP out ⟨0,t.text,i,-1⟩ else if t.kind=5 then yP out ⟨2,t.text,i,-1⟩ else if t.kind=4 then yP out ⟨1,t.text,i,o⟩ else out)
def tF(r:RW)(c:Int)(t:ae):RW:={ r with list:=r.list++[⟨c,t.at_,t.end_,t.text⟩] }
def tQ(r:RW)(c:Int)(t:ae)(o:Int):RW:={ r with ds:=r.ds++[⟨c,t.text,r.num,o⟩],uses:=r.uses.set r.num (r.ds.length:Int) }
def pF(ds:List Dc)(s:List Nat)(x:ByteArray):Option Nat:=s.find? fun i=>decide ((ds[i]?).map Dc.name=some x)
def fQ(G:List Dc)(r:RW)(s:List Nat)(t:ae)(c o:Int):RW×List Nat:=if (pF r.ds s t.text).isSome || (pI G false t.text).isSome then(tF r 9 t,s) else(tQ r c t o,s++[r.ds.length])
def nN(G:List Dc)(f:Bool)(x:ByteArray):Option Dc:=(pI G f x).bind fun k=>G[k]?
def fJ(G:List Dc)(r:RW)(t:ae)(c o:Int):RW:=if (nN G (decide (c=1)) t.text).map Dc.node=some (r.num:Int) then tQ r c t o else tF r 9 t
def sS(r:RW)(t:ae)(o:Option Int):RW:=match o with|none=>tF r 8 t|some n=> { r with uses:=r.uses.set r.num (-2 - n) }
def gz(G:List Dc)(a b:Int)(x:ByteArray):Option Int:=(nN G (decide (a=1)) x).bind fun d=>if d.kind=a\/d.kind=b then some d.node else none
def y5(r:RW)(s:List Nat)(t:ae):RW:=match pF r.ds s t.text with|some k=> { r with uses:=r.uses.set r.num (k:Int) } |none=>tF r 8 t
def nM(G:List Dc)(r:RW)(s:List Nat)(t:ae)(o:Int):RW:=
 if t.kind=3 then fJ G r t 0 (-1)
 else if t.kind=4 then fJ G r t 1 o
 else if t.kind=5 then fJ G r t 2 (-1)
 else if t.kind=20 then y5 r s t
 else if t.kind=22 then sS r t (gz G 1 1 t.text)
 else if t.kind=27 then sS r t (gz G 0 2 t.text)
 else if t.kind=19 then sS r t (gz G 2 2 t.text)
 else if t.kind=9/\dM t.text=false then sS r t (gz G 0 0 t.text)
 else if t.kind=7\/t.kind=8 then(fQ G r s t 3 o).1
 else if t.kind=12 then(fQ G r s t 4 o).1
 else if t.kind=16 then(fQ G r s t 5 o).1
 else r
def uf(G:List Dc)(r:RW)(s:List Nat)(t:ae):List Nat:=if t.kind=7\/t.kind=8\/t.kind=12\/t.kind=16 then(fQ G r s t 0 0).2 else s
def dI(mk:Int)(r:RW)(s:List Nat):RW:=if (r.num:Int)=mk then { r with at_:=s } else r
mutual
def bR(G:List Dc)(mk:Int):ae->Int->List Nat->RW->RW×List Nat
 | .node k x a e kids,o,s,r0=>
  let q:=dW G mk k (uf G (dI mk r0 s) s (.node k x a e kids)) kids 0 (if k=3\/k=5 then(r0.num:Int) else o) s (nM G (dI mk r0 s) s (.node k x a e kids) o)
  (q.1,if k=6 then q.2 else if k=7\/k=8\/k=12 then uf G (dI mk r0 s) s (.node k x a e kids) else s)
def dW(G:List Dc)(mk k:Int)(after:List Nat):List ae->Nat->Int->List Nat->RW->RW×List Nat
 | [],_,_,s,r=>(r,s)
 | t::ts,i,o,s,r=>
  let q:=bR G mk t o (if k=16/\i=2 then after else s) { r with num:=r.num+1 }
  dW G mk k after ts (i+1) o (if k=5\/k=6\/k=11 then q.2 else if k=16/\i=2 then after else s) q.1
end
def rD(ds:List Dc)(i:Nat):ByteArray×Int:=match ds[i]? with|some d=>(d.name,d.node)|none=>(⟨#[]⟩,0)
structure pQ (ds:List Dc) (s:aS) (sq:List Nat):Prop where
 perm:s.flatten.Perm (sq.map (rD ds))
 lt:∀i∈sq,i<ds.length
 inc:sq.Pairwise (· < ·)
 nodup:(s.flatten.map (·.1)).Nodup
theorem Ro(ds l:List Dc){i:Nat}(h:i<ds.length):rD (ds++l) i=rD ds i:=by
 unfold rD;rw[List.getElem?_append_left h]
theorem pQ.mono{ds:List Dc}{s:aS}{sq:List Nat}(h:pQ ds s sq){ds':List Dc}(B:∃l,ds'=ds++l):pQ ds' s sq:=by
 obtain⟨l,rfl⟩:=B;refine⟨?_,fun i A=>by have:=h.lt i A;simp;omega,h.inc,h.nodup⟩;have:sq.map (rD (ds++l))=sq.map (rD ds):=List.map_congr_left fun i A=>Ro ds l (h.lt i A)
 rw[this];exact h.perm
theorem pQ.push{ds:List Dc}{s:aS}{sq:List Nat}(h:pQ ds s sq):pQ ds ([]::s) sq:=⟨by simpa using h.perm,h.lt,h.inc,by simpa using h.nodup⟩
theorem pQ.nil(ds:List Dc):pQ ds [[]] []:=⟨by simp,by simp,List.Pairwise.nil,by simp⟩
theorem Mo{ds:List Dc}{s:aS}{sq:List Nat}(h:pQ ds s sq)(x:ByteArray):fe s x=(pF ds sq x).bind fun i=>(ds[i]?).map Dc.node:=by
 cases B:pF ds sq x with
 | some i=>
  have D:=List.mem_of_find?_eq_some B;have F:=List.find?_some B;have C:=h.lt i D;simp only[decide_eq_true_eq]at F;obtain⟨d,A⟩:∃d,ds[i]? =some d:=⟨_,aaf C⟩
  rw[A]at F;simp only[Option.map_some,aag]at F;show fe s x=(ds[i]?).map Dc.node;rw[A];refine G6 h.nodup ((h.perm.mem_iff).2 (List.mem_map.2 ⟨i,D,?_⟩));unfold rD;rw[A,<- F]
 | none=>
  show fe s x=none
  cases I:fe s x with
  | none=>rfl
  | some n=>
   have D:=(h.perm.mem_iff).1 (G7 I);obtain⟨i,C,G⟩:=List.mem_map.1 D;have H:=h.lt i C;obtain⟨d,A⟩:∃d,ds[i]? =some d:=⟨_,aaf H⟩
   unfold rD at G;rw[A]at G;unfold pF at B;rw[List.find?_eq_none]at B;have:=B i C;rw[A]at this;simp only[Option.map_some,aag,decide_eq_true_eq]at this;exact absurd (congrArg (·.1) G) this
theorem NN{ds:List Dc}{s:aS}{sq:List Nat}(h:pQ ds s sq)(x:ByteArray):(fe s x).isSome=(pF ds sq x).isSome:=by
 rw[Mo h x]
 cases B:pF ds sq x with
 | none=>rfl
 | some i=>
  have A:=h.lt i (List.mem_of_find?_eq_some B);show((ds[i]?).map Dc.node).isSome=true;rw[aaf A];rfl
def Dz(ds:List Dc)(Gn:Int->Prop)(u v:Int):Prop:=(u= -1/\v= -1)\/(∃(j:Nat) (d:Dc),ds[j]? =some d/\d.node=u/\v=(j:Int))\/(0<=u/\v= -2 - u/\Gn u)
theorem Dz.mono{ds:List Dc}{Gn:Int->Prop}{u v:Int}(h:Dz ds Gn u v)(l:List Dc):Dz (ds++l) Gn u v:=by
 rcases h with h| ⟨j,d,A,B,C⟩|h
 ·exact .inl h
 ·exact .inr (.inl ⟨j,d,by rw[List.getElem?_append_left (aah.1 A).1];exact A,B,C⟩)
 ·exact .inr (.inr h)
structure mI (Gn:Int->Prop) (r:RS) (q:RW):Prop where
 ds:q.ds=r.ds
 list:q.list=r.aY.map (·.2)
 sU:q.uses.length=r.uses.length
 uses:∀(i:Nat) (u v:Int),r.uses[i]? =some u->q.uses[i]? =some v->Dz r.ds Gn u v
theorem mI.of_same{Gn:Int->Prop}{r r':RS}{q A:RW}(h:mI Gn r q)(B:r'.ds=r.ds)(F:r'.aY=r.aY)(C:r'.uses=r.uses)(G:A.ds=q.ds)(H:A.list=q.list)(D:A.uses=q.uses):mI Gn r' A:=
 ⟨by rw[G,B,h.ds],by rw[H,F,h.list],by rw[D,C,h.sU],by rw[D,C,B];exact h.uses⟩
theorem UW{ds:List Dc}{Gn:Int->Prop}{a b:List Int}(G:b.length=a.length)(h:∀(i:Nat) (u v:Int),a[i]? =some u->b[i]? =some v->Dz ds Gn u v)(n:Nat){x y:Int}(F:Dz ds Gn x y):
 ∀(i:Nat) (u v:Int),(a.set n x)[i]? =some u->(b.set n y)[i]? =some v->Dz ds Gn u v:=by
 intro i u v A B;rw[List.getElem?_set]at A B;by_cases D:n=i
 ·rw[if_pos D]at A B
  by_cases C:n<a.length
  ·rw[if_pos C]at A
   rw[if_pos (by omega)]at B;cases A
   cases B
   exact F
  ·rw[if_neg C]at A
   cases A
 ·rw[if_neg D]at A B
  exact h i u v A B
theorem mI.say{Gn:Int->Prop}{r:RS}{q:RW}(h:mI Gn r q)(c:Int)(n:Nat)(t:ae):mI Gn (qF r c n t) (tF q c t):=
 ⟨h.ds,by show q.list++_=(r.aY++_).map _;rw[h.list,List.map_append];rfl,h.sU,h.uses⟩
theorem mI.decl{Gn:Int->Prop}{r:RS}{q:RW}(h:mI Gn r q)(c:Int){n:Nat}(t:ae){o:Int}(B:q.num=n)(C:(if c=0\/c=2 then -1 else r.owner)=o):mI Gn (lM r c n t) (tQ q c t o):=by
 have A:(tQ q c t o).ds=(lM r c n t).ds:=by
  unfold tQ lM;simp only;rw[h.ds,B,C]
 refine⟨A,h.list,by show(q.uses.set _ _).length=(r.uses.set _ _).length;rw[List.length_set,List.length_set,h.sU],?_⟩;show ∀(i:Nat) (u v:Int),(r.uses.set n (n:Int))[i]? =some u->(q.uses.set q.num (q.ds.length:Int))[i]? =some v->Dz (r.ds++_) Gn u v;rw[B];refine UW h.sU (fun i u v D F=>(h.uses i u v D F).mono _) n (.inr (.inl ⟨r.ds.length,_,by rw[aal (aab _),Nat.sub_self];rfl,rfl,by rw[h.ds]⟩))
theorem mI.gu{Gn:Int->Prop}{r:RS}{q:RW}(h:mI Gn r q){n:Nat}(B:q.num=n){k v:Int}(A:Dz r.ds Gn k v):mI Gn { r with uses:=r.uses.set n k } { q with uses:=q.uses.set q.num v }:=
 ⟨h.ds,h.list,by simp[h.sU],by rw[B];exact UW h.sU h.uses n A⟩
structure yS (G:bC) (GW:List Dc) (Gn:Int->Prop):Prop where
 gl:∀x,gz GW 0 2 x=aU G.globals x
 fl:∀x,gz GW 1 1 x=aU G.fields x
 pr:∀x,gz GW 2 2 x=(aU G.globals x).filter fun j=>decide (jM G j=5)
 rc:∀x,gz GW 0 0 x=(aU G.globals x).filter fun j=>decide (jM G j=3)
 non:∀x,(pI GW false x).isSome=(aU G.globals x).isSome
 nodeg:∀x,(nN GW false x).map Dc.node=aU G.globals x
 nodef:∀x,(nN GW true x).map Dc.node=aU G.fields x
 posg:∀x n,aU G.globals x=some n->0<=n/\Gn n
 posf:∀x n,aU G.fields x=some n->0<=n/\Gn n
structure mD (mk:Int) (i:Bool) (r u:RS) (q v:RW):Prop where
 out:(∀m:Nat,mk=(m:Int)->¬(r.next<=m/\m<u.next))->v.at_=q.at_
 D7:i=true->∀m:Nat,r.next<=m->m<u.next->∃s' sq',bE u.aR (m:Int)=some (ak (ay s'))/\pQ u.ds s' sq'/\(mk=(m:Int)->v.at_=sq')
theorem qB.grow{a b:RS}(h:qB a b):∃l,b.ds=a.ds++l:=by
 obtain⟨l,e,-⟩:=h.ds;exact⟨l,e⟩
theorem mD.refl(mk:Int)(i:Bool){r u:RS}{q v:RW}(D:u.next=r.next)(A:v.at_=q.at_):mD mk i r u q v:=⟨fun _=>A,fun _ m B C=>by omega⟩
theorem mD.trans{mk:Int}{i:Bool}{r u w:RS}{q v z:RW}(h:mD mk i r u q v)(k:mD mk i u w v z)(P:qB r u)(F:qB u w):mD mk i r w q z:=by
 have Q:=P.next;have R:=F.next;refine⟨fun I=>?_,fun H m C D=>?_⟩
 ·rw[k.out fun m e B=>I m e ⟨by omega,B.2⟩,h.out fun m e B=>I m e ⟨B.1,by omega⟩]
 ·by_cases A:m<u.next
  ·obtain⟨T,G,J,L,N⟩:=h.D7 H m C A
   refine⟨T,G,by rw[F.aR m (.inl A)];exact J,L.mono F.grow,fun e=>?_⟩
   rw[k.out fun S O B=>by rw[e]at O;have:m=S:=(by omega);omega]
   exact N e
  ·exact k.D7 H m (by omega) D
theorem mD.head{mk:Int}{i:Bool}{r u:RS}{q v:RW}{s:aS}{sq:List Nat}(N:u.next=r.next+1)(L:u.aR=(aG r i (ak (ay s))).aR)(D:∃l,u.ds=r.ds++l)(I:q.num=r.next)(B:v.at_=(dI mk q sq).at_)(J:i=true->pQ r.ds s sq):mD mk i r u q v:=by
 refine⟨fun F=>?_,fun C m G H=>?_⟩
 ·rw[B]
  unfold dI;rw[if_neg fun e=>F q.num e.symm ⟨by omega,by omega⟩]
 ·have A:m=r.next:=by omega
  subst A;refine⟨s,sq,?_,(J C).mono D,fun e=>?_⟩
  ·rw[L]
   subst C;show bE (dh r.aR (r.next:Int) _) (r.next:Int)=_;rw[nW,if_pos rfl]
  ·rw[B]
   unfold dI;rw[if_pos (by rw[I,e])]
structure JF (Gn:Int->Prop) (mk:Int) (i:Bool) (r u:RS) (q v:RW):Prop where
 qK:mI Gn u v
 aR:mD mk i r u q v
 num:v.num+1=u.next
theorem sH{Gn:Int->Prop}{r:RS}{q:RW}(h:mI Gn r q)(mk:Int)(sq:List Nat):mI Gn r (dI mk q sq):=by
 unfold dI;split
 ·exact⟨h.ds,h.list,h.sU,h.uses⟩
 ·exact h
theorem qM(mk:Int)(q:RW)(sq:List Nat):(dI mk q sq).num=q.num:=by
 unfold dI;split<;>rfl
theorem IM{Gn:Int->Prop}{r:RS}{q:RW}(h:mI Gn r q)(i:Bool)(v:List Int):mI Gn (aG r i v) q:=⟨h.ds,h.list,h.sU,h.uses⟩
theorem scope_ne{s:aS}(h:s≠[]):∃l A,s=l::A:=by
 cases s with
 | nil=>exact absurd rfl h
 | cons l s=>exact⟨l,s,rfl⟩
theorem pQ.var{ds:List Dc}{s:aS}{sq:List Nat}(h:pQ ds s sq){d:Dc}(P:fe s d.name=none):pQ (ds++[d]) ([(d.name,d.node)]::s) (sq++[ds.length])/\(s≠[]->pQ (ds++[d]) (kT s [(d.name,d.node)]) (sq++[ds.length])):=by
 have C:=MR P
 have H:rD (ds++[d]) ds.length=(d.name,d.node):=by
  unfold rD;rw[aal (aab _),Nat.sub_self];rfl
 have N:=h.mono (ds':=ds++[d]) ⟨[d],rfl⟩
 have A:pQ (ds++[d]) ([(d.name,d.node)]::s) (sq++[ds.length]):=by
  refine⟨?_,fun i B=>?_,?_,?_⟩
  ·rw[List.flatten_cons,List.map_append,List.map_cons,List.map_nil,H]
   exact(List.perm_append_comm).trans (N.perm.append_right _)
  ·rcases List.mem_append.1 B with B|B
   ·have:=h.lt i B
    simp;omega
   ·rw[List.mem_singleton]at B
    simp;omega
  ·refine List.pairwise_append.2 ⟨h.inc,List.pairwise_singleton _ _,fun a J b F=>?_⟩
   rw[List.mem_singleton]at F;rw[F];exact h.lt a J
  ·rw[List.flatten_cons,List.map_append]
   exact List.nodup_cons.2 ⟨C,h.nodup⟩
 refine⟨A,fun O=>?_⟩;obtain⟨l,D,rfl⟩:=scope_ne O;have L:d.name ∉ l.map (·.1):=fun I=>C (by rw[List.flatten_cons,List.map_append];exact List.mem_append_left _ I)
 have e:kT (l::D) [(d.name,d.node)]=(l++[(d.name,d.node)])::D:=by
  show(dh l d.name d.node)::D=_;rw[QT _ L]
 have G:((l++[(d.name,d.node)])::D).flatten.Perm ([(d.name,d.node)]::l::D).flatten:=by
  rw[List.flatten_cons,List.flatten_cons,List.flatten_cons,<- List.append_assoc];exact(List.perm_append_comm).append_right _
 rw[e];exact⟨G.trans A.perm,A.lt,A.inc,((G.map _).nodup_iff).2 A.nodup⟩
theorem JS{G:bC}{GW:List Dc}{Gn:Int->Prop}(L:yS G GW Gn){r:RS}{q:RW}(h:mI Gn r q){s:aS}{sq:List Nat}(D:pQ r.ds s sq)(i:Bool)(v:List Int){c:Int}(J:¬(c=0\/c=2))(t:ae){o:Int}(O:q.num=r.next)(P:r.owner=o):
 mI Gn (aH G (aG r i v) c r.next t s).1 (fQ GW q sq t c o).1/\(aH G (aG r i v) c r.next t s).1.owner=r.owner/\(aH G (aG r i v) c r.next t s).1.next=r.next+1/\(aH G (aG r i v) c r.next t s).1.aR=(aG r i v).aR /\
 (fQ GW q sq t c o).1.num=q.num/\(fQ GW q sq t c o).1.at_=q.at_/\pQ (aH G (aG r i v) c r.next t s).1.ds (xm G t s r.next::s) (fQ GW q sq t c o).2/\(s≠[]->pQ (aH G (aG r i v) c r.next t s).1.ds (kT s (xm G t s r.next)) (fQ GW q sq t c o).2) /\
 (s≠[]->pQ (aH G (aG r i v) c r.next t s).1.ds (aH G (aG r i v) c r.next t s).2 (fQ GW q sq t c o).2):=by
 have A:((pF q.ds sq t.text).isSome || (pI GW false t.text).isSome)=((fe s t.text).isSome || (aU G.globals t.text).isSome):=by
  rw[h.ds,NN D,L.non]
 unfold aH fQ xm;rw[A]
 cases I:((fe s t.text).isSome || (aU G.globals t.text).isSome) with
 | true=>
  rw[if_pos rfl,if_pos rfl,if_pos rfl];have C:pQ r.ds ([]::s) sq:=D.push;exact⟨(IM h i v).say 9 r.next t,rfl,rfl,rfl,rfl,rfl,C,fun _=>by rw[Yw];exact D,fun _=>D⟩
 | false=>
  rw[if_neg (by simp),if_neg (by simp),if_neg (by simp)];rw[Bool.or_eq_false_iff]at I;have N:fe s t.text=none:=by simpa using I.1
  have B:(lM (aG r i v) c r.next t).ds=r.ds++[⟨c,t.text,r.next,r.owner⟩]:=by
   unfold lM aG;simp only;rw[if_neg J]
  have F:=D.var (d:=⟨c,t.text,r.next,r.owner⟩) N;rw[<- h.ds]at F;refine⟨(IM h i v).decl c t O (by rw[if_neg J];exact P),rfl,rfl,rfl,rfl,rfl,?_,fun H=>?_,fun H=>?_⟩
  ·rw[B,<- h.ds]
   exact F.1
  ·rw[B,<- h.ds]
   exact F.2 H
  ·rw[B,<- h.ds]
   exact F.2 H
theorem varW_two(GW:List Dc)(q:RW)(sq:List Nat)(t:ae)(c o A B:Int):(fQ GW q sq t c o).2=(fQ GW q sq t A B).2:=by
 unfold fQ;split<;>rfl
theorem Eu{Gn:Int->Prop}{r:RS}{q:RW}(h:mI Gn r q)(t:ae){n:Nat}(C:q.num=n)(o:Option Int)(D:∀j,o=some j->0<=j/\Gn j):mI Gn (gV r n t o) (sS q t o):=by
 cases o with
 | none=>exact h.say 8 n t
 | some j=>
  obtain⟨A,B⟩:=D j rfl;exact h.gu C (.inr (.inr ⟨A,rfl,B⟩))
theorem MW{o:Option Int}{p:Int->Bool}{Q:Int->Prop}(h:∀j,o=some j->Q j):∀j,o.filter p=some j->Q j:=by
 intro j A
 cases o with
 | none=>cases A
 | some k=>
  rw[Option.filter_some]at A;split at A
  ·exact h j A
  ·cases A
theorem LG(G:bC)(s:aS)(r u:RS)(t:ae)(h:¬(t.kind=20\/t.kind=22\/t.kind=27\/t.kind=19\/t.kind=9)):iR G s r u t=u:=by
 simp only[not_or]at h;unfold iR;rw[if_neg h.1,if_neg h.2.1,if_neg h.2.2.1,if_neg h.2.2.2.1,if_neg (fun A=>h.2.2.2.2 A.1)]
theorem CF{G:bC}{GW:List Dc}{Gn:Int->Prop}(I:yS G GW Gn){r:RS}{q:RW}(h:mI Gn r q){s:aS}{sq:List Nat}(i:Bool)(v:List Int)(t:ae)(o:Int)(L:q.num=r.next)(O:t.kind=20->pQ r.ds s sq)
 (S:¬(t.kind=3\/t.kind=4\/t.kind=5\/t.kind=7\/t.kind=8\/t.kind=12\/t.kind=16)):
 mI Gn (iR G s r (aG r i v) t) (nM GW q sq t o)/\(iR G s r (aG r i v) t).owner=r.owner/\(iR G s r (aG r i v) t).aR=(aG r i v).aR/\(nM GW q sq t o).num=q.num/\(nM GW q sq t o).at_=q.at_:=by
 simp only[not_or]at S;obtain⟨X,Y,Z,z,y,P,Q⟩:=S;have J:=IM h i v;have A:∀o,(gV (aG r i v) r.next t o).owner=r.owner/\(gV (aG r i v) r.next t o).aR=(aG r i v).aR:=fun o=>by cases o<;>exact⟨rfl,rfl⟩
 have B:∀o,(sS q t o).num=q.num/\(sS q t o).at_=q.at_:=fun o=>by cases o<;>exact⟨rfl,rfl⟩
 unfold iR nM;rw[if_neg X,if_neg Y,if_neg Z];by_cases C:t.kind=20
 ·rw[if_pos C,if_pos C]
  have T:=O C;rw[Mo T];unfold y5;rw[show pF q.ds sq t.text=pF r.ds sq t.text by rw[h.ds]]
  cases W:pF r.ds sq t.text with
  | none=>exact⟨J.say 8 r.next t,rfl,rfl,rfl,rfl⟩
  | some j=>
   have U:=T.lt j (List.mem_of_find?_eq_some W);obtain⟨d,R⟩:∃d,r.ds[j]? =some d:=⟨_,aaf U⟩
   have e:((some j).bind fun i=>(r.ds[i]?).map Dc.node)=some d.node:=by
    show(r.ds[j]?).map Dc.node=_;rw[R];rfl
   rw[e];exact⟨J.gu L (.inr (.inl ⟨j,d,R,rfl,rfl⟩)),rfl,rfl,rfl,rfl⟩
 rw[if_neg C,if_neg C];by_cases F:t.kind=22
 ·rw[if_pos F,if_pos F,I.fl]
  exact⟨Eu J t L _ (I.posf _),(A _).1,(A _).2,(B _).1,(B _).2⟩
 rw[if_neg F,if_neg F];by_cases H:t.kind=27
 ·rw[if_pos H,if_pos H,I.gl]
  exact⟨Eu J t L _ (I.posg _),(A _).1,(A _).2,(B _).1,(B _).2⟩
 rw[if_neg H,if_neg H];by_cases D:t.kind=19
 ·rw[if_pos D,if_pos D,I.pr]
  exact⟨Eu J t L _ (MW (I.posg _)),(A _).1,(A _).2,(B _).1,(B _).2⟩
 rw[if_neg D,if_neg D];by_cases N:t.kind=9/\dM t.text=false
 ·rw[if_pos N,if_pos N,I.rc]
  exact⟨Eu J t L _ (MW (I.posg _)),(A _).1,(A _).2,(B _).1,(B _).2⟩
 rw[if_neg N,if_neg N,if_neg (fun h=>h.elim z y),if_neg P,if_neg Q];exact⟨J,rfl,rfl,rfl,rfl⟩
end Go.Proofs.YtoepemlnlpamlaaGreat
namespace Go.Proofs
open Go.Shelf
def Tryz.Uz:Go.Shelf.Ren:=⟨fun|189=>101|125=>170|257=>169|128=>221|129=>222|294=>212|295=>213|296=>214|297=>215|298=>216|299=>217|216=>218|300=>219|301=>220|328=>237|329=>238|330=>239|331=>240|332=>241|215=>151|343=>254|n=>n,fun|28=>28|3=>3|46=>218|0=>0|51=>239|53=>252|4=>4|183=>244|182=>243|131=>88|5=>5|9=>9|218=>263|222=>101|228=>273|229=>207|n=>n,fun|n=>n⟩
theorem Tryz.U7:Go.Proofs.Lays.n189 Tryz.prog Tryz.Uz:={
 mixed:=by kernel_rfl
 f125:=Tryz.func170.trans (congrArg some (by kernel_rfl))
 f128:=Tryz.func221.trans (congrArg some (by kernel_rfl))
 f129:=Tryz.func222.trans (congrArg some (by kernel_rfl))
 f189:=Tryz.func101.trans (congrArg some (by kernel_rfl))
 f215:=Tryz.func151.trans (congrArg some (by kernel_rfl))
 f216:=Tryz.func218.trans (congrArg some (by kernel_rfl))
 f257:=Tryz.func169.trans (congrArg some (by kernel_rfl))
 f294:=Tryz.func212.trans (congrArg some (by kernel_rfl))
 f295:=Tryz.func213.trans (congrArg some (by kernel_rfl))
 f296:=Tryz.func214.trans (congrArg some (by kernel_rfl))
 f297:=Tryz.func215.trans (congrArg some (by kernel_rfl))
 f298:=Tryz.func216.trans (congrArg some (by kernel_rfl))
 f299:=Tryz.func217.trans (congrArg some (by kernel_rfl))
 f300:=Tryz.func219.trans (congrArg some (by kernel_rfl))
 f301:=Tryz.func220.trans (congrArg some (by kernel_rfl))
 f328:=Tryz.func237.trans (congrArg some (by kernel_rfl))
 f329:=Tryz.func238.trans (congrArg some (by kernel_rfl))
 f330:=Tryz.func239.trans (congrArg some (by kernel_rfl))
 f331:=Tryz.func240.trans (congrArg some (by kernel_rfl))
 f332:=Tryz.func241.trans (congrArg some (by kernel_rfl))
 f343:=Tryz.func254.trans (congrArg some (by kernel_rfl))
 t0:=Tryz.underlying0
 a0:=Tryz.isAgg0
 z0:=Tryz.sizeOf0
 v0:=Tryz.zeroValue0
 t3:=Tryz.underlying3
 a3:=Tryz.isAgg3
 z3:=Tryz.sizeOf3
 v3:=Tryz.zeroValue3
 t4:=Tryz.underlying4
 a4:=Tryz.isAgg4
 z4:=Tryz.sizeOf4
 v4:=Tryz.zeroValue4
 t5:=Tryz.underlying5
 a5:=Tryz.isAgg5
 z5:=Tryz.sizeOf5
 v5:=Tryz.zeroValue5
 t9:=Tryz.underlying9
 a9:=Tryz.isAgg9
 z9:=Tryz.sizeOf9
 v9:=Tryz.zeroValue9
 t28:=Tryz.underlying28
 a28:=Tryz.isAgg28
 z28:=Tryz.sizeOf28
 v28:=Tryz.zeroValue28
 t46:=Tryz.underlying218
 a46:=Tryz.isAgg218
 z46:=Tryz.sizeOf218
 v46:=Tryz.zeroValue218
 t51:=Tryz.underlying239
 a51:=Tryz.isAgg239
 z51:=Tryz.sizeOf239
 v51:=Tryz.zeroValue239
 t53:=Tryz.underlying252
 a53:=Tryz.isAgg252
 z53:=Tryz.sizeOf252
 v53:=Tryz.zeroValue252
 t131:=Tryz.underlying88
 a131:=Tryz.isAgg88
 z131:=Tryz.sizeOf88
 v131:=Tryz.zeroValue88
 t182:=Tryz.underlying243
 a182:=Tryz.isAgg243
 z182:=Tryz.sizeOf243
 v182:=Tryz.zeroValue243
 t183:=Tryz.underlying244
 a183:=Tryz.isAgg244
 z183:=Tryz.sizeOf244
 v183:=Tryz.zeroValue244
 t218:=Tryz.underlying263
 a218:=Tryz.isAgg263
 z218:=Tryz.sizeOf263
 v218:=Tryz.zeroValue263
 t222:=Tryz.underlying101
 a222:=Tryz.isAgg101
 z222:=Tryz.sizeOf101
 v222:=Tryz.zeroValue101
 t228:=Tryz.underlying273
 a228:=Tryz.isAgg273
 z228:=Tryz.sizeOf273
 v228:=Tryz.zeroValue273
 t229:=Tryz.underlying207
 a229:=Tryz.isAgg207
 z229:=Tryz.sizeOf207
 v229:=Tryz.zeroValue207 }
open Go.Sort Go.RowKit in
theorem Tryz.slices_Sort_int(A B C:Nat)(F:List Int)(w:World)(H:Holds (Value.int .i64) w A B F.toArray)(D:A<w.heap.size)(G:F.length<4611686018427387904):
 Calls Tryz.prog 101 #[.slice (some ⟨A,B,none⟩) F.length C] w fun e w'=>
  e= .returned (.tuple #[])/\∃n I,w'=grow (putRow (Value.int .i64) (Sort.ahead w n) A B (F.mergeSort fun x y=>decide (x<=y)).toArray) I:=Any.slices_Sort_int Tryz.U7 A B C F w H D G
open Go.RowKit Go.Sort in
theorem Tryz.slices_Sort_int_none(p:Option Addr)(A:Nat)(w:World):
 Calls Tryz.prog 101 #[.slice p 0 A] w fun e w'=>e= .returned (.tuple #[])/\w'=w:=Any.slices_Sort_int_none Tryz.U7 p A w
end Go.Proofs
namespace Go.Proofs.YtoepemlnlpamlaaGreat
open Go.RowKit Go.Sort
abbrev iB(l:List Int):List Value:=l.map (Value.int .i64)
theorem Sort_any(v:Value)(base n:Nat)(C:List Int)(w:World)(h:aK w base 3 1 v n (iB C))(l:n<=1000000):
 Calls Tryz.prog 101 #[v] w fun e w'=>e= .returned (.tuple #[])/\aK w' base 3 1 v n (iB (C.mergeSort fun x y=>decide (x<=y)))/\w.grownBy w' v.ownBlock:=by
 have R:C.length=n:=by have:=h.1;simpa using this
 by_cases T:n=0
 ·subst T
  have t:C=[]:=List.eq_nil_of_length_eq_zero R;subst t;obtain⟨A,c,U,_,_⟩:=h.shape;subst U;refine(Tryz.slices_Sort_int_none A c w).mono ?_;rintro e w' ⟨rfl,rfl⟩;exact⟨rfl,by simpa using h,⟨rfl,rfl,rfl,aab _,fun _ _ _=>rfl⟩⟩
 ·rcases h.2 with⟨_,Q⟩| ⟨g,B,F,cur,rfl,X,I,u,z,f,d⟩
  ·omega
  ·have G:g<w.heap.size:=(aae.1 I).1
   have W:Holds (Value.int .i64) w g B C.toArray:=by
    intro j H;have L:j<C.length:=by simpa using H
    refine⟨?_,by simp[World.frozen?,I]⟩;obtain⟨m,S,P,O,_,_,_,_,Y⟩:=h.form (by omega);cases O
    refine Y j _ ?_;simp[L]
   rw[<- R];refine(Tryz.slices_Sort_int g B F C w W G (by omega)).mono ?_;rintro e w' ⟨rfl,q,r,rfl⟩
   have D:(grow (putRow (Value.int .i64) (Sort.ahead w q) g B (C.mergeSort fun x y=>decide (x<=y)).toArray) r).heap[g]? =some (.cells (putCells (Value.int .i64) B (C.mergeSort fun x y=>decide (x<=y)).toArray cur) 3 (0,0)):=by
    rw[heap_grow_old _ _ (by simpa using G)];simp[putRow,mapBlock,Sort.ahead,Array.getElem?_modify,I,onCells]
   refine⟨rfl,⟨by simp,.inr ⟨g,B,F,_,rfl,X,D,by omega,z,by simp[putCells];omega,?_⟩⟩,⟨rfl,rfl,rfl,by simp,fun k Z N=>?_⟩⟩
   ·apply List.ext_getElem?
    intro j;by_cases H:j<C.length
    ·rw[Nat.mul_one,List.getElem?_take_of_lt H,List.getElem?_drop,Array.getElem?_toList]
     have Q:B+j<cur.size:=by omega
     simp[putCells,H,Q]
    ·rw[Nat.mul_one,List.getElem?_take_eq_none (by omega),List.getElem?_eq_none (by simp;omega)]
   ·rw[heap_grow_old _ _ (by simpa using Z)]
    have J:g≠k:=fun e=>N (by simp[Value.ownBlock,e])
    simp[putRow,mapBlock,Sort.ahead,Array.getElem?_modify,J]
end Go.Proofs.YtoepemlnlpamlaaGreat
namespace Go.Proofs.YtoepemlnlpamlaaGreat
open Go.RowKit
section
variable {K:Type} [DecidableEq K] {V:Type}
theorem Rk(f:V->Value)(k:K):∀(l:List (K×V)) (i:Nat),(mR k (l.map fun x=>(x.1,f x.2)) i).map (·.2)=(bE l k).map f
 | [],_=>rfl
 | x::l,i=>by
  simp only[List.map_cons,mR,bE];by_cases h:k=x.1
  ·rw[if_pos h,if_pos h];rfl
  ·rw[if_neg h,if_neg h];exact Rk f k l (i+1)
theorem Gt(f:V->Value)(l:List (K×V))(k:K):nV (l.map fun x=>(x.1,f x.2)) k=(bE l k).map f:=Rk f k l 0
theorem Gf(x:K×Value)(m:List (K×Value))(k:K)(v:Value)(h:k≠x.1):p8 (x::m) k v=x::p8 m k v:=by
 unfold p8
 have A:mR k (x::m) 0=(mR k m 0).map fun y=>(1+y.1,y.2):=by
  show(if k=x.1 then _ else mR k m (0+1))=_;rw[if_neg h,Nat.zero_add];exact EB k m 1 0
 rw[A]
 cases B:mR k m 0 with
 | none=>rfl
 | some y=>simp[Nat.add_comm 1]
theorem QS(x:K×Value)(m:List (K×Value))(k:K)(v:Value)(h:k=x.1):p8 (x::m) k v=(k,v)::m:=by
 unfold p8
 have A:mR k (x::m) 0=some (0,x.2):=by
  show(if k=x.1 then _ else _)=_;rw[if_pos h]
 rw[A];rfl
theorem JV(f:V->Value)(k:K)(v:V):∀(l:List (K×V)),p8 (l.map fun x=>(x.1,f x.2)) k (f v)=(dh l k v).map fun x=>(x.1,f x.2)
 | []=>rfl
 | x::l=>by
  simp only[List.map_cons,dh];by_cases h:k=x.1
  ·rw[if_pos h,QS _ _ _ _ h];rfl
  ·rw[if_neg h,Gf _ _ _ _ h,JV f k v l];rfl
end
theorem aK.set1{w:World}{base:Nat}{e:TypeId}{g A c n:Nat}{G:List Value}(h:aK w base e 1 (.slice (some ⟨g,A,none⟩) n c) n G)(i:Nat)(T:i<n)(u:Value):
 aK (w.setCell ⟨g,A+i,none⟩ u) base e 1 (.slice (some ⟨g,A,none⟩) n c) n (G.set i u):=by
 refine⟨by simpa using h.1,?_⟩;rcases h.2 with⟨H,_⟩| ⟨S,Q,R,D,F,I,J,N,L,O,P⟩
 ·cases H
 ·simp only[Value.slice.injEq,aag,Addr.mk.injEq]at F
  obtain⟨⟨rfl,rfl,_⟩,_,rfl⟩:=F;refine .inr ⟨g,A,c,D.setIfInBounds (A+i) u,rfl,I,by simp[World.setCell,Array.getElem?_modify,J],N,L,by simpa using O,?_⟩;rw[<- P,Array.toList_setIfInBounds];apply List.ext_getElem?
  intro j;simp only[List.getElem?_take,List.getElem?_drop,List.getElem?_set,List.length_take,List.length_drop];by_cases C:j<n*1
  ·rw[if_pos C,if_pos C]
   by_cases B:i=j
   ·subst B
    have:A+i<D.size:=by omega
    simp[this];omega
   ·simp[B]
  ·rw[if_neg C,if_neg C]
   have:i≠j:=by omega
   simp[this]
theorem bA.rJ{K:Type}[DecidableEq K]{KK:oW K}{w:World}{r g:Nat}{m:List (K×Value)}{t:TypeId}{B:Array Value}(h:bA KK w r m)(D:aj w g t B):r≠g:=by
 rintro rfl;obtain⟨F,A,C,_⟩:=h;have:w.heap[r]? =some (.cells B t (0,0)):=D;rw[C]at this;cases this
theorem aK.obj{w:World}{base:Nat}{e:TypeId}{size:Nat}{v:Value}{n:Nat}{D:List Value}(h:aK w base e size v n D):∀g,v.ownBlock=some g->∃cur,w.heap[g]? =some (.cells cur e (0,0)):=by
 intro g B;rcases h.2 with⟨rfl,_⟩| ⟨H,F,G,C,rfl,_,A,_⟩
 ·cases B
 ·simp[Value.ownBlock]at B
  subst B;exact⟨C,A⟩
theorem bA.jl{K:Type}[DecidableEq K]{KK:oW K}{w:World}{r:Nat}{m:List (K×Value)}{base:Nat}{e:TypeId}{size:Nat}{v:Value}{n:Nat}{G:List Value}(h:bA KK w r m)(D:aK w base e size v n G):v.ownBlock≠some r:=by
 intro F;obtain⟨cur,B⟩:=D.obj r F;obtain⟨H,A,C,_⟩:=h;rw[C]at B;cases B
def vF(l:List (Int×Int)):List (Int×Value):=l.map fun x=>(x.1,.int .i64 x.2)
def jS(l:lH):List (ByteArray×Value):=l.map fun x=>(x.1,.int .i64 x.2)
def dL(d:Dc):List Value:=[.int .i64 d.kind,.string d.name,.int .i64 d.node,.int .i64 d.owner]
def iM(p:Int×Dg):List Value:=[.int .i64 p.1,.int .i64 p.2.code,.int .i64 p.2.at_,.int .i64 p.2.end_,.string p.2.text,.slice none 0 0]
structure RC where
 base:Nat
 rp:Nat
 g:Nat
 f:Nat
 k:Nat
 vi:Nat
 uA:Option Addr
 uc:Nat
structure RV where
 dA:Option Addr
 dc:Nat
 pA:Option Addr
 pc:Nat
 vals:List (Int×Value)
def fG(w:World)(base:Nat)(ub:Option Nat):List (Int×List Int)->List (Int×Value)->Prop
 | [],vals=>vals=[]
 | x::l,vals=> ∃v vs,vals=(x.1,v)::vs/\aK w base 3 1 v x.2.length (iB x.2)/\(∀g,v.ownBlock=some g->ub≠some g/\∀y∈vs,y.2.ownBlock≠some g)/\fG w base ub l vs
theorem fG.of_block{w w':World}{base:Nat}{A:Option Nat}:∀{l:List (Int×List Int)}{vals:List (Int×Value)},fG w base A l vals ->
 (∀g cur,w.heap[g]? =some (.cells cur 3 (0,0))->A≠some g->w'.heap[g]? =w.heap[g]?)->fG w' base A l vals
 | [],_,h,_=>h
 | _::_,_,⟨v,vs,h1,h2,h3,h4⟩,hk=>⟨v,vs,h1,h2.of_block fun g B=>by obtain⟨cur,C⟩:=h2.obj g B;exact hk g cur C (h3 g B).1,h3,fG.of_block h4 hk⟩
structure aX (E:RC) (G:bC) (r:RS) (V:RV) (w:World):Prop where
 blk:aj w E.rp 75 #[.map (some E.g),.map (some E.f),.map (some E.k),.slice V.dA r.ds.length V.dc,.slice E.uA r.uses.length E.uc,.map (some E.vi),.slice V.pA r.aY.length V.pc,.int .i64 (r.next:Int),.int .i64 r.owner]
 gl:bA jo w E.g (jS G.globals)
 fl:bA jo w E.f (jS G.fields)
 kn:bA kX w E.k (vF G.kinds)
 vi:bA kX w E.vi V.vals
 aR:fG w E.base (Value.slice E.uA r.uses.length E.uc).ownBlock r.aR V.vals
 ds:aK w E.base 49 4 (.slice V.dA r.ds.length V.dc) r.ds.length (r.ds.flatMap dL)
 us:aK w E.base 3 1 (.slice E.uA r.uses.length E.uc) r.uses.length (iB r.uses)
 ps:aK w E.base 80 6 (.slice V.pA r.aY.length V.pc) r.aY.length (r.aY.flatMap iM)
 low:E.base<=E.rp/\E.base<=E.vi
 apart:E.vi≠E.g/\E.vi≠E.f/\E.vi≠E.k
def Tp(E:RC)(M:Nat->Prop)(w:World)(g:Nat):Prop:=
 E.base<=g/\((∃cs t fr,w.heap[g]? =some (.cells cs t fr)/\(t=75\/t=80\/t=49\/E.uA.map (·.block)=some g))\/((∃es ck,w.heap[g]? =some (.map es ck))/\M g))
def KX(E:RC)(M:Nat->Prop)(w w':World):Prop:=aF (Tp E M w) w w'
section
variable {E:RC}{M M':Nat->Prop}{w w1 w':World}
theorem KX.refl(E:RC)(M:Nat->Prop)(w:World):KX E M w w:=aF.refl _ _
theorem KX.trans(h:KX E M w w1)(k:KX E M' w1 w')(I:∀g,M' g->M g\/w.heap.size<=g):KX E M w w':=by
 refine h.step k fun g L=>?_
 by_cases A:g<w.heap.size
 ·left
  by_cases D:Tp E M w g
  ·exact D
  ·have J:=h.block g A D
   obtain⟨F,B⟩:=L;rw[J]at B;refine⟨F,B.imp id fun⟨G,H⟩=>⟨G,?_⟩⟩;rcases I g H with C|C
   ·exact C
   ·omega
 ·right
  omega
theorem KX.mono(h:KX E M w w')(F:∀g,M g->M' g):KX E M' w w':=aF.mono h fun _ ⟨A,B⟩=>⟨A,B.imp id fun⟨C,D⟩=>⟨C,F _ D⟩⟩
theorem KX.of_below(A:Below w.heap.size w w'):KX E M w w':=(aF.refl _ _).below A
theorem KX.low(h:KX E M w w')(A:E.base<=w.heap.size):Below E.base w w':=aF.toBelow h A fun _ B=>B.1
theorem KX.blk(h:KX E M w w'){g:Nat}{t:TypeId}{D:Array Value}(F:aj w g t D)(I:t≠75)(J:t≠80)(L:t≠49)(N:E.uA.map (·.block)≠some g):aj w' g t D:=by
 refine aj.since F h fun⟨_,O⟩=>?_
 have C:w.heap[g]? =some (.cells D t (0,0)):=F;rcases O with⟨G,R,H,B,A⟩| ⟨⟨Q,P,B⟩,_⟩
 ·rw[C]at B
  simp at B;obtain⟨_,rfl,_⟩:=B;rcases A with A|A|A|A
  ·exact I A
  ·exact J A
  ·exact L A
  ·exact N A
 ·rw[C]at B
  cases B
theorem KX.Tv{K:Type}[DecidableEq K]{KK:oW K}{r:Nat}{m:List (K×Value)}(h:KX E M w w')(B:bA KK w r m)(J:¬M r):bA KK w' r m:=by
 refine bA.since B h fun⟨_,H⟩=>?_
 obtain⟨F,C,I,_⟩:=B;rcases H with⟨D,N,G,A,L⟩| ⟨_,A⟩
 ·rw[I]at A
  cases A
 ·exact J A
end
def bL(w:World)(base:Nat):Option Addr->aS->List Nat->Prop
 | p,[],ms=>p=none/\ms=[]
 | p,x::s,ms=> ∃b m p' ms',p=some ⟨b,0,none⟩/\ms=m::ms'/\base<=b/\base<=m/\aj w b 95 #[.pointer p',.map (some m)]/\bA jo w m (jS x)/\bL w base p' s ms'
theorem bL.kx{E:RC}{M:Nat->Prop}{w w':World}(h:KX E M w w')(B:∀g C,E.uA.map (·.block)=some g->w.heap[g]?≠some (.cells C 95 (0,0))):∀{s:aS}{p:Option Addr}{A:List Nat},bL w E.base p s A->(∀m∈A,¬M m)->bL w' E.base p s A
 | [],_,_,hs,_=>hs
 | _::_,_,_,⟨b,m,p',ms',h1,h2,h3,h4,h5,h6,h7⟩,hM=>by
  subst h2;exact⟨b,m,p',ms',h1,rfl,h3,h4,h.blk h5 (by decide) (by decide) (by decide) (fun D=>B b _ D h5),h.Tv h6 (hM m (by simp)),bL.kx h B h7 fun x F=>hM x (by simp[F])⟩
theorem JO(w:World):(zeroValue 3).run Tryz.prog w= .ok (.int .i64 0) w:=by go_simp
theorem qa(w:World)(r:Nat)(l:lH)(h:bA jo w r (jS l))(x:ByteArray):
 (Instr.lookup 70 (.map (some r)) (.string x) true).run Tryz.prog w= .ok (.tuple #[.int .i64 ((bE l x).getD 0),.bool (bE l x).isSome]) w:=by
 have:=Ct (P:=Tryz.prog) (KK:=jo) (t:=70) (kt:=9) (et:=3) Tryz.underlying70 Tryz.underlying9 JO h x;unfold jS at this;rw[Gt]at this
 cases A:bE l x with
 | none=>rw[A]at this;exact this
 | some k=>rw[A]at this;exact this
theorem Gz(p:Option Addr)(w:World):
 Calls Tryz.prog 48 #[.pointer p] w fun e w'=> ∃b m,e= .returned (.pointer (some ⟨b,0,none⟩))/\w.heap.size<=b/\w.heap.size<=m/\aj w' b 95 #[.pointer p,.map (some m)]/\bA jo w' m []/\Below w.heap.size w w':=by
 have A:=@run_makeMap Tryz.prog;go_in
 go_wp2_with fail
 go_ret
 refine⟨w.heap.size+1,w.heap.size,rfl,by omega,aab _,?_,(bA.made w).alloc _,(ag _ _).trans ((ag _ _).mono (by simp))⟩;have:=aj.new (w.alloc (.map #[] 0)) 95 #[.pointer p,.map (some w.heap.size)];simpa using this
theorem K3(base:Nat)(x:ByteArray)(w:World):∀(s:aS) (p:Option Addr) (G:List Nat),bL w base p s G ->
 Calls Tryz.prog 45 #[.pointer p,.string x] w fun e w'=>e= .returned (.tuple #[.int .i64 ((fe s x).getD 0),.bool (fe s x).isSome])/\w'=w:=by
 intro s
 induction s with
 | nil=>
  rintro p G ⟨rfl,-⟩;go_in
  go_wp2_with fail
  go_ret2
  exact⟨rfl,rfl⟩
 | cons l s ih=>
  rintro p G ⟨b,m,O,H,rfl,rfl,R,S,F,I,J⟩;have A:=ih O H J;have B:=qa w m l I x;have P:=F.cell 0;have Q:=F.cell 1;have N:=F.lt;clear ih F I J
  cases C:bE l x with
  | none=>
   rw[C]at B;simp only[Option.getD_none,Option.isSome_none]at B
   have D:fe (l::s) x=fe s x:=by
    show(match aU l x with|some k=>some k|none=>fe s x)=_;rw[show aU l x=none from C]
   rw[D];generalize fe s x=fx at A⊢
   clear D C;have L:=kH A;clear A;go_in
   go_wp2_with fail
   refine L.out.mono ?_;rintro e w' ⟨rfl,rfl⟩;go_wp2_with fail
   go_ret2
   exact⟨rfl,rfl⟩
  | some k=>
   rw[C]at B;simp only[Option.getD_some,Option.isSome_some]at B
   have D:fe (l::s) x=some k:=by
    show(match aU l x with|some k=>some k|none=>fe s x)=_;rw[show aU l x=some k from C]
   rw[D];clear D C A;go_in
   go_wp2_with fail
   go_ret2
   exact⟨rfl,rfl⟩
end Go.Proofs.YtoepemlnlpamlaaGreat
