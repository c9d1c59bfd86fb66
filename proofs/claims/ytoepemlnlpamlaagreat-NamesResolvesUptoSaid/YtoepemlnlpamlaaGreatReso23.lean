/- The law NamesResolves holds where what it reads is of bulk at most 1048576: it returns true, and its argument reads as before. Part 23: Wlk1 Shelf Sort NamW Nam1. -/
import Derived.Shelf.Sort.Plain
import Derived.Shelf.Slices.In.SortNone
import Derived.Test.YtoepemlnlpamlaaGreatProg
import Derived.Deep.QuietTactic
import Derived.Test.YtoepemlnlpamlaaGreatReso01
import Derived.Test.YtoepemlnlpamlaaGreatReso16
import Derived.Test.YtoepemlnlpamlaaGreatReso22
set_option maxRecDepth 100000
set_option maxHeartbeats 4000000
namespace Go.Proofs.YtoepemlnlpamlaaGreat
structure RW where
 ds:List Dc
 uses:List Int
 list:List Dg
 num:Nat
 at_:List Nat
def oP(l:List Dc)(f:Bool)(x:ByteArray):Option Nat:=l.findIdx? fun d=>(decide (d.kind=1)==f)&&decide (d.name=x)
def xZ(out:List Dc)(d:Dc):List Dc:=if (oP out (decide (d.kind=1)) d.name).isSome then out else out++[d]
def il:List ae->Nat->Int->List Dc->List Dc
 | [],_,_,out=>out
 | t::ts,i,o,out=>il ts (i+1) (if t.kind=3 then(i:Int) else o)
  (if t.kind=3 then xZ out ⟨0,t.text,i,-1⟩ else if t.kind=5 then xZ out ⟨2,t.text,i,-1⟩ else if t.kind=4 then xZ out ⟨1,t.text,i,o⟩ else out)
def sG(r:RW)(c:Int)(t:ae):RW:={ r with list:=r.list++[⟨c,t.at_,t.end_,t.text⟩] }
def sN(r:RW)(c:Int)(t:ae)(o:Int):RW:={ r with ds:=r.ds++[⟨c,t.text,r.num,o⟩],uses:=r.uses.set r.num (r.ds.length:Int) }
def oN(ds:List Dc)(s:List Nat)(x:ByteArray):Option Nat:=s.find? fun i=>decide ((ds[i]?).map Dc.name=some x)
def fK(G:List Dc)(r:RW)(s:List Nat)(t:ae)(c o:Int):RW×List Nat:=if (oN r.ds s t.text).isSome || (oP G false t.text).isSome then(sG r 9 t,s) else(sN r c t o,s++[r.ds.length])
def mW(G:List Dc)(f:Bool)(x:ByteArray):Option Dc:=(oP G f x).bind fun k=>G[k]?
def fG(G:List Dc)(r:RW)(t:ae)(c o:Int):RW:=if (mW G (decide (c=1)) t.text).map Dc.node=some (r.num:Int) then sN r c t o else sG r 9 t
def su(r:RW)(t:ae)(o:Option Int):RW:=match o with|none=>sG r 8 t|some n=> { r with uses:=r.uses.set r.num (-2 - n) }
def gu(G:List Dc)(a b:Int)(x:ByteArray):Option Int:=(mW G (decide (a=1)) x).bind fun d=>if d.kind=a\/d.kind=b then some d.node else none
def yx(r:RW)(s:List Nat)(t:ae):RW:=match oN r.ds s t.text with|some k=> { r with uses:=r.uses.set r.num (k:Int) } |none=>sG r 8 t
def mV(G:List Dc)(r:RW)(s:List Nat)(t:ae)(o:Int):RW:=
 if t.kind=3 then fG G r t 0 (-1)
 else if t.kind=4 then fG G r t 1 o
 else if t.kind=5 then fG G r t 2 (-1)
 else if t.kind=20 then yx r s t
 else if t.kind=22 then su r t (gu G 1 1 t.text)
 else if t.kind=27 then su r t (gu G 0 2 t.text)
 else if t.kind=19 then su r t (gu G 2 2 t.text)
 else if t.kind=9/\dJ t.text=false then su r t (gu G 0 0 t.text)
 else if t.kind=7\/t.kind=8 then(fK G r s t 3 o).1
 else if t.kind=12 then(fK G r s t 4 o).1
 else if t.kind=16 then(fK G r s t 5 o).1
 else r
def sU(G:List Dc)(r:RW)(s:List Nat)(t:ae):List Nat:=if t.kind=7\/t.kind=8\/t.kind=12\/t.kind=16 then(fK G r s t 0 0).2 else s
def dE(mk:Int)(r:RW)(s:List Nat):RW:=if (r.num:Int)=mk then { r with at_:=s } else r
mutual
def bQ(G:List Dc)(mk:Int):ae->Int->List Nat->RW->RW×List Nat
 | .node k x a e kids,o,s,r0=>
  let q:=dQ G mk k (sU G (dE mk r0 s) s (.node k x a e kids)) kids 0 (if k=3\/k=5 then(r0.num:Int) else o) s (mV G (dE mk r0 s) s (.node k x a e kids) o)
  (q.1,if k=6 then q.2 else if k=7\/k=8\/k=12 then sU G (dE mk r0 s) s (.node k x a e kids) else s)
def dQ(G:List Dc)(mk k:Int)(after:List Nat):List ae->Nat->Int->List Nat->RW->RW×List Nat
 | [],_,_,s,r=>(r,s)
 | t::ts,i,o,s,r=>
  let q:=bQ G mk t o (if k=16/\i=2 then after else s) { r with num:=r.num+1 }
  dQ G mk k after ts (i+1) o (if k=5\/k=6\/k=11 then q.2 else if k=16/\i=2 then after else s) q.1
end
def qQ(ds:List Dc)(i:Nat):ByteArray×Int:=match ds[i]? with|some d=>(d.name,d.node)|none=>(⟨#[]⟩,0)
structure oZ (ds:List Dc) (s:aQ) (sq:List Nat):Prop where
 perm:s.flatten.Perm (sq.map (qQ ds))
 lt:∀i∈sq,i<ds.length
 inc:sq.Pairwise (· < ·)
 nodup:(s.flatten.map (·.1)).Nodup
theorem Qu(ds l:List Dc){i:Nat}(h:i<ds.length):qQ (ds++l) i=qQ ds i:=by
 unfold qQ;rw[List.getElem?_append_left h]
theorem oZ.mono{ds:List Dc}{s:aQ}{sq:List Nat}(h:oZ ds s sq){ds':List Dc}(he:∃l,ds'=ds++l):oZ ds' s sq:=by
 obtain⟨l,rfl⟩:=he;refine⟨?_,fun i hi=>by have:=h.lt i hi;simp;omega,h.inc,h.nodup⟩;have:sq.map (qQ (ds++l))=sq.map (qQ ds):=List.map_congr_left fun i hi=>Qu ds l (h.lt i hi)
 rw[this];exact h.perm
theorem oZ.push{ds:List Dc}{s:aQ}{sq:List Nat}(h:oZ ds s sq):oZ ds ([]::s) sq:=⟨by simpa using h.perm,h.lt,h.inc,by simpa using h.nodup⟩
theorem oZ.nil(ds:List Dc):oZ ds [[]] []:=⟨by simp,by simp,List.Pairwise.nil,by simp⟩
theorem Lc{ds:List Dc}{s:aQ}{sq:List Nat}(h:oZ ds s sq)(x:ByteArray):eP s x=(oN ds sq x).bind fun i=>(ds[i]?).map Dc.node:=by
 cases hl:oN ds sq x with
 | some i=>
  have hm:=List.mem_of_find?_eq_some hl;have hp:=List.find?_some hl;have hi:=h.lt i hm;simp only[decide_eq_true_eq]at hp;obtain⟨d,hd⟩:∃d,ds[i]? =some d:=⟨_,abI hi⟩
  rw[hd]at hp;simp only[Option.map_some,abJ]at hp;show eP s x=(ds[i]?).map Dc.node;rw[hd];refine F8 h.nodup ((h.perm.mem_iff).2 (List.mem_map.2 ⟨i,hm,?_⟩));unfold qQ;rw[hd,<- hp]
 | none=>
  show eP s x=none
  cases hf:eP s x with
  | none=>rfl
  | some n=>
   have hm:=(h.perm.mem_iff).1 (F9 hf);obtain⟨i,hi,he⟩:=List.mem_map.1 hm;have hlt:=h.lt i hi;obtain⟨d,hd⟩:∃d,ds[i]? =some d:=⟨_,abI hlt⟩
   unfold qQ at he;rw[hd]at he;unfold oN at hl;rw[List.find?_eq_none]at hl;have:=hl i hi;rw[hd]at this;simp only[Option.map_some,abJ,decide_eq_true_eq]at this;exact absurd (congrArg (·.1) he) this
theorem MV{ds:List Dc}{s:aQ}{sq:List Nat}(h:oZ ds s sq)(x:ByteArray):(eP s x).isSome=(oN ds sq x).isSome:=by
 rw[Lc h x]
 cases hl:oN ds sq x with
 | none=>rfl
 | some i=>
  have hi:=h.lt i (List.mem_of_find?_eq_some hl);show((ds[i]?).map Dc.node).isSome=true;rw[abI hi];rfl
def CE(ds:List Dc)(Gn:Int->Prop)(u v:Int):Prop:=(u= -1/\v= -1)\/(∃(j:Nat) (d:Dc),ds[j]? =some d/\d.node=u/\v=(j:Int))\/(0<=u/\v= -2 - u/\Gn u)
theorem CE.mono{ds:List Dc}{Gn:Int->Prop}{u v:Int}(h:CE ds Gn u v)(l:List Dc):CE (ds++l) Gn u v:=by
 rcases h with h| ⟨j,d,hd,h1,h2⟩|h
 ·exact .inl h
 ·exact .inr (.inl ⟨j,d,by rw[List.getElem?_append_left (abK.1 hd).1];exact hd,h1,h2⟩)
 ·exact .inr (.inr h)
structure lX (Gn:Int->Prop) (r:RS) (q:RW):Prop where
 ds:q.ds=r.ds
 list:q.list=r.aW.map (·.2)
 qX:q.uses.length=r.uses.length
 uses:∀(i:Nat) (u v:Int),r.uses[i]? =some u->q.uses[i]? =some v->CE r.ds Gn u v
theorem lX.of_same{Gn:Int->Prop}{r r':RS}{q q':RW}(h:lX Gn r q)(h1:r'.ds=r.ds)(h2:r'.aW=r.aW)(h3:r'.uses=r.uses)(k1:q'.ds=q.ds)(k2:q'.list=q.list)(k3:q'.uses=q.uses):lX Gn r' q':=
 ⟨by rw[k1,h1,h.ds],by rw[k2,h2,h.list],by rw[k3,h3,h.qX],by rw[k3,h3,h1];exact h.uses⟩
theorem TD{ds:List Dc}{Gn:Int->Prop}{a b:List Int}(hl:b.length=a.length)(h:∀(i:Nat) (u v:Int),a[i]? =some u->b[i]? =some v->CE ds Gn u v)(n:Nat){x y:Int}(hx:CE ds Gn x y):
 ∀(i:Nat) (u v:Int),(a.set n x)[i]? =some u->(b.set n y)[i]? =some v->CE ds Gn u v:=by
 intro i u v hu hv;rw[List.getElem?_set]at hu hv;by_cases hni:n=i
 ·rw[if_pos hni]at hu hv
  by_cases hlt:n<a.length
  ·rw[if_pos hlt]at hu
   rw[if_pos (by omega)]at hv;cases hu
   cases hv
   exact hx
  ·rw[if_neg hlt]at hu
   cases hu
 ·rw[if_neg hni]at hu hv
  exact h i u v hu hv
theorem lX.say{Gn:Int->Prop}{r:RS}{q:RW}(h:lX Gn r q)(c:Int)(n:Nat)(t:ae):lX Gn (qg r c n t) (sG q c t):=
 ⟨h.ds,by show q.list++_=(r.aW++_).map _;rw[h.list,List.map_append];rfl,h.qX,h.uses⟩
theorem lX.decl{Gn:Int->Prop}{r:RS}{q:RW}(h:lX Gn r q)(c:Int){n:Nat}(t:ae){o:Int}(hn:q.num=n)(ho:(if c=0\/c=2 then -1 else r.owner)=o):lX Gn (kU r c n t) (sN q c t o):=by
 have hds:(sN q c t o).ds=(kU r c n t).ds:=by
  unfold sN kU;simp only;rw[h.ds,hn,ho]
 refine⟨hds,h.list,by show(q.uses.set _ _).length=(r.uses.set _ _).length;rw[List.length_set,List.length_set,h.qX],?_⟩;show ∀(i:Nat) (u v:Int),(r.uses.set n (n:Int))[i]? =some u->(q.uses.set q.num (q.ds.length:Int))[i]? =some v->CE (r.ds++_) Gn u v;rw[hn];refine TD h.qX (fun i u v hu hv=>(h.uses i u v hu hv).mono _) n (.inr (.inl ⟨r.ds.length,_,by rw[abO (abE _),Nat.sub_self];rfl,rfl,by rw[h.ds]⟩))
theorem lX.fM{Gn:Int->Prop}{r:RS}{q:RW}(h:lX Gn r q){n:Nat}(hn:q.num=n){k v:Int}(hk:CE r.ds Gn k v):lX Gn { r with uses:=r.uses.set n k } { q with uses:=q.uses.set q.num v }:=
 ⟨h.ds,h.list,by simp[h.qX],by rw[hn];exact TD h.qX h.uses n hk⟩
structure yj (G:bf) (GW:List Dc) (Gn:Int->Prop):Prop where
 gl:∀x,gu GW 0 2 x=aT G.globals x
 fl:∀x,gu GW 1 1 x=aT G.fields x
 pr:∀x,gu GW 2 2 x=(aT G.globals x).filter fun j=>decide (jw G j=5)
 rc:∀x,gu GW 0 0 x=(aT G.globals x).filter fun j=>decide (jw G j=3)
 non:∀x,(oP GW false x).isSome=(aT G.globals x).isSome
 nodeg:∀x,(mW GW false x).map Dc.node=aT G.globals x
 nodef:∀x,(mW GW true x).map Dc.node=aT G.fields x
 aac:∀x n,aT G.globals x=some n->0<=n/\Gn n
 posf:∀x n,aT G.fields x=some n->0<=n/\Gn n
structure lN (mk:Int) (i:Bool) (r u:RS) (q v:RW):Prop where
 out:(∀m:Nat,mk=(m:Int)->¬(r.next<=m/\m<u.next))->v.at_=q.at_
 C9:i=true->∀m:Nat,r.next<=m->m<u.next->∃s' sq',bG u.aS (m:Int)=some (aj (ak s'))/\oZ u.ds s' sq'/\(mk=(m:Int)->v.at_=sq')
theorem qc.grow{a b:RS}(h:qc a b):∃l,b.ds=a.ds++l:=by
 obtain⟨l,e,-⟩:=h.ds;exact⟨l,e⟩
theorem lN.refl(mk:Int)(i:Bool){r u:RS}{q v:RW}(hn:u.next=r.next)(ha:v.at_=q.at_):lN mk i r u q v:=⟨fun _=>ha,fun _ m h1 h2=>by omega⟩
theorem lN.trans{mk:Int}{i:Bool}{r u w:RS}{q v z:RW}(h:lN mk i r u q v)(k:lN mk i u w v z)(h1:qc r u)(k1:qc u w):lN mk i r w q z:=by
 have hn1:=h1.next;have hn2:=k1.next;refine⟨fun hm=>?_,fun hi m hm1 hm2=>?_⟩
 ·rw[k.out fun m e hh=>hm m e ⟨by omega,hh.2⟩,h.out fun m e hh=>hm m e ⟨hh.1,by omega⟩]
 ·by_cases hlt:m<u.next
  ·obtain⟨s',sq',a1,a2,a3⟩:=h.C9 hi m hm1 hlt
   refine⟨s',sq',by rw[k1.aS m (.inl hlt)];exact a1,a2.mono k1.grow,fun e=>?_⟩
   rw[k.out fun m' e' hh=>by rw[e]at e';have:m=m':=(by omega);omega]
   exact a3 e
  ·exact k.C9 hi m (by omega) hm2
theorem lN.head{mk:Int}{i:Bool}{r u:RS}{q v:RW}{s:aQ}{sq:List Nat}(hn:u.next=r.next+1)(hv:u.aS=(aC r i (aj (ak s))).aS)(hd:∃l,u.ds=r.ds++l)(hq:q.num=r.next)(ha:v.at_=(dE mk q sq).at_)(hs:i=true->oZ r.ds s sq):lN mk i r u q v:=by
 refine⟨fun hm=>?_,fun hi m hm1 hm2=>?_⟩
 ·rw[ha]
  unfold dE;rw[if_neg fun e=>hm q.num e.symm ⟨by omega,by omega⟩]
 ·have hmr:m=r.next:=by omega
  subst hmr;refine⟨s,sq,?_,(hs hi).mono hd,fun e=>?_⟩
  ·rw[hv]
   subst hi;show bG (cZ r.aS (r.next:Int) _) (r.next:Int)=_;rw[nE,if_pos rfl]
  ·rw[ha]
   unfold dE;rw[if_pos (by rw[hq,e])]
structure IQ (Gn:Int->Prop) (mk:Int) (i:Bool) (r u:RS) (q v:RW):Prop where
 qp:lX Gn u v
 aS:lN mk i r u q v
 num:v.num+1=u.next
theorem rR{Gn:Int->Prop}{r:RS}{q:RW}(h:lX Gn r q)(mk:Int)(sq:List Nat):lX Gn r (dE mk q sq):=by
 unfold dE;split
 ·exact⟨h.ds,h.list,h.qX,h.uses⟩
 ·exact h
theorem qx(mk:Int)(q:RW)(sq:List Nat):(dE mk q sq).num=q.num:=by
 unfold dE;split<;>rfl
theorem Hd{Gn:Int->Prop}{r:RS}{q:RW}(h:lX Gn r q)(i:Bool)(v:List Int):lX Gn (aC r i v) q:=⟨h.ds,h.list,h.qX,h.uses⟩
theorem Z4{s:aQ}(h:s≠[]):∃l s',s=l::s':=by
 cases s with
 | nil=>exact absurd rfl h
 | cons l s=>exact⟨l,s,rfl⟩
theorem oZ.var{ds:List Dc}{s:aQ}{sq:List Nat}(h:oZ ds s sq){d:Dc}(hx:eP s d.name=none):oZ (ds++[d]) ([(d.name,d.node)]::s) (sq++[ds.length])/\(s≠[]->oZ (ds++[d]) (kr s [(d.name,d.node)]) (sq++[ds.length])):=by
 have hno:=LP hx
 have QU:qQ (ds++[d]) ds.length=(d.name,d.node):=by
  unfold qQ;rw[abO (abE _),Nat.sub_self];rfl
 have hm:=h.mono (ds':=ds++[d]) ⟨[d],rfl⟩
 have h1:oZ (ds++[d]) ([(d.name,d.node)]::s) (sq++[ds.length]):=by
  refine⟨?_,fun i hi=>?_,?_,?_⟩
  ·rw[List.flatten_cons,List.map_append,List.map_cons,List.map_nil,QU]
   exact(List.perm_append_comm).trans (hm.perm.append_right _)
  ·rcases List.mem_append.1 hi with hi|hi
   ·have:=h.lt i hi
    simp;omega
   ·rw[List.mem_singleton]at hi
    simp;omega
  ·refine List.pairwise_append.2 ⟨h.inc,List.pairwise_singleton _ _,fun a ha b hb=>?_⟩
   rw[List.mem_singleton]at hb;rw[hb];exact h.lt a ha
  ·rw[List.flatten_cons,List.map_append]
   exact List.nodup_cons.2 ⟨hno,h.nodup⟩
 refine⟨h1,fun hs=>?_⟩;obtain⟨l,s',rfl⟩:=Z4 hs;have hl:d.name ∉ l.map (·.1):=fun h2=>hno (by rw[List.flatten_cons,List.map_append];exact List.mem_append_left _ h2)
 have e:kr (l::s') [(d.name,d.node)]=(l++[(d.name,d.node)])::s':=by
  show(cZ l d.name d.node)::s'=_;rw[PR _ hl]
 have hp:((l++[(d.name,d.node)])::s').flatten.Perm ([(d.name,d.node)]::l::s').flatten:=by
  rw[List.flatten_cons,List.flatten_cons,List.flatten_cons,<- List.append_assoc];exact(List.perm_append_comm).append_right _
 rw[e];exact⟨hp.trans h1.perm,h1.lt,h1.inc,((hp.map _).nodup_iff).2 h1.nodup⟩
theorem Ja{G:bf}{GW:List Dc}{Gn:Int->Prop}(hG:yj G GW Gn){r:RS}{q:RW}(h:lX Gn r q){s:aQ}{sq:List Nat}(hs:oZ r.ds s sq)(i:Bool)(v:List Int){c:Int}(hc:¬(c=0\/c=2))(t:ae){o:Int}(hn:q.num=r.next)(ho:r.owner=o):
 lX Gn (aD G (aC r i v) c r.next t s).1 (fK GW q sq t c o).1/\(aD G (aC r i v) c r.next t s).1.owner=r.owner/\(aD G (aC r i v) c r.next t s).1.next=r.next+1/\(aD G (aC r i v) c r.next t s).1.aS=(aC r i v).aS /\
 (fK GW q sq t c o).1.num=q.num/\(fK GW q sq t c o).1.at_=q.at_/\oZ (aD G (aC r i v) c r.next t s).1.ds (wF G t s r.next::s) (fK GW q sq t c o).2/\(s≠[]->oZ (aD G (aC r i v) c r.next t s).1.ds (kr s (wF G t s r.next)) (fK GW q sq t c o).2) /\
 (s≠[]->oZ (aD G (aC r i v) c r.next t s).1.ds (aD G (aC r i v) c r.next t s).2 (fK GW q sq t c o).2):=by
 have hcond:((oN q.ds sq t.text).isSome || (oP GW false t.text).isSome)=((eP s t.text).isSome || (aT G.globals t.text).isSome):=by
  rw[h.ds,MV hs,hG.non]
 unfold aD fK wF;rw[hcond]
 cases hb:((eP s t.text).isSome || (aT G.globals t.text).isSome) with
 | true=>
  rw[if_pos rfl,if_pos rfl,if_pos rfl];have hpush:oZ r.ds ([]::s) sq:=hs.push;exact⟨(Hd h i v).say 9 r.next t,rfl,rfl,rfl,rfl,rfl,hpush,fun _=>by rw[Xb];exact hs,fun _=>hs⟩
 | false=>
  rw[if_neg (by simp),if_neg (by simp),if_neg (by simp)];rw[Bool.or_eq_false_iff]at hb;have hf:eP s t.text=none:=by simpa using hb.1
  have hdd:(kU (aC r i v) c r.next t).ds=r.ds++[⟨c,t.text,r.next,r.owner⟩]:=by
   unfold kU aC;simp only;rw[if_neg hc]
  have hv:=hs.var (d:=⟨c,t.text,r.next,r.owner⟩) hf;rw[<- h.ds]at hv;refine⟨(Hd h i v).decl c t hn (by rw[if_neg hc];exact ho),rfl,rfl,rfl,rfl,rfl,?_,fun h0=>?_,fun h0=>?_⟩
  ·rw[hdd,<- h.ds]
   exact hv.1
  ·rw[hdd,<- h.ds]
   exact hv.2 h0
  ·rw[hdd,<- h.ds]
   exact hv.2 h0
theorem ZP(GW:List Dc)(q:RW)(sq:List Nat)(t:ae)(c o c' o':Int):(fK GW q sq t c o).2=(fK GW q sq t c' o').2:=by
 unfold fK;split<;>rfl
theorem Dz{Gn:Int->Prop}{r:RS}{q:RW}(h:lX Gn r q)(t:ae){n:Nat}(hn:q.num=n)(o:Option Int)(ho:∀j,o=some j->0<=j/\Gn j):lX Gn (gT r n t o) (su q t o):=by
 cases o with
 | none=>exact h.say 8 n t
 | some j=>
  obtain⟨h1,h2⟩:=ho j rfl;exact h.fM hn (.inr (.inr ⟨h1,rfl,h2⟩))
theorem LW{o:Option Int}{p:Int->Bool}{Q:Int->Prop}(h:∀j,o=some j->Q j):∀j,o.filter p=some j->Q j:=by
 intro j hj
 cases o with
 | none=>cases hj
 | some k=>
  rw[Option.filter_some]at hj;split at hj
  ·exact h j hj
  ·cases hj
theorem Kw(G:bf)(s:aQ)(r u:RS)(t:ae)(h:¬(t.kind=20\/t.kind=22\/t.kind=27\/t.kind=19\/t.kind=9)):iN G s r u t=u:=by
 simp only[not_or]at h;unfold iN;rw[if_neg h.1,if_neg h.2.1,if_neg h.2.2.1,if_neg h.2.2.2.1,if_neg (fun h2=>h.2.2.2.2 h2.1)]
theorem BK{G:bf}{GW:List Dc}{Gn:Int->Prop}(hG:yj G GW Gn){r:RS}{q:RW}(h:lX Gn r q){s:aQ}{sq:List Nat}(i:Bool)(v:List Int)(t:ae)(o:Int)(hn:q.num=r.next)(h20:t.kind=20->oZ r.ds s sq)
 (hk:¬(t.kind=3\/t.kind=4\/t.kind=5\/t.kind=7\/t.kind=8\/t.kind=12\/t.kind=16)):
 lX Gn (iN G s r (aC r i v) t) (mV GW q sq t o)/\(iN G s r (aC r i v) t).owner=r.owner/\(iN G s r (aC r i v) t).aS=(aC r i v).aS/\(mV GW q sq t o).num=q.num/\(mV GW q sq t o).at_=q.at_:=by
 simp only[not_or]at hk;obtain⟨k3,k4,k5,k7,k8,k12,k16⟩:=hk;have hE:=Hd h i v;have hu1:∀o,(gT (aC r i v) r.next t o).owner=r.owner/\(gT (aC r i v) r.next t o).aS=(aC r i v).aS:=fun o=>by cases o<;>exact⟨rfl,rfl⟩
 have hu2:∀o,(su q t o).num=q.num/\(su q t o).at_=q.at_:=fun o=>by cases o<;>exact⟨rfl,rfl⟩
 unfold iN mV;rw[if_neg k3,if_neg k4,if_neg k5];by_cases e20:t.kind=20
 ·rw[if_pos e20,if_pos e20]
  have hs:=h20 e20;rw[Lc hs];unfold yx;rw[show oN q.ds sq t.text=oN r.ds sq t.text by rw[h.ds]]
  cases hl:oN r.ds sq t.text with
  | none=>exact⟨hE.say 8 r.next t,rfl,rfl,rfl,rfl⟩
  | some j=>
   have hj:=hs.lt j (List.mem_of_find?_eq_some hl);obtain⟨d,hd⟩:∃d,r.ds[j]? =some d:=⟨_,abI hj⟩
   have e:((some j).bind fun i=>(r.ds[i]?).map Dc.node)=some d.node:=by
    show(r.ds[j]?).map Dc.node=_;rw[hd];rfl
   rw[e];exact⟨hE.fM hn (.inr (.inl ⟨j,d,hd,rfl,rfl⟩)),rfl,rfl,rfl,rfl⟩
 rw[if_neg e20,if_neg e20];by_cases e22:t.kind=22
 ·rw[if_pos e22,if_pos e22,hG.fl]
  exact⟨Dz hE t hn _ (hG.posf _),(hu1 _).1,(hu1 _).2,(hu2 _).1,(hu2 _).2⟩
 rw[if_neg e22,if_neg e22];by_cases e27:t.kind=27
 ·rw[if_pos e27,if_pos e27,hG.gl]
  exact⟨Dz hE t hn _ (hG.aac _),(hu1 _).1,(hu1 _).2,(hu2 _).1,(hu2 _).2⟩
 rw[if_neg e27,if_neg e27];by_cases e19:t.kind=19
 ·rw[if_pos e19,if_pos e19,hG.pr]
  exact⟨Dz hE t hn _ (LW (hG.aac _)),(hu1 _).1,(hu1 _).2,(hu2 _).1,(hu2 _).2⟩
 rw[if_neg e19,if_neg e19];by_cases e9:t.kind=9/\dJ t.text=false
 ·rw[if_pos e9,if_pos e9,hG.rc]
  exact⟨Dz hE t hn _ (LW (hG.aac _)),(hu1 _).1,(hu1 _).2,(hu2 _).1,(hu2 _).2⟩
 rw[if_neg e9,if_neg e9,if_neg (fun h=>h.elim k7 k8),if_neg k12,if_neg k16];exact⟨hE,rfl,rfl,rfl,rfl⟩
end Go.Proofs.YtoepemlnlpamlaaGreat
namespace Go.Proofs
open Go.Shelf
def Tryz.Tc:Go.Shelf.Ren:=⟨fun|189=>101|125=>170|257=>169|128=>221|129=>222|294=>212|295=>213|296=>214|297=>215|298=>216|299=>217|216=>218|300=>219|301=>220|328=>237|329=>238|330=>239|331=>240|332=>241|215=>151|343=>254|n=>n,fun|28=>28|3=>3|46=>218|0=>0|51=>239|53=>252|4=>4|183=>244|182=>243|131=>88|5=>5|9=>9|218=>263|222=>101|228=>273|229=>207|n=>n,fun|n=>n⟩
theorem Tryz.TN:Go.Proofs.Lays.n189 Tryz.prog Tryz.Tc:={
 mixed:=by kernel_rfl
 f125:=Tryz.func170.trans (congrArg some (by kernel_rfl))
 f128:=Tryz.func221.trans (congrArg some (by kernel_rfl))
 f129:=Tryz.func222.trans (congrArg some (by kernel_rfl))
 f189:=Tryz.func101.trans (congrArg some (by kernel_rfl))
 f215:=Tryz.func151.trans (congrArg some (by kernel_rfl))
 f216:=Tryz.func218.trans (congrArg some (by kernel_rfl))
 f257:=Tryz.func169.trans (congrArg some (by kernel_rfl))
 f294:=Tryz.func212.trans (congrArg some (by kernel_rfl))
 f295:=Tryz.func213.trans (congrArg some (by kernel_rfl))
 f296:=Tryz.func214.trans (congrArg some (by kernel_rfl))
 f297:=Tryz.func215.trans (congrArg some (by kernel_rfl))
 f298:=Tryz.func216.trans (congrArg some (by kernel_rfl))
 f299:=Tryz.func217.trans (congrArg some (by kernel_rfl))
 f300:=Tryz.func219.trans (congrArg some (by kernel_rfl))
 f301:=Tryz.func220.trans (congrArg some (by kernel_rfl))
 f328:=Tryz.func237.trans (congrArg some (by kernel_rfl))
 f329:=Tryz.func238.trans (congrArg some (by kernel_rfl))
 f330:=Tryz.func239.trans (congrArg some (by kernel_rfl))
 f331:=Tryz.func240.trans (congrArg some (by kernel_rfl))
 f332:=Tryz.func241.trans (congrArg some (by kernel_rfl))
 f343:=Tryz.func254.trans (congrArg some (by kernel_rfl))
 t0:=Tryz.underlying0
 a0:=Tryz.isAgg0
 z0:=Tryz.sizeOf0
 v0:=Tryz.zeroValue0
 t3:=Tryz.underlying3
 a3:=Tryz.isAgg3
 z3:=Tryz.sizeOf3
 v3:=Tryz.zeroValue3
 t4:=Tryz.underlying4
 a4:=Tryz.isAgg4
 z4:=Tryz.sizeOf4
 v4:=Tryz.zeroValue4
 t5:=Tryz.underlying5
 a5:=Tryz.isAgg5
 z5:=Tryz.sizeOf5
 v5:=Tryz.zeroValue5
 t9:=Tryz.underlying9
 a9:=Tryz.isAgg9
 z9:=Tryz.sizeOf9
 v9:=Tryz.zeroValue9
 t28:=Tryz.underlying28
 a28:=Tryz.isAgg28
 z28:=Tryz.sizeOf28
 v28:=Tryz.zeroValue28
 t46:=Tryz.underlying218
 a46:=Tryz.isAgg218
 z46:=Tryz.sizeOf218
 v46:=Tryz.zeroValue218
 t51:=Tryz.underlying239
 a51:=Tryz.isAgg239
 z51:=Tryz.sizeOf239
 v51:=Tryz.zeroValue239
 t53:=Tryz.underlying252
 a53:=Tryz.isAgg252
 z53:=Tryz.sizeOf252
 v53:=Tryz.zeroValue252
 t131:=Tryz.underlying88
 a131:=Tryz.isAgg88
 z131:=Tryz.sizeOf88
 v131:=Tryz.zeroValue88
 t182:=Tryz.underlying243
 a182:=Tryz.isAgg243
 z182:=Tryz.sizeOf243
 v182:=Tryz.zeroValue243
 t183:=Tryz.underlying244
 a183:=Tryz.isAgg244
 z183:=Tryz.sizeOf244
 v183:=Tryz.zeroValue244
 t218:=Tryz.underlying263
 a218:=Tryz.isAgg263
 z218:=Tryz.sizeOf263
 v218:=Tryz.zeroValue263
 t222:=Tryz.underlying101
 a222:=Tryz.isAgg101
 z222:=Tryz.sizeOf101
 v222:=Tryz.zeroValue101
 t228:=Tryz.underlying273
 a228:=Tryz.isAgg273
 z228:=Tryz.sizeOf273
 v228:=Tryz.zeroValue273
 t229:=Tryz.underlying207
 a229:=Tryz.isAgg207
 z229:=Tryz.sizeOf207
 v229:=Tryz.zeroValue207 }
open Go.Sort Go.RowKit in
theorem Tryz.slices_Sort_int(blk off cap:Nat)(zs:List Int)(w:World)(hH:Holds (Value.int .i64) w blk off zs.toArray)(hblk:blk<w.heap.size)(hsz:zs.length<4611686018427387904):
 Calls Tryz.prog 101 #[.slice (some ⟨blk,off,none⟩) zs.length cap] w fun e w'=>
  e= .returned (.tuple #[])/\∃n os,w'=grow (putRow (Value.int .i64) (Sort.ahead w n) blk off (zs.mergeSort fun x y=>decide (x<=y)).toArray) os:=Any.slices_Sort_int Tryz.TN blk off cap zs w hH hblk hsz
open Go.RowKit Go.Sort in
theorem Tryz.slices_Sort_int_none(p:Option Addr)(cap:Nat)(w:World):
 Calls Tryz.prog 101 #[.slice p 0 cap] w fun e w'=>e= .returned (.tuple #[])/\w'=w:=Any.slices_Sort_int_none Tryz.TN p cap w
end Go.Proofs
namespace Go.Proofs.YtoepemlnlpamlaaGreat
open Go.RowKit Go.Sort
abbrev gY(l:List Int):List Value:=l.map (Value.int .i64)
theorem abk(v:Value)(base n:Nat)(zs:List Int)(w:World)(h:aL w base 3 1 v n (gY zs))(hn:n<=1000000):
 Calls Tryz.prog 101 #[v] w fun e w'=>e= .returned (.tuple #[])/\aL w' base 3 1 v n (gY (zs.mergeSort fun x y=>decide (x<=y)))/\w.grownBy w' v.ownBlock:=by
 have hl:zs.length=n:=by have:=h.1;simpa using this
 by_cases h0:n=0
 ·subst h0
  have hz:zs=[]:=List.eq_nil_of_length_eq_zero hl;subst hz;obtain⟨A,c,hA,_,_⟩:=h.shape;subst hA;refine(Tryz.slices_Sort_int_none A c w).mono ?_;rintro e w' ⟨rfl,rfl⟩;exact⟨rfl,by simpa using h,⟨rfl,rfl,rfl,abE _,fun _ _ _=>rfl⟩⟩
 ·rcases h.2 with⟨_,h1⟩| ⟨g,off,cap,cur,rfl,hb,hg,hnc,hm,hs,ht⟩
  ·omega
  ·have hlt:g<w.heap.size:=(abH.1 hg).1
   have hH:Holds (Value.int .i64) w g off zs.toArray:=by
    intro j hj;have hj':j<zs.length:=by simpa using hj
    refine⟨?_,by simp[World.frozen?,hg]⟩;obtain⟨g',off',cap',hv',_,_,_,_,hc⟩:=h.form (by omega);cases hv'
    refine hc j _ ?_;simp[hj']
   rw[<- hl];refine(Tryz.slices_Sort_int g off cap zs w hH hlt (by omega)).mono ?_;rintro e w' ⟨rfl,q,os,rfl⟩
   have hheap:(grow (putRow (Value.int .i64) (Sort.ahead w q) g off (zs.mergeSort fun x y=>decide (x<=y)).toArray) os).heap[g]? =some (.cells (putCells (Value.int .i64) off (zs.mergeSort fun x y=>decide (x<=y)).toArray cur) 3 (0,0)):=by
    rw[heap_grow_old _ _ (by simpa using hlt)];simp[putRow,mapBlock,Sort.ahead,Array.getElem?_modify,hg,onCells]
   refine⟨rfl,⟨by simp,.inr ⟨g,off,cap,_,rfl,hb,hheap,by omega,hm,by simp[putCells];omega,?_⟩⟩,⟨rfl,rfl,rfl,by simp,fun k hk hne=>?_⟩⟩
   ·apply List.ext_getElem?
    intro j;by_cases hj:j<zs.length
    ·rw[Nat.mul_one,List.getElem?_take_of_lt hj,List.getElem?_drop,Array.getElem?_toList]
     have h1:off+j<cur.size:=by omega
     simp[putCells,hj,h1]
    ·rw[Nat.mul_one,List.getElem?_take_eq_none (by omega),List.getElem?_eq_none (by simp;omega)]
   ·rw[heap_grow_old _ _ (by simpa using hk)]
    have hgk:g≠k:=fun e=>hne (by simp[Value.ownBlock,e])
    simp[putRow,mapBlock,Sort.ahead,Array.getElem?_modify,hgk]
end Go.Proofs.YtoepemlnlpamlaaGreat
namespace Go.Proofs.YtoepemlnlpamlaaGreat
open Go.RowKit
section
variable {K:Type} [DecidableEq K] {V:Type}
theorem Qq(f:V->Value)(k:K):∀(l:List (K×V)) (i:Nat),(mg k (l.map fun x=>(x.1,f x.2)) i).map (·.2)=(bG l k).map f
 | [],_=>rfl
 | x::l,i=>by
  simp only[List.map_cons,mg,bG];by_cases h:k=x.1
  ·rw[if_pos h,if_pos h];rfl
  ·rw[if_neg h,if_neg h];exact Qq f k l (i+1)
theorem FB(f:V->Value)(l:List (K×V))(k:K):nD (l.map fun x=>(x.1,f x.2)) k=(bG l k).map f:=Qq f k l 0
theorem Fj(x:K×Value)(m:List (K×Value))(k:K)(v:Value)(h:k≠x.1):pE (x::m) k v=x::pE m k v:=by
 unfold pE
 have h1:mg k (x::m) 0=(mg k m 0).map fun y=>(1+y.1,y.2):=by
  show(if k=x.1 then _ else mg k m (0+1))=_;rw[if_neg h,Nat.zero_add];exact DK k m 1 0
 rw[h1]
 cases hp:mg k m 0 with
 | none=>rfl
 | some y=>simp[Nat.add_comm 1]
theorem PQ(x:K×Value)(m:List (K×Value))(k:K)(v:Value)(h:k=x.1):pE (x::m) k v=(k,v)::m:=by
 unfold pE
 have h1:mg k (x::m) 0=some (0,x.2):=by
  show(if k=x.1 then _ else _)=_;rw[if_pos h]
 rw[h1];rfl
theorem Jc(f:V->Value)(k:K)(v:V):∀(l:List (K×V)),pE (l.map fun x=>(x.1,f x.2)) k (f v)=(cZ l k v).map fun x=>(x.1,f x.2)
 | []=>rfl
 | x::l=>by
  simp only[List.map_cons,cZ];by_cases h:k=x.1
  ·rw[if_pos h,PQ _ _ _ _ h];rfl
  ·rw[if_neg h,Fj _ _ _ _ h,Jc f k v l];rfl
end
theorem aL.set1{w:World}{base:Nat}{e:TypeId}{g off c n:Nat}{xs:List Value}(h:aL w base e 1 (.slice (some ⟨g,off,none⟩) n c) n xs)(i:Nat)(hi:i<n)(u:Value):
 aL (w.setCell ⟨g,off+i,none⟩ u) base e 1 (.slice (some ⟨g,off,none⟩) n c) n (xs.set i u):=by
 refine⟨by simpa using h.1,?_⟩;rcases h.2 with⟨h1,_⟩| ⟨g1,MU,M3,J3,hv,hb,hg,hn,hm,hs,ht⟩
 ·cases h1
 ·simp only[Value.slice.injEq,abJ,Addr.mk.injEq]at hv
  obtain⟨⟨rfl,rfl,_⟩,_,rfl⟩:=hv;refine .inr ⟨g,off,c,J3.setIfInBounds (off+i) u,rfl,hb,by simp[World.setCell,Array.getElem?_modify,hg],hn,hm,by simpa using hs,?_⟩;rw[<- ht,Array.toList_setIfInBounds];apply List.ext_getElem?
  intro j;simp only[List.getElem?_take,List.getElem?_drop,List.getElem?_set,List.length_take,List.length_drop];by_cases hj:j<n*1
  ·rw[if_pos hj,if_pos hj]
   by_cases hij:i=j
   ·subst hij
    have:off+i<J3.size:=by omega
    simp[this];omega
   ·simp[hij]
  ·rw[if_neg hj,if_neg hj]
   have:i≠j:=by omega
   simp[this]
theorem aY.qZ{K:Type}[DecidableEq K]{KK:oD K}{w:World}{r g:Nat}{m:List (K×Value)}{t:TypeId}{cs:Array Value}(h:aY KK w r m)(hb:ai w g t cs):r≠g:=by
 rintro rfl;obtain⟨es,clock,h1,_⟩:=h;have:w.heap[r]? =some (.cells cs t (0,0)):=hb;rw[h1]at this;cases this
theorem aL.obj{w:World}{base:Nat}{e:TypeId}{size:Nat}{v:Value}{n:Nat}{xs:List Value}(h:aL w base e size v n xs):∀g,v.ownBlock=some g->∃cur,w.heap[g]? =some (.cells cur e (0,0)):=by
 intro g hv;rcases h.2 with⟨rfl,_⟩| ⟨g1,MU,M3,J3,rfl,_,hg1,_⟩
 ·cases hv
 ·simp[Value.ownBlock]at hv
  subst hv;exact⟨J3,hg1⟩
theorem aY.jf{K:Type}[DecidableEq K]{KK:oD K}{w:World}{r:Nat}{m:List (K×Value)}{base:Nat}{e:TypeId}{size:Nat}{v:Value}{n:Nat}{xs:List Value}(h:aY KK w r m)(ho:aL w base e size v n xs):v.ownBlock≠some r:=by
 intro hv;obtain⟨cur,hg⟩:=ho.obj r hv;obtain⟨es,clock,h1,_⟩:=h;rw[h1]at hg;cases hg
def uQ(l:List (Int×Int)):List (Int×Value):=l.map fun x=>(x.1,.int .i64 x.2)
def jC(l:kP):List (ByteArray×Value):=l.map fun x=>(x.1,.int .i64 x.2)
def cB(d:Dc):List Value:=[.int .i64 d.kind,.string d.name,.int .i64 d.node,.int .i64 d.owner]
def iI(p:Int×Dg):List Value:=[.int .i64 p.1,.int .i64 p.2.code,.int .i64 p.2.at_,.int .i64 p.2.end_,.string p.2.text,.slice none 0 0]
structure RC where
 base:Nat
 rp:Nat
 g:Nat
 f:Nat
 k:Nat
 vi:Nat
 uA:Option Addr
 uc:Nat
structure RV where
 dA:Option Addr
 dc:Nat
 pA:Option Addr
 pc:Nat
 vals:List (Int×Value)
def fB(w:World)(base:Nat)(ub:Option Nat):List (Int×List Int)->List (Int×Value)->Prop
 | [],vals=>vals=[]
 | x::l,vals=> ∃v vs,vals=(x.1,v)::vs/\aL w base 3 1 v x.2.length (gY x.2)/\(∀g,v.ownBlock=some g->ub≠some g/\∀y∈vs,y.2.ownBlock≠some g)/\fB w base ub l vs
theorem fB.of_block{w w':World}{base:Nat}{ub:Option Nat}:∀{l:List (Int×List Int)}{vals:List (Int×Value)},fB w base ub l vals ->
 (∀g cur,w.heap[g]? =some (.cells cur 3 (0,0))->ub≠some g->w'.heap[g]? =w.heap[g]?)->fB w' base ub l vals
 | [],_,h,_=>h
 | _::_,_,⟨v,vs,h1,h2,h3,h4⟩,hk=>⟨v,vs,h1,h2.of_block fun g hg=>by obtain⟨cur,ho⟩:=h2.obj g hg;exact hk g cur ho (h3 g hg).1,h3,fB.of_block h4 hk⟩
structure aV (E:RC) (G:bf) (r:RS) (V:RV) (w:World):Prop where
 blk:ai w E.rp 75 #[.map (some E.g),.map (some E.f),.map (some E.k),.slice V.dA r.ds.length V.dc,.slice E.uA r.uses.length E.uc,.map (some E.vi),.slice V.pA r.aW.length V.pc,.int .i64 (r.next:Int),.int .i64 r.owner]
 gl:aY jg w E.g (jC G.globals)
 fl:aY jg w E.f (jC G.fields)
 kn:aY kC w E.k (uQ G.kinds)
 vi:aY kC w E.vi V.vals
 aS:fB w E.base (Value.slice E.uA r.uses.length E.uc).ownBlock r.aS V.vals
 ds:aL w E.base 49 4 (.slice V.dA r.ds.length V.dc) r.ds.length (r.ds.flatMap cB)
 us:aL w E.base 3 1 (.slice E.uA r.uses.length E.uc) r.uses.length (gY r.uses)
 ps:aL w E.base 80 6 (.slice V.pA r.aW.length V.pc) r.aW.length (r.aW.flatMap iI)
 low:E.base<=E.rp/\E.base<=E.vi
 apart:E.vi≠E.g/\E.vi≠E.f/\E.vi≠E.k
def Tp(E:RC)(M:Nat->Prop)(w:World)(g:Nat):Prop:=
 E.base<=g/\((∃cs t fr,w.heap[g]? =some (.cells cs t fr)/\(t=75\/t=80\/t=49\/E.uA.map (·.block)=some g))\/((∃es ck,w.heap[g]? =some (.map es ck))/\M g))
def KX(E:RC)(M:Nat->Prop)(w w':World):Prop:=aF (Tp E M w) w w'
section
variable {E:RC}{M M':Nat->Prop}{w w1 w':World}
theorem KX.refl(E:RC)(M:Nat->Prop)(w:World):KX E M w w:=aF.refl _ _
theorem KX.trans(h:KX E M w w1)(k:KX E M' w1 w')(hM:∀g,M' g->M g\/w.heap.size<=g):KX E M w w':=by
 refine h.step k fun g hg=>?_
 by_cases hlt:g<w.heap.size
 ·left
  by_cases hT:Tp E M w g
  ·exact hT
  ·have he:=h.block g hlt hT
   obtain⟨h1,h2⟩:=hg;rw[he]at h2;refine⟨h1,h2.imp id fun⟨h3,h4⟩=>⟨h3,?_⟩⟩;rcases hM g h4 with h5|h5
   ·exact h5
   ·omega
 ·right
  omega
theorem KX.mono(h:KX E M w w')(hM:∀g,M g->M' g):KX E M' w w':=aF.mono h fun _ ⟨h1,h2⟩=>⟨h1,h2.imp id fun⟨h3,h4⟩=>⟨h3,hM _ h4⟩⟩
theorem KX.of_below(hb:Below w.heap.size w w'):KX E M w w':=(aF.refl _ _).below hb
theorem KX.low(h:KX E M w w')(hB:E.base<=w.heap.size):Below E.base w w':=aF.toBelow h hB fun _ hk=>hk.1
theorem KX.blk(h:KX E M w w'){g:Nat}{t:TypeId}{cs:Array Value}(hb:ai w g t cs)(h1:t≠75)(h2:t≠80)(h3:t≠49)(h4:E.uA.map (·.block)≠some g):ai w' g t cs:=by
 refine ai.since hb h fun⟨_,h5⟩=>?_
 have hb':w.heap[g]? =some (.cells cs t (0,0)):=hb;rcases h5 with⟨cs',t',fr',h6,h7⟩| ⟨⟨es,ck,h6⟩,_⟩
 ·rw[hb']at h6
  simp at h6;obtain⟨_,rfl,_⟩:=h6;rcases h7 with h7|h7|h7|h7
  ·exact h1 h7
  ·exact h2 h7
  ·exact h3 h7
  ·exact h4 h7
 ·rw[hb']at h6
  cases h6
theorem KX.RO{K:Type}[DecidableEq K]{KK:oD K}{r:Nat}{m:List (K×Value)}(h:KX E M w w')(ha:aY KK w r m)(hM:¬M r):aY KK w' r m:=by
 refine aY.since ha h fun⟨_,h5⟩=>?_
 obtain⟨es',ck',h8,_⟩:=ha;rcases h5 with⟨cs',t',fr',h6,h7⟩| ⟨_,h6⟩
 ·rw[h8]at h6
  cases h6
 ·exact hM h6
end
def bL(w:World)(base:Nat):Option Addr->aQ->List Nat->Prop
 | p,[],ms=>p=none/\ms=[]
 | p,x::s,ms=> ∃b m p' ms',p=some ⟨b,0,none⟩/\ms=m::ms'/\base<=b/\base<=m/\ai w b 95 #[.pointer p',.map (some m)]/\aY jg w m (jC x)/\bL w base p' s ms'
theorem bL.kx{E:RC}{M:Nat->Prop}{w w':World}(h:KX E M w w')(hu:∀g cs,E.uA.map (·.block)=some g->w.heap[g]?≠some (.cells cs 95 (0,0))):∀{s:aQ}{p:Option Addr}{ms:List Nat},bL w E.base p s ms->(∀m∈ms,¬M m)->bL w' E.base p s ms
 | [],_,_,hs,_=>hs
 | _::_,_,_,⟨b,m,p',ms',h1,h2,h3,h4,h5,h6,h7⟩,hM=>by
  subst h2;exact⟨b,m,p',ms',h1,rfl,h3,h4,h.blk h5 (by decide) (by decide) (by decide) (fun hg=>hu b _ hg h5),h.RO h6 (hM m (by simp)),bL.kx h hu h7 fun x hx=>hM x (by simp[hx])⟩
theorem I8(w:World):(zeroValue 3).run Tryz.prog w= .ok (.int .i64 0) w:=by go_simp
theorem pG(w:World)(r:Nat)(l:kP)(h:aY jg w r (jC l))(x:ByteArray):
 (Instr.lookup 70 (.map (some r)) (.string x) true).run Tryz.prog w= .ok (.tuple #[.int .i64 ((bG l x).getD 0),.bool (bG l x).isSome]) w:=by
 have:=Bw (P:=Tryz.prog) (KK:=jg) (t:=70) (kt:=9) (et:=3) Tryz.underlying70 Tryz.underlying9 I8 h x;unfold jC at this;rw[FB]at this
 cases hl:bG l x with
 | none=>rw[hl]at this;exact this
 | some k=>rw[hl]at this;exact this
theorem FJ(p:Option Addr)(w:World):
 Calls Tryz.prog 48 #[.pointer p] w fun e w'=> ∃b m,e= .returned (.pointer (some ⟨b,0,none⟩))/\w.heap.size<=b/\w.heap.size<=m/\ai w' b 95 #[.pointer p,.map (some m)]/\aY jg w' m []/\Below w.heap.size w w':=by
 have hmm:=@run_makeMap Tryz.prog;go_enter Tryz.func48,Tryz.ntmps48
 go_wp2_with fail
 go_ret
 refine⟨w.heap.size+1,w.heap.size,rfl,by omega,abE _,?_,(aY.made w).alloc _,(ag _ _).trans ((ag _ _).mono (by simp))⟩;have:=ai.new (w.alloc (.map #[] 0)) 95 #[.pointer p,.map (some w.heap.size)];simpa using this
theorem JZ(base:Nat)(x:ByteArray)(w:World):∀(s:aQ) (p:Option Addr) (ms:List Nat),bL w base p s ms ->
 Calls Tryz.prog 45 #[.pointer p,.string x] w fun e w'=>e= .returned (.tuple #[.int .i64 ((eP s x).getD 0),.bool (eP s x).isSome])/\w'=w:=by
 intro s
 induction s with
 | nil=>
  rintro p ms ⟨rfl,-⟩;go_enter Tryz.func45,Tryz.ntmps45
  go_wp2_with fail
  go_ret2
  exact⟨rfl,rfl⟩
 | cons l s ih=>
  rintro p ms ⟨b,m,p',ms',rfl,rfl,h1,h2,hb,hm,hs⟩;have hih:=ih p' ms' hs;have hlk:=pG w m l hm x;have c0:=hb.cell 0;have c1:=hb.cell 1;have hlt:=hb.lt;clear ih hb hm hs
  cases hl:bG l x with
  | none=>
   rw[hl]at hlk;simp only[Option.getD_none,Option.isSome_none]at hlk
   have hf:eP (l::s) x=eP s x:=by
    show(match aT l x with|some k=>some k|none=>eP s x)=_;rw[show aT l x=none from hl]
   rw[hf];generalize eP s x=fx at hih⊢
   clear hf hl;have fD:=kH hih;clear hih;go_enter Tryz.func45,Tryz.ntmps45
   go_wp2_with fail
   refine fD.out.mono ?_;rintro e w' ⟨rfl,rfl⟩;go_wp2_with fail
   go_ret2
   exact⟨rfl,rfl⟩
  | some k=>
   rw[hl]at hlk;simp only[Option.getD_some,Option.isSome_some]at hlk
   have hf:eP (l::s) x=some k:=by
    show(match aT l x with|some k=>some k|none=>eP s x)=_;rw[show aT l x=some k from hl]
   rw[hf];clear hf hl hih;go_enter Tryz.func45,Tryz.ntmps45
   go_wp2_with fail
   go_ret2
   exact⟨rfl,rfl⟩
end Go.Proofs.YtoepemlnlpamlaaGreat
