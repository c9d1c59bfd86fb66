/- The law NamesBack holds for every text and every number: it returns true, and its arguments read as before. No condition. Part 38: Back1 Back2 Back3 Back4. -/
import Derived.Test.YtoepemlnlpamlaaGreatBakk23
set_option maxRecDepth 100000
set_option maxHeartbeats 4000000
namespace Go.Proofs.YtoepemlnlpamlaaGreat
mutual
def dU(nm:ByteArray)(U:Nat->Bool):aa->Nat->aa
 | .node k x a z kids,n=>.node k (if U n=true then nm else x) a z (dD nm U kids (n+1))
def dD(nm:ByteArray)(U:Nat->Bool):List aa->Nat->List aa
 | [],_=>[]
 | t::ts,n=>dU nm U t n::dD nm U ts (n+ah t)
end
mutual
def yR(D:Int)(nm x0:ByteArray):aa->Nat->Prop
 | .node _ x _ _ kids,n=>(x≠nm/\((n:Int)=D->x=x0))/\sO D nm x0 kids (n+1)
def sO(D:Int)(nm x0:ByteArray):List aa->Nat->Prop
 | [],_=>True
 | t::ts,n=>yR D nm x0 t n/\sO D nm x0 ts (n+ah t)
end
def yU(k:Int):Prop:=k=3\/k=4\/k=5\/k=7\/k=8\/k=9\/k=12\/k=16\/k=19\/k=20\/k=22\/k=27
mutual
def uE(x0:ByteArray)(U:Nat->Bool):aa->Nat->Prop
 | .node k x _ _ kids,n=>(U n=true->x=x0/\yU k)/\pM x0 U kids (n+1)
def pM(x0:ByteArray)(U:Nat->Bool):List aa->Nat->Prop
 | [],_=>True
 | t::ts,n=>uE x0 U t n/\pM x0 U ts (n+ah t)
end
section
variable (D:Int) (nm x0:ByteArray) (U:Nat->Bool)
def rn(y:ByteArray×Int):ByteArray×Int:=(if y.2=D then nm else y.1,y.2)
def gI(s:aK):aK:=s.map fun l=>l.map (rn D nm)
def Ew(d:Dc):Dc:=if d.node=D then { d with name:=nm } else d
def gL(r:RS):RS:={ r with ds:=r.ds.map (Ew D nm) }
def nM(G:aW):aW:=⟨G.globals.map (rn D nm),G.fields.map (rn D nm),G.kinds⟩
mutual
theorem ql:∀(t:aa) (n:Nat),ah (dU nm U t n)=ah t
 | .node k x a z kids,n=>by rw[dU,ah,ah,Ev]
theorem Ev:∀(ts:List aa) (n:Nat),ag (dD nm U ts n)=ag ts
 | [],n=>by rw[dD]
 | t::ts,n=>by rw[dD,ag,ag,ql t,Ev ts]
end
theorem sD:∀(ts:List aa) (n:Nat),(dD nm U ts n).length=ts.length
 | [],n=>by rw[dD]
 | t::ts,n=>by rw[dD,aaQ,aaQ,sD ts]
theorem CB(t:aa)(n:Nat):(dU nm U t n).kind=t.kind:=by cases t;rfl
theorem rn_vals(l:jr):(l.map (rn D nm)).map (·.2)=l.map (·.2):=by
 rw[List.map_map];rfl
theorem rnS_all(s:aK):ak (gI D nm s)=ak s:=by
 unfold ak gI;rw[List.flatMap_map];congr 1
 funext l
 exact rn_vals D nm l
def qc(l:jr):Prop:=∀y∈l,y.1≠nm/\(y.2=D->y.1=x0)
variable {D nm x0 U}
theorem rQ{l:jr}{x:ByteArray}{j:Int}(h:bJ l x=some j):(x,j)∈l:=by
 induction l with
 | nil=>cases h
 | cons y l ih=>
  rw[bJ]at h;by_cases hx:x=y.1
  ·rw[if_pos hx]at h
   cases h
   rw[hx];exact List.mem_cons_self ..
  ·rw[if_neg hx]at h
   exact List.mem_cons_of_mem _ (ih h)
theorem xI:∀{l:jr},qc D nm x0 l->∀{x:ByteArray},x≠nm->bJ (l.map (rn D nm)) (if bJ l x=some D then nm else x)=bJ l x
 | [],_,x,hx=>rfl
 | y::l,h,x,hx=>by
  obtain⟨h1,h2⟩:=h y (List.mem_cons_self ..);have hl:qc D nm x0 l:=fun z hz=>h z (List.mem_cons_of_mem _ hz)
  have ih:=xI hl hx;rw[List.map_cons,bJ,bJ];by_cases hxy:x=y.1
  ·rw[if_pos hxy]
   by_cases hD:y.2=D
   ·rw[hD,if_pos rfl,if_pos (show nm=(rn D nm y).1 by unfold rn;rw[if_pos hD])]
    exact congrArg some hD
   ·rw[if_neg (fun e=>hD (Option.some.inj e)),if_pos (show x=(rn D nm y).1 by unfold rn;rw[if_neg hD];exact hxy)]
    rfl
  ·rw[if_neg hxy,if_neg,ih]
   intro e;by_cases ho:bJ l x=some D
   ·rw[if_pos ho]at e
    have hx0:=(hl _ (rQ ho)).2 rfl;unfold rn at e;by_cases hD:y.2=D
    ·exact hxy (hx0.trans (h2 hD).symm)
    ·rw[if_neg hD]at e
     exact h1 e.symm
   ·rw[if_neg ho]at e
    unfold rn at e;by_cases hD:y.2=D
    ·rw[if_pos hD]at e
     exact hx e
    ·rw[if_neg hD]at e
     exact hxy e
theorem IJ{l:jr}(h:qc D nm x0 l)(hD:∀y∈l,y.2≠D):bJ (l.map (rn D nm)) nm=none:=by
 induction l with
 | nil=>rfl
 | cons y l ih=>
  rw[List.map_cons,bJ,if_neg]
  ·exact ih (fun z hz=>h z (List.mem_cons_of_mem _ hz)) (fun z hz=>hD z (List.mem_cons_of_mem _ hz))
  ·unfold rn
   rw[if_neg (hD y (List.mem_cons_self ..))];exact fun e=>(h y (List.mem_cons_self ..)).1 e.symm
theorem F3{l:jr}(h:qc D nm x0 l){x:ByteArray}(e:bJ l x=some D):x=x0:=(h _ (rQ e)).2 rfl
theorem Ma:∀{s:aK},(∀l∈s,qc D nm x0 l)->∀{x:ByteArray},bV s x=some D->x=x0
 | [],_,_,e=>by cases e
 | l::s,h,x,e=>by
  rw[bV]at e
  cases hk:aN l x with
  | some k=>
   rw[hk]at e;cases e
   exact F3 (h l (List.mem_cons_self ..)) hk
  | none=>
   rw[hk]at e;exact Ma (fun l' hl'=>h l' (List.mem_cons_of_mem _ hl')) e
theorem Mc:∀{s:aK},(∀l∈s,qc D nm x0 l)->∀{x:ByteArray},x≠nm->bV (gI D nm s) (if bV s x=some D then nm else x)=bV s x
 | [],_,x,hx=>rfl
 | l::s,h,x,hx=>by
  have hl:=h l (List.mem_cons_self ..);have ih:=Mc (s:=s) (fun l' hl'=>h l' (List.mem_cons_of_mem _ hl')) hx;have h1:=xI hl hx;show(match aN (l.map (rn D nm)) (if (match aN l x with|some k=>some k|none=>bV s x)=some D then nm else x) with|some k=>some k|none=>bV (gI D nm s) _)=_;show _=(match aN l x with|some k=>some k|none=>bV s x)
  cases hk:aN l x with
  | some k=>
   rw[show bJ l x=some k from hk]at h1;simp only;rw[show aN (l.map (rn D nm)) (if some k=some D then nm else x)=some k from h1]
  | none=>
   rw[show bJ l x=none from hk,if_neg (fun e=>by cases e)]at h1;simp only
   have hno:aN (l.map (rn D nm)) (if bV s x=some D then nm else x)=none:=by
    by_cases ho:bV s x=some D
    ·rw[if_pos ho]
     have hx0:x=x0:=Ma (fun l' hl'=>h l' (List.mem_cons_of_mem _ hl')) ho;refine IJ hl fun y hy hD=>?_
     have:=(hl y hy).2 hD;have hn:=za (show bJ l x=none from hk);exact hn (by rw[hx0,<- this];exact List.mem_map.2 ⟨y,hy,rfl⟩)
    ·rw[if_neg ho]
     exact h1
   rw[hno];have hfs:bV (l::s) x=bV s x:=by rw[bV,hk]
   rw[hfs];exact ih
theorem QJ:∀{s:aK},(∀l∈s,qc D nm x0 l)->(∀l∈s,∀y∈l,y.2≠D)->bV (gI D nm s) nm=none
 | [],_,_=>rfl
 | l::s,h,hD=>by
  show(match aN (l.map (rn D nm)) nm with|some k=>some k|none=>bV (gI D nm s) nm)=none;rw[show aN (l.map (rn D nm)) nm=none from IJ (h l (List.mem_cons_self ..)) (hD l (List.mem_cons_self ..))];exact QJ (fun l' hl'=>h l' (List.mem_cons_of_mem _ hl')) (fun l' hl'=>hD l' (List.mem_cons_of_mem _ hl'))
def lI(D:Int)(x0:ByteArray)(ds:List Dc):Prop:=∀d∈ds,d.node=D->d.name=x0
theorem lI.snoc{ds:List Dc}(h:lI D x0 ds){c o:Int}{n:Nat}{x:ByteArray}(hx:(n:Int)=D->x=x0):lI D x0 (ds++[⟨c,x,(n:Int),o⟩]):=fun d hd e=>by
 rcases List.mem_append.1 hd with hd|hd
 ·exact h d hd e
 ·rw[List.mem_singleton]at hd
  subst hd;exact hx e
theorem useN_ds(G:aW)(s:aK)(r u:RS)(t:aa):(gH G s r u t).ds=u.ds:=by
 have hu:∀tq,(fC u r.next t tq).ds=u.ds:=fun tq=>by cases tq<;>rfl
 unfold gH;split
 ·exact hu _
 split
 ·exact hu _
 split
 ·exact hu _
 split
 ·exact hu _
 split
 ·exact hu _
 ·rfl
def lU(D:Int)(nm x0:ByteArray)(s:aK)(n:Nat):Prop:=∀l∈s,∀y∈l,(y.1≠nm/\(y.2=D->y.1=x0))/\y.2<(n:Int)
theorem lU.mono{s:aK}{n m:Nat}(h:lU D nm x0 s n)(hm:n<=m):lU D nm x0 s m:=fun l hl y hy=>⟨(h l hl y hy).1,by have:=(h l hl y hy).2;omega⟩
theorem lU.ok{s:aK}{n:Nat}(h:lU D nm x0 s n):∀l∈s,qc D nm x0 l:=fun l hl y hy=>(h l hl y hy).1
theorem lU.push{s:aK}{n:Nat}(h:lU D nm x0 s n):lU D nm x0 ([]::s) n:=fun l hl y hy=>by
 rcases List.mem_cons.1 hl with rfl|hl
 ·cases hy
 ·exact h l hl y hy
theorem lU.one{s:aK}{n:Nat}(h:lU D nm x0 s n){x:ByteArray}(hx:x≠nm/\((n:Int)=D->x=x0)):lU D nm x0 ([(x,(n:Int))]::s) (n+1):=fun l hl y hy=>by
 rcases List.mem_cons.1 hl with rfl|hl
 ·rw[List.mem_singleton]at hy
  subst hy;exact⟨hx,by simp;omega⟩
 ·exact(h.mono (Nat.le_succ n)) l hl y hy
theorem vG(r:RS)(i:Bool)(s:aK):aC (gL D nm r) i (aj (ak (gI D nm s)))=gL D nm (aC r i (aj (ak s))):=by
 rw[rnS_all];rfl
theorem use_rn{G:aW}(hgl:qc D nm x0 G.globals)(hfl:qc D nm x0 G.fields)(hsc:dC nm=false){i:Bool}{s:aK}{r:RS}(hs:lU D nm x0 s r.next){k:Int}{x:ByteArray}{a z:Int}{kids qx:List aa}
 (hc:oO r (gH G s r (aC r i (aj (ak s))) (.node k x a z kids))) (hx:x≠nm) (hl:r.next<r.uses.length) (hf:r.uses[r.next]?≠some D) (hU:U r.next=true↔(gH G s r (aC r i (aj (ak s))) (.node k x a z kids)).uses[r.next]? =some D):
 gH (nM D nm G) (gI D nm s) (gL D nm r) (aC (gL D nm r) i (aj (ak (gI D nm s)))) (.node k (if U r.next=true then nm else x) a z qx)=gL D nm (gH G s r (aC r i (aj (ak s))) (.node k x a z kids))/\(U r.next=true->x=x0/\yU k):=by
 rw[vG];obtain⟨u,hu⟩:∃u,aC r i (aj (ak s))=u:=⟨_,rfl⟩
 have huu:u.uses=r.uses:=by rw[<- hu];rfl
 have hup:u.aO=r.aO:=by rw[<- hu];rfl
 rw[hu]at hc hU⊢
 have kg:yU k->∀(o:Option Int) (o':ByteArray->Option Int),oO r (fC u r.next (.node k x a z kids) o)->(U r.next=true↔(fC u r.next (.node k x a z kids) o).uses[r.next]? =some D)->(o=some D->x=x0)->(o.isSome=true->o' (if o=some D then nm else x)=o) ->
  fC (gL D nm u) r.next (.node k (if U r.next=true then nm else x) a z qx) (o' (if U r.next=true then nm else x))=gL D nm (fC u r.next (.node k x a z kids) o)/\(U r.next=true->x=x0/\yU k):=fun hnk o o' hc hU h0 ho=>by
  cases o with
  | none=>
   unfold oO fC oI at hc;simp[hup]at hc
  | some j=>
   have hj:U r.next=true↔some j=some D:=by
    rw[hU];unfold fC;simp only;rw[huu,List.getElem?_set_self hl]
   have hb:(if U r.next=true then nm else x)=(if some j=some D then nm else x):=by
    by_cases e:some j=some D
    ·rw[if_pos e,if_pos (hj.2 e)]
    ·rw[if_neg e,if_neg (fun h=>e (hj.1 h))]
   refine⟨?_,fun h=>⟨h0 (hj.1 h),hnk⟩⟩;rw[hb,ho rfl];rfl
 have hfl2:∀(p:Int->Bool),(((aN G.globals x).filter p).isSome=true->((aN (G.globals.map (rn D nm)) (if (aN G.globals x).filter p=some D then nm else x)).filter p)=(aN G.globals x).filter p)/\((aN G.globals x).filter p=some D->x=x0):=fun p=>by
  have h1:=xI hgl hx;have h2:=F3 hgl (x:=x)
  cases hk:aN G.globals x with
  | none=>exact⟨fun e=>by simp at e,fun e=>by simp at e⟩
  | some j=>
   rw[show bJ G.globals x=some j from hk]at h1 h2;by_cases hp:p j=true
   ·rw[show(some j).filter p=some j by simp[hp]]
    exact⟨fun _=>by rw[show aN (G.globals.map (rn D nm)) (if some j=some D then nm else x)=some j from h1];simp[hp],h2⟩
   ·rw[show(some j).filter p=none by simp[hp]]
    exact⟨fun e=>by simp at e,fun e=>by simp at e⟩
 unfold gH at hc hU⊢;simp only[show(aa.node k x a z kids).kind=k from rfl,show(aa.node k x a z kids).text=x from rfl,show ∀x' qx,(aa.node k x' a z qx).kind=k from fun _ _=>rfl,show ∀x' qx,(aa.node k x' a z qx).text=x' from fun _ _=>rfl]at hc hU⊢;by_cases h20:k=20
 ·rw[if_pos h20]at hc hU⊢
  rw[if_pos h20];exact kg (by unfold yU;omega) (bV s x) (bV (gI D nm s)) hc hU (Ma hs.ok) (fun _=>Mc hs.ok hx)
 rw[if_neg h20]at hc hU⊢;rw[if_neg h20];by_cases h22:k=22
 ·rw[if_pos h22]at hc hU⊢
  rw[if_pos h22];exact kg (by unfold yU;omega) (aN G.fields x) (aN (G.fields.map (rn D nm))) hc hU (F3 hfl) (fun _=>xI hfl hx)
 rw[if_neg h22]at hc hU⊢;rw[if_neg h22];by_cases h27:k=27
 ·rw[if_pos h27]at hc hU⊢
  rw[if_pos h27];exact kg (by unfold yU;omega) (aN G.globals x) (aN (G.globals.map (rn D nm))) hc hU (F3 hgl) (fun _=>xI hgl hx)
 rw[if_neg h27]at hc hU⊢;rw[if_neg h27];by_cases h19:k=19
 ·rw[if_pos h19]at hc hU⊢
  rw[if_pos h19];have h:=hfl2 fun j=>decide (jP G j=5)
  exact kg (by unfold yU;omega) _ (fun y=>(aN (G.globals.map (rn D nm)) y).filter fun j=>decide (jP G j=5)) hc hU h.2 h.1
 rw[if_neg h19]at hc hU⊢;rw[if_neg h19];by_cases h9:k=9/\dC x=false
 ·rw[if_pos h9]at hc hU⊢
  rw[if_pos ⟨h9.1,by split;exact hsc;exact h9.2⟩];have h:=hfl2 fun j=>decide (jP G j=3)
  exact kg (by unfold yU;omega) _ (fun y=>(aN (G.globals.map (rn D nm)) y).filter fun j=>decide (jP G j=3)) hc hU h.2 h.1
 rw[if_neg h9]at hc hU⊢;have hno:¬(U r.next=true):=fun e=>hf (by rw[<- huu];exact hU.1 e)
 rw[if_neg hno,if_neg h9];exact⟨rfl,fun e=>absurd e hno⟩
end
end Go.Proofs.YtoepemlnlpamlaaGreat
namespace Go.Proofs.YtoepemlnlpamlaaGreat
section
variable {D:Int}{nm x0:ByteArray}{U:Nat->Bool}{G:aW}
structure pO (D:Int) (U:Nat->Bool) (G:aW) (r q:RS):Prop where
 clean:oO r q
 len:q.next<=r.uses.length
 fresh:∀n,r.next<=n->r.uses[n]?≠some D
 us:∀n,r.next<=n->n<q.next->(U n=true↔q.uses[n]? =some D)
 gl:∀y∈G.globals,y.2=D->D<(r.next:Int)\/(q.next:Int)<=D
theorem pO.split{a b c:RS}(h1:nS a b)(h2:nS b c)(h:pO D U G a c):pO D U G a b/\pO D U G b c:=by
 obtain⟨k1,k2⟩:=oO.split h1 h2 h.clean;have n1:=h1.next;have n2:=h2.next;have l1:=h1.zF;have hl:=h.len;refine⟨⟨k1,by omega,h.fresh,fun n hn hm=>?_,fun y hy e=>?_⟩,⟨k2,by omega,fun n hn=>?_,fun n hn hm=>h.us n (by omega) hm,fun y hy e=>?_⟩⟩
 ·rw[h.us n hn (by omega),h2.uses n (.inl hm)]
 ·have:=h.gl y hy e
  omega
 ·rw[h1.uses n (.inr hn)]
  exact h.fresh n (by omega)
 ·have:=h.gl y hy e
  omega
theorem wS{s:aK}{x:ByteArray}{n:Int}(h:bV s x=none):fP s [(x,n)]=(match s with| []=>[]|l::s=>(l++[(x,n)])::s):=by
 cases s with
 | nil=>rfl
 | cons l s=>
  have hl:bJ l x=none:=by
   rw[bV]at h
   cases hk:aN l x with
   | none=>exact hk
   | some k=>rw[hk]at h;cases h
  show(cO l x n)::s=_;rw[Cz n (za hl)]
theorem Oi(hgl:qc D nm x0 G.globals){i:Bool}{v:List Int}{s:aK}{r:RS}{c k:Int}{x:ByteArray}{a z:Int}{kids qx:List aa}(hs:lU D nm x0 s r.next)
 (h:pO D U G r (aA G (aC r i v) c r.next (.node k x a z kids) s).1) (hx:x≠nm/\((r.next:Int)=D->x=x0)):
 bV s x=none/\aN G.globals x=none/\bV (gI D nm s) (if U r.next=true then nm else x)=none/\aN (nM D nm G).globals (if U r.next=true then nm else x)=none/\rn D nm (x,(r.next:Int))=(if U r.next=true then nm else x,(r.next:Int))/\(U r.next=true->x=x0) /\
  (aA G (aC r i v) c r.next (.node k x a z kids) s).1.next=r.next+1/\(aA (nM D nm G) (gL D nm (aC r i v)) c r.next (.node k (if U r.next=true then nm else x) a z qx) (gI D nm s)).1=gL D nm (aA G (aC r i v) c r.next (.node k x a z kids) s).1 /\
  gI D nm (fP s [(x,(r.next:Int))])=fP (gI D nm s) [(if U r.next=true then nm else x,(r.next:Int))]/\(lI D x0 r.ds->lI D x0 (aA G (aC r i v) c r.next (.node k x a z kids) s).1.ds):=by
 obtain⟨hf,hg,he⟩:=El h.clean;have hlen:=h.len;have yP:=h.us r.next (aaD _);have hgg:=h.gl;rw[he]at hlen yP hgg⊢;have hf':bV s x=none:=hf;have hg':aN G.globals x=none:=hg;have hnx:(iR (aC r i v) c r.next (.node k x a z kids)).next=r.next+1:=rfl;rw[hnx]at hlen yP hgg
 have hU:U r.next=true↔(r.next:Int)=D:=by
  rw[yP (by omega)];show(r.uses.set r.next (r.next:Int))[r.next]? =some D↔_;rw[List.getElem?_set_self (by omega)];exact⟨fun e=>Option.some.inj e,fun e=>by rw[e]⟩
 have hrn:rn D nm (x,(r.next:Int))=(if U r.next=true then nm else x,(r.next:Int)):=by
  unfold rn;by_cases e:(r.next:Int)=D
  ·rw[if_pos (show(x,(r.next:Int)).2=D from e),if_pos (hU.2 e)]
  ·rw[if_neg (show ¬(x,(r.next:Int)).2=D from e),if_neg (fun h=>e (hU.1 h))]
 have hfg:bV (gI D nm s) (if U r.next=true then nm else x)=none/\aN (G.globals.map (rn D nm)) (if U r.next=true then nm else x)=none:=by
  by_cases e:(r.next:Int)=D
  ·rw[if_pos (hU.2 e)]
   refine⟨QJ hs.ok fun l hl y hy hd=>?_,IJ hgl fun y hy hd=>?_⟩
   ·have:=(hs l hl y hy).2
    omega
   ·have:=hgg y hy hd
    omega
  ·rw[if_neg (fun h=>e (hU.1 h))]
   have h1:=Mc hs.ok hx.1;have h2:=xI hgl hx.1;rw[hf',if_neg (fun e=>by cases e)]at h1;rw[show bJ G.globals x=none from hg',if_neg (fun e=>by cases e)]at h2;exact⟨h1,h2⟩
 refine⟨hf',hg',hfg.1,hfg.2,hrn,fun e=>hx.2 (hU.1 e),rfl,?_,?_,fun h=>h.snoc hx.2⟩
 ·unfold aA
  rw[if_neg (by
   show ¬((bV (gI D nm s) (if U r.next=true then nm else x)).isSome || (aN (G.globals.map (rn D nm)) (if U r.next=true then nm else x)).isSome)=true;rw[hfg.1,hfg.2]
   simp)]
  unfold iR gL;simp only[List.map_append,List.map_cons,List.map_nil]
  have hd:Ew D nm ⟨c,x,(r.next:Int),if c=0\/c=2 then -1 else(aC r i v).owner⟩=⟨c,if U r.next=true then nm else x,(r.next:Int),if c=0\/c=2 then -1 else(aC r i v).owner⟩:=by
   unfold Ew;by_cases e:(r.next:Int)=D
   ·rw[if_pos e,if_pos (hU.2 e)]
   ·rw[if_neg e,if_neg (fun h=>e (hU.1 h))]
  rw[show(aa.node k x a z kids).text=x from rfl,hd];rfl
 ·rw[wS hf',wS hfg.1]
  cases s with
  | nil=>rfl
  | cons l s=>
   show(l++[(x,(r.next:Int))]).map (rn D nm)::s.map _=(l.map (rn D nm)++[_])::s.map _;rw[List.map_append,List.map_cons,List.map_nil,hrn]
theorem lU.add{s:aK}{n:Nat}(h:lU D nm x0 s n){x:ByteArray}(hx:x≠nm/\((n:Int)=D->x=x0))(hf:bV s x=none):lU D nm x0 (fP s [(x,(n:Int))]) (n+1):=by
 rw[wS hf]
 cases s with
 | nil=>intro l hl;cases hl
 | cons l s=>
  intro l' hl y hy;rcases List.mem_cons.1 hl with rfl|hl
  ·rcases List.mem_append.1 hy with hy|hy
   ·exact(h.mono (Nat.le_succ n)) l (List.mem_cons_self ..) y hy
   ·rw[List.mem_singleton]at hy
    subst hy;exact⟨hx,by simp;omega⟩
  ·exact(h.mono (Nat.le_succ n)) l' (List.mem_cons_of_mem _ hl) y hy
mutual
theorem Sr:∀(t:aa) (n:Nat),xe (dU nm U t n)=xe t
 | .node k x a z kids,n=>by
  have h1:=Su kids (n+1)
  have h2:(dD nm U kids (n+1)).all (fun c=>decide (c.kind≠12))=kids.all (fun c=>decide (c.kind≠12)):=by
   have:∀(l:List aa) (m:Nat),(dD nm U l m).all (fun c=>decide (c.kind≠12))=l.all (fun c=>decide (c.kind≠12)):=by
    intro l
    induction l with
    | nil=>intro m;rw[dD]
    | cons c l ih=>intro m;rw[dD,List.all_cons,List.all_cons,CB,ih]
   exact this kids (n+1)
  rw[dU,xe,xe,h1,h2,sD]
theorem Su:∀(ts:List aa) (n:Nat),nK (dD nm U ts n)=nK ts
 | [],n=>by rw[dD]
 | t::ts,n=>by rw[dD,nK,nK,Sr t,Su ts]
end
end
section
variable {D:Int}{nm x0:ByteArray}{U:Nat->Bool}{G:aW}
theorem KY:∀(a b:List aa) (n:Nat),pM x0 U (a++b) n↔pM x0 U a n/\pM x0 U b (n+ag a)
 | [],b,n=>by simp[pM,ag]
 | t::a,b,n=>by
  rw[List.cons_append,pM,pM,KY a b (n+ah t),ag,and_assoc,Nat.add_assoc]
mutual
theorem Hy(hgl:qc D nm x0 G.globals)(hfl:qc D nm x0 G.fields)(hsc:dC nm=false):∀(t:aa) (i:Bool) (s:aK) (r:RS),xe t=true->pO D U G r (aF G i t s r).1->lU D nm x0 s r.next->yR D nm x0 t r.next ->
 aF (nM D nm G) i (dU nm U t r.next) (gI D nm s) (gL D nm r)=(gL D nm (aF G i t s r).1,gI D nm (aF G i t s r).2)/\uE x0 U t r.next/\lU D nm x0 (aF G i t s r).2 (aF G i t s r).1.next/\(lI D x0 r.ds->lI D x0 (aF G i t s r).1.ds)
 | .node k x a e kids,i,s,r,hin,hR,hs,hT=>by
  obtain⟨hk,h12,h16,hno,hks⟩:=AJ hin;have hin':xe (dU nm U (.node k x a e kids) r.next)=true:=by rw[Sr];exact hin
  rw[dU]at hin'⊢;rw[yR]at hT;rw[Sd G k x a e kids i s r hin]at hR⊢;rw[Sd (nM D nm G) k _ a e (dD nm U kids (r.next+1)) i (gI D nm s) (gL D nm r) hin',sD,uE];rw[vG];have hnr:(gL D nm r).next=r.next:=rfl;rw[hnr]
  have whole:∀(s':aK) (u:RS),u.next=r.next+1->nS r u->lU D nm x0 s' u.next->pO D U G r (ae G i kids 0 kids.length s' u).1 ->
   ae (nM D nm G) i (dD nm U kids (r.next+1)) 0 kids.length (gI D nm s') (gL D nm u)=(gL D nm (ae G i kids 0 kids.length s' u).1,gI D nm (ae G i kids 0 kids.length s' u).2)/\pM x0 U kids (r.next+1)/\pO D U G r u/\u.next<=(ae G i kids 0 kids.length s' u).1.next/\(lI D x0 u.ds->lI D x0 (ae G i kids 0 kids.length s' u).1.ds):=fun s' u hu hr hs' hR=>by
   have hr2:=eU G kids i 0 kids.length s' u;obtain⟨k1,k2⟩:=hR.split hr hr2;have:=sQ hgl hfl hsc kids 0 kids.length (r.next+1) i s' u (by rw[hu];rfl) hks k2 hs' hT.2;rw[hu]at this;simp only[List.drop_zero,List.take_length]at this;exact⟨this.1,this.2.1,k1,hr2.next,this.2.2.2⟩
  by_cases h11:k=11
  ·rw[if_pos h11]at hR⊢
   rw[if_pos h11];obtain⟨g1,g2,g3,g4,g5⟩:=whole ([]::s) (aC r i (aj (ak s))) rfl (LM _ _ _) ((hs.mono (Nat.le_succ _)).push) hR;refine⟨Prod.ext (congrArg (·.1) g1) rfl,⟨fun h=>?_,g2⟩,hs.mono (aaE (Nat.le_succ _) g4),g5⟩;exact absurd ((g3.us r.next (aaD _) (Nat.lt_succ_self _)).1 h) (g3.fresh r.next (aaD _))
  rw[if_neg h11]at hR⊢;rw[if_neg h11];by_cases pG:k=12
  ·rw[if_pos pG]at hR⊢
   rw[if_pos pG];have hr:=zl G r i (aj (ak s)) 4 (.node k x a e kids) ([]::s);have hrv:=(hR.split hr (eU G kids i 0 kids.length s _)).1;obtain⟨f1,f2,f3,f4,f5,f6,f7,f8,f9,f10⟩:=Oi (qx:=dD nm U kids (r.next+1)) hgl hs.push hrv hT.1;obtain⟨g1,g2,g3,g4,g5⟩:=whole s _ f7 hr (by rw[f7];exact hs.mono (Nat.le_succ _)) hR;rw[show gI D nm ([]::s)=[]::gI D nm s from rfl]at f3 f8;rw[f8,g1];have v1:rY G (.node k x a e kids) s r.next=[(x,(r.next:Int))]:=vU (show bV s x=none from f1) f2;have v2:rY (nM D nm G) (.node k (if U r.next=true then nm else x) a e (dD nm U kids (r.next+1))) (gI D nm s) r.next=[(if U r.next=true then nm else x,(r.next:Int))]:=vU (show bV (gI D nm s) _=none from f3) f4;rw[v1,v2];refine⟨Prod.ext rfl ?_,⟨fun h=>⟨f6 h,by unfold yU;omega⟩,g2⟩,(hs.add hT.1 (show bV s x=none from f1)).mono (by rw[f7]at g4;exact g4),fun h=>g5 (f10 h)⟩;show fP (gI D nm s) _=gI D nm (fP s _);rw[wS (show bV s x=none from f1),wS (show bV (gI D nm s) _=none from f3)]
   cases s with
   | nil=>rfl
   | cons l s=>
    show(l.map (rn D nm)++[_])::s.map _=(l++[(x,(r.next:Int))]).map (rn D nm)::s.map _;rw[List.map_append,List.map_cons,List.map_nil,f5]
  rw[if_neg pG]at hR⊢;rw[if_neg pG];by_cases qI:k=16
  ·rw[if_pos qI]at hR⊢
   rw[if_pos qI];have hr:=zl G r i (aj (ak s)) 5 (.node k x a e kids) ([]::s);have hr2:=eU G kids i 0 2 s (aA G (aC r i (aj (ak s))) 5 r.next (.node k x a e kids) ([]::s)).1;have hr3:=eU G kids i 2 1 (rY G (.node k x a e kids) s r.next::s) (ae G i kids 0 2 s (aA G (aC r i (aj (ak s))) 5 r.next (.node k x a e kids) ([]::s)).1).1;obtain⟨k1,k23⟩:=hR.split hr (hr2.trans hr3);obtain⟨k2,k3⟩:=k23.split hr2 hr3;obtain⟨f1,f2,f3,f4,f5,f6,f7,f8,f9,f10⟩:=Oi (qx:=dD nm U kids (r.next+1)) hgl hs.push k1 hT.1;rw[show gI D nm ([]::s)=[]::gI D nm s from rfl]at f3 f8;have v1:rY G (.node k x a e kids) s r.next=[(x,(r.next:Int))]:=vU (show bV s x=none from f1) f2;have v2:rY (nM D nm G) (.node k (if U r.next=true then nm else x) a e (dD nm U kids (r.next+1))) (gI D nm s) r.next=[(if U r.next=true then nm else x,(r.next:Int))]:=vU (show bV (gI D nm s) _=none from f3) f4;rw[f8];rw[v1]at hR hr3 k3⊢;rw[v2];obtain⟨u,hu⟩:∃u,(aA G (aC r i (aj (ak s))) 5 r.next (.node k x a e kids) ([]::s)).1=u:=⟨_,rfl⟩
   rw[hu]at hr hr2 hr3 k1 k2 k3 f7 f10⊢;have hl:=h16 qI
   match kids,hl,hks,hT,hr2,hr3,k2,k3 with
   | [b,c,d],_,hks,hT,hr2,hr3,k2,k3=>
    have g:=sQ hgl hfl hsc [b,c,d] 0 2 (r.next+1) i s u (by rw[f7];rfl) hks k2 (by rw[f7];exact hs.mono (Nat.le_succ _)) hT.2;have hnn:=mZ G [b,c,d] i 0 2 s u hks;obtain⟨w,hw⟩:∃w,(ae G i [b,c,d] 0 2 s u).1=w:=⟨_,rfl⟩
    have g1:=congrArg (·.1) g.1;simp only at g1;rw[hw]at g1 hnn hr2 hr3 k2 k3⊢;rw[g1];have hwn:w.next=r.next+1+(ah b+ah c):=by rw[hnn,f7];simp[ag]
    have hsn:lU D nm x0 ([(x,(r.next:Int))]::s) w.next:=(hs.one hT.1).mono (by omega);have g2:=sQ hgl hfl hsc [b,c,d] 2 1 (r.next+1) i ([(x,(r.next:Int))]::s) w (by rw[hwn];simp[ag]) hks k3 hsn hT.2
    have e2:gI D nm ([(x,(r.next:Int))]::s)=[(if U r.next=true then nm else x,(r.next:Int))]::gI D nm s:=by
     show([(x,(r.next:Int))].map (rn D nm))::_=_;rw[List.map_cons,List.map_nil,f5];rfl
    rw[e2]at g2;have g3:=congrArg (·.1) g2.1;simp only at g3;refine⟨Prod.ext g3 rfl,⟨fun h=>⟨f6 h,by unfold yU;omega⟩,?_⟩,hs.mono (aaE (by omega:r.next<=w.next) hr3.next),fun h=>g2.2.2.2 (by have:=g.2.2.2 (f10 h);rw[hw]at this;exact this)⟩;have u1:=g.2.1;have u2:=g2.2.1;rw[f7]at u1;rw[hwn]at u2;rw[show [b,c,d]=[b,c]++[d] from rfl,KY];exact⟨u1,by simpa [ag] using u2⟩
  rw[if_neg qI]at hR⊢;rw[if_neg qI];have hr:=OI G s r i (aj (ak s)) (.node k x a e kids);have hnx:=Ww G s r i (aj (ak s)) (.node k x a e kids);obtain⟨g1,g2,g3,g4,g5⟩:=whole s _ hnx hr (by rw[hnx];exact hs.mono (Nat.le_succ _)) hR;have hlen:=g3.len;rw[hnx]at hlen;have hu:=use_rn (qx:=dD nm U kids (r.next+1)) hgl hfl hsc hs g3.clean hT.1.1 (by omega) (g3.fresh r.next (aaD _)) (g3.us r.next (aaD _) (by rw[hnx];exact Nat.lt_succ_self _));rw[vG]at hu;rw[hu.1,g1];exact⟨rfl,⟨hu.2,g2⟩,hs.mono (aaE (by rw[hnx];exact Nat.le_succ _) g4),fun h=>g5 (by rw[useN_ds];exact h)⟩
theorem sQ(hgl:qc D nm x0 G.globals)(hfl:qc D nm x0 G.fields)(hsc:dC nm=false):∀(ts:List aa) (f n m:Nat) (i:Bool) (s:aK) (r:RS),m+ag (ts.take f)=r.next->nK ts=true->pO D U G r (ae G i ts f n s r).1->lU D nm x0 s r.next->sO D nm x0 ts m ->
 ae (nM D nm G) i (dD nm U ts m) f n (gI D nm s) (gL D nm r)=(gL D nm (ae G i ts f n s r).1,gI D nm (ae G i ts f n s r).2)/\pM x0 U ((ts.drop f).take n) r.next/\lU D nm x0 (ae G i ts f n s r).2 (ae G i ts f n s r).1.next/\(lI D x0 r.ds->lI D x0 (ae G i ts f n s r).1.ds)
 | [],f,n,m,i,s,r,_,_,_,hs,_=>by
  rw[dD,ae,ae];exact⟨rfl,by simp[pM],hs,id⟩
 | t::ts,f+1,n,m,i,s,r,hm,hin,hR,hs,hT=>by
  rw[nK,aaF]at hin;rw[ae]at hR;rw[dD,ae,ae,List.drop_succ_cons];rw[sO]at hT;exact sQ hgl hfl hsc ts f n (m+ah t) i s r (by rw[<- hm,List.take_succ_cons,ag,Nat.add_assoc]) hin.2 hR hs hT.2
 | t::ts,0,0,m,i,s,r,_,_,_,hs,_=>by
  rw[dD,ae,ae];exact⟨rfl,by simp[pM],hs,id⟩
 | t::ts,0,n+1,m,i,s,r,hm,hin,hR,hs,hT=>by
  rw[nK,aaF]at hin;rw[ae]at hR;rw[dD,ae,ae];rw[sO]at hT;have hm':m=r.next:=by simpa [ag] using hm
  subst hm';have hr1:=qi G t i s r;have hr2:=eU G ts i 0 n (aF G i t s r).2 (aF G i t s r).1;obtain⟨k1,k2⟩:=hR.split hr1 hr2;have hnn:=CO G t i s r hin.1;obtain⟨g1,g2,g3,g4⟩:=Hy hgl hfl hsc t i s r hin.1 k1 hs hT.1;obtain⟨w1,w2,w3,w4⟩:=sQ hgl hfl hsc ts 0 n (r.next+ah t) i (aF G i t s r).2 (aF G i t s r).1 (by rw[hnn];simp[ag]) hin.2 k2 g3 hT.2;rw[g1];refine⟨w1,?_,w3,fun h=>w4 (g4 h)⟩;rw[List.drop_zero,List.take_succ_cons,pM];rw[List.drop_zero,hnn]at w2;exact⟨g2,w2⟩
end
end
section
variable {D:Int}{nm x0:ByteArray}{U:Nat->Bool}{G G0:aW}
theorem pO.glob{r q:RS}(h:pO D U G0 r q)(hg:∀y∈G.globals,y.2=D->D<(r.next:Int)\/(q.next:Int)<=D):pO D U G r q:=⟨h.clean,h.len,h.fresh,h.us,hg⟩
theorem QO{l:jr}(hl:qc D nm x0 l){i:Bool}{v:List Int}{r:RS}{c k:Int}{x:ByteArray}{a z:Int}{kids qx:List aa}
 (h:pO D U G0 r (aQ (aC r i v) c r.next (.node k x a z kids) (decide ((aN l x).getD 0≠(r.next:Int))))) (hx:x≠nm/\((r.next:Int)=D->x=x0)) (hn:0<r.next):
 aQ (gL D nm (aC r i v)) c r.next (.node k (if U r.next=true then nm else x) a z qx) (decide ((aN (l.map (rn D nm)) (if U r.next=true then nm else x)).getD 0≠(r.next:Int)))=gL D nm (aQ (aC r i v) c r.next (.node k x a z kids) (decide ((aN l x).getD 0≠(r.next:Int)))) /\
  (U r.next=true->x=x0)/\(aQ (aC r i v) c r.next (.node k x a z kids) (decide ((aN l x).getD 0≠(r.next:Int)))).next=r.next+1/\(U r.next=true↔(r.next:Int)=D) /\
  (aQ (aC r i v) c r.next (.node k x a z kids) (decide ((aN l x).getD 0≠(r.next:Int)))).ds=r.ds++[⟨c,x,(r.next:Int),if c=0\/c=2 then -1 else r.owner⟩]:=by
 by_cases hb:(aN l x).getD 0≠(r.next:Int)
 ·have hc:=h.clean
  rw[decide_eq_true hb]at hc;unfold oO aQ oI aC at hc;simp at hc
 rw[decide_eq_false hb]at h⊢;have hlen:=h.len;have yP:=h.us r.next (aaD _);have hnx:(aQ (aC r i v) c r.next (.node k x a z kids) false).next=r.next+1:=rfl;rw[hnx]at hlen yP
 have hU:U r.next=true↔(r.next:Int)=D:=by
  rw[yP (by omega)];show(r.uses.set r.next (r.next:Int))[r.next]? =some D↔_;rw[List.getElem?_set_self (by omega)];exact⟨fun e=>Option.some.inj e,fun e=>by rw[e]⟩
 have hs:bJ l x=some (r.next:Int):=by
  have hb':(aN l x).getD 0=(r.next:Int):=Decidable.not_not.1 hb
  cases hk:aN l x with
  | none=>rw[hk]at hb';simp at hb';omega
  | some j=>rw[hk]at hb';rw[show bJ l x=some j from hk];exact congrArg some hb'
 have h1:=xI hl hx.1;rw[hs]at h1
 have hb2:(if U r.next=true then nm else x)=(if some (r.next:Int)=some D then nm else x):=by
  by_cases e:(r.next:Int)=D
  ·rw[if_pos (hU.2 e),if_pos (by rw[e])]
  ·rw[if_neg (fun h=>e (hU.1 h)),if_neg (fun h=>e (Option.some.inj h))]
 have h3:aN (l.map (rn D nm)) (if U r.next=true then nm else x)=some (r.next:Int):=by rw[hb2];exact h1
 rw[h3,decide_eq_false (by simp)];refine⟨?_,fun e=>hx.2 (hU.1 e),rfl,hU,rfl⟩;show iR _ _ _ _=gL D nm (iR _ _ _ _);unfold iR gL;simp only[List.map_append,List.map_cons,List.map_nil]
 have hd:Ew D nm ⟨c,x,(r.next:Int),if c=0\/c=2 then -1 else(aC r i v).owner⟩=⟨c,if U r.next=true then nm else x,(r.next:Int),if c=0\/c=2 then -1 else(aC r i v).owner⟩:=by
  unfold Ew;by_cases e:(r.next:Int)=D
  ·rw[if_pos e,if_pos (hU.2 e)]
  ·rw[if_neg e,if_neg (fun h=>e (hU.1 h))]
 rw[show(aa.node k x a z kids).text=x from rfl,hd];rfl
variable (hgl:qc D nm x0 G.globals) (hfl:qc D nm x0 G.fields) (hsc:dC nm=false)
include hgl hfl hsc
theorem rn_prm{p:aa}(hk:p.kind=7\/p.kind=8)(hq:∀q∈p.kids,tV q){i:Bool}{s:aK}{r:RS}(hR:pO D U G r (aF G i p s r).1)(hs:lU D nm x0 s r.next)(hT:yR D nm x0 p r.next):
 aF (nM D nm G) i (dU nm U p r.next) (gI D nm s) (gL D nm r)=(gL D nm (aF G i p s r).1,gI D nm (aF G i p s r).2)/\uE x0 U p r.next/\lU D nm x0 (aF G i p s r).2 (aF G i p s r).1.next/\(aF G i p s r).1.next=r.next+ah p/\(lI D x0 r.ds->lI D x0 (aF G i p s r).1.ds):=by
 obtain⟨k,x,a,e,kids⟩:=p;have hk':k=7\/k=8:=hk;have hq':∀q∈kids,tV q:=hq;obtain⟨hin,hno⟩:=zb hq';obtain⟨x',hx'⟩:∃q,(if U r.next=true then nm else x)=q:=⟨_,rfl⟩
 rw[dU,hx'];rw[yR]at hT;rw[bY G i k x a e kids s r,if_neg (by omega),if_neg (by omega),if_neg (by omega),if_pos hk']at hR⊢;rw[bY (nM D nm G) i k x' a e _ (gI D nm s) (gL D nm r),if_neg (by omega),if_neg (by omega),if_neg (by omega),if_pos hk',sD,vG,uE];subst hx';rw[show(gL D nm r).next=r.next from rfl];have hr:=zl G r i (aj (ak s)) 3 (.node k x a e kids) s;have hr2:=eU G kids i 0 kids.length (aA G (aC r i (aj (ak s))) 3 r.next (.node k x a e kids) s).2 (aA G (aC r i (aj (ak s))) 3 r.next (.node k x a e kids) s).1;obtain⟨k1,k2⟩:=hR.split hr hr2;have hcl:=(El k1.clean).2.2;obtain⟨f1,f2,f3,f4,f5,f6,f7,f8,f9,f10⟩:=Oi (qx:=dD nm U kids (r.next+1)) hgl hs k1 hT.1;have hv2:(aA G (aC r i (aj (ak s))) 3 r.next (.node k x a e kids) s).2=fP s [(x,(r.next:Int))]:=by rw[hcl];rfl
 have hv3:(aA (nM D nm G) (gL D nm (aC r i (aj (ak s)))) 3 r.next (.node k (if U r.next=true then nm else x) a e (dD nm U kids (r.next+1))) (gI D nm s)).2=gI D nm (fP s [(x,(r.next:Int))]):=by
  rw[f9];unfold aA
  rw[if_neg (by
   show ¬((bV (gI D nm s) (if U r.next=true then nm else x)).isSome || (aN (nM D nm G).globals (if U r.next=true then nm else x)).isSome)=true;rw[f3,f4]
   simp)]
  rfl
 rw[f8,hv3];rw[hv2]at hr2 k2⊢;have hsa:lU D nm x0 (fP s [(x,(r.next:Int))]) (aA G (aC r i (aj (ak s))) 3 r.next (.node k x a e kids) s).1.next:=by rw[f7];exact hs.add hT.1 f1
 obtain⟨g1,g2,g3,g5⟩:=sQ hgl hfl hsc kids 0 kids.length (r.next+1) i (fP s [(x,(r.next:Int))]) _ (by rw[f7];rfl) hin k2 hsa hT.2;rw[f7]at g2;refine⟨g1,⟨fun h=>⟨f6 h,by unfold yU;omega⟩,by simpa using g2⟩,g3,?_,fun h=>g5 (f10 h)⟩;rw[mZ G kids i 0 kids.length _ _ hin,f7,ah];simp;omega
theorem Sq:∀{ps:List aa},(∀p∈ps,(p.kind=7\/p.kind=8)/\∀q∈p.kids,tV q)->∀{i:Bool}{s:aK}{r:RS},pO D U G r (ae G i ps 0 ps.length s r).1->lU D nm x0 s r.next->sO D nm x0 ps r.next ->
 ae (nM D nm G) i (dD nm U ps r.next) 0 ps.length (gI D nm s) (gL D nm r)=(gL D nm (ae G i ps 0 ps.length s r).1,gI D nm (ae G i ps 0 ps.length s r).2)/\pM x0 U ps r.next/\lU D nm x0 (ae G i ps 0 ps.length s r).2 (ae G i ps 0 ps.length s r).1.next/\(lI D x0 r.ds->lI D x0 (ae G i ps 0 ps.length s r).1.ds)
 | [],_,i,s,r,_,hs,_=>by
  rw[dD,ae,ae,pM];exact⟨rfl,trivial,hs,id⟩
 | p::ps,h,i,s,r,hR,hs,hT=>by
  rw[aaQ,ae]at hR;rw[aaQ,dD,ae,ae,pM];rw[sO]at hT;have hr1:=qi G p i s r;have hr2:=eU G ps i 0 ps.length (aF G i p s r).2 (aF G i p s r).1;obtain⟨k1,k2⟩:=hR.split hr1 hr2;obtain⟨g1,g2,g3,g4,g5⟩:=rn_prm hgl hfl hsc (h p (List.mem_cons_self ..)).1 (h p (List.mem_cons_self ..)).2 k1 hs hT.1;have w:=Sq (ps:=ps) (fun q hq=>h q (List.mem_cons_of_mem _ hq)) k2 g3 (by rw[g4];exact hT.2);rw[g4]at w;rw[g1];exact⟨w.1,⟨g2,w.2.1⟩,w.2.2.1,fun h=>w.2.2.2 (g5 h)⟩
theorem rn_proc{x:ByteArray}{a e:Int}{kids:List aa}(hsh:gJ (.node 5 x a e kids)=true){s:aK}{r:RS}(hR:pO D U G0 r (aF G false (.node 5 x a e kids) s r).1)
 (hg:∀y∈G.globals,y.2=D->D<=(r.next:Int)\/((aF G false (.node 5 x a e kids) s r).1.next:Int)<=D) (hT:yR D nm x0 (.node 5 x a e kids) r.next) (hn:0<r.next):
 aF (nM D nm G) false (dU nm U (.node 5 x a e kids) r.next) (gI D nm s) (gL D nm r)=(gL D nm (aF G false (.node 5 x a e kids) s r).1,gI D nm (aF G false (.node 5 x a e kids) s r).2)/\uE x0 U (.node 5 x a e kids) r.next /\
  (lI D x0 r.ds->lI D x0 (aF G false (.node 5 x a e kids) s r).1.ds)/\(U r.next=true↔(r.next:Int)=D)/\∃d∈(aF G false (.node 5 x a e kids) s r).1.ds,d.node=(r.next:Int):=by
 obtain⟨b,c,d,rfl,hb6,hps,hlc,Zy,hind⟩:=JZ hsh;obtain⟨x',hx'⟩:∃q,(if U r.next=true then nm else x)=q:=⟨_,rfl⟩
 rw[dU,hx'];rw[yR,sO,sO,sO]at hT;rw[bY,if_neg (by decide),if_neg (by decide),if_pos rfl]at hR hg;rw[bY (nM D nm G) false 5 x' a e,if_neg (by decide),if_neg (by decide),if_pos rfl,bY G false 5 x a e [b,c,d],if_neg (by decide),if_neg (by decide),if_pos rfl,vG,uE,pM,pM,pM,pM,dD,dD,dD,dD];rw[show(gL D nm r).next=r.next from rfl];subst hx';obtain⟨M,hM⟩:∃M,aQ (aC r false (aj (ak s))) 2 r.next (.node 5 x a e [b,c,d]) (decide ((aN G.globals x).getD 0≠(r.next:Int)))=M:=⟨_,rfl⟩
 obtain⟨D1,hD1⟩:∃D1:RS,({ M with owner:=(r.next:Int) }:RS)=D1:=⟨_,rfl⟩
 have hdec:=fun h=>QO (G0:=G0) (U:=U) (qx:=[dU nm U b (r.next+1),dU nm U c (r.next+1+ah b),dU nm U d (r.next+1+ah b+ah c)]) (i:=false) (v:=aj (ak s)) (r:=r) (c:=2) (k:=5) (x:=x) (a:=a) (z:=e) (kids:=[b,c,d]) hgl h hT.1 hn
 rw[hM]at hR hg hdec⊢;rw[hD1]at hR hg⊢;have Xq:nS r M:=by rw[<- hM];exact iD.declare r false (aj (ak s)) 2 (.node 5 x a e [b,c,d]) _
 have PO:nS M D1:=by rw[<- hD1];exact iD.owner _ _
 obtain⟨q,hq⟩:∃q,ae G false [b,c,d] 0 2 [[]] D1=q:=⟨_,rfl⟩
 rw[hq]at hR hg⊢;have hrq:nS D1 q.1:=by rw[<- hq];exact eU G _ false 0 2 _ D1
 have hrd:=eU G [b,c,d] true 2 1 ([]::q.2) q.1;obtain⟨kM,k2⟩:=hR.split Xq ((PO.trans hrq).trans hrd);obtain⟨g1,g2,g3,g4,g5⟩:=hdec kM;have Bz:D1.next=r.next+1:=by rw[<- hD1];exact g3
 obtain⟨-,k3⟩:=k2.split PO (hrq.trans hrd)
 have k4:pO D U G D1 (ae G true [b,c,d] 2 1 ([]::q.2) q.1).1:=k3.glob fun y hy he=>by
  have:=hg y hy he;have h2:(ae G true [b,c,d] 2 1 ([]::q.2) q.1).1.next=(ae G true [b,c,d] 2 1 ([]::q.2) q.1).1.next:=rfl;rcases this with h|h
  ·exact .inl (by omega)
  ·exact .inr h
 obtain⟨k5,k6⟩:=k4.split hrq hrd
 have hqq:ae G false [b,c,d] 0 2 [[]] D1=aF G false c (aF G false b [[]] D1).2 (aF G false b [[]] D1).1:=by
  rw[ae,ae,ae]
 have hvd:ae G true [b,c,d] 2 1 ([]::q.2) q.1=aF G true d ([]::q.2) q.1:=by
  rw[ae,ae,ae,ae]
 have hrb:=qi G b false [[]] D1;rw[<- hq,hqq]at k5;obtain⟨kb,kc⟩:=k5.split hrb (qi G c false _ _)
 have hb:aF (nM D nm G) false (dU nm U b D1.next) (gI D nm [[]]) (gL D nm D1)=(gL D nm (aF G false b [[]] D1).1,gI D nm (aF G false b [[]] D1).2)/\uE x0 U b D1.next/\lU D nm x0 (aF G false b [[]] D1).2 (aF G false b [[]] D1).1.next/\(aF G false b [[]] D1).1.next=D1.next+ah b/\(lI D x0 D1.ds->lI D x0 (aF G false b [[]] D1).1.ds):=by
  obtain⟨k,bx,ba,be,bk⟩:=b;have hk6:k=6:=hb6;subst hk6
  have kg:∀(G:aW) (x:ByteArray) (kk:List aa) (s:aK) (r u:RS),gH G s r u (.node 6 x ba be kk)=u:=fun G x kk s r u=>by
   unfold gH;show(if (6:Int)=20 then _ else if (6:Int)=22 then _ else if (6:Int)=27 then _ else if (6:Int)=19 then _ else if (6:Int)=9/\dC x=false then _ else _)=_;rw[if_neg (by decide),if_neg (by decide),if_neg (by decide),if_neg (by decide),if_neg (fun h=>absurd h.1 (by decide))]
  have hvb:∀(G:aW) (x:ByteArray) (kk:List aa) (s:aK) (r:RS),aF G false (.node 6 x ba be kk) s r=ae G false kk 0 kk.length s (aC r false (aj (ak s))):=fun G x kk s r=>by
   rw[bY,if_neg (by decide),if_neg (by decide),if_neg (by decide),if_neg (by decide),if_neg (by decide),if_neg (by decide),if_neg (by decide),kg]
  rw[hvb]at kb⊢;rw[dU,hvb,sD,vG,uE];have hb1:=hT.2.1;rw[yR]at hb1;have hre:=LM D1 false (aj (ak ([[]]:aK)));obtain⟨ke,ks⟩:=kb.split hre (eU G bk false 0 bk.length [[]] _);have hw:=Sq hgl hfl hsc (ps:=bk) hps ks (s:=[[]]) (fun l hl y hy=>by rw[List.mem_singleton]at hl;subst hl;cases hy) (by show sO D nm x0 bk (D1.next+1);rw[Bz];exact hb1.2);have hnx:=(J2 G false (ps:=bk) hps ks.clean (WE _)).2;refine⟨hw.1,⟨fun h=>absurd ((ke.us D1.next (aaD _) (Nat.lt_succ_self _)).1 h) (ke.fresh D1.next (aaD _)),hw.2.1⟩,hw.2.2.1,?_,hw.2.2.2⟩;rw[hnx,ah];show D1.next+1+_=_;omega
 have hc2:=Hy hgl hfl hsc c false (aF G false b [[]] D1).2 (aF G false b [[]] D1).1 (IK hlc) kc hb.2.2.1 (by rw[hb.2.2.2.1,Bz];exact hT.2.2.1);have hnc:=CO G c false (aF G false b [[]] D1).2 (aF G false b [[]] D1).1 (IK hlc);rw[<- hqq,hq]at hc2 hnc;rw[hvd]at k6;have Xr:q.1.next=r.next+1+ah b+ah c:=by rw[hnc,hb.2.2.2.1,Bz]
 have hd2:=Hy hgl hfl hsc d true ([]::q.2) q.1 hind k6 (hc2.2.2.1.push) (by rw[Xr];exact hT.2.2.2.1);have hb':=hb.1;have hc':=hc2.1;have hd':=hd2.1;rw[Bz]at hb';rw[hb.2.2.2.1,Bz]at hc';rw[Xr]at hd'
 rw[show({ aQ (gL D nm (aC r false (aj (ak s)))) 2 r.next (.node 5 (if U r.next=true then nm else x) a e [dU nm U b (r.next+1),dU nm U c (r.next+1+ah b),dU nm U d (r.next+1+ah b+ah c)]) (decide ((aN (nM D nm G).globals (if U r.next=true then nm else x)).getD 0≠(r.next:Int))) with owner:=(r.next:Int) }:RS)=gL D nm D1 by
  rw[show(nM D nm G).globals=G.globals.map (rn D nm) from rfl,g1,<- hD1];rfl]
 have hqq':ae (nM D nm G) false [dU nm U b (r.next+1),dU nm U c (r.next+1+ah b),dU nm U d (r.next+1+ah b+ah c)] 0 2 [[]] (gL D nm D1)=(gL D nm q.1,gI D nm q.2):=by
  rw[ae,ae,ae,show([[]]:aK)=gI D nm [[]] from rfl,hb'];exact hc'
 rw[hqq']
 have hvd':ae (nM D nm G) true [dU nm U b (r.next+1),dU nm U c (r.next+1+ah b),dU nm U d (r.next+1+ah b+ah c)] 2 1 ([]::gI D nm q.2) (gL D nm q.1)=(gL D nm (aF G true d ([]::q.2) q.1).1,gI D nm (aF G true d ([]::q.2) q.1).2):=by
  rw[ae,ae,ae,ae];exact hd'
 rw[hvd',hvd];refine⟨rfl,⟨fun h=>⟨g2 h,by unfold yU;omega⟩,?_,?_,?_,trivial⟩,fun h=>hd2.2.2.2 (hc2.2.2.2 (hb.2.2.2.2 ?_)),g4,?_⟩
 ·rw[<- Bz];exact hb.2.1
 ·have:=hc2.2.1
  rw[hb.2.2.2.1,Bz]at this;exact this
 ·have:=hd2.2.1
  rw[Xr]at this;exact this
 ·rw[<- hD1]
  show lI D x0 M.ds;rw[g5];exact h.snoc hT.1.2
 ·obtain⟨l,hl,-⟩:=(hrq.trans (qi G d true ([]::q.2) q.1)).ds
  refine⟨⟨2,x,(r.next:Int),-1⟩,?_,rfl⟩;rw[hl,<- hD1];show _∈M.ds++l;rw[g5];simp
end
end Go.Proofs.YtoepemlnlpamlaaGreat
