/- The law NamesStand holds: for every text and every number the law returns true, and its arguments read as before. No condition. Part 38: At3 At4 At5 Free. -/
import Derived.Test.YtoepemlnlpamlaaGreatStand34
import Derived.Test.YtoepemlnlpamlaaGreatStand37
set_option maxRecDepth 100000
set_option maxHeartbeats 4000000
namespace Go.Proofs.YtoepemlnlpamlaaGreat
structure ja (s:aT) (r:RS):Prop where
 nodup:(s.flatten.map (·.1)).Nodup
 decl:∀y∈s.flatten,∃d∈r.ds,d.node=y.2/\d.name=y.1
theorem ja.mono{s:aT}{r q:RS}(h:ja s r)(k:oV r q):ja s q:=by
 obtain⟨l,e,_⟩:=k.ds;exact⟨h.nodup,fun y hy=>by obtain⟨d,hd,h1⟩:=h.decl y hy;exact⟨d,by rw[e];exact List.mem_append_left _ hd,h1⟩⟩
theorem ja.push{s:aT}{r:RS}(h:ja s r):ja ([]::s) r:=⟨by simpa using h.nodup,fun y hy=>h.decl y (by simpa using hy)⟩
theorem JX{K V:Type}[DecidableEq K]:∀{l:List (K×V)}{k:K},bG l k=none->k ∉ l.map (·.1)
 | [],_,_=>by simp
 | x::l,k,h=>by
  rw[bG]at h;by_cases hk:k=x.1
  ·rw[if_pos hk]at h;cases h
  ·rw[if_neg hk]at h
   rw[List.map_cons,List.mem_cons];exact fun h1=>h1.elim hk (JX h)
theorem Kr:∀{s:aT}{x:ByteArray},eO s x=none->x ∉ s.flatten.map (·.1)
 | [],_,_=>by simp
 | l::s,x,h=>by
  rw[eO]at h
  cases hl:bY l x with
  | some k=>rw[hl]at h;cases h
  | none=>
   rw[hl]at h;have h1:=JX (show bG l x=none from hl);have h2:=Kr (show eO s x=none from h);rw[List.flatten_cons,List.map_append,List.mem_append];exact fun h3=>h3.elim h1 h2
theorem Og{K V:Type}[DecidableEq K]:∀{l:List (K×V)}{k:K}(v:V),k ∉ l.map (·.1)->dK l k v=l++[(k,v)]
 | [],_,_,_=>rfl
 | x::l,k,v,h=>by
  rw[List.map_cons,List.mem_cons]at h;have hk:k≠x.1:=fun e=>h (.inl e)
  rw[dK,if_neg hk,Og v fun h1=>h (.inr h1)];rfl
theorem ja.var{s:aT}{r:RS}(h:ja s r){x:ByteArray}{n:Int}(hf:eO s x=none)(hd:∃d∈r.ds,d.node=n/\d.name=x):ja (lL s [(x,n)]) r/\ja ([(x,n)]::s) r:=by
 have hx:=Kr hf
 have h2:ja ([(x,n)]::s) r:=⟨by rw[List.flatten_cons,List.map_append];exact List.nodup_cons.2 ⟨hx,h.nodup⟩,fun y hy=>by
  rw[List.flatten_cons,List.mem_append]at hy;rcases hy with hy|hy
  ·rw[List.mem_singleton]at hy
   subst hy;exact hd
  ·exact h.decl y hy⟩
 refine⟨?_,h2⟩
 cases s with
 | nil=>exact h
 | cons l s=>
  have hl:x ∉ l.map (·.1):=fun h1=>hx (by rw[List.flatten_cons,List.map_append];exact List.mem_append_left _ h1)
  have e:lL (l::s) [(x,n)]=(l++[(x,n)])::s:=by
   show(dK l x n)::s=_;rw[Og _ hl]
  rw[e];refine⟨?_,fun y hy=>h2.decl y ?_⟩
  ·have hn:=h2.nodup
   rw[List.flatten_cons,List.flatten_cons]at hn;rw[List.flatten_cons];refine((List.Perm.map _ ?_).nodup_iff).1 hn;rw[<- List.append_assoc];exact List.perm_append_comm.append_right _
  ·rw[List.flatten_cons]at hy
   rw[List.flatten_cons,List.flatten_cons];simp only[List.mem_append,List.mem_singleton]at hy⊢;rcases hy with(hy|hy)|hy
   ·exact .inr (.inl hy)
   ·exact .inl hy
   ·exact .inr (.inr hy)
theorem sW{G:bD}{r:RS}{i:Bool}{v:List Int}{c:Int}{t:aa}{s:aT}(h:eD r (aD G (aB r i v) c r.next t s).1):
 eO s t.text=none/\bY G.globals t.text=none/\aD G (aB r i v) c r.next t s=(jk (aB r i v) c r.next t,lL s [(t.text,(r.next:Int))]):=by
 unfold aD at h⊢;split at h
 ·unfold eD pV aB at h
  simp at h
 ·rename_i hb
  rw[if_neg hb];rw[Bool.or_eq_true,not_or]at hb;exact⟨by simpa using hb.1,by simpa using hb.2,rfl⟩
theorem xI(r:RS)(i:Bool)(v:List Int):oV r (aB r i v):=iX.none_ r i v
theorem xH(G:bD)(r:RS)(i:Bool)(v:List Int)(c:Int)(t:aa)(s:aT):oV r (aD G (aB r i v) c r.next t s).1:=iX.nS G r i v c t s
theorem Cm(r:RS)(i:Bool)(v:List Int)(t:aa)(tq:Option Int):oV r (gB (aB r i v) r.next t tq):=iX.CS r i v t tq
theorem CY(G:bD)(s:aT)(r:RS)(i:Bool)(v:List Int)(t:aa):oV r (ik G s r (aB r i v) t):=by
 unfold ik;split
 ·exact Cm _ _ _ _ _
 split
 ·exact Cm _ _ _ _ _
 split
 ·exact Cm _ _ _ _ _
 split
 ·exact Cm _ _ _ _ _
 split
 ·exact Cm _ _ _ _ _
 ·exact xI _ _ _
theorem Ex(G:bD)(s:aT)(r:RS)(i:Bool)(v:List Int)(t:aa):(ik G s r (aB r i v) t).next=r.next+1:=by
 have hu:∀tq,(gB (aB r i v) r.next t tq).next=r.next+1:=fun tq=>by cases tq<;>rfl
 unfold ik;split
 ·exact hu _
 split
 ·exact hu _
 split
 ·exact hu _
 split
 ·exact hu _
 split
 ·exact hu _
 ·rfl
theorem Lf(G:bD)(k:Int)(x:ByteArray)(a e:Int)(kids:List aa)(i:Bool)(s:aT)(r:RS)(hin:Bd (.node k x a e kids)=true):
 aL G i (.node k x a e kids) s r=
  if k=11 then((af G i kids 0 kids.length ([]::s) (aB r i (ah (aj s)))).1,s)
  else if k=12 then((af G i kids 0 kids.length s (aD G (aB r i (ah (aj s))) 4 r.next (.node k x a e kids) ([]::s)).1).1,lL s (tu G (.node k x a e kids) s r.next))
  else if k=16 then((af G i kids 2 1 (tu G (.node k x a e kids) s r.next::s) (af G i kids 0 2 s (aD G (aB r i (ah (aj s))) 5 r.next (.node k x a e kids) ([]::s)).1).1).1,s)
  else((af G i kids 0 kids.length s (ik G s r (aB r i (ah (aj s))) (.node k x a e kids))).1,s):=by
 obtain⟨hk,h12,h16,hno,hks⟩:=(yw hin)
 have n3:k≠3:=by omega
 have n4:k≠4:=by omega
 have n5:k≠5:=by omega
 have n78:¬(k=7\/k=8):=by omega
 rw[di];rw[if_neg n3,if_neg n4,if_neg n5,if_neg n78];by_cases h11:k=11
 ·rw[if_pos h11,if_pos h11]
  refine Prod.ext rfl ?_;exact zx G kids i 0 kids.length ([]::s) _ hks
 rw[if_neg h11,if_neg h11];by_cases kX:k=12
 ·rw[if_pos kX,if_pos kX,h12 kX]
  refine Prod.ext rfl ?_;show lL (af G i kids 0 2 s _).2 _=_;rw[jG G kids i 0 2 s _ hks (hno h11),wu]
 rw[if_neg kX,if_neg kX];by_cases nI:k=16
 ·rw[if_pos nI,if_pos nI]
  rw[jG G kids i 0 2 s _ hks (hno h11),wu];refine Prod.ext rfl ?_;show(af G i kids 2 1 _ _).2.tail=s;rw[jG G kids i 2 1 _ _ hks (hno h11)];rfl
 rw[if_neg nI,if_neg nI];refine Prod.ext rfl ?_;exact jG G kids i 0 kids.length s _ hks (hno h11)
theorem wB{G:bD}{t:aa}{s:aT}{n:Nat}(h1:eO s t.text=none)(h2:bY G.globals t.text=none):tu G t s n=[(t.text,(n:Int))]:=by
 unfold tu;rw[h1,h2];rfl
def Nk(G:bD)(i:Bool)(r q:RS)(m:Nat)(o:Option aa):Prop:=
 ∃x s' r',o=some x/\Bd x=true/\r'.next=m/\oV r r'/\oV (aL G i x s' r').1 q/\ja s' r'
theorem Nk.out{G:bD}{i:Bool}{r u q v:RS}{m:Nat}{o o':Option aa}(h:Nk G i u v m o)(h1:oV r u)(h2:oV v q)(ho:o'=o):Nk G i r q m o':=by
 obtain⟨x,s',r',e,hin,hn,k1,k2,k3⟩:=h;exact⟨x,s',r',by rw[ho,e],hin,hn,h1.trans k1,k2.trans h2,k3⟩
mutual
theorem Qq(G:bD)(i:Bool):∀(t:aa) (s:aT) (r:RS) (m:Nat),Bd t=true->eD r (aL G i t s r).1->ja s r->r.next<=m->m<r.next+ai t ->
 Nk G i r (aL G i t s r).1 m (bL t)[m - r.next]?
 | .node k x a e kids,s,r,m,hin,hc,hs,hm1,hm2=>by
  by_cases hm:m=r.next
  ·subst hm
   refine⟨_,s,r,?_,hin,rfl,iX.refl r,iX.refl _,hs⟩;rw[bL,Nat.sub_self];rfl
  obtain⟨hk,h12,h16,hno,hks⟩:=(yw hin)
  have hidx:(bL (.node k x a e kids))[m - r.next]? =(aX kids)[m - (r.next+1)]? :=by
   rw[bL,show m - r.next=(m - (r.next+1))+1 by omega,aaj]
  have hcnt:ai (.node k x a e kids)=1+ag kids:=rfl;rw[Lf G k x a e kids i s r hin]at hc⊢;rw[hidx]
  have whole:∀(s':aT) (u:RS),u.next=r.next+1->oV r u->ja s' u->eD r (af G i kids 0 kids.length s' u).1->Nk G i r (af G i kids 0 kids.length s' u).1 m (aX kids)[m - (r.next+1)]? :=fun s' u hu hr hs' hc=>by
   have hc2:=(eD.split hr (bS G kids i 0 kids.length s' u) hc).2;refine(yF G i kids 0 kids.length s' u m hks hc2 hs' (by omega) (by rw[hu];simp;omega)).out hr (iX.refl _) ?_;rw[hu];simp
  by_cases h11:k=11
  ·rw[if_pos h11]at hc⊢
   exact whole _ _ rfl (xI _ _ _) ((hs.mono (xI r i (ah (aj s)))).push) hc
  rw[if_neg h11]at hc⊢;by_cases kX:k=12
  ·rw[if_pos kX]at hc⊢
   have hr:=xH G r i (ah (aj s)) 4 (.node k x a e kids) ([]::s);have hcv:=(eD.split hr (bS G kids i 0 kids.length s _) hc).1;obtain⟨hf,hg,he⟩:=sW hcv;refine whole _ _ ?_ hr (hs.mono hr) hc;rw[he];rfl
  rw[if_neg kX]at hc⊢;by_cases nI:k=16
  ·rw[if_pos nI]at hc⊢
   have hr:=xH G r i (ah (aj s)) 5 (.node k x a e kids) ([]::s);have hr2:=bS G kids i 0 2 s (aD G (aB r i (ah (aj s))) 5 r.next (.node k x a e kids) ([]::s)).1;have hr3:=bS G kids i 2 1 (tu G (.node k x a e kids) s r.next::s) (af G i kids 0 2 s (aD G (aB r i (ah (aj s))) 5 r.next (.node k x a e kids) ([]::s)).1).1;have hcv:=(eD.split hr (hr2.trans hr3) hc).1;have YR:=(eD.split hr (hr2.trans hr3) hc).2;obtain⟨hc2,hc3⟩:=eD.split hr2 hr3 YR;obtain⟨hf,hg,he⟩:=sW hcv;have hun:(aD G (aB r i (ah (aj s))) 5 r.next (.node k x a e kids) ([]::s)).1.next=r.next+1:=by rw[he];rfl
   have hd:∃d∈(aD G (aB r i (ah (aj s))) 5 r.next (.node k x a e kids) ([]::s)).1.ds,d.node=(r.next:Int)/\d.name=x:=by
    rw[he];exact⟨⟨5,x,(r.next:Int),_⟩,by unfold jk;exact List.mem_append_right _ (List.mem_singleton.2 rfl),rfl,rfl⟩
   have hl:=h16 nI;have hn2:=pG G kids i 0 2 s (aD G (aB r i (ah (aj s))) 5 r.next (.node k x a e kids) ([]::s)).1 hks;rw[hun]at hn2
   match kids,hl,hks,hn2,hc,hc2,hc3,hr,hr2,hr3,hcv,hf,hg,he,hun,hd,hcnt,hm2 with
   | [b,c,d],_,hks,hn2,hc,hc2,hc3,hr,hr2,hr3,hcv,hf,hg,he,hun,hd,hcnt,hm2=>
    by_cases hlt:m<r.next+1+(ai b+ai c)
    ·refine(yF G i [b,c,d] 0 2 s _ m hks hc2 (hs.mono hr) (by omega) (by rw[hun];simp[ag];omega)).out hr hr3 ?_
     rw[hun];have hlen:m - (r.next+1)<(aX [b,c]).length:=by rw[nO];simp[ag];omega
     have e1:aX [b,c,d]=aX [b,c]++aX [d]:=by simp[aX]
     rw[e1,List.getElem?_append_left hlen];rfl
    ·have hnn:(af G i [b,c,d] 0 2 s (aD G (aB r i (ah (aj s))) 5 r.next (.node k x a e [b,c,d]) ([]::s)).1).1.next=r.next+1+(ai b+ai c):=by
      rw[hn2];simp[ag]
     have hsi:ja (tu G (.node k x a e [b,c,d]) s r.next::s) (af G i [b,c,d] 0 2 s (aD G (aB r i (ah (aj s))) 5 r.next (.node k x a e [b,c,d]) ([]::s)).1).1:=by
      rw[wB (show eO s _=none from hf) hg];exact(((hs.mono hr).var (show eO s x=none from hf) hd).2).mono hr2
     refine(yF G i [b,c,d] 2 1 _ _ m hks hc3 hsi (by rw[hnn];omega) (by rw[hnn];simp[ag];rw[hcnt]at hm2;simp[ag]at hm2;omega)).out (hr.trans hr2) (iX.refl _) ?_;rw[hnn];have hlen:(aX [b,c]).length<=m - (r.next+1):=by rw[nO];simp[ag];omega
     have e1:aX [b,c,d]=aX [b,c]++aX [d]:=by simp[aX]
     rw[e1,aal hlen,nO];simp[ag];congr 1
     omega
  rw[if_neg nI]at hc⊢;exact whole _ _ (Ex _ _ _ _ _ _) (CY _ _ _ _ _ _) (hs.mono (CY _ _ _ _ _ _)) hc
theorem yF(G:bD)(i:Bool):∀(ts:List aa) (f n:Nat) (s:aT) (r:RS) (m:Nat),oN ts=true->eD r (af G i ts f n s r).1->ja s r->r.next<=m->m<r.next+ag ((ts.drop f).take n) ->
 Nk G i r (af G i ts f n s r).1 m (aX ((ts.drop f).take n))[m - r.next]?
 | [],f,n,s,r,m,_,_,_,h1,h2=>by simp[ag]at h2;omega
 | t::ts,f+1,n,s,r,m,hin,hc,hs,h1,h2=>by
  rw[oN,aad]at hin;rw[af]at hc⊢;rw[List.drop_succ_cons]at h2⊢;exact yF G i ts f n s r m hin.2 hc hs h1 h2
 | t::ts,0,0,s,r,m,_,_,_,h1,h2=>by simp[ag]at h2;omega
 | t::ts,0,n+1,s,r,m,hin,hc,hs,h1,h2=>by
  rw[oN,aad]at hin;rw[af]at hc⊢;have hr1:=j5 G t i s r;have hr2:=bS G ts i 0 n (aL G i t s r).2 (aL G i t s r).1;obtain⟨hc1,hc2⟩:=eD.split hr1 hr2 hc;have hn:=uq G t i s r hin.1;rw[List.drop_zero,List.take_succ_cons,aX];rw[List.drop_zero,List.take_succ_cons,ag]at h2;by_cases hlt:m<r.next+ai t
  ·refine(Qq G i t s r m hin.1 hc1 hs h1 hlt).out (iX.refl _) hr2 ?_
   rw[List.getElem?_append_left (by rw[dz];omega)]
  ·have hs2:ja (aL G i t s r).2 (aL G i t s r).1:=by
    rw[sG G t i s r hin.1];by_cases h12:t.kind=12
    ·rw[if_pos h12]
     obtain⟨k,x,a,e,kids⟩:=t;have kX:k=12:=h12;subst kX;have hb:=Lf G 12 x a e kids i s r hin.1;rw[if_neg (by decide),if_pos rfl]at hb;rw[hb]at hc1⊢;have hr:=xH G r i (ah (aj s)) 4 (.node 12 x a e kids) ([]::s);have hrr:=bS G kids i 0 kids.length s (aD G (aB r i (ah (aj s))) 4 r.next (.node 12 x a e kids) ([]::s)).1;obtain⟨hf,hg,he⟩:=sW (eD.split hr hrr hc1).1;rw[wB (show eO s _=none from hf) hg];refine(((hs.mono hr).var (show eO s x=none from hf) ?_).1).mono hrr;rw[he];exact⟨⟨4,x,(r.next:Int),_⟩,by unfold jk;exact List.mem_append_right _ (List.mem_singleton.2 rfl),rfl,rfl⟩
    ·rw[if_neg h12]
     exact hs.mono hr1
   refine(yF G i ts 0 n _ _ m hin.2 hc2 hs2 (by rw[hn];omega) (by rw[hn];simpa using(by omega:m<r.next+ai t+ag (ts.take n)))).out hr1 (iX.refl _) ?_;rw[hn,aal (by rw[dz];omega),dz];simp only[List.drop_zero];congr 1
   omega
end
def P8(p:Int->Bool):Prop:=∀k,p k=true->(k<2\/8<k)
def mY(p:Int->Bool):Prop:=∀k,p k=true->k≠12
theorem Ll:P8 eQ:=fun k h=>by unfold eQ at h;simp only[Bool.or_eq_true,decide_eq_true_eq]at h;omega
theorem p8_stmt:P8 uy:=fun k h=>by unfold uy at h;simp only[aad,decide_eq_true_eq]at h;omega
theorem xJ:P8 bA:=fun k h=>by unfold bA at h;simp only[aad,decide_eq_true_eq]at h;omega
theorem IJ:P8 nH:=fun k h=>by unfold nH at h;simp only[Bool.or_eq_true,decide_eq_true_eq]at h;omega
theorem wE{p:Int->Bool}(h:P8 p):P8 (jm p):=fun k hk=>by
 unfold jm at hk;simp only[Bool.or_eq_true,decide_eq_true_eq]at hk;rcases hk with hk|hk
 ·omega
 ·exact h k hk
theorem Co{l:List Int}(h:∀y∈l,y<2\/8<y):P8 (dH l):=fun k hk=>by
 unfold dH at hk;rw[List.any_eq_true]at hk;obtain⟨y,hy,hk⟩:=hk;rw[decide_eq_true_eq]at hk;subst hk;exact h _ hy
theorem IK:mY eQ:=fun k h=>by unfold eQ at h;simp only[Bool.or_eq_true,decide_eq_true_eq]at h;omega
theorem uY:mY bA:=fun k h=>by unfold bA at h;simp only[aad,decide_eq_true_eq]at h;omega
theorem EJ:mY nH:=fun k h=>by unfold nH at h;simp only[Bool.or_eq_true,decide_eq_true_eq]at h;omega
theorem um{p:Int->Bool}(h:mY p):mY (jm p):=fun k hk=>by
 unfold jm at hk;simp only[Bool.or_eq_true,decide_eq_true_eq]at hk;rcases hk with hk|hk
 ·omega
 ·exact h k hk
theorem zI{l:List Int}(h:∀y∈l,y≠12):mY (dH l):=fun k hk=>by
 unfold dH at hk;rw[List.any_eq_true]at hk;obtain⟨y,hy,hk⟩:=hk;rw[decide_eq_true_eq]at hk;subst hk;exact h _ hy
theorem VN{k:Int}{sh:xw}(h:lZ k=some sh)(h2:k<2\/8<k):(∀p,sh.list=some p->P8 p/\(k≠11->mY p))/\∀p∈sh.kids,P8 p/\mY p:=by
 cases k with
 | negSucc n=>cases h
 | ofNat n=>
  have h5:tF n=some sh:=h
  have n2:n<2\/8<n:=by
   rcases h2 with h2|h2
   ·have:(n:Int)<2:=h2
    omega
   ·have:(8:Int)<n:=h2
    omega
  have e11:(Int.ofNat n≠11)->n≠11:=fun h e=>h (by rw[e];rfl)
  clear h h2;unfold tF at h5;split at h5<;>first|(cases h5;done)|(exfalso;omega)|skip
  all_goals
   cases h5
   refine⟨?_,?_⟩
   ·intro p hp
    first
     | (cases hp;done)
     | (cases hp;first|exact⟨xJ,fun _=>uY⟩|exact⟨p8_stmt,fun h=>absurd rfl (e11 h)⟩)
   ·intro p hp
    first
     | (cases hp;done)
     | (simp only[List.mem_cons,List.not_mem_nil,or_false]at hp
        first
         | (rcases hp with rfl|rfl|rfl<;>first|exact⟨xJ,uY⟩|exact⟨IJ,EJ⟩|exact⟨Co (by decide),zI (by decide)⟩|exact⟨wE Ll,um IK⟩|exact⟨wE xJ,um uY⟩|exact⟨wE (Co (by decide)),um (zI (by decide))⟩)
         | (rcases hp with rfl|rfl<;>first|exact⟨xJ,uY⟩|exact⟨IJ,EJ⟩|exact⟨Co (by decide),zI (by decide)⟩|exact⟨wE Ll,um IK⟩|exact⟨wE xJ,um uY⟩|exact⟨wE (Co (by decide)),um (zI (by decide))⟩)
         | (subst hp;first|exact⟨xJ,uY⟩|exact⟨IJ,EJ⟩|exact⟨Co (by decide),zI (by decide)⟩|exact⟨wE Ll,um IK⟩|exact⟨wE xJ,um uY⟩|exact⟨wE (Co (by decide)),um (zI (by decide))⟩))
mutual
theorem J4:∀(t:aa),gU t=true->(t.kind<2\/8<t.kind)->Bd t=true
 | .node k x a e kids,h,hk=>by
  rw[jJ,aad]at h;obtain⟨sh,hs,hf⟩:=iD h.1;obtain⟨-,hc,nM⟩:=jR hf;have hk':k<2\/8<k:=hk;have hs':lZ k=some sh:=hs;obtain⟨hi1,hi2⟩:=VN hs' hk';have hmem:=mE sh kids 0 nM;rw[Bd];simp only[aad,Bool.or_eq_true,decide_eq_true_eq,List.all_eq_true];refine⟨⟨⟨⟨hk',?_⟩,?_⟩,?_⟩,GL kids h.2 fun c hc=>?_⟩
  ·by_cases h12:k=12
   ·subst h12
    right
    have:some _=some sh:=hs';cases this
    simpa [oQ,aa.kids] using hc
   ·exact .inl h12
  ·by_cases h16:k=16
   ·subst h16
    right
    have:some _=some sh:=hs';cases this
    simpa [oQ,aa.kids] using hc
   ·exact .inl h16
  ·by_cases h11:k=11
   ·exact .inl h11
   ·right
    intro c hc;obtain⟨p,hp,hpk⟩:=hmem c hc;rcases hp with hp|hp
    ·exact(hi1 p hp).2 h11 _ hpk
    ·exact(hi2 p hp).2 _ hpk
  ·obtain⟨p,hp,hpk⟩:=hmem c hc
   rcases hp with hp|hp
   ·exact(hi1 p hp).1 _ hpk
   ·exact(hi2 p hp).1 _ hpk
theorem GL:∀(ts:List aa),(aX ts).all dR=true->(∀c∈ts,c.kind<2\/8<c.kind)->oN ts=true
 | [],_,_=>by rw[oN]
 | t::ts,h,hc=>by
  rw[aX,List.all_append,aad]at h;rw[oN,aad];exact⟨J4 t h.1 (hc t (by simp)),GL ts h.2 fun c hx=>hc c (by simp[hx])⟩
end
def y9(q:aa):Prop:=q.kids=[]/\(q.kind<2\/8<q.kind)/\q.kind<11
theorem Uo{q:aa}(h:y9 q):bL q=[q]:=by
 rw[kC,h.1];rfl
theorem Ad{q:aa}(h:y9 q):Bd q=true:=by
 obtain⟨h1,h2,h3⟩:=h;obtain⟨k,x,a,e,kids⟩:=q;have hk:kids=[]:=h1;subst hk;have h2':k<2\/8<k:=h2;have h3':k<11:=h3;rw[Bd];simp only[aad,Bool.or_eq_true,decide_eq_true_eq];exact⟨⟨⟨⟨h2',.inl (by omega)⟩,.inl (by omega)⟩,.inr rfl⟩,by rw[oN]⟩
theorem GJ{q:aa}(h:gU q=true)(hk:jm eQ q.kind=true):y9 q:=by
 rw[jJ,aad]at h;obtain⟨sh,hs,hf⟩:=iD h.1;obtain⟨-,hc,-⟩:=jR hf;unfold jm eQ at hk;simp only[Bool.or_eq_true,decide_eq_true_eq]at hk;refine⟨?_,by omega,by omega⟩;rcases hk with hk|hk|hk
 all_goals
  rw[hk]at hs;have he:some _=some sh:=hs;cases he
  have:q.kids.length=0:=by simpa [oQ] using hc
  exact List.length_eq_zero_iff.1 this
theorem Ue{p:aa}(h:gU p=true)(hk:p.kind=7\/p.kind=8):∀q∈p.kids,y9 q:=by
 have h2:=jK h;rw[jJ,aad]at h;obtain⟨sh,hs,hf⟩:=iD h.1;obtain⟨-,-,nM⟩:=jR hf;intro q hq;obtain⟨p1,hp,hpk⟩:=mE _ p.kids 0 nM q hq;refine GJ (h2 q hq) ?_;rcases hk with hk|hk
 all_goals
  rw[hk]at hs;have he:some _=some sh:=hs;cases he
  rcases hp with hp|hp
  ·cases hp
  ·simp only[List.mem_cons,List.not_mem_nil,or_false]at hp
   subst hp;exact hpk
theorem JO{x:ByteArray}{a e:Int}{kids:List aa}(h:gU (.node 5 x a e kids)=true):
 ∃b c d,kids=[b,c,d]/\b.kind=6/\(∀p∈b.kids,(p.kind=7\/p.kind=8)/\∀q∈p.kids,y9 q)/\y9 c/\d.kind=11/\Bd d=true:=by
 have h2:=jK h;rw[jJ,aad]at h;obtain⟨sh,hs,hf⟩:=iD h.1;obtain⟨-,hc,nM⟩:=jR hf;have he:some _=some sh:=hs;cases he
 have hl:kids.length=3:=by simpa [oQ,aa.kids] using hc
 match kids,hl,nM,h2 with
 | [b,c,d],_,nM,h2=>
  have hkf':gF ⟨dJ,[dH [6],jm eQ,dH [11]],none,0⟩ 0 [b,c,d]=true:=nM;simp only[gF,yt,aad,aai,aaj]at hkf';obtain⟨hb,hc,hd,-⟩:=hkf';have hb6:b.kind=6:=by simpa [dH] using hb
  have YN:d.kind=11:=by simpa [dH] using hd
  have hsb:=h2 b (by simp[aa.kids]);refine⟨b,c,d,rfl,hb6,fun p hp=>?_,GJ (h2 c (by simp[aa.kids])) hc,YN,J4 d (h2 d (by simp[aa.kids])) (by omega)⟩;have hps:=jK hsb p hp
  have hpk:p.kind=7\/p.kind=8:=by
   rw[jJ,aad]at hsb;obtain⟨sh,hs,hf⟩:=iD hsb.1;obtain⟨-,-,nM⟩:=jR hf;rw[hb6]at hs;have he:some _=some sh:=hs;cases he
   obtain⟨p1,hp1,hpk⟩:=mE _ b.kids 0 nM p hp;rcases hp1 with hp1|hp1
   ·cases hp1
    simpa [dH] using hpk
   ·cases hp1
  exact⟨hpk,Ue hps hpk⟩
theorem JZ:∀{l:List aa},(∀q∈l,y9 q)->oN l=true/\∀q∈l,q.kind≠12
 | [],_=>⟨by rw[oN],by simp⟩
 | q::l,h=>by
  obtain⟨h1,h2⟩:=JZ (l:=l) fun u hu=>h u (by simp[hu])
  have hq:=h q (by simp);refine⟨by rw[oN,aad];exact⟨Ad hq,h1⟩,fun u hu=>?_⟩;rcases List.mem_cons.1 hu with rfl|hu
  ·have:=hq.2.2
   omega
  ·exact h2 u hu
theorem VV(G:bD)(i:Bool){p:aa}(hk:p.kind=7\/p.kind=8)(hq:∀q∈p.kids,y9 q){s:aT}{r:RS}(hc:eD r (aL G i p s r).1)(hs:ja s r):
 ja (aL G i p s r).2 (aL G i p s r).1/\(aL G i p s r).1.next=r.next+ai p:=by
 obtain⟨k,x,a,e,kids⟩:=p;have hk':k=7\/k=8:=hk;have hq':∀q∈kids,y9 q:=hq;obtain⟨hin,hno⟩:=JZ hq';rw[di,if_neg (by omega),if_neg (by omega),if_neg (by omega),if_pos hk']at hc⊢;have hr:=xH G r i (ah (aj s)) 3 (.node k x a e kids) s;have hr2:=bS G kids i 0 kids.length (aD G (aB r i (ah (aj s))) 3 r.next (.node k x a e kids) s).2 (aD G (aB r i (ah (aj s))) 3 r.next (.node k x a e kids) s).1;obtain⟨hc1,-⟩:=eD.split hr hr2 hc;obtain⟨hf,-,he⟩:=sW hc1;rw[jG G kids i 0 kids.length _ _ hin hno,pG G kids i 0 kids.length _ _ hin];rw[he]at hr hr2⊢;refine⟨?_,?_⟩
 ·have hd:∃d∈(jk (aB r i (ah (aj s))) 3 r.next (.node k x a e kids)).ds,d.node=(r.next:Int)/\d.name=x:=⟨⟨3,x,(r.next:Int),_⟩,by unfold jk;exact List.mem_append_right _ (List.mem_singleton.2 rfl),rfl,rfl⟩
  exact(((hs.mono hr).var hf hd).1).mono hr2
 ·show(r.next+1)+ag ((kids.drop 0).take kids.length)=r.next+ai (.node k x a e kids)
  rw[ai];simp;omega
theorem CZ(G:bD)(i:Bool):∀{ps:List aa},(∀p∈ps,(p.kind=7\/p.kind=8)/\∀q∈p.kids,y9 q)->∀{s:aT}{r:RS},eD r (af G i ps 0 ps.length s r).1->ja s r ->
 ja (af G i ps 0 ps.length s r).2 (af G i ps 0 ps.length s r).1/\(af G i ps 0 ps.length s r).1.next=r.next+ag ps
 | [],_,s,r,_,hs=>by rw[af];exact⟨hs,by rw[ag];rfl⟩
 | p::ps,h,s,r,hc,hs=>by
  rw[aao,af]at hc⊢;have hr1:=j5 G p i s r;have hr2:=bS G ps i 0 ps.length (aL G i p s r).2 (aL G i p s r).1;obtain⟨hc1,hc2⟩:=eD.split hr1 hr2 hc;obtain⟨h1,h2⟩:=VV G i (h p (by simp)).1 (h p (by simp)).2 hc1 hs;obtain⟨h3,h4⟩:=CZ G i (fun q hq=>h q (by simp[hq])) hc2 h1;exact⟨h3,by rw[h4,h2,ag];omega⟩
theorem Mg(r:RS):ja [[]] r:=⟨by simp,fun y hy=>by simp at hy⟩
theorem vM:∀{l:List aa}{x:aa},x∈aX l->(∀t∈l,∀y∈bL t,y.kind<11)->x.kind<11
 | [],x,h,_=>by cases h
 | t::l,x,h,hl=>by
  rw[aX,List.mem_append]at h;rcases h with h|h
  ·exact hl t (by simp) x h
  ·exact vM h fun u hu=>hl u (by simp[hu])
theorem De{q:aa}(h:y9 q):∀y∈bL q,y.kind<11:=by
 rw[Uo h];intro y hy;rw[List.mem_singleton]at hy;subst hy;exact h.2.2
theorem RI{p:aa}(hk:p.kind=7\/p.kind=8)(hq:∀q∈p.kids,y9 q):∀y∈bL p,y.kind<11:=by
 rw[kC];intro y hy;rcases List.mem_cons.1 hy with rfl|hy
 ·omega
 ·exact vM hy fun t ht=>De (hq t ht)
theorem at_proc(G:bD){x:ByteArray}{a e:Int}{kids:List aa}(hsh:gU (.node 5 x a e kids)=true){s:aT}{r:RS}(hc:eD r (aL G false (.node 5 x a e kids) s r).1){m:Nat}{y:aa}
 (hm1:r.next<=m) (hm2:m<r.next+ai (.node 5 x a e kids)) (hy:(bL (.node 5 x a e kids))[m - r.next]? =some y) (h11:11<=y.kind):Nk G true r (aL G false (.node 5 x a e kids) s r).1 m (some y):=by
 obtain⟨b,c,d,rfl,hb6,hps,hlc,YN,YJ⟩:=JO hsh;rw[di,if_neg (by decide),if_neg (by decide),if_pos rfl]at hc⊢;obtain⟨D,hD⟩:∃D:RS,({ bF (aB r false (ah (aj s))) 2 r.next (.node 5 x a e [b,c,d]) (decide ((bY G.globals x).getD 0≠(r.next:Int))) with owner:=(r.next:Int) }:RS)=D:=⟨_,rfl⟩
 rw[hD]at hc⊢
 have RQ:oV r D:=by
  rw[<- hD];exact(iX.declare r false (ah (aj s)) 2 (.node 5 x a e [b,c,d]) _).trans (iX.owner _ _)
 have hnD:D.next=r.next+1:=by
  rw[<- hD];exact wX (aB r false (ah (aj s))) 2 r.next (.node 5 x a e [b,c,d]) _
 obtain⟨q,hq⟩:∃q,af G false [b,c,d] 0 2 [[]] D=q:=⟨_,rfl⟩
 rw[hq]at hc⊢;have hrq:oV D q.1:=by rw[<- hq];exact bS G _ false 0 2 _ D
 have hrd:=bS G [b,c,d] true 2 1 ([]::q.2) q.1;obtain⟨hcD,hcd⟩:=eD.split (RQ.trans hrq) hrd hc;obtain⟨-,hcq⟩:=eD.split RQ hrq hcD
 have hqq:af G false [b,c,d] 0 2 [[]] D=aL G false c (aL G false b [[]] D).2 (aL G false b [[]] D).1:=by
  rw[af,af,af]
 have hpb:ja (aL G false b [[]] D).2 (aL G false b [[]] D).1/\(aL G false b [[]] D).1.next=D.next+ai b:=by
  have hcb:eD D (aL G false b [[]] D).1:=by
   rw[<- hq,hqq]at hcq;exact(eD.split (j5 G b false _ D) (j5 G c false _ _) hcq).1
  obtain⟨k,bx,ba,be,bk⟩:=b;have hk6:k=6:=hb6;subst hk6
  have hvb:aL G false (.node 6 bx ba be bk) [[]] D=af G false bk 0 bk.length [[]] (aB D false (ah (aj [[]]))):=by
   rw[di,if_neg (by decide),if_neg (by decide),if_neg (by decide),if_neg (by decide),if_neg (by decide),if_neg (by decide),if_neg (by decide)]
   have:ik G [[]] D (aB D false (ah (aj [[]]))) (.node 6 bx ba be bk)=aB D false (ah (aj [[]])):=by
    unfold ik;show(if (6:Int)=20 then _ else if (6:Int)=22 then _ else if (6:Int)=27 then _ else if (6:Int)=19 then _ else if (6:Int)=9/\iB bx=false then _ else _)=_;rw[if_neg (by decide),if_neg (by decide),if_neg (by decide),if_neg (by decide),if_neg (fun h=>absurd h.1 (by decide))]
   rw[this]
  rw[hvb]at hcb⊢;have hre:=xI D false (ah (aj [[]]));obtain⟨-,hc2⟩:=eD.split hre (bS G bk false 0 bk.length [[]] _) hcb;obtain⟨h1,h2⟩:=CZ G false (ps:=bk) hps hc2 (Mg _);refine⟨h1,?_⟩;rw[h2,ai];show D.next+1+_=_;omega
 have DZ:ja q.2 q.1/\q.1.next=r.next+1+ai b+ai c:=by
  rw[<- hq,hqq];rw[sG G c false _ _ (Ad hlc),if_neg (by have:=hlc.2.2;omega),uq G c false _ _ (Ad hlc),hpb.2,hnD];exact⟨hpb.1.mono (j5 G c false _ _),rfl⟩
 have hvd:af G true [b,c,d] 2 1 ([]::q.2) q.1=aL G true d ([]::q.2) q.1:=by
  rw[af,af,af,af]
 rw[hvd]at hc hcd hrd⊢;have hcb1:(bL b).length=ai b:=dz b;have hcc1:(bL c).length=ai c:=dz c
 have sF:bL (.node 5 x a e [b,c,d])=(.node 5 x a e [b,c,d])::(bL b++(bL c++bL d)):=by
  rw[bL];simp[aX]
 rw[sF]at hy
 have hge:r.next+1+ai b+ai c<=m:=by
  refine Nat.le_of_not_lt fun hlt=>?_
  have:y.kind<11:=by
   by_cases h0:m - r.next=0
   ·rw[h0,aai,aag]at hy
    rw[<- hy];show(5:Int)<11;decide
   ·obtain⟨j,hj⟩:∃j,m - r.next=j+1:=⟨m - r.next - 1,by omega⟩
    rw[hj,aaj]at hy;by_cases hjb:j<ai b
    ·rw[List.getElem?_append_left (by omega)]at hy
     have hyb:=aan hy;rw[kC]at hyb;rcases List.mem_cons.1 hyb with rfl|hyb
     ·omega
     ·exact vM hyb fun t ht=>RI (hps t ht).1 (hps t ht).2
    ·rw[aal (by omega),List.getElem?_append_left (by omega)]at hy
     exact De hlc y (aan hy)
  omega
 have hcnt:ai (.node 5 x a e [b,c,d])=1+(ai b+(ai c+ai d)):=by
  rw[ai];simp[ag]
 have hat:=Qq G true d ([]::q.2) q.1 m YJ hcd (DZ.1.push) (by rw[DZ.2];exact hge) (by rw[DZ.2];omega);refine hat.out (RQ.trans hrq) (iX.refl _) ?_;rw[<- hy,DZ.2];obtain⟨j,hj⟩:∃j,m - r.next=j+1:=⟨m - r.next - 1,by omega⟩
 rw[hj,aaj,aal (by omega),aal (by omega)];congr 1
 omega
theorem RH{x:ByteArray}{a e:Int}{kids:List aa}(hsh:gU (.node 3 x a e kids)=true)(ht:vE (.node 3 x a e kids)=true):∀y∈bL (.node 3 x a e kids),y.kind<11:=by
 have h2:=jK hsh
 have hf:(kids.all fun f=>decide (f.kind=4)&&vF f.kids)=true:=by
  rw[vE]at ht;simpa using ht
 rw[kC];intro y hy;rcases List.mem_cons.1 hy with rfl|hy
 ·show(3:Int)<11
  decide
 ·refine vM hy fun f hfm=>?_
  have h3:=List.all_eq_true.1 hf f hfm;rw[aad,decide_eq_true_eq]at h3;have h4:=Ku (h2 f hfm) h3.1;have h5:=jK (h2 f hfm);rw[kC];intro z hz;rcases List.mem_cons.1 hz with rfl|hz
  ·omega
  ·refine vM hz fun c hc=>?_
   exact De ⟨IM (h5 c hc) (h4 c hc),.inr (by have:=h4 c hc;omega),by have:=h4 c hc;omega⟩
theorem Xk(G:bD):∀(ks:List aa),(∀k∈ks,gU k=true/\vE k=true)->∀(r:RS),eD r (af G false ks 0 ks.length [] r).1->∀(m:Nat) (y:aa),r.next<=m->(aX ks)[m - r.next]? =some y->11<=y.kind ->
 Nk G true r (af G false ks 0 ks.length [] r).1 m (some y)
 | [],_,r,_,m,y,_,hy,_=>by cases hy
 | k::ks,h,r,hc,m,y,hm1,hy,h11=>by
  rw[aao,af]at hc⊢;obtain⟨hsh,ht⟩:=h k (by simp);have hr1:=j5 G k false [] r;have hr2:=bS G ks false 0 ks.length (aL G false k [] r).2 (aL G false k [] r).1;obtain⟨hc1,hc2⟩:=eD.split hr1 hr2 hc;have hs2:(aL G false k [] r).2=[]:=List.length_eq_zero_iff.1 (by rw[Eu];rfl);have hn:(aL G false k [] r).1.next=r.next+ai k:=(Rz (yh.refl G) k ht [] r rfl).2.2.1;rw[aX]at hy;have hlen:(bL k).length=ai k:=dz k;by_cases hlt:m<r.next+ai k
  ·rw[List.getElem?_append_left (by omega)]at hy
   obtain⟨kk,x,a,e,kids⟩:=k;have ht':=ht;rw[vE,Bool.or_eq_true,aad,aad,aad,decide_eq_true_eq,decide_eq_true_eq,decide_eq_true_eq]at ht';rcases ht' with⟨rfl,-⟩| ⟨⟨rfl,-⟩,-⟩
   ·have:=RH hsh ht y (aan hy)
    omega
   ·exact(at_proc G hsh hc1 hm1 hlt hy h11).out (iX.refl _) hr2 rfl
  ·rw[aal (by omega)]at hy
   rw[hs2]at hc2 hr2⊢;refine(Xk G ks (fun c hc=>h c (by simp[hc])) _ hc2 m y (by omega) (by rw[<- hy,hn,hlen];congr 1;omega) h11).out hr1 (iX.refl _) rfl
theorem bab(k j:ByteArray):(k==j)=decide (k=j):=by
 obtain⟨a⟩:=k;obtain⟨b⟩:=j;show(a==b)=_;rw[Bool.eq_iff_iff];simp
instance lawfulBA:LawfulBEq ByteArray where
 eq_of_beq {a b} h:=by
  rw[bab]at h;exact of_decide_eq_true h
 rfl {a}:=by
  rw[bab];simp
def Jb(t:aa)(S:List (List ByteArray)):List (List ByteArray):=if t.kind=12 then(match S with| []=>[]|l::S=>(l++[t.text])::S) else S
theorem qQ(k:Int)(x:ByteArray)(t:aa)(ts:List aa)(i:Nat)(S:List (List ByteArray))(out:List ByteArray):
 uR k x (t::ts) i S out=uR k x ts (i+1) (Jb t S) (nQ t (if k=16/\i=2 then [x]::S else S) out):=by
 first|rfl|(rw[uR.eq_def];rfl)
theorem OZ:∀(ds:List Dc) (i:Nat) (l:List (Int×Int)) (u:Int),(ds.map (·.node)).Nodup->bG (yQ ds i l) u=match ds.findIdx? fun d=>decide (d.node=u) with|some j=>some ((i+j:Nat):Int)|none=>bG l u
 | [],i,l,u,_=>by simp[yQ]
 | d::ds,i,l,u,hn=>by
  rw[List.map_cons,List.nodup_cons]at hn;rw[yQ,OZ ds (i+1) _ u hn.2,List.findIdx?_cons];by_cases h:d.node=u
  ·have hnone:(ds.findIdx? fun d=>decide (d.node=u))=none:=by
    rw[List.findIdx?_eq_none_iff];intro y hy;rw[decide_eq_false_iff_not];exact fun e=>hn.1 (by rw[h,<- e];exact List.mem_map.2 ⟨y,hy,rfl⟩)
   rw[hnone,if_pos (by simp[h])];simp only;rw[rY,if_pos h.symm];rfl
  ·rw[if_neg (by simp[h])]
   cases hf:ds.findIdx? fun d=>decide (d.node=u) with
   | none=>
    simp only[Option.map_none];rw[rY,if_neg (fun e=>h e.symm)]
   | some j=>
    simp only[Option.map_some];congr 2
    omega
theorem Hz{ds:List Dc}(hn:(ds.map (·.node)).Nodup){j:Nat}{d:Dc}(hd:ds[j]? =some d):nN ds d.node=(j:Int):=by
 unfold nN;rw[OZ ds 0 _ _ hn]
 have hf:(ds.findIdx? fun x=>decide (x.node=d.node))=some j:=by
  obtain⟨hlt,he⟩:=aah.1 hd;rw[List.findIdx?_eq_some_iff_getElem];refine⟨hlt,by rw[he];simp,fun q hq=>?_⟩;rw[decide_eq_true_eq];intro e;have h1:=List.pairwise_iff_getElem.1 hn q j (by simp;omega) (by simpa using hlt) hq;simp only[List.getElem_map]at h1;exact h1 (by rw[e,he])
 rw[hf];simp
theorem JY{V W:Type}(f:V->W):∀(l:List (Int×V)) (k:Int),bG (l.map fun x=>(x.1,f x.2)) k=(bG l k).map f
 | [],_=>rfl
 | x::l,k=>by
  rw[List.map_cons,bG,bG];by_cases h:k=x.1
  ·rw[if_pos h,if_pos h];rfl
  ·rw[if_neg h,if_neg h,JY f l k]
theorem yN(x:ByteArray)(a e:Int)(ks:List aa):
 (aL (fG (.node 2 x a e ks)) false (.node 2 x a e ks) [] ⟨[],List.replicate (ai (.node 2 x a e ks)) (-1),[],[],0,0⟩).1=(af (zF ks) false ks 0 ks.length [] ⟨[],List.replicate (ai (.node 2 x a e ks)) (-1),[],[],1,0⟩).1:=by
 simp only[aL];rfl
theorem M5(s:aT):aj s=s.flatten.map (·.2):=by
 unfold aj;rw[List.flatMap_def,List.map_flatten]
theorem MR:∀{s:aT}{x:ByteArray}{n:Int},eO s x=some n->(x,n)∈s.flatten
 | [],_,_,h=>by cases h
 | l::s,x,n,h=>by
  rw[eO]at h;rw[List.flatten_cons,List.mem_append]
  have hl:∀{l:nA}{n:Int},bG l x=some n->(x,n)∈l:=by
   intro l
   induction l with
   | nil=>intro n h;cases h
   | cons y l ih=>
    intro n h;rw[bG]at h;by_cases hx:x=y.1
    ·rw[if_pos hx,aag]at h
     rw[hx,<- h];simp
    ·rw[if_neg hx]at h
     exact List.mem_cons_of_mem _ (ih h)
  cases hq:bY l x with
  | some k=>
   rw[hq]at h;simp only[aag]at h;subst h;exact .inl (hl hq)
  | none=>
   rw[hq]at h;exact .inr (MR h)
theorem VS{r0 q:RS}(h:oV r0 q)(h0:r0.ds=[]):(q.ds.map (·.node)).Nodup/\∀d∈q.ds,(r0.next:Int)<=d.node:=by
 obtain⟨l,e,hp,hb⟩:=h.ds;rw[h0,List.nil_append]at e;rw[e];refine⟨?_,fun d hd=>(hb d hd).1⟩;refine List.Pairwise.map _ (fun a b hab=>?_) hp;omega
end Go.Proofs.YtoepemlnlpamlaaGreat
