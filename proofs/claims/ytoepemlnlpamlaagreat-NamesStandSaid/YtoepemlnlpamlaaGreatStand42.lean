/- The law NamesStand holds: for every text and every number the law returns true, and its arguments read as before. No condition. Part 42: Std2 Std3 Std4 Std5. -/
import Derived.Test.YtoepemlnlpamlaaGreatStand41
set_option maxRecDepth 100000
set_option maxHeartbeats 4000000
namespace Go.Proofs.YtoepemlnlpamlaaGreat
mutual
def kr:aa->Nat->aa->aa
 | .node _ _ _ _ _,0,y=>y
 | .node k x a e kids,j+1,y=>.node k x a e (eZ kids j y)
def eZ:List aa->Nat->aa->List aa
 | [],_,_=>[]
 | t::ts,j,y=>if j<ai t then kr t j y::ts else t::eZ ts (j - ai t) y
end
theorem tH:∀(ts:List aa) (j:Nat) (y:aa),(eZ ts j y).length=ts.length
 | [],_,_=>by rw[eZ]
 | t::ts,j,y=>by
  rw[eZ];split
  ·rfl
  ·rw[aao,aao,tH ts]
def Bc(q:RS)(m:Nat)(k0:Int)(nm:ByteArray):Prop:=(∃L,bG q.bH (m:Int)=some L/\k0∈L)/\∀d∈q.ds,d.node=k0->d.name=nm
theorem Bc.back{a b:RS}{m:Nat}{k0:Int}{nm:ByteArray}(h:Bc b m k0 nm)(k:oV a b)(hm:m<a.next):Bc a m k0 nm:=by
 obtain⟨⟨L,h1,h2⟩,h3⟩:=h;obtain⟨l,e,_⟩:=k.ds;exact⟨⟨L,by rw[<- k.bH m (.inl hm)];exact h1,h2⟩,fun d hd=>h3 d (by rw[e];exact List.mem_append_left _ hd)⟩
theorem EP{K V:Type}[DecidableEq K]:∀{l:List (K×V)}{k:K}{v:V},(l.map (·.1)).Nodup->(k,v)∈l->bG l k=some v
 | [],_,_,_,h=>by cases h
 | x::l,k,v,hn,h=>by
  rw[List.map_cons,List.nodup_cons]at hn;rw[bG];rcases List.mem_cons.1 h with rfl|h
  ·rw[if_pos rfl]
  ·by_cases hk:k=x.1
   ·exact absurd (List.mem_map.2 ⟨_,h,hk⟩) hn.1
   ·rw[if_neg hk]
    exact EP hn.2 h
theorem Fu:∀{s:aT}{x:ByteArray}{n:Int},(s.flatten.map (·.1)).Nodup->(x,n)∈s.flatten->eO s x=some n
 | [],_,_,_,h=>by cases h
 | l::s,x,n,hn,h=>by
  rw[List.flatten_cons,List.map_append,List.nodup_append]at hn;obtain⟨h1,h2,h3⟩:=hn;rw[List.flatten_cons,List.mem_append]at h;rw[eO];rcases h with h|h
  ·have:bY l x=some n:=EP h1 h
   rw[this]
  ·have hx:bY l x=none:=by
    cases hq:bY l x with
    | none=>rfl
    | some k=>
     have hm:(x,k)∈[l].flatten:=MR (s:=[l]) (by rw[eO,hq]);have hm':(x,k)∈l:=by simpa using hm
     exact absurd rfl (h3 x (List.mem_map.2 ⟨_,hm',rfl⟩) x (List.mem_map.2 ⟨_,h,rfl⟩))
   rw[hx];exact Fu h2 h
theorem Bc.find{G:bD}{t:aa}{s:aT}{r:RS}{k0:Int}{nm:ByteArray}(h:Bc (aL G true t s r).1 r.next k0 nm)(hs:ja s r):eO s nm=some k0:=by
 obtain⟨⟨L,h1,h2⟩,h3⟩:=h;rw[NS]at h1;simp only[aag]at h1;rw[<- h1]at h2;unfold ah at h2;rw[(List.mergeSort_perm _ _).mem_iff,M5]at h2;obtain⟨z,hz,hz2⟩:=List.mem_map.1 h2;obtain⟨d,hd,hd1,hd2⟩:=hs.decl z hz;obtain⟨l,e,_⟩:=(j5 G t true s r).ds;have:=h3 d (by rw[e];exact List.mem_append_left _ hd) (by rw[hd1,hz2]);have hzz:z=(nm,k0):=Prod.ext (by rw[<- hd2,this]) hz2;rw[hzz]at hz;exact Fu hs.nodup hz
section
variable (G:bD) (k0:Int) (nm:ByteArray) (a' e':Int)
mutual
theorem L9:∀(t:aa) (s:aT) (r:RS) (m:Nat),Bd t=true->eD r (aL G true t s r).1->ja s r->r.next<=m->m<r.next+ai t->(∃x,(bL t)[m - r.next]? =some x/\x.kind=20/\x.kids=[])->Bc (aL G true t s r).1 m k0 nm ->
 aL G true (kr t (m - r.next) (.node 20 nm a' e' [])) s r=(kT (aL G true t s r).1 m k0,(aL G true t s r).2)
 | .node k x a e kids,s,r,m,hin,hc,hs,hm1,hm2,hx,hH=>by
  by_cases hm:m=r.next
  ·subst hm
   obtain⟨z,hz,hz1,hz2⟩:=hx;rw[Nat.sub_self,bL,aai,aag]at hz;subst hz;have hk:k=20:=hz1;have hkd:kids=[]:=hz2;subst hk;subst hkd;have hf:=hH.find hs;rw[Nat.sub_self,kr,di,di];rw[di]at hc;rw[if_neg (by decide),if_neg (by decide),if_neg (by decide),if_neg (by decide),if_neg (by decide),if_neg (by decide),if_neg (by decide)]at hc;rw[if_neg (by decide),if_neg (by decide),if_neg (by decide),if_neg (by decide),if_neg (by decide),if_neg (by decide),if_neg (by decide),if_neg (by decide),if_neg (by decide),if_neg (by decide),if_neg (by decide),if_neg (by decide),if_neg (by decide),if_neg (by decide)];rw[af]at hc;rw[af,af]
   have e1:∀(nm:ByteArray) (a e:Int),ik G s r (aB r true (ah (aj s))) (.node 20 nm a e [])=gB (aB r true (ah (aj s))) r.next (.node 20 nm a e []) (eO s nm):=fun nm a e=>by
    unfold ik;rw[if_pos (show(aa.node 20 nm a e []).kind=20 from rfl)];rfl
   rw[e1]at hc;rw[e1,e1,hf]
   cases hfx:eO s x with
   | none=>
    rw[hfx]at hc;unfold eD gB pV aB at hc;simp at hc
   | some k1=>
    unfold gB kT;simp only;rw[List.set_set]
  obtain⟨hk,h12,h16,hno,hks⟩:=(yw hin)
  obtain⟨j,hj⟩:∃j,m - (r.next+1)=j:=⟨_,rfl⟩
  have hmj:m - r.next=j+1:=by omega
  have hidx:(bL (.node k x a e kids))[m - r.next]? =(aX kids)[m - (r.next+1)]? :=by
   rw[bL,show m - r.next=(m - (r.next+1))+1 by omega,aaj]
  have hcnt:ai (.node k x a e kids)=1+ag kids:=rfl;rw[hidx]at hx;rw[hmj,kr];have n3:k≠3:=by omega
  have n4:k≠4:=by omega
  have n5:k≠5:=by omega
  have n78:¬(k=7\/k=8):=by omega
  rw[di,if_neg n3,if_neg n4,if_neg n5,if_neg n78]at hc hH;rw[di,di,if_neg n3,if_neg n3,if_neg n4,if_neg n4,if_neg n5,if_neg n5,if_neg n78,if_neg n78]
  have whole:∀(s':aT) (u:RS),u.next=r.next+1->oV r u->ja s' u->eD r (af G true kids 0 kids.length s' u).1->Bc (af G true kids 0 kids.length s' u).1 m k0 nm->af G true (eZ kids j (.node 20 nm a' e' [])) 0 kids.length s' u=(kT (af G true kids 0 kids.length s' u).1 m k0,(af G true kids 0 kids.length s' u).2):=fun s' u hu hr hs' hc hH=>by
   have hc2:=(eD.split hr (bS G kids true 0 kids.length s' u) hc).2;have:=wC kids 0 kids.length s' u m hks hc2 hs' (by omega) (by rw[hu];simp;omega) (by rw[hu];simpa using hx) hH;rw[hu,hj]at this;simpa [ag] using this
  by_cases h11:k=11
  ·rw[if_pos h11]at hc hH
   rw[if_pos h11,if_pos h11,tH,whole _ _ rfl (xI _ _ _) ((hs.mono (xI r true (ah (aj s)))).push) hc hH]
  rw[if_neg h11]at hc hH;rw[if_neg h11,if_neg h11];by_cases kX:k=12
  ·rw[if_pos kX]at hc hH
   rw[if_pos kX,if_pos kX];have hr:=xH G r true (ah (aj s)) 4 (.node k x a e kids) ([]::s);have hcv:=(eD.split hr (bS G kids true 0 2 s _) hc).1;obtain⟨hf,hg,he⟩:=sW hcv;have hl:=h12 kX;have hw:=whole s (aD G (aB r true (ah (aj s))) 4 r.next (.node k x a e kids) ([]::s)).1 (by rw[he];rfl) hr (hs.mono hr) (by rw[hl];exact hc) (by rw[hl];exact hH);rw[hl]at hw;have hvar:aD G (aB r true (ah (aj s))) 4 r.next (.node k x a e (eZ kids j (.node 20 nm a' e' []))) ([]::s)=aD G (aB r true (ah (aj s))) 4 r.next (.node k x a e kids) ([]::s):=rfl;rw[hvar,hw]
  rw[if_neg kX]at hc hH;rw[if_neg kX,if_neg kX];by_cases nI:k=16
  ·rw[if_pos nI]at hc hH
   rw[if_pos nI,if_pos nI];have hvar:aD G (aB r true (ah (aj s))) 5 r.next (.node k x a e (eZ kids j (.node 20 nm a' e' []))) ([]::s)=aD G (aB r true (ah (aj s))) 5 r.next (.node k x a e kids) ([]::s):=rfl;rw[hvar];have hr:=xH G r true (ah (aj s)) 5 (.node k x a e kids) ([]::s);have htop:=wu G (aB r true (ah (aj s))) 5 r.next (.node k x a e kids) s;obtain⟨U,hU⟩:∃U,(aD G (aB r true (ah (aj s))) 5 r.next (.node k x a e kids) ([]::s)).1=U:=⟨_,rfl⟩
   have hsc2:=jG G kids true 0 2 s U hks (hno h11);rw[htop]at hc hH⊢;rw[hU]at hc hH hr⊢;rw[hsc2]at hc hH⊢;have hr2:=bS G kids true 0 2 s U;have hr3:=bS G kids true 2 1 (tu G (.node k x a e kids) s r.next::s) (af G true kids 0 2 s U).1;have hcv:=(eD.split hr (hr2.trans hr3) hc).1;have YR:=(eD.split hr (hr2.trans hr3) hc).2;obtain⟨hc2,hc3⟩:=eD.split hr2 hr3 YR;rw[<- hU]at hcv;obtain⟨hf,hg,he⟩:=sW hcv;have hun:U.next=r.next+1:=by rw[<- hU,he];rfl
   have hd:∃d∈U.ds,d.node=(r.next:Int)/\d.name=x:=by
    rw[<- hU,he];exact⟨⟨5,x,(r.next:Int),_⟩,by unfold jk;exact List.mem_append_right _ (List.mem_singleton.2 rfl),rfl,rfl⟩
   have hsU:ja s U:=hs.mono hr;have hl:=h16 nI;have hn2:=pG G kids true 0 2 s U hks;rw[hun]at hn2;obtain⟨V,hV⟩:∃V,tu G (.node k x a e kids) s r.next=V:=⟨_,rfl⟩
   have hVe:V=[(x,(r.next:Int))]:=by rw[<- hV];exact wB (show eO s _=none from hf) hg
   have hsi:ja (V::s) (af G true kids 0 2 s U).1:=by
    rw[hVe];exact((hsU.var (show eO s x=none from hf) hd).2).mono hr2
   rw[hV]at hc hH hr3 hc3⊢;clear hV hVe htop hvar he hf hg hcv hU whole
   match kids,hl,hks,hn2,hc2,hc3,hr2,hr3,hcnt,hm2,hx,hH,hsi,hsc2 with
   | [b,c,d],_,hks,hn2,hc2,hc3,hr2,hr3,hcnt,hm2,hx,hH,hsi,hsc2=>
    by_cases hlt:m<r.next+1+(ai b+ai c)
    ·have hx2:∃z,(aX (([b,c,d].drop 0).take 2))[m - U.next]? =some z/\z.kind=20/\z.kids=[]:=by
      rw[hun];have hlen:m - (r.next+1)<(aX [b,c]).length:=by rw[nO];simp[ag];omega
      have e1:aX [b,c,d]=aX [b,c]++aX [d]:=by simp[aX]
      rw[e1,List.getElem?_append_left hlen]at hx;exact hx
     have h1:=wC [b,c,d] 0 2 s U m hks hc2 hsU (by omega) (by rw[hun];simp[ag];omega) hx2 (hH.back hr3 (by rw[hn2];simp[ag];omega));rw[hun,hj]at h1;simp only[List.take_zero,ag,Nat.zero_add]at h1;rw[h1];simp only;rw[hsc2]
     have h2:af G true (eZ [b,c,d] j (.node 20 nm a' e' [])) 2 1 (V::s) (kT (af G true [b,c,d] 0 2 s U).1 m k0)=af G true [b,c,d] 2 1 (V::s) (kT (af G true [b,c,d] 0 2 s U).1 m k0):=by
      rw[eZ];split
      ·rw[af,af,af,af]
      ·rw[eZ,if_pos (by omega),af,af,af,af]
     rw[h2,jA G m k0 _ true 2 1 _ _ (by rw[hn2];simp[ag];omega)]
    ·have hnn:(af G true [b,c,d] 0 2 s U).1.next=r.next+1+(ai b+ai c):=by
      rw[hn2];simp[ag]
     have hx3:∃z,(aX (([b,c,d].drop 2).take 1))[m - (af G true [b,c,d] 0 2 s U).1.next]? =some z/\z.kind=20/\z.kids=[]:=by
      rw[hnn];have hlen:(aX [b,c]).length<=m - (r.next+1):=by rw[nO];simp[ag];omega
      have e1:aX [b,c,d]=aX [b,c]++aX [d]:=by simp[aX]
      rw[e1,aal hlen,nO]at hx;simp only[ag,Nat.add_zero]at hx;rw[show m - (r.next+1+(ai b+ai c))=m - (r.next+1) - (ai b+ai c) by omega];exact hx
     have h1:=wC [b,c,d] 2 1 (V::s) (af G true [b,c,d] 0 2 s U).1 m hks hc3 hsi (by rw[hnn];omega) (by rw[hnn];simp[ag];rw[hcnt]at hm2;simp[ag]at hm2;omega) hx3 hH;rw[hnn]at h1;have e2:ag ([b,c,d].take 2)+(m - (r.next+1+(ai b+ai c)))=j:=by simp[ag];omega
     rw[e2]at h1
     have h2:af G true (eZ [b,c,d] j (.node 20 nm a' e' [])) 0 2 s U=af G true [b,c,d] 0 2 s U:=by
      rw[eZ,if_neg (by omega),eZ,if_neg (by omega),eZ];split<;>simp only[af]
     rw[h2,hsc2,h1]
  rw[if_neg nI]at hc hH;rw[if_neg nI,if_neg nI,tH];have mZ:ik G s r (aB r true (ah (aj s))) (.node k x a e (eZ kids j (.node 20 nm a' e' [])))=ik G s r (aB r true (ah (aj s))) (.node k x a e kids):=rfl;rw[mZ];exact whole _ _ (Ex _ _ _ _ _ _) (CY _ _ _ _ _ _) (hs.mono (CY _ _ _ _ _ _)) hc hH
theorem wC:∀(ts:List aa) (f n:Nat) (s:aT) (r:RS) (m:Nat),oN ts=true->eD r (af G true ts f n s r).1->ja s r->r.next<=m->m<r.next+ag ((ts.drop f).take n)->(∃x,(aX ((ts.drop f).take n))[m - r.next]? =some x/\x.kind=20/\x.kids=[])->Bc (af G true ts f n s r).1 m k0 nm ->
 af G true (eZ ts (ag (ts.take f)+(m - r.next)) (.node 20 nm a' e' [])) f n s r=(kT (af G true ts f n s r).1 m k0,(af G true ts f n s r).2)
 | [],f,n,s,r,m,_,_,_,h1,h2,_,_=>by simp[ag]at h2;omega
 | t::ts,f+1,n,s,r,m,hin,hc,hs,h1,h2,hx,hH=>by
  rw[oN,aad]at hin;rw[af]at hc hH;rw[List.drop_succ_cons]at h2 hx;rw[List.take_succ_cons,ag,eZ,if_neg (by omega),af,af,show ai t+ag (ts.take f)+(m - r.next) - ai t=ag (ts.take f)+(m - r.next) by omega];exact wC ts f n s r m hin.2 hc hs h1 h2 hx hH
 | t::ts,0,0,s,r,m,_,_,_,h1,h2,_,_=>by simp[ag]at h2;omega
 | t::ts,0,n+1,s,r,m,hin,hc,hs,h1,h2,hx,hH=>by
  rw[oN,aad]at hin;rw[af]at hc hH;have hr1:=j5 G t true s r;have hr2:=bS G ts true 0 n (aL G true t s r).2 (aL G true t s r).1;obtain⟨hc1,hc2⟩:=eD.split hr1 hr2 hc;have hn:=uq G t true s r hin.1;rw[List.drop_zero,List.take_succ_cons,aX]at hx;rw[List.drop_zero,List.take_succ_cons,ag]at h2;rw[List.take_zero,ag,Nat.zero_add,eZ];by_cases hlt:m<r.next+ai t
  ·rw[if_pos (by omega),af,af]
   rw[List.getElem?_append_left (by rw[dz];omega)]at hx;rw[L9 t s r m hin.1 hc1 hs h1 hlt hx (hH.back hr2 (by rw[hn];exact hlt))];simp only;rw[jA G m k0 ts true 0 n _ _ (by rw[hn];exact hlt)]
  ·have hs2:ja (aL G true t s r).2 (aL G true t s r).1:=by
    rw[sG G t true s r hin.1];by_cases h12:t.kind=12
    ·rw[if_pos h12]
     obtain⟨k,x,a,e,kids⟩:=t;have kX:k=12:=h12;subst kX;have hb:=Lf G 12 x a e kids true s r hin.1;rw[if_neg (by decide),if_pos rfl]at hb;rw[hb]at hc1⊢;have hr:=xH G r true (ah (aj s)) 4 (.node 12 x a e kids) ([]::s);have hrr:=bS G kids true 0 kids.length s (aD G (aB r true (ah (aj s))) 4 r.next (.node 12 x a e kids) ([]::s)).1;obtain⟨hf,hg,he⟩:=sW (eD.split hr hrr hc1).1;rw[wB (show eO s _=none from hf) hg];refine(((hs.mono hr).var (show eO s x=none from hf) ?_).1).mono hrr;rw[he];exact⟨⟨4,x,(r.next:Int),_⟩,by unfold jk;exact List.mem_append_right _ (List.mem_singleton.2 rfl),rfl,rfl⟩
    ·rw[if_neg h12]
     exact hs.mono hr1
   rw[if_neg (by omega),af,af];rw[aal (by rw[dz];omega),dz]at hx;have:=wC ts 0 n (aL G true t s r).2 (aL G true t s r).1 m hin.2 hc2 hs2 (by rw[hn];omega) (by rw[hn];simpa using(by omega:m<r.next+ai t+ag (ts.take n))) (by rw[hn,List.drop_zero,show m - (r.next+ai t)=m - r.next - ai t by omega];exact hx) hH;rw[List.take_zero,ag,Nat.zero_add,hn,show m - (r.next+ai t)=m - r.next - ai t by omega]at this;exact this
end
end
theorem Ya(G:bD){x:ByteArray}{a e:Int}{kids:List aa}(hsh:gU (.node 5 x a e kids)=true){s:aT}{r:RS}(hc:eD r (aL G false (.node 5 x a e kids) s r).1){m:Nat}{y:aa}
 (hm1:r.next<=m) (hm2:m<r.next+ai (.node 5 x a e kids)) (hy:(bL (.node 5 x a e kids))[m - r.next]? =some y) (h20:y.kind=20) (hy0:y.kids=[]) {k0:Int}{nm:ByteArray}(a' e':Int) (hH:Bc (aL G false (.node 5 x a e kids) s r).1 m k0 nm):
 aL G false (kr (.node 5 x a e kids) (m - r.next) (.node 20 nm a' e' [])) s r=(kT (aL G false (.node 5 x a e kids) s r).1 m k0,(aL G false (.node 5 x a e kids) s r).2):=by
 have h11:11<=y.kind:=by omega
 obtain⟨b,c,d,rfl,hb6,hps,hlc,YN,YJ⟩:=JO hsh;rw[di,if_neg (by decide),if_neg (by decide),if_pos rfl]at hc hH;rw[di G false 5 x a e [b,c,d],if_neg (by decide),if_neg (by decide),if_pos rfl];obtain⟨D,hD⟩:∃D:RS,({ bF (aB r false (ah (aj s))) 2 r.next (.node 5 x a e [b,c,d]) (decide ((bY G.globals x).getD 0≠(r.next:Int))) with owner:=(r.next:Int) }:RS)=D:=⟨_,rfl⟩
 rw[hD]at hc hH⊢
 have RQ:oV r D:=by
  rw[<- hD];exact(iX.declare r false (ah (aj s)) 2 (.node 5 x a e [b,c,d]) _).trans (iX.owner _ _)
 have hnD:D.next=r.next+1:=by
  rw[<- hD];exact wX (aB r false (ah (aj s))) 2 r.next (.node 5 x a e [b,c,d]) _
 obtain⟨q,hq⟩:∃q,af G false [b,c,d] 0 2 [[]] D=q:=⟨_,rfl⟩
 rw[hq]at hc hH⊢;have hrq:oV D q.1:=by rw[<- hq];exact bS G _ false 0 2 _ D
 have hrd:=bS G [b,c,d] true 2 1 ([]::q.2) q.1;obtain⟨hcD,hcd⟩:=eD.split (RQ.trans hrq) hrd hc;obtain⟨-,hcq⟩:=eD.split RQ hrq hcD
 have hqq:af G false [b,c,d] 0 2 [[]] D=aL G false c (aL G false b [[]] D).2 (aL G false b [[]] D).1:=by
  rw[af,af,af]
 have hpb:ja (aL G false b [[]] D).2 (aL G false b [[]] D).1/\(aL G false b [[]] D).1.next=D.next+ai b:=by
  have hcb:eD D (aL G false b [[]] D).1:=by
   rw[<- hq,hqq]at hcq;exact(eD.split (j5 G b false _ D) (j5 G c false _ _) hcq).1
  obtain⟨k,bx,ba,be,bk⟩:=b;have hk6:k=6:=hb6;subst hk6
  have hvb:aL G false (.node 6 bx ba be bk) [[]] D=af G false bk 0 bk.length [[]] (aB D false (ah (aj [[]]))):=by
   rw[di,if_neg (by decide),if_neg (by decide),if_neg (by decide),if_neg (by decide),if_neg (by decide),if_neg (by decide),if_neg (by decide)]
   have:ik G [[]] D (aB D false (ah (aj [[]]))) (.node 6 bx ba be bk)=aB D false (ah (aj [[]])):=by
    unfold ik;show(if (6:Int)=20 then _ else if (6:Int)=22 then _ else if (6:Int)=27 then _ else if (6:Int)=19 then _ else if (6:Int)=9/\iB bx=false then _ else _)=_;rw[if_neg (by decide),if_neg (by decide),if_neg (by decide),if_neg (by decide),if_neg (fun h=>absurd h.1 (by decide))]
   rw[this]
  rw[hvb]at hcb⊢;have hre:=xI D false (ah (aj [[]]));obtain⟨-,hc2⟩:=eD.split hre (bS G bk false 0 bk.length [[]] _) hcb;obtain⟨h1,h2⟩:=CZ G false (ps:=bk) hps hc2 (Mg _);refine⟨h1,?_⟩;rw[h2,ai];show D.next+1+_=_;omega
 have DZ:ja q.2 q.1/\q.1.next=r.next+1+ai b+ai c:=by
  rw[<- hq,hqq];rw[sG G c false _ _ (Ad hlc),if_neg (by have:=hlc.2.2;omega),uq G c false _ _ (Ad hlc),hpb.2,hnD];exact⟨hpb.1.mono (j5 G c false _ _),rfl⟩
 have hvd:af G true [b,c,d] 2 1 ([]::q.2) q.1=aL G true d ([]::q.2) q.1:=by
  rw[af,af,af,af]
 rw[hvd]at hc hcd hrd hH⊢;have hcb1:(bL b).length=ai b:=dz b;have hcc1:(bL c).length=ai c:=dz c
 have sF:bL (.node 5 x a e [b,c,d])=(.node 5 x a e [b,c,d])::(bL b++(bL c++bL d)):=by
  rw[bL];simp[aX]
 rw[sF]at hy
 have hge:r.next+1+ai b+ai c<=m:=by
  refine Nat.le_of_not_lt fun hlt=>?_
  have:y.kind<11:=by
   by_cases h0:m - r.next=0
   ·rw[h0,aai,aag]at hy
    rw[<- hy];show(5:Int)<11;decide
   ·obtain⟨j,hj⟩:∃j,m - r.next=j+1:=⟨m - r.next - 1,by omega⟩
    rw[hj,aaj]at hy;by_cases hjb:j<ai b
    ·rw[List.getElem?_append_left (by omega)]at hy
     have hyb:=aan hy;rw[kC]at hyb;rcases List.mem_cons.1 hyb with rfl|hyb
     ·omega
     ·exact vM hyb fun t ht=>RI (hps t ht).1 (hps t ht).2
    ·rw[aal (by omega),List.getElem?_append_left (by omega)]at hy
     exact De hlc y (aan hy)
  omega
 have hcnt:ai (.node 5 x a e [b,c,d])=1+(ai b+(ai c+ai d)):=by
  rw[ai];simp[ag]
 obtain⟨j,hj⟩:∃j,m - r.next=j+1:=⟨m - r.next - 1,by omega⟩
 rw[hj,aaj,aal (by omega),aal (by omega)]at hy
 have hset:kr (.node 5 x a e [b,c,d]) (m - r.next) (.node 20 nm a' e' [])= .node 5 x a e [b,c,kr d (m - q.1.next) (.node 20 nm a' e' [])]:=by
  rw[hj,kr,eZ,if_neg (by omega),eZ,if_neg (by omega),eZ,if_pos (by omega),show m - q.1.next=j - ai b - ai c by rw[DZ.2];omega]
 have UE:=L9 G k0 nm a' e' d ([]::q.2) q.1 m YJ hcd (DZ.1.push) (by rw[DZ.2];exact hge) (by rw[DZ.2];omega) ⟨y,by rw[<- hy,DZ.2];congr 1;omega,h20,hy0⟩ hH;rw[hset,di,if_neg (by decide),if_neg (by decide),if_pos rfl]
 have hD':({ bF (aB r false (ah (aj s))) 2 r.next (.node 5 x a e [b,c,kr d (m - q.1.next) (.node 20 nm a' e' [])]) (decide ((bY G.globals x).getD 0≠(r.next:Int))) with owner:=(r.next:Int) }:RS)=D:=by
  rw[<- hD];rfl
 have hq':af G false [b,c,kr d (m - q.1.next) (.node 20 nm a' e' [])] 0 2 [[]] D=q:=by
  rw[<- hq];simp only[af]
 have hvd':af G true [b,c,kr d (m - q.1.next) (.node 20 nm a' e' [])] 2 1 ([]::q.2) q.1=aL G true (kr d (m - q.1.next) (.node 20 nm a' e' [])) ([]::q.2) q.1:=by
  simp only[af]
 rw[hD',hq',hvd',UE]
theorem RA(G:bD){k0:Int}{nm:ByteArray}(a' e':Int):∀(ks:List aa),(∀k∈ks,gU k=true/\vE k=true)->∀(r:RS),eD r (af G false ks 0 ks.length [] r).1->∀(m:Nat) (y:aa),r.next<=m->(aX ks)[m - r.next]? =some y->y.kind=20->y.kids=[]->Bc (af G false ks 0 ks.length [] r).1 m k0 nm ->
 af G false (eZ ks (m - r.next) (.node 20 nm a' e' [])) 0 ks.length [] r=(kT (af G false ks 0 ks.length [] r).1 m k0,(af G false ks 0 ks.length [] r).2)
 | [],_,r,_,m,y,_,hy,_,_,_=>by cases hy
 | k::ks,h,r,hc,m,y,hm1,hy,h20,hy0,hH=>by
  rw[aao,af]at hc hH;rw[aao,eZ];obtain⟨hsh,ht⟩:=h k (by simp);have hr1:=j5 G k false [] r;have hr2:=bS G ks false 0 ks.length (aL G false k [] r).2 (aL G false k [] r).1;obtain⟨hc1,hc2⟩:=eD.split hr1 hr2 hc;have hs2:(aL G false k [] r).2=[]:=List.length_eq_zero_iff.1 (by rw[Eu];rfl);have hn:(aL G false k [] r).1.next=r.next+ai k:=(Rz (yh.refl G) k ht [] r rfl).2.2.1;rw[aX]at hy;have hlen:(bL k).length=ai k:=dz k;by_cases hlt:m<r.next+ai k
  ·rw[List.getElem?_append_left (by omega)]at hy
   rw[if_pos (by omega),af,af];obtain⟨kk,x,a,e,kids⟩:=k;have ht':=ht;rw[vE,Bool.or_eq_true,aad,aad,aad,decide_eq_true_eq,decide_eq_true_eq,decide_eq_true_eq]at ht';rcases ht' with⟨rfl,-⟩| ⟨⟨rfl,-⟩,-⟩
   ·have:=RH hsh ht y (aan hy)
    omega
   ·rw[Ya G hsh hc1 hm1 hlt hy h20 hy0 a' e' (hH.back hr2 (by rw[hn];exact hlt))]
    simp only;rw[jA G m k0 ks false 0 ks.length _ _ (by rw[hn];exact hlt)]
  ·rw[aal (by omega)]at hy
   rw[if_neg (by omega),af,af];rw[hs2]at hc2 hr2 hH⊢;have:=RA G a' e' ks (fun c hc=>h c (by simp[hc])) _ hc2 m y (by omega) (by rw[<- hy,hn,hlen];congr 1;omega) h20 hy0 hH;rw[hn,show m - (r.next+ai k)=m - r.next - ai k by omega]at this;exact this
theorem uh{t:aa}(h:dR t=true)(hk:t.kind=3\/t.kind=4\/t.kind=5\/t.kind=7\/t.kind=8\/t.kind=12\/t.kind=16\/t.kind=20):dJ t.text=true:=by
 obtain⟨sh,hs,hf⟩:=iD h;obtain⟨ht,-,-⟩:=jR hf;rcases hk with hk|hk|hk|hk|hk|hk|hk|hk
 all_goals
  rw[hk]at hs;have he:some _=some sh:=hs;cases he
  exact ht
theorem EN{t:aa}(h:dR t=true)(hk:t.kind=20):t.kids=[]:=by
 obtain⟨sh,hs,hf⟩:=iD h;obtain⟨-,hc,-⟩:=jR hf;rw[hk]at hs;have he:some _=some sh:=hs;cases he
 have:t.kids.length=0:=by simpa [oQ] using hc
 exact List.length_eq_zero_iff.1 this
theorem Rf{nm:ByteArray}(a e:Int)(h:dJ nm=true):dR (.node 20 nm a e [])=true:=by
 unfold dR;show(nR ⟨dJ,[],none,0⟩ (.node 20 nm a e [])&&(if (20:Int)=4 then CV (.node 20 nm a e []) else true))=true;rw[if_neg (by decide),Bool.and_true];unfold nR;show(dJ nm&&oQ ⟨dJ,[],none,0⟩ 0&&gF ⟨dJ,[],none,0⟩ 0 [])=true;rw[h];rfl
theorem Zg{y:ByteArray}{a e:Int}{kids:List aa}(h:(bL (.node 4 y a e kids)).all dR=true){j:Nat}{x:aa}(hx:(aX kids)[j]? =some x):x.kind≠20:=by
 have h2:=jK (t:=.node 4 y a e kids) h;rw[bL,List.all_cons,aad]at h;obtain⟨sh,hs,hf⟩:=iD h.1;obtain⟨-,-,nM⟩:=jR hf;have he:some _=some sh:=hs;cases he
 intro h20
 obtain⟨q,hq,Z5⟩:∃q∈kids,x∈bL q:=by
  have hm:=aan hx;clear hx nM hf h hs h2
  induction kids with
  | nil=>rw[aX]at hm;cases hm
  | cons t ts ih=>
   rw[aX,List.mem_append]at hm;rcases hm with hm|hm
   ·exact⟨t,by simp,hm⟩
   ·obtain⟨q,hq,Z5⟩:=ih hm
    exact⟨q,by simp[hq],Z5⟩
 obtain⟨p1,hp,hpk⟩:=mE _ kids 0 nM q hq
 have hp1:p1=dH [9]:=by
  have:p1∈[dH [9]]:=hp.resolve_left (fun h=>by cases h);simpa using this
 rw[hp1]at hpk;have h9:q.kind=9:=by simpa [dH] using hpk
 have hnil:=IM (h2 q hq) h9;rw[kC,hnil,aX,List.mem_singleton]at Z5;rw[Z5,h9]at h20;exact absurd h20 (by decide)
def sw(r:RS):Prop:=∀d∈r.ds,dJ d.name=true
theorem sw.decl{r:RS}(h:sw r){c:Int}{n:Nat}{t:aa}(ht:dJ t.text=true):sw (jk r c n t):=by
 intro d hd;unfold jk at hd;rcases List.mem_append.1 hd with hd|hd
 ·exact h d hd
 ·rw[List.mem_singleton]at hd
  subst hd;exact ht
theorem sw.declare{r:RS}(h:sw r){c:Int}{n:Nat}{t:aa}(ht:dJ t.text=true)(a:Bool):sw (bF r c n t a):=by
 cases a
 ·exact h.decl ht
 ·exact h
theorem sw.var{G:bD}{r:RS}(h:sw r){c:Int}{n:Nat}{t:aa}{s:aT}(ht:dJ t.text=true):sw (aD G r c n t s).1:=by
 unfold aD;split
 ·exact h
 ·exact h.decl ht
theorem sw.use{G:bD}{s:aT}{r u:RS}(h:sw u)(t:aa):sw (ik G s r u t):=by
 have hu:∀q,sw (gB u r.next t q):=fun q=>by cases q<;>exact h
 unfold ik;split
 ·exact hu _
 split
 ·exact hu _
 split
 ·exact hu _
 split
 ·exact hu _
 split
 ·exact hu _
 ·exact h
mutual
theorem Yn(G:bD):∀(t:aa) (i:Bool) (s:aT) (r:RS),gU t=true->sw r->sw (aL G i t s r).1
 | .node k x a e kids,i,s,r,hsh,h=>by
  have hs0:=hsh;rw[jJ,aad]at hsh;obtain⟨hN,hks⟩:=hsh;have hent:∀i v,sw (aB r i v):=fun i v=>h
  rw[di];split
  ·rename_i hk
   exact l6 G kids i 0 kids.length s _ hks ((hent _ _).declare (uh hN (.inl hk)) _)
  split
  ·rename_i hk
   exact l6 G kids i 0 kids.length s _ hks ((hent _ _).declare (uh hN (.inr (.inl hk))) _)
  split
  ·rename_i hk
   exact l6 G kids true 2 1 _ _ hks (l6 G kids false 0 2 _ _ hks ((hent _ _).declare (uh hN (.inr (.inr (.inl hk)))) _))
  split
  ·rename_i hk
   exact l6 G kids i 0 kids.length _ _ hks ((hent _ _).var (uh hN (.inr (.inr (.inr (hk.elim .inl (fun h=>.inr (.inl h))))))))
  split
  ·exact l6 G kids i 0 kids.length _ _ hks (hent _ _)
  split
  ·rename_i hk
   exact l6 G kids i 0 2 _ _ hks ((hent _ _).var (uh hN (.inr (.inr (.inr (.inr (.inr (.inl hk))))))))
  split
  ·rename_i hk
   exact l6 G kids i 2 1 _ _ hks (l6 G kids i 0 2 _ _ hks ((hent _ _).var (uh hN (.inr (.inr (.inr (.inr (.inr (.inr (.inl hk))))))))))
  ·exact l6 G kids i 0 kids.length _ _ hks ((hent _ _).use _)
theorem l6(G:bD):∀(ts:List aa) (i:Bool) (f n:Nat) (s:aT) (r:RS),(aX ts).all dR=true->sw r->sw (af G i ts f n s r).1
 | [],_,_,_,_,r,_,h=>by rw[af];exact h
 | t::ts,i,f+1,n,s,r,hs,h=>by
  rw[aX,List.all_append,aad]at hs;rw[af];exact l6 G ts i f n s r hs.2 h
 | t::ts,i,0,0,s,r,_,h=>by rw[af];exact h
 | t::ts,i,0,n+1,s,r,hs,h=>by
  rw[aX,List.all_append,aad]at hs;rw[af];exact l6 G ts i 0 n _ _ hs.2 (Yn G t i s r hs.1 h)
end
theorem DW(sh:xw):∀(us ts:List aa) (i:Nat),us.map aa.kind=ts.map aa.kind->gF sh i us=gF sh i ts
 | [],[],_,_=>rfl
 | [],t::ts,_,h=>by simp at h
 | u::us,[],_,h=>by simp at h
 | u::us,t::ts,i,h=>by
  simp only[List.map_cons,List.cons.injEq]at h;rw[gF,gF,DW sh us ts (i+1) h.2]
  have:yt sh i u=yt sh i t:=by
   unfold yt;rw[h.1]
  rw[this]
section
variable {nm:ByteArray}{a' e':Int}
theorem EB{t:aa}{j:Nat}{x:aa}(hx:(bL t)[j]? =some x)(hk:x.kind=20):(kr t j (.node 20 nm a' e' [])).kind=t.kind:=by
 obtain⟨k,y,a,e,kids⟩:=t
 cases j with
 | zero=>
  rw[bL,aai,aag]at hx;rw[kr,hx,hk];rfl
 | succ j=>rw[kr];rfl
theorem Gq:∀{ts:List aa}{j:Nat}{x:aa},(aX ts)[j]? =some x->x.kind=20->(eZ ts j (.node 20 nm a' e' [])).map aa.kind=ts.map aa.kind
 | [],j,x,h,_=>by cases h
 | t::ts,j,x,h,hk=>by
  rw[aX]at h;rw[eZ];by_cases hj:j<ai t
  ·rw[if_pos hj,List.map_cons,List.map_cons]
   rw[List.getElem?_append_left (by rw[dz];exact hj)]at h;rw[EB h hk]
  ·rw[if_neg hj,List.map_cons,List.map_cons]
   rw[aal (by rw[dz];omega),dz]at h;rw[Gq h hk]
mutual
theorem xU(hnm:dJ nm=true):∀(t:aa) (j:Nat) (x:aa),(bL t).all dR=true->(bL t)[j]? =some x->x.kind=20->(bL (kr t j (.node 20 nm a' e' []))).all dR=true/\ai (kr t j (.node 20 nm a' e' []))=ai t
 | .node k y a e kids,0,x,hs,hx,hk=>by
  rw[bL,aai,aag]at hx;rw[bL,List.all_cons,aad]at hs;have mh:kids=[]:=EN hs.1 (by rw[hx];exact hk);rw[kr,kC];refine⟨?_,?_⟩
  ·show((aa.node 20 nm a' e' [])::aX []).all dR=true
   rw[aX,List.all_cons,Rf a' e' hnm];rfl
  ·rw[mh]
   rfl
 | .node k y a e kids,j+1,x,hs,hx,hk=>by
  rw[bL,aaj]at hx;rw[bL,List.all_cons,aad]at hs;obtain⟨h1,h2⟩:=EA hnm kids j x hs.2 hx hk;rw[kr];refine⟨?_,?_⟩
  ·rw[bL,List.all_cons,aad]
   refine⟨?_,h1⟩
   have hk4:k≠4:=fun e4=>by
    subst e4;exact Zg (a:=a) (e:=e) (y:=y) (by rw[bL,List.all_cons,aad];exact hs) hx hk
   have hn:=hs.1;unfold dR at hn⊢;show(match lZ k with|none=>false|some sh=>nR sh (.node k y a e (eZ kids j (.node 20 nm a' e' [])))&&(if k=4 then CV (.node k y a e (eZ kids j (.node 20 nm a' e' []))) else true))=true;have hn':(match lZ k with|none=>false|some sh=>nR sh (.node k y a e kids)&&(if k=4 then CV (.node k y a e kids) else true))=true:=hn
   cases hsk:lZ k with
   | none=>rw[hsk]at hn';cases hn'
   | some sh=>
    rw[hsk]at hn';have hf:(nR sh (.node k y a e kids)&&(if k=4 then CV (.node k y a e kids) else true))=true:=hn';show(nR sh (.node k y a e (eZ kids j (.node 20 nm a' e' [])))&&(if k=4 then CV (.node k y a e (eZ kids j (.node 20 nm a' e' []))) else true))=true;rw[if_neg hk4,Bool.and_true]at hf⊢;unfold nR at hf⊢;show(sh.text y&&oQ sh (eZ kids j (.node 20 nm a' e' [])).length&&gF sh 0 (eZ kids j (.node 20 nm a' e' [])))=true;rw[tH,DW sh _ _ 0 (Gq hx hk)];exact hf
  ·rw[ai,ai,h2]
theorem EA(hnm:dJ nm=true):∀(ts:List aa) (j:Nat) (x:aa),(aX ts).all dR=true->(aX ts)[j]? =some x->x.kind=20->(aX (eZ ts j (.node 20 nm a' e' []))).all dR=true/\ag (eZ ts j (.node 20 nm a' e' []))=ag ts
 | [],j,x,_,h,_=>by cases h
 | t::ts,j,x,hs,h,hk=>by
  rw[aX]at h;rw[aX,List.all_append,aad]at hs;rw[eZ];by_cases hj:j<ai t
  ·rw[if_pos hj,aX,List.all_append,ag,ag]
   rw[List.getElem?_append_left (by rw[dz];exact hj)]at h;obtain⟨h1,h2⟩:=xU hnm t j x hs.1 h hk;rw[h1,hs.2,h2];exact⟨rfl,rfl⟩
  ·rw[if_neg hj,aX,List.all_append,ag,ag]
   rw[aal (by rw[dz];omega),dz]at h;obtain⟨h1,h2⟩:=EA hnm ts _ x hs.2 h hk;rw[h1,hs.1,h2];exact⟨rfl,rfl⟩
end
end
section
variable {nm:ByteArray}{a' e':Int}
theorem Fz(hnm:dJ nm=true):∀(fs:List aa) (j n:Nat) (l:nA) (x:aa),(aX fs).all dR=true->(aX fs)[j]? =some x->x.kind=20->ib (eZ fs j (.node 20 nm a' e' [])) n l=ib fs n l
 | [],j,n,l,x,_,h,_=>by cases h
 | f::fs,j,n,l,x,hs,h,hk=>by
  rw[aX]at h;rw[aX,List.all_append,aad]at hs;rw[eZ];by_cases hj:j<ai f
  ·rw[if_pos hj]
   rw[List.getElem?_append_left (by rw[dz];exact hj)]at h;rw[ib,ib,(xU hnm f j x hs.1 h hk).2,EB h hk];congr 1
   by_cases h4:f.kind=4
   ·rw[if_pos h4,if_pos h4]
    obtain⟨k,y,a,e,kids⟩:=f
    cases j with
    | zero=>
     rw[bL,aai,aag]at h;rw[h,hk]at h4
     cases h4
    | succ j=>rw[kr];rfl
   ·rw[if_neg h4,if_neg h4]
  ·rw[if_neg hj]
   rw[aal (by rw[dz];omega),dz]at h;rw[ib,ib,Fz hnm fs _ _ _ x hs.2 h hk]
theorem Fy(hnm:dJ nm=true):∀(ks:List aa) (j n:Nat) (g:bD) (x:aa),(aX ks).all dR=true->(∀k∈ks,k.kind≠20)->(aX ks)[j]? =some x->x.kind=20->iQ (eZ ks j (.node 20 nm a' e' [])) n g=iQ ks n g
 | [],j,n,g,x,_,_,h,_=>by cases h
 | k::ks,j,n,g,x,hs,hne,h,hk=>by
  rw[aX]at h;rw[aX,List.all_append,aad]at hs;rw[eZ];by_cases hj:j<ai k
  ·rw[if_pos hj]
   rw[List.getElem?_append_left (by rw[dz];exact hj)]at h;have hcnt:=(xU (a':=a') (e':=e') hnm k j x hs.1 h hk).2;have hkd:=EB (nm:=nm) (a':=a') (e':=e') h hk;rw[iQ,iQ,hcnt,hkd];have hk0:=hne k (by simp);obtain⟨kk,y,a,e,kids⟩:=k
   cases j with
   | zero=>
    rw[bL,aai,aag]at h;rw[h]at hk0;exact absurd hk hk0
   | succ j=>
    rw[bL,aaj]at h;rw[bL,List.all_cons,aad]at hs;rw[kr];show iQ ks _ ⟨_,ib (eZ kids j (.node 20 nm a' e' [])) (n+1) g.fields,_⟩=iQ ks _ ⟨_,ib kids (n+1) g.fields,_⟩;rw[Fz hnm kids j _ _ x hs.1.2 h hk];rfl
  ·rw[if_neg hj]
   rw[aal (by rw[dz];omega),dz]at h;rw[iQ,iQ,Fy hnm ks _ _ _ x hs.2 (fun q hq=>hne q (by simp[hq])) h hk]
end
theorem VM{t:aa}(hv:j6 t=true)(hc:(cK t).aR=[]){m:Nat}{y:aa}(hy:(bL t)[m]? =some y)(h20:y.kind=20){d:Int}(hd:d∈(bG (cK t).bH (m:Int)).getD []):
 ∃(j:Nat) (dc:Dc),d=(j:Int)/\(cK t).ds[j]? =some dc/\∀a' e':Int,j6 (kr t m (.node 20 dc.name a' e' []))=true/\ai (kr t m (.node 20 dc.name a' e' []))=ai t /\
  (cK (kr t m (.node 20 dc.name a' e' []))).aR=[]/\(cK (kr t m (.node 20 dc.name a' e' []))).uses=(cK t).uses.set m d:=by
 have hv0:=hv;obtain⟨h2,ht⟩:=zw hv;unfold j6 at hv;rw[aad]at hv;have hall:gU t=true:=hv.2;have hsh:=jK hall;have hyN:dR y=true:=List.all_eq_true.1 (show(bL t).all dR=true from hall) y (aan hy);have hy0:=EN hyN h20;obtain⟨k,x,a,e,ks⟩:=t;have hk:k=2:=h2;subst hk;have hst:=yN x a e ks;obtain⟨r0,hr0⟩:∃r0:RS,(⟨[],List.replicate (ai (.node 2 x a e ks)) (-1),[],[],1,0⟩:RS)=r0:=⟨_,rfl⟩
 have hr1:r0.next=1:=by rw[<- hr0]
 have hrd:r0.ds=[]:=by rw[<- hr0]
 have hrp:r0.aR=[]:=by rw[<- hr0]
 rw[hr0]at hst;obtain⟨R,hR⟩:∃R,af (zF ks) false ks 0 ks.length [] r0=R:=⟨_,rfl⟩
 rw[hR]at hst
 have hres:cK (.node 2 x a e ks)= { R.1 with uses:=R.1.uses.map (nN R.1.ds),bH:=R.1.bH.map fun x=>(x.1,x.2.map (nN R.1.ds)) }:=by
  unfold cK;rw[hst]
 have Pb:oV r0 R.1:=by rw[<- hR];exact bS _ _ _ _ _ _ _
 have hcl:eD r0 R.1:=by
  rw[hres]at hc;have hc':R.1.aR=[]:=hc;unfold eD;rw[hc',hrp]
 have hm:1<=m:=by
  refine Nat.pos_of_ne_zero fun h0=>?_
  rw[h0,kC,aai,aag]at hy;rw[<- hy]at h20;have:(2:Int)=20:=h20;omega
 have hyj:(aX ks)[m - r0.next]? =some y:=by
  rw[kC]at hy;obtain⟨j,hj⟩:∃j,m=j+1:=⟨m - 1,by omega⟩
  rw[hj,aaj]at hy;rw[<- hy,hj,hr1];rfl
 have Am:=hcl;rw[<- hR]at Am;obtain⟨x',s',r',hx,hin,hn,k1,k2,hsc⟩:=Xk (zF ks) ks (fun c hc=>⟨hsh c hc,ht c hc⟩) r0 Am m y (by omega) hyj (by omega);simp only[aag]at hx;subst hx;rw[hR]at k2;obtain⟨hnd,-⟩:=VS Pb hrd;have hrv:=j5 (zF ks) y true s' r';have DZ:=hsc.mono (hrv.trans k2)
 have EY:bG R.1.bH (m:Int)=some (ah (aj s')):=by
  have h2:=uq (zF ks) y true s' r' hin;have h3:=su y;rw[k2.bH m (.inl (by omega)),<- hn,NS]
 rw[hres]at hd;have hd':d∈(bG (R.1.bH.map fun x=>(x.1,x.2.map (nN R.1.ds))) (m:Int)).getD []:=hd;rw[JY (fun l:List Int=>l.map (nN R.1.ds)),EY]at hd';obtain⟨u,hu,rfl⟩:=List.mem_map.1 (show d∈(ah (aj s')).map (nN R.1.ds) from hd');have hu0:=hu;unfold ah at hu;rw[(List.mergeSort_perm _ _).mem_iff,M5]at hu;obtain⟨z,hz,rfl⟩:=List.mem_map.1 hu;obtain⟨dc,Pt,hd1,hd2⟩:=DZ.decl z hz;obtain⟨j,hj⟩:=List.mem_iff_getElem?.1 Pt;have hix:nN R.1.ds z.2=(j:Int):=by rw[<- hd1];exact Hz hnd hj
 have hH:Bc R.1 m z.2 dc.name:=⟨⟨_,EY,hu0⟩,fun d2 hd2 he=>by
  obtain⟨i,hi⟩:=List.mem_iff_getElem?.1 hd2;have h1:=Hz hnd hi;have h2:=Hz hnd hj;rw[he,<- hd1]at h1;have:i=j:=by rw[h1]at h2;omega
  subst this;rw[hi]at hj;cases hj
  rfl⟩
 have hnmOk:sw R.1:=by
  rw[<- hR];refine l6 (zF ks) ks false 0 ks.length [] r0 ?_ (fun d hd=>by rw[hrd]at hd;cases hd);have h5:(bL (.node 2 x a e ks)).all dR=true:=hall;rw[bL,List.all_cons,aad]at h5;exact h5.2
 have hnm:=hnmOk dc Pt;refine⟨j,dc,hix,by rw[hres];exact hj,fun a' e'=>?_⟩;have Wu:=xU (a':=a') (e':=e') hnm (.node 2 x a e ks) m y hall hy h20;obtain⟨i,hi⟩:∃i,m=i+1:=⟨m - 1,by omega⟩
 have hset:kr (.node 2 x a e ks) m (.node 20 dc.name a' e' [])= .node 2 x a e (eZ ks (m - r0.next) (.node 20 dc.name a' e' [])):=by
  rw[hr1,hi,kr];rfl
 rw[<- hR]at hH;have UE:=RA (zF ks) a' e' ks (fun c hc=>⟨hsh c hc,ht c hc⟩) r0 Am m y (by omega) hyj h20 hy0 hH;rw[hR]at UE
 have hsL:(aX ks).all dR=true:=by
  have h5:(bL (.node 2 x a e ks)).all dR=true:=hall;rw[bL,List.all_cons,aad]at h5;exact h5.2
 have hkne:∀q∈ks,q.kind≠20:=fun q hq h=>by
  have:=ht q hq;obtain⟨kq,xq,aq,eq,kidsq⟩:=q;have Pn:kq=20:=h;subst Pn;rw[vE,Bool.or_eq_true,aad,aad,aad,decide_eq_true_eq,decide_eq_true_eq,decide_eq_true_eq]at this;rcases this with⟨h,-⟩| ⟨⟨h,-⟩,-⟩
  ·exact absurd h (by decide)
  ·exact absurd h (by decide)
 have hG:zF (eZ ks (m - r0.next) (.node 20 dc.name a' e' []))=zF ks:=Fy hnm ks _ _ _ y hsL hkne hyj h20;rw[hset]at Wu⊢;refine⟨?_,Wu.2,?_⟩
 ·unfold j6
  rw[aad];exact⟨by rfl,Wu.1⟩
 have hst2:=yN x a e (eZ ks (m - r0.next) (.node 20 dc.name a' e' []));rw[hG,tH,Wu.2,hr0,UE]at hst2
 have hres2:cK (.node 2 x a e (eZ ks (m - r0.next) (.node 20 dc.name a' e' [])))= { kT R.1 m z.2 with uses:=(kT R.1 m z.2).uses.map (nN (kT R.1 m z.2).ds),bH:=(kT R.1 m z.2).bH.map fun x=>(x.1,x.2.map (nN (kT R.1 m z.2).ds)) }:=by
  unfold cK;rw[Wu.2,hst2]
 rw[hres2,hres];refine⟨?_,?_⟩
 ·rw[hres]at hc
  exact hc
 ·show(R.1.uses.set m z.2).map (nN R.1.ds)=(R.1.uses.map (nN R.1.ds)).set m (nN R.1.ds z.2)
  rw[List.map_set]
end Go.Proofs.YtoepemlnlpamlaaGreat
