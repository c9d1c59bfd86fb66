/- The law NamesBack holds for every text and every number: it returns true, and its arguments read as before. No condition. Part 24: NamW Nam1 Nam2 Nam3. -/
import Derived.Deep.QuietTactic
import Derived.Test.YtoepemlnlpamlaaGreatBakk01
import Derived.Test.YtoepemlnlpamlaaGreatBakk06
import Derived.Test.YtoepemlnlpamlaaGreatBakk17
import Derived.Test.YtoepemlnlpamlaaGreatBakk18
import Derived.Test.YtoepemlnlpamlaaGreatBakk23
set_option maxRecDepth 100000
set_option maxHeartbeats 4000000
namespace Go.Proofs.YtoepemlnlpamlaaGreat
open Go.RowKit
section
variable {K:Type} [DecidableEq K] {V:Type}
theorem Pb(f:V->Value)(k:K):∀(l:List (K×V)) (i:Nat),(l5 k (l.map fun x=>(x.1,f x.2)) i).map (·.2)=(bJ l k).map f
 | [],_=>rfl
 | x::l,i=>by
  simp only[List.map_cons,l5,bJ];by_cases h:k=x.1
  ·rw[if_pos h,if_pos h];rfl
  ·rw[if_neg h,if_neg h];exact Pb f k l (i+1)
theorem EE(f:V->Value)(l:List (K×V))(k:K):ng (l.map fun x=>(x.1,f x.2)) k=(bJ l k).map f:=Pb f k l 0
theorem Es(x:K×Value)(m:List (K×Value))(k:K)(v:Value)(h:k≠x.1):o5 (x::m) k v=x::o5 m k v:=by
 unfold o5
 have h1:l5 k (x::m) 0=(l5 k m 0).map fun y=>(1+y.1,y.2):=by
  show(if k=x.1 then _ else l5 k m (0+1))=_;rw[if_neg h,Nat.zero_add];exact CJ k m 1 0
 rw[h1]
 cases hp:l5 k m 0 with
 | none=>rfl
 | some y=>simp[Nat.add_comm 1]
theorem OD(x:K×Value)(m:List (K×Value))(k:K)(v:Value)(h:k=x.1):o5 (x::m) k v=(k,v)::m:=by
 unfold o5
 have h1:l5 k (x::m) 0=some (0,x.2):=by
  show(if k=x.1 then _ else _)=_;rw[if_pos h]
 rw[h1];rfl
theorem Hu(f:V->Value)(k:K)(v:V):∀(l:List (K×V)),o5 (l.map fun x=>(x.1,f x.2)) k (f v)=(cO l k v).map fun x=>(x.1,f x.2)
 | []=>rfl
 | x::l=>by
  simp only[List.map_cons,cO];by_cases h:k=x.1
  ·rw[if_pos h,OD _ _ _ _ h];rfl
  ·rw[if_neg h,Es _ _ _ _ h,Hu f k v l];rfl
end
theorem aL.set1{w:World}{base:Nat}{e:TypeId}{g off c n:Nat}{xs:List Value}(h:aL w base e 1 (.slice (some ⟨g,off,none⟩) n c) n xs)(i:Nat)(hi:i<n)(u:Value):
 aL (w.setCell ⟨g,off+i,none⟩ u) base e 1 (.slice (some ⟨g,off,none⟩) n c) n (xs.set i u):=by
 refine⟨by simpa using h.1,?_⟩;rcases h.2 with⟨h1,_⟩| ⟨g1,EB,Jd,BC,hv,hb,hg,hn,hm,hs,ht⟩
 ·cases h1
 ·simp only[Value.slice.injEq,aaI,Addr.mk.injEq]at hv
  obtain⟨⟨rfl,rfl,_⟩,_,rfl⟩:=hv;refine .inr ⟨g,off,c,BC.setIfInBounds (off+i) u,rfl,hb,by simp[World.setCell,Array.getElem?_modify,hg],hn,hm,by simpa using hs,?_⟩;rw[<- ht,Array.toList_setIfInBounds];apply List.ext_getElem?
  intro j;simp only[List.getElem?_take,List.getElem?_drop,List.getElem?_set,List.length_take,List.length_drop];by_cases hj:j<n*1
  ·rw[if_pos hj,if_pos hj]
   by_cases hij:i=j
   ·subst hij
    have:off+i<BC.size:=by omega
    simp[this];omega
   ·simp[hij]
  ·rw[if_neg hj,if_neg hj]
   have:i≠j:=by omega
   simp[this]
theorem aZ.qP{K:Type}[DecidableEq K]{KK:om K}{w:World}{r g:Nat}{m:List (K×Value)}{t:TypeId}{cs:Array Value}(h:aZ KK w r m)(hb:ai w g t cs):r≠g:=by
 rintro rfl;obtain⟨es,clock,h1,_⟩:=h;have:w.heap[r]? =some (.cells cs t (0,0)):=hb;rw[h1]at this;cases this
theorem aL.obj{w:World}{base:Nat}{e:TypeId}{size:Nat}{v:Value}{n:Nat}{xs:List Value}(h:aL w base e size v n xs):∀g,v.ownBlock=some g->∃cur,w.heap[g]? =some (.cells cur e (0,0)):=by
 intro g hv;rcases h.2 with⟨rfl,_⟩| ⟨g1,EB,Jd,BC,rfl,_,hg1,_⟩
 ·cases hv
 ·simp[Value.ownBlock]at hv
  subst hv;exact⟨BC,hg1⟩
theorem aZ.jf{K:Type}[DecidableEq K]{KK:om K}{w:World}{r:Nat}{m:List (K×Value)}{base:Nat}{e:TypeId}{size:Nat}{v:Value}{n:Nat}{xs:List Value}(h:aZ KK w r m)(ho:aL w base e size v n xs):v.ownBlock≠some r:=by
 intro hv;obtain⟨cur,hg⟩:=ho.obj r hv;obtain⟨es,clock,h1,_⟩:=h;rw[h1]at hg;cases hg
def uH(l:List (Int×Int)):List (Int×Value):=l.map fun x=>(x.1,.int .i64 x.2)
def jF(l:jr):List (ByteArray×Value):=l.map fun x=>(x.1,.int .i64 x.2)
def kz(d:Dc):List Value:=[.int .i64 d.kind,.string d.name,.int .i64 d.node,.int .i64 d.owner]
def iq(p:Int×Dg):List Value:=[.int .i64 p.1,.int .i64 p.2.code,.int .i64 p.2.at_,.int .i64 p.2.end_,.string p.2.text,.slice none 0 0]
structure RC where
 base:Nat
 rp:Nat
 g:Nat
 f:Nat
 k:Nat
 vi:Nat
 uA:Option Addr
 uc:Nat
structure RV where
 dA:Option Addr
 dc:Nat
 pA:Option Addr
 pc:Nat
 vals:List (Int×Value)
def eX(w:World)(base:Nat)(ub:Option Nat):List (Int×List Int)->List (Int×Value)->Prop
 | [],vals=>vals=[]
 | x::l,vals=> ∃v vs,vals=(x.1,v)::vs/\aL w base 3 1 v x.2.length (iE x.2)/\(∀g,v.ownBlock=some g->ub≠some g/\∀y∈vs,y.2.ownBlock≠some g)/\eX w base ub l vs
theorem eX.of_block{w w':World}{base:Nat}{ub:Option Nat}:∀{l:List (Int×List Int)}{vals:List (Int×Value)},eX w base ub l vals ->
 (∀g cur,w.heap[g]? =some (.cells cur 3 (0,0))->ub≠some g->w'.heap[g]? =w.heap[g]?)->eX w' base ub l vals
 | [],_,h,_=>h
 | _::_,_,⟨v,vs,h1,h2,h3,h4⟩,hk=>⟨v,vs,h1,h2.of_block fun g hg=>by obtain⟨cur,ho⟩:=h2.obj g hg;exact hk g cur ho (h3 g hg).1,h3,eX.of_block h4 hk⟩
structure aS (E:RC) (G:aW) (r:RS) (V:RV) (w:World):Prop where
 blk:ai w E.rp 75 #[.map (some E.g),.map (some E.f),.map (some E.k),.slice V.dA r.ds.length V.dc,.slice E.uA r.uses.length E.uc,.map (some E.vi),.slice V.pA r.aO.length V.pc,.int .i64 (r.next:Int),.int .i64 r.owner]
 gl:aZ jg w E.g (jF G.globals)
 fl:aZ jg w E.f (jF G.fields)
 kn:aZ kF w E.k (uH G.kinds)
 vi:aZ kF w E.vi V.vals
 bQ:eX w E.base (Value.slice E.uA r.uses.length E.uc).ownBlock r.bQ V.vals
 ds:aL w E.base 49 4 (.slice V.dA r.ds.length V.dc) r.ds.length (r.ds.flatMap kz)
 us:aL w E.base 3 1 (.slice E.uA r.uses.length E.uc) r.uses.length (iE r.uses)
 ps:aL w E.base 80 6 (.slice V.pA r.aO.length V.pc) r.aO.length (r.aO.flatMap iq)
 low:E.base<=E.rp/\E.base<=E.vi
 apart:E.vi≠E.g/\E.vi≠E.f/\E.vi≠E.k
def Tp(E:RC)(M:Nat->Prop)(w:World)(g:Nat):Prop:=
 E.base<=g/\((∃cs t fr,w.heap[g]? =some (.cells cs t fr)/\(t=75\/t=80\/t=49\/E.uA.map (·.block)=some g))\/((∃es ck,w.heap[g]? =some (.map es ck))/\M g))
def KX(E:RC)(M:Nat->Prop)(w w':World):Prop:=az (Tp E M w) w w'
section
variable {E:RC}{M M':Nat->Prop}{w w1 w':World}
theorem KX.refl(E:RC)(M:Nat->Prop)(w:World):KX E M w w:=az.refl _ _
theorem KX.trans(h:KX E M w w1)(k:KX E M' w1 w')(hM:∀g,M' g->M g\/w.heap.size<=g):KX E M w w':=by
 refine h.step k fun g hg=>?_
 by_cases hlt:g<w.heap.size
 ·left
  by_cases hT:Tp E M w g
  ·exact hT
  ·have he:=h.block g hlt hT
   obtain⟨h1,h2⟩:=hg;rw[he]at h2;refine⟨h1,h2.imp id fun⟨h3,h4⟩=>⟨h3,?_⟩⟩;rcases hM g h4 with h5|h5
   ·exact h5
   ·omega
 ·right
  omega
theorem KX.mono(h:KX E M w w')(hM:∀g,M g->M' g):KX E M' w w':=az.mono h fun _ ⟨h1,h2⟩=>⟨h1,h2.imp id fun⟨h3,h4⟩=>⟨h3,hM _ h4⟩⟩
theorem KX.of_below(hb:Below w.heap.size w w'):KX E M w w':=(az.refl _ _).below hb
theorem KX.low(h:KX E M w w')(hB:E.base<=w.heap.size):Below E.base w w':=az.toBelow h hB fun _ hk=>hk.1
theorem KX.blk(h:KX E M w w'){g:Nat}{t:TypeId}{cs:Array Value}(hb:ai w g t cs)(h1:t≠75)(h2:t≠80)(h3:t≠49)(h4:E.uA.map (·.block)≠some g):ai w' g t cs:=by
 refine ai.since hb h fun⟨_,h5⟩=>?_
 have hb':w.heap[g]? =some (.cells cs t (0,0)):=hb;rcases h5 with⟨cs',t',fr',h6,h7⟩| ⟨⟨es,ck,h6⟩,_⟩
 ·rw[hb']at h6
  simp at h6;obtain⟨_,rfl,_⟩:=h6;rcases h7 with h7|h7|h7|h7
  ·exact h1 h7
  ·exact h2 h7
  ·exact h3 h7
  ·exact h4 h7
 ·rw[hb']at h6
  cases h6
theorem KX.QU{K:Type}[DecidableEq K]{KK:om K}{r:Nat}{m:List (K×Value)}(h:KX E M w w')(ha:aZ KK w r m)(hM:¬M r):aZ KK w' r m:=by
 refine aZ.since ha h fun⟨_,h5⟩=>?_
 obtain⟨es',ck',h8,_⟩:=ha;rcases h5 with⟨cs',t',fr',h6,h7⟩| ⟨_,h6⟩
 ·rw[h8]at h6
  cases h6
 ·exact hM h6
end
def bK(w:World)(base:Nat):Option Addr->aK->List Nat->Prop
 | p,[],ms=>p=none/\ms=[]
 | p,x::s,ms=> ∃b m p' ms',p=some ⟨b,0,none⟩/\ms=m::ms'/\base<=b/\base<=m/\ai w b 95 #[.pointer p',.map (some m)]/\aZ jg w m (jF x)/\bK w base p' s ms'
theorem bK.kx{E:RC}{M:Nat->Prop}{w w':World}(h:KX E M w w')(hu:∀g cs,E.uA.map (·.block)=some g->w.heap[g]?≠some (.cells cs 95 (0,0))):∀{s:aK}{p:Option Addr}{ms:List Nat},bK w E.base p s ms->(∀m∈ms,¬M m)->bK w' E.base p s ms
 | [],_,_,hs,_=>hs
 | _::_,_,_,⟨b,m,p',ms',h1,h2,h3,h4,h5,h6,h7⟩,hM=>by
  subst h2;exact⟨b,m,p',ms',h1,rfl,h3,h4,h.blk h5 (by decide) (by decide) (by decide) (fun hg=>hu b _ hg h5),h.QU h6 (hM m (by simp)),bK.kx h hu h7 fun x hx=>hM x (by simp[hx])⟩
theorem Ho(w:World):(zeroValue 3).run Tryz.prog w= .ok (.int .i64 0) w:=by go_simp
theorem pg(w:World)(r:Nat)(l:jr)(h:aZ jg w r (jF l))(x:ByteArray):
 (Instr.lookup 70 (.map (some r)) (.string x) true).run Tryz.prog w= .ok (.tuple #[.int .i64 ((bJ l x).getD 0),.bool (bJ l x).isSome]) w:=by
 have:=Ay (P:=Tryz.prog) (KK:=jg) (t:=70) (kt:=9) (et:=3) Tryz.underlying70 Tryz.underlying9 Ho h x;unfold jF at this;rw[EE]at this
 cases hl:bJ l x with
 | none=>rw[hl]at this;exact this
 | some k=>rw[hl]at this;exact this
theorem EJ(p:Option Addr)(w:World):
 Calls Tryz.prog 48 #[.pointer p] w fun e w'=> ∃b m,e= .returned (.pointer (some ⟨b,0,none⟩))/\w.heap.size<=b/\w.heap.size<=m/\ai w' b 95 #[.pointer p,.map (some m)]/\aZ jg w' m []/\Below w.heap.size w w':=by
 have hmm:=@run_makeMap Tryz.prog;go_enter Tryz.func48,Tryz.ntmps48
 go_wp2_with fail
 go_ret
 refine⟨w.heap.size+1,w.heap.size,rfl,by omega,aaD _,?_,(aZ.made w).alloc _,(af _ _).trans ((af _ _).mono (by simp))⟩;have:=ai.new (w.alloc (.map #[] 0)) 95 #[.pointer p,.map (some w.heap.size)];simpa using this
theorem Jc(base:Nat)(x:ByteArray)(w:World):∀(s:aK) (p:Option Addr) (ms:List Nat),bK w base p s ms ->
 Calls Tryz.prog 45 #[.pointer p,.string x] w fun e w'=>e= .returned (.tuple #[.int .i64 ((bV s x).getD 0),.bool (bV s x).isSome])/\w'=w:=by
 intro s
 induction s with
 | nil=>
  rintro p ms ⟨rfl,-⟩;go_enter Tryz.func45,Tryz.ntmps45
  go_wp2_with fail
  go_ret2
  exact⟨rfl,rfl⟩
 | cons l s ih=>
  rintro p ms ⟨b,m,p',ms',rfl,rfl,h1,h2,hb,hm,hs⟩;have hih:=ih p' ms' hs;have hlk:=pg w m l hm x;have c0:=hb.cell 0;have c1:=hb.cell 1;have hlt:=hb.lt;clear ih hb hm hs
  cases hl:bJ l x with
  | none=>
   rw[hl]at hlk;simp only[Option.getD_none,Option.isSome_none]at hlk
   have hf:bV (l::s) x=bV s x:=by
    show(match aN l x with|some k=>some k|none=>bV s x)=_;rw[show aN l x=none from hl]
   rw[hf];generalize bV s x=fx at hih⊢
   clear hf hl;have eH:=kH hih;clear hih;go_enter Tryz.func45,Tryz.ntmps45
   go_wp2_with fail
   refine eH.out.mono ?_;rintro e w' ⟨rfl,rfl⟩;go_wp2_with fail
   go_ret2
   exact⟨rfl,rfl⟩
  | some k=>
   rw[hl]at hlk;simp only[Option.getD_some,Option.isSome_some]at hlk
   have hf:bV (l::s) x=some k:=by
    show(match aN l x with|some k=>some k|none=>bV s x)=_;rw[show aN l x=some k from hl]
   rw[hf];clear hf hl hih;go_enter Tryz.func45,Tryz.ntmps45
   go_wp2_with fail
   go_ret2
   exact⟨rfl,rfl⟩
theorem IQ:(Tryz.prog.info? 3).map (fun i=>(i.zero,i.size,i.bytes))=some (some (.int .i64 0),1,8):=by kernel_rfl
def unInt:Value->Int
 | .int _ z=>z
 | _=>0
theorem Za{a b:List Int}(h:(iE a).Perm (iE b)):a.Perm b:=by
 have:=h.map unInt;simpa [iE,List.map_map,Function.comp_def,unInt] using this
theorem ME{a b:List Int}(h:a.Perm b):(a.mergeSort fun x y=>decide (x<=y))=aj b:=by
 unfold aj;have ht:∀x y z:Int,(decide (x<=y))=true->(decide (y<=z))=true->(decide (x<=z))=true:=by intro x y z h1 h2;simp at*;omega
 have SK:∀x y:Int,(decide (x<=y) || decide (y<=x))=true:=by intro x y;simp;omega
 refine List.Perm.eq_of_pairwise (le:=fun x y=>x<=y) ?_ ?_ ?_ ?_
 ·intro x y _ _ h1 h2;omega
 ·exact(List.pairwise_mergeSort ht SK a).imp (by simp)
 ·exact(List.pairwise_mergeSort ht SK b).imp (by simp)
 ·exact(List.mergeSort_perm a _).trans (h.trans (List.mergeSort_perm b _).symm)
theorem bK.below{w w':World}{base:Nat}(hb:Below w.heap.size w w'):∀{s:aK}{p:Option Addr}{ms:List Nat},bK w base p s ms->bK w' base p s ms
 | [],_,_,hs=>hs
 | _::_,_,_,⟨b,m,p',ms',h1,h2,h3,h4,h5,h6,h7⟩=>⟨b,m,p',ms',h1,h2,h3,h4,h5.below hb h5.lt,h6.below hb h6.lt,bK.below hb h7⟩
theorem mD.jf{K:Type}[DecidableEq K]{KK:om K}{w:World}{r b:Nat}{m:List (K×Value)}{left:List (Value×Value)}{base:Nat}{e:TypeId}{size:Nat}{v:Value}{n:Nat}{xs:List Value}(h:mD KK w r b m left)(ho:aL w base e size v n xs):v.ownBlock≠some b:=by
 intro hv;obtain⟨cur,hg⟩:=ho.obj b hv;obtain⟨es,clock,seen,c0,h1,h2,h3,h4,h5,_⟩:=h;rw[h5]at hg;cases hg
theorem mD.grown{K:Type}[DecidableEq K]{KK:om K}{w w':World}{r b:Nat}{m:List (K×Value)}{left:List (Value×Value)}(h:mD KK w r b m left){row:Option Nat}(hg:w.grownBy w' row)(h1:row≠some r)(h2:row≠some b):mD KK w' r b m left:=by
 have hr:=h.nY.lt
 have hb:b<w.heap.size:=by
  obtain⟨es,clock,seen,c0,_,_,_,_,h5,_⟩:=h;exact(aaG.1 h5).1
 exact h.keep (hg.block r hr (Ne.symm h1)) (hg.block b hb (Ne.symm h2))
theorem mD.alloc{K:Type}[DecidableEq K]{KK:om K}{w:World}{r b:Nat}{m:List (K×Value)}{left:List (Value×Value)}(h:mD KK w r b m left)(o:Obj):mD KK (w.alloc o) r b m left:=
 h.grown (World.grownBy_alloc w o none) (by simp) (by simp)
theorem Tq(base:Nat)(s:aK)(p:Option Addr)(ms:List Nat)(w:World)(hs:bK w base p s ms)(hn:(ak s).length<=1000000):
 Calls Tryz.prog 145 #[.pointer p] w fun e w'=> ∃v,e= .returned v/\aL w' w.heap.size 3 1 v (ak s).length (iE (aj (ak s)))/\Below w.heap.size w w':=by
 obtain⟨i0,hi0,hz0,hz1,hz2⟩:=info_parts IQ;have HN:=kH hn;have HS:=kH hs;clear hn hs;go_enter Tryz.func145,Tryz.ntmps145
 go_wp2_with fail
 go_loopg [3,4] s.length (fun gk s3 s4 wr=> ∃(s1 s2:aK) (p2:Option Addr) (vY:List Nat) (A:Option Addr) (n c:Nat) (zs:List Int),gk=s2.length/\s=s1++s2/\s4= .pointer p2/\s3= .slice A n c/\Hid (bK w base p2 s2 vY)/\Hid (aL wr w.heap.size 3 1 (.slice A n c) n (iE zs))/\Hid (zs.Perm (ak s1))/\Hid (Below w.heap.size w wr))
 case atStart=>exact⟨[],s,p,ms,none,0,0,[],rfl,rfl,rfl,rfl,HS,kH (aL.nil _ _ _ _),kH List.Perm.nil,kH (Below.refl _ _)⟩
 case round=>
  obtain⟨s1,s2,p2,vY,A,n,c,zs,Qc,hss,rfl,rfl,HS2,HO,HP,HB⟩:=hrel
  cases s2 with
  | nil=>
   obtain⟨rfl,rfl⟩:=HS2.out;have hse:s=s1:=by simpa using hss
   have hnz:zs.length=n:=by simpa using HO.out.1
   have hnl:n=(ak s).length:=by rw[<- hnz,hse];exact HP.out.length_eq
   have HNL:=kH hnl;have hcall:=aae (.slice A n c) w.heap.size n zs wr HO.out (by have:=HN.out;omega);have HC:=kH hcall;have HSE:=kH hse;clear hcall hnl hnz hse hss;go_wp2_with fail
   refine HC.out.mono ?_;rintro e w5 ⟨rfl,jR,hg5⟩;have hb5:Below w.heap.size w w5:=HB.out.trans (((az.refl (fun g=>w.heap.size<=g) wr).grown hg5 (fun g hg=>.inl (HO.out.lt g hg).1)).toBelow HB.out.size (fun g hg=>hg));rw[ME HP.out,<- HSE.out]at jR;have Q8:=kH jR;have iQ:=kH hb5;clear jR hb5 hg5;go_wp2_with fail
   go_ret
   exact⟨_,rfl,by have:=Q8.out;rw[HNL.out]at this⊢;exact this,iQ.out⟩
  | cons l s2=>
   obtain⟨b,m,p',ms',rfl,rfl,h1,h2,hb0,hm0,hs3⟩:=HS2.out;have hB:=HB.out;have hb:=hb0.below hB hb0.lt;have hm:=hm0.below hB hm0.lt;have c0:=hb.cell 0;have c1:=hb.cell 1;have hlt:=hb.lt;obtain⟨w1,hr1,hit,hb1,hsz1⟩:=zI (P:=Tryz.prog) (t:=70) (kt:=9) (et:=3) Tryz.underlying70 hm;have hbw:=hb0.lt;have hmw:=hm0.lt;have HIT:=kH hit;have uM:=HO.out.below hb1 (fun g hg=>(HO.out.lt g hg).2);have Lf:=kH uM;have HB1:=kH (hB.trans (hb1.mono hB.size));have yE:=kH hb0;have iF:=kH hs3;have su:Hid (w.heap.size<=wr.heap.size):=kH hB.size
   have HTOT:Hid (n+l.length<=1000000):=kH (by
    have h5:=HN.out;rw[hss]at h5;unfold ak at h5;simp only[List.flatMap_append,List.flatMap_cons,aaO,List.length_map]at h5;have h6:=HP.out.length_eq;unfold ak at h6;have h7:zs.length=n:=by simpa using HO.out.1
    omega)
   clear hit hb1 hB hb hs3 hm HS2 uM hb0 hm0;go_wp2_with fail
   obtain⟨wo,hwo⟩:∃wo:World,wo=wr:=⟨_,rfl⟩
   subst hwo;obtain⟨go,hgo⟩:∃go:Nat,go=gk:=⟨_,rfl⟩
   subst hgo;obtain⟨it,yJ⟩:∃it,wo.heap.size=it:=⟨_,rfl⟩
   rw[yJ]at HIT su⊢;go_loopg [3] l.length (fun gk s3 wr=> ∃(A':Option Addr) (n' c':Nat) (zs':List Int) (left:List (Value×Value)),gk=left.length/\s3= .slice A' n' c'/\Hid (mD jg wr m it (jF l) left)/\Hid (aL wr w.heap.size 3 1 (.slice A' n' c') n' (iE zs'))/\Hid ((iE zs'++left.map (·.2)).Perm (iE zs++(jF l).map (·.2)))/\Hid (Below w.heap.size w wr))
   case atStart=>exact⟨A,n,c,zs,_,by simp[jF],rfl,HIT,Lf,kH (by simp[jF,List.map_map,Function.comp_def]),HB1⟩
   case round=>
    obtain⟨A',n',c',zs',left,hgk',rfl,HI,HO',HP',HB'⟩:=hrel;rcases Bl (P:=Tryz.prog) 0 HI.out (by have:=su.out;omega) with⟨hl0,hnx⟩| ⟨kv,vv,left',w2,hperm,hmem,hnx,hit2,EN,hsz2,hent⟩
    ·subst hl0
     have hbr:=yE.out.below HB'.out yE.out.lt;have c0:=hbr.cell 0;have hltr:=hbr.lt
     have yC:Hid (zs'.Perm (ak (s1++[l]))):=kH (by
      have h5:=HP'.out;simp only[List.map_nil,List.append_nil]at h5;have h6:(jF l).map (·.2)=iE (l.map (·.2)):=by simp[jF,List.map_map,Function.comp_def]
      rw[h6]at h5;have h7:=Za (b:=zs++l.map (·.2)) (by simpa [iE] using h5);unfold ak;simp only[List.flatMap_append,List.flatMap_cons,List.flatMap_nil,List.append_nil]
      exact h7.trans (HP.out.append_right _))
     clear hbr;go_wp2_with fail
     go_roundg (go - 1)
     case measure=>simp at Qc;omega
     case rel=>exact⟨s1++[l],s2,p',ms',A',n',c',zs',by simp at Qc;omega,by simp[hss],rfl,rfl,iF,HO',yC,HB'⟩
    ·obtain⟨y,hy⟩:∃y:Int,vv= .int .i64 y:=by
      simp only[jF,List.map_map,List.mem_map,Function.comp_def,Prod.mk.injEq]at hmem;obtain⟨q,_,_,h5⟩:=hmem;exact⟨q.2,h5.symm⟩
     subst hy;have hO2:=HO'.out.since EN (fun g hg h5=>HI.out.jf HO'.out (by rw[hg,h5]));have xm:=kH hO2;have aau:=kH hit2;have HB2:Hid (Below w.heap.size w w2):=kH (HB'.out.trans (EN.toBelow (by have:=HB'.out.size;omega) (fun g hg=>by have:=su.out;omega)));have Lc:=kH hperm
     have hn':n'<=1000000:=by
      have h5:=HP'.out.length_eq;have h6:zs'.length=n':=by simpa using HO'.out.1
      have h7:zs.length=n:=by simpa using HO.out.1
      have h8:=HTOT.out;simp[jF]at h5;omega
     clear hmem hperm hit2 EN hO2 hsz2;go_wp2_with (at_builtin;go_must (refine dm _ rfl (.tmp 23) (.tmp 25) _ rfl w.heap.size 3 i0 _ 1 8 Tryz.underlying28 hi0 hz0 hz1 hz2 rfl (.slice A' n' c') n' (iE zs') rfl (xm.out.alloc _) ⟨w2.heap.size,0,none⟩ 1 1 [.int .i64 y] rfl rfl (CQ _ _ _ (by go_simp)) (by simp[Value.oneCell']) (by simp only[maxLen];omega) (by omega) (by have:=HB2.out.size;simp;omega) ?_);intro vn w6 hown hgrow hat;obtain⟨A6,c6,kP,-,-⟩:=hown.shape;subst kP;have HOWN:=kH hown;have nW:=kH hgrow;clear hown hgrow hat)
     have hrow:=xm.out.lt;have hI6:mD jg w6 m it (jF l) left':=(aau.out.alloc _).grown nW.out (aau.out.nY.jf xm.out) (aau.out.jf xm.out);have yQ:Below w.heap.size w w6:=(HB2.out.trans ((af _ _).mono HB2.out.size)).trans (((az.refl (fun g=>w.heap.size<=g) _).grown nW.out (fun g hg=>.inl (hrow g hg).1)).toBelow (by have:=HB2.out.size;simp;omega) (fun g hg=>hg));go_roundg (gk - 1)
     case measure=>have:=Lc.out.length_eq;simp at this;omega
     case rel=>
      refine⟨A6,n'+1,c6,zs'++[y],left',by have:=Lc.out.length_eq;simp at this;omega,rfl,kH hI6,kH (by simpa [iE] using HOWN.out),kH ?_,kH yQ⟩;refine List.Perm.trans ?_ HP'.out;have h5:=Lc.out.map (·.2);simp only[List.map_cons]at h5;simp only[iE,List.map_append,List.map_cons,List.map_nil,List.append_assoc,List.singleton_append];exact h5.symm.append_left _
theorem WM:(Tryz.prog.info? 80).map (fun i=>(i.zero,i.size,i.bytes))=some (some (.agg #[.int .i64 0,.int .i64 0,.int .i64 0,.int .i64 0,.string ⟨#[]⟩,.slice none 0 0]),6,72):=by kernel_rfl
theorem aZ.G6{K:Type}[DecidableEq K]{KK:om K}{w w':World}{r:Nat}{m:List (K×Value)}(h:aZ KK w r m)(hb:Below w.heap.size w w'):aZ KK w' r m:=h.below hb h.lt
theorem aS.below{E:RC}{G:aW}{r:RS}{V:RV}{w w':World}(h:aS E G r V w)(hb:Below w.heap.size w w'):aS E G r V w' where
 blk:=h.blk.below hb h.blk.lt
 gl:=h.gl.G6 hb
 fl:=h.fl.G6 hb
 kn:=h.kn.G6 hb
 vi:=h.vi.G6 hb
 bQ:=eX.of_block h.bQ fun g _ hg _=>hb.block g (aaG.1 hg).1
 ds:=h.ds.below hb fun g hg=>(h.ds.lt g hg).2
 us:=h.us.below hb fun g hg=>(h.us.lt g hg).2
 ps:=h.ps.below hb fun g hg=>(h.ps.lt g hg).2
 low:=h.low
 apart:=h.apart
theorem aS.pushP{E:RC}{G:aW}{r:RS}{V:RV}{w w3:World}(h:aS E G r V w)(p:Int×Dg){A3:Option Addr}{c3:Nat}
 (ho:aL w3 E.base 80 6 (.slice A3 (r.aO.length+1) c3) (r.aO.length+1) (r.aO.flatMap iq++iq p)) (hg:w.grownBy w3 (Value.slice V.pA r.aO.length V.pc).ownBlock) (M:Nat->Prop):
 aS E G { r with aO:=r.aO++[p] } { V with pA:=A3,pc:=c3 } (w3.setCell ⟨E.rp,6,none⟩ (.slice A3 (r.aO.length+1) c3))/\KX E M w (w3.setCell ⟨E.rp,6,none⟩ (.slice A3 (r.aO.length+1) c3)):=by
 have hs:az (fun g=>g=E.rp\/(Value.slice V.pA r.aO.length V.pc).ownBlock=some g) w (w3.setCell ⟨E.rp,6,none⟩ (.slice A3 (r.aO.length+1) c3)):=
  ((az.refl _ w).grown hg (fun g hg=>.inl (.inr hg))).setCell (.inl (.inl rfl)) _
 have hpr:(Value.slice V.pA r.aO.length V.pc).ownBlock≠some E.rp:=h.ps.eu h.blk (by decide);have hb3:ai w3 E.rp 75 _:=h.blk.grown hg (Ne.symm hpr)
 have gQ:∀{K:Type} [DecidableEq K] {KK:om K}{q:Nat}{m:List (K×Value)},aZ KK w q m->aZ KK (w3.setCell ⟨E.rp,6,none⟩ (.slice A3 (r.aO.length+1) c3)) q m:=fun ha=>ha.since hs (fun h1=>by
  rcases h1 with h1|h1
  ·exact ha.qP h.blk h1
  ·exact ha.jf h.ps h1)
 have how:∀{e size v n xs},aL w E.base e size v n xs->e≠75->e≠80->aL (w3.setCell ⟨E.rp,6,none⟩ (.slice A3 (r.aO.length+1) c3)) E.base e size v n xs:=fun ha h1 h2=>ha.since hs (fun g hg h3=>by
  rcases h3 with h3|h3
  ·exact ha.eu h.blk h1 (by rw[hg,h3])
  ·exact ha.apart h.ps h2 g hg h3)
 refine⟨⟨?_,gQ h.gl,gQ h.fl,gQ h.kn,gQ h.vi,?_,how h.ds (by decide) (by decide),how h.us (by decide) (by decide),?_,h.low,h.apart⟩,?_⟩
 ·have:=hb3.fU 6 (.slice A3 (r.aO.length+1) c3)
  simpa using this
 ·refine eX.of_block h.bQ fun g cur hg _=>hs.block g (aaG.1 hg).1 fun h1=>?_
  rcases h1 with h1|h1
  ·subst h1
   have hb:w.heap[E.rp]? =some (.cells _ 75 (0,0)):=h.blk;rw[hb]at hg;simp at hg
  ·obtain⟨cur',hg'⟩:=h.ps.obj g h1
   rw[hg']at hg;simp at hg
 ·have CW:(Value.slice A3 (r.aO.length+1) c3).ownBlock≠some E.rp:=ho.eu hb3 (by decide)
  have:=ho.setCell (p:=⟨E.rp,6,none⟩) CW (.slice A3 (r.aO.length+1) c3);simpa using this
 ·refine az.mono hs fun g h1=>?_
  rcases h1 with rfl|h1
  ·exact⟨h.low.1,.inl ⟨_,_,_,h.blk,.inl rfl⟩⟩
  ·obtain⟨cur,hc⟩:=h.ps.obj g h1
   exact⟨(h.ps.lt g h1).1,.inl ⟨_,_,_,hc,.inr (.inl rfl)⟩⟩
theorem Y7(w:World)(g:Nat)(a b c d e f:Value)(h0:w.cell? ⟨g,0,none⟩=some a)(h1:w.cell? ⟨g,1,none⟩=some b)(h2:w.cell? ⟨g,2,none⟩=some c)(h3:w.cell? ⟨g,3,none⟩=some d)(h4:w.cell? ⟨g,4,none⟩=some e)(h5:w.cell? ⟨g,5,none⟩=some f):
 ∀j v,[a,b,c,d,e,f][j]? =some v->w.cell? ((⟨g,0,none⟩:Addr).add j)=some v:=by
 intro j v hj
 match j,hj with
 | 0,hj=>simp at hj;subst hj;exact h0
 | 1,hj=>simp at hj;subst hj;exact h1
 | 2,hj=>simp at hj;subst hj;exact h2
 | 3,hj=>simp at hj;subst hj;exact h3
 | 4,hj=>simp at hj;subst hj;exact h4
 | 5,hj=>simp at hj;subst hj;exact h5
 | j+6,hj=>simp at hj
theorem Sm(E:RC)(G:aW)(r:RS)(V:RV)(w:World)(h:aS E G r V w)(hN:r.aO.length<=1000000)(hbase:E.base<=w.heap.size)(code:Int)(n:Nat)(t:aa)(A:Option Addr)(c:Nat)(M:Nat->Prop):
 Calls Tryz.prog 201 #[.pointer (some ⟨E.rp,0,none⟩),.int .i64 code,.int .i64 (n:Int),aX t A c] w fun e w'=>e= .returned (.tuple #[])/\∃V',aS E G (oI r code n t) V' w'/\KX E M w w':=by
 obtain⟨i0,hi0,hz0,hz1,hz2⟩:=info_parts WM;have HP:Hid (oI r code n t= { r with aO:=r.aO++[((n:Int),⟨code,t.at_,t.end_,t.text⟩)] }):=kH rfl;unfold aX;obtain⟨q,hq⟩:∃q,oI r code n t=q:=⟨_,rfl⟩
 rw[hq]at HP⊢;obtain⟨k,hk0⟩:∃q,t.kind=q:=⟨_,rfl⟩
 obtain⟨x,hx0⟩:∃q,t.text=q:=⟨_,rfl⟩
 obtain⟨a,ha0⟩:∃q,t.at_=q:=⟨_,rfl⟩
 obtain⟨z,hz0'⟩:∃q,t.end_=q:=⟨_,rfl⟩
 obtain⟨m,hm0⟩:∃q,t.kids.length=q:=⟨_,rfl⟩
 rw[hk0,hx0,ha0,hz0',hm0];rw[hx0,ha0,hz0']at HP;obtain⟨np,vK⟩:∃q,r.aO.length=q:=⟨_,rfl⟩
 rw[vK]at hN;have H:=kH h;have tX:=kH vK;clear hq hk0 hx0 ha0 hz0' hm0 h vK;go_enter Tryz.func201,Tryz.ntmps201
 go_wp2_with fail
 generalize hW1:w.alloc (.cells #[.int .i64 k,.string x,.int .i64 a,.int .i64 z,.slice A m c] 24)=W1
 have hb1:Below w.heap.size w W1:=by rw[<- hW1];exact af _ _
 have hT1:ai W1 w.heap.size 24 #[.int .i64 k,.string x,.int .i64 a,.int .i64 z,.slice A m c]:=by rw[<- hW1];exact ai.new w _ _
 have h1:=H.out.below hb1;have c6:W1.cell? ⟨E.rp,6,none⟩=some (.slice V.pA np V.pc):=by have:=h1.blk.cell 6;rw[tX.out]at this;exact this
 have f6:=h1.blk.frozen 6;have hlr:=h1.blk.lt;have hx1:=hT1.cell 1;have hx2:=hT1.cell 2;have hx3:=hT1.cell 3;have hlt:=hT1.lt;have ho1:=h1.ps;rw[tX.out]at ho1;have Lf:=kH ho1;have H1:=kH h1;have HT1:=kH hT1;have HB1:=kH hb1;have hne:(Value.slice V.pA np V.pc).ownBlock≠some E.rp:=ho1.eu h1.blk (by decide);have hne2:(Value.slice V.pA np V.pc).ownBlock≠some w.heap.size:=ho1.eu hT1 (by decide);have jb:=kH hne;have BG:=kH hne2;have hbs:E.base<=W1.heap.size:=aaE hbase hb1.size;clear hW1 ho1 h1 hT1 hb1 hne hne2;refine fT (fun w'=>w'.cell? ⟨E.rp,6,none⟩=some (.slice V.pA np V.pc)/\w'.cell? ⟨w.heap.size,1,none⟩=some (.string x)/\w'.cell? ⟨w.heap.size,2,none⟩=some (.int .i64 a)/\w'.cell? ⟨w.heap.size,3,none⟩=some (.int .i64 z)) [19] [true,true,true,true,true,true,true,true,true,true,true,true,true,true,true,false,false,false,false,false] (by kernel_rfl) (by kernel_rfl) rfl (by kernel_rfl) ?_;have hS0:W1.drew.cell? ⟨E.rp,6,none⟩=some (.slice V.pA np V.pc)/\W1.drew.cell? ⟨w.heap.size,1,none⟩=some (.string x)/\W1.drew.cell? ⟨w.heap.size,2,none⟩=some (.int .i64 a)/\W1.drew.cell? ⟨w.heap.size,3,none⟩=some (.int .i64 z):=⟨c6,hx1,hx2,hx3⟩
 iterate 15(refine jI rfl hS0 (by intro w' hSw;obtain⟨hs1,hs2,hs3,hs4⟩:=hSw;go_simp;rfl) ?_;simp only[Act.put,sA,sZ,sC])
 refine kD (w':=W1.drew.alloc (.cells #[.int .i64 (n:Int),.int .i64 code,.int .i64 a,.int .i64 z,.string x,.slice none 0 0] 80)) rfl (by go_simp;rfl) ?_ ?_
 ·exact fun _=>⟨by go_simp,by go_simp,by go_simp,by go_simp⟩
 simp only[Act.put,sA,sZ,sC];refine uW rfl (jY _ (.tmp 12) (.tmp 23) _ rfl E.base 80 i0 _ 6 72 Tryz.underlying73 hi0 hz0 hz1 hz2 rfl (.slice V.pA np V.pc) np (r.aO.flatMap iq) rfl (Lf.out.drew.alloc _) ⟨W1.heap.size,0,none⟩ 1 1 (iq ((n:Int),⟨code,a,z,x⟩)) rfl rfl (Y7 _ _ _ _ _ _ _ _ (by go_simp) (by go_simp) (by go_simp) (by go_simp) (by go_simp) (by go_simp)) (by simp[iq,Value.oneCell']) (by simp only[maxLen];omega) (by omega) (by simp;omega) ?_);intro v3 w3 hown3 hgrow3 yK;obtain⟨A3,c3,hv3,-,-⟩:=hown3.shape;subst hv3;have hz3:=hgrow3.size;simp at hz3
 have q1:w3.cell? ⟨E.rp,6,none⟩=some (.slice V.pA np V.pc):=by
  rw[hgrow3.cell_far _ (by simp;omega) (fun e1=>jb.out e1.symm)];go_simp
 have q2:w3.cell? ⟨w.heap.size,1,none⟩=some (.string x):=by
  rw[hgrow3.cell_far _ (by simp;omega) (fun e1=>BG.out e1.symm)];go_simp
 have q3:w3.cell? ⟨w.heap.size,2,none⟩=some (.int .i64 a):=by
  rw[hgrow3.cell_far _ (by simp;omega) (fun e1=>BG.out e1.symm)];go_simp
 have q4:w3.cell? ⟨w.heap.size,3,none⟩=some (.int .i64 z):=by
  rw[hgrow3.cell_far _ (by simp;omega) (fun e1=>BG.out e1.symm)];go_simp
 have hB3:=ai.grown (ai.alloc (ai.drew H1.out.blk) (.cells #[.int .i64 (n:Int),.int .i64 code,.int .i64 a,.int .i64 z,.string x,.slice none 0 0] 80)) hgrow3 (fun e1=>jb.out e1.symm);have q5:=hB3.frozen 6
 have HR:Hid (∃V',aS E G q V' (w3.setCell ⟨E.rp,6,none⟩ (.slice A3 (np+1) c3))/\KX E M w (w3.setCell ⟨E.rp,6,none⟩ (.slice A3 (np+1) c3))):=kH (by
  have EY:Below W1.heap.size W1 (W1.drew.alloc (.cells #[.int .i64 (n:Int),.int .i64 code,.int .i64 a,.int .i64 z,.string x,.slice none 0 0] 80)):=((Below.refl _ _).drew).alloc (aaD _) _;have h2:=H1.out.below EY;have hp:=h2.pushP ((n:Int),⟨code,a,z,x⟩) (A3:=A3) (c3:=c3) (by rw[tX.out];exact hown3) (by rw[tX.out];exact hgrow3) M;rw[tX.out]at hp;rw[HP.out]
  exact⟨_,hp.1,(KX.of_below (HB1.out.trans (EY.mono HB1.out.size))).trans hp.2 (fun g hg=>.inl hg)⟩)
 clear hB3 hown3 hgrow3 yK;refine⟨fun _=>⟨q1,q2,q3,q4⟩,?_⟩;iterate 2(simp only[Act.put,sA,sZ,sC];refine kD (w':=w3) rfl (by go_simp;rfl) (fun _=>⟨q1,q2,q3,q4⟩) ?_)
 simp only[Act.put,sA,sZ,sC];refine kG (w':=w3.setCell ⟨E.rp,6,none⟩ (.slice A3 (np+1) c3)) rfl (by go_simp) (by simp) ?_;refine ll ?_;simp only[Act.put];go_wp2_with fail
 go_end0
 exact⟨rfl,HR.out⟩
end Go.Proofs.YtoepemlnlpamlaaGreat
