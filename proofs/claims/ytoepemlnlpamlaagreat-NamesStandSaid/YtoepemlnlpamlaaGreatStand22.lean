/- The law NamesStand holds: for every text and every number the law returns true, and its arguments read as before. No condition. Part 22: Nam9 Vis3 VisW VisA0. -/
import Derived.Test.YtoepemlnlpamlaaGreatStand21
set_option maxRecDepth 100000
set_option maxHeartbeats 4000000
namespace Go.Proofs.YtoepemlnlpamlaaGreat
open Go.RowKit
theorem bf.og{E:RC}{G:bD}{r:RS}{V:RV}{w:World}(h:bf E G r V w)(n:Nat)(M:Nat->Prop):
 bf E G { r with next:=n } V (w.setCell ⟨E.rp,7,none⟩ (.int .i64 (n:Int)))/\KX E M w (w.setCell ⟨E.rp,7,none⟩ (.int .i64 (n:Int))):=by
 have hs:aA (fun g=>g=E.rp) w (w.setCell ⟨E.rp,7,none⟩ (.int .i64 (n:Int))):=aA.setCell (S:=fun g=>g=E.rp) (aA.refl _ w) (p:=⟨E.rp,7,none⟩) (.inl rfl) _;have iF:∀{K:Type} [DecidableEq K] {KK:oM K}{q:Nat}{m:List (K×Value)},aY KK w q m->aY KK (w.setCell ⟨E.rp,7,none⟩ (.int .i64 (n:Int))) q m:=fun ha=>ha.since hs (fun h1=>ha.qW h.blk h1)
 have how:∀{e size v n' xs},aP w E.base e size v n' xs->e≠75->aP (w.setCell ⟨E.rp,7,none⟩ (.int .i64 (n:Int))) E.base e size v n' xs:=fun ha h1=>ha.since hs (fun g hg h3=>ha.fe h.blk h1 (by rw[hg,h3]))
 refine⟨⟨?_,iF h.gl,iF h.fl,iF h.kn,iF h.vi,?_,how h.ds (by decide),how h.us (by decide),how h.ps (by decide),h.low,h.apart⟩,?_⟩
 ·have:=h.blk.gY 7 (.int .i64 (n:Int))
  simpa using this
 ·refine fM.of_block h.bH fun g cur hg _=>hs.block g (aae.1 hg).1 fun h1=>?_
  subst h1;have hb:w.heap[E.rp]? =some (.cells _ 75 (0,0)):=h.blk;rw[hb]at hg;simp at hg
 ·refine aA.mono hs fun g h1=>?_
  subst h1;exact⟨h.low.1,.inl ⟨_,_,_,h.blk,.inl rfl⟩⟩
theorem bf.Ob{E:RC}{G:bD}{r:RS}{V:RV}{w:World}(h:bf E G r V w)(n:Int)(M:Nat->Prop):
 bf E G { r with owner:=n } V (w.setCell ⟨E.rp,8,none⟩ (.int .i64 n))/\KX E M w (w.setCell ⟨E.rp,8,none⟩ (.int .i64 n)):=by
 have hs:aA (fun g=>g=E.rp) w (w.setCell ⟨E.rp,8,none⟩ (.int .i64 n)):=aA.setCell (S:=fun g=>g=E.rp) (aA.refl _ w) (p:=⟨E.rp,8,none⟩) (.inl rfl) _;have iF:∀{K:Type} [DecidableEq K] {KK:oM K}{q:Nat}{m:List (K×Value)},aY KK w q m->aY KK (w.setCell ⟨E.rp,8,none⟩ (.int .i64 n)) q m:=fun ha=>ha.since hs (fun h1=>ha.qW h.blk h1)
 have how:∀{e size v n' xs},aP w E.base e size v n' xs->e≠75->aP (w.setCell ⟨E.rp,8,none⟩ (.int .i64 n)) E.base e size v n' xs:=fun ha h1=>ha.since hs (fun g hg h3=>ha.fe h.blk h1 (by rw[hg,h3]))
 refine⟨⟨?_,iF h.gl,iF h.fl,iF h.kn,iF h.vi,?_,how h.ds (by decide),how h.us (by decide),how h.ps (by decide),h.low,h.apart⟩,?_⟩
 ·have:=h.blk.gY 8 (.int .i64 n)
  simpa using this
 ·refine fM.of_block h.bH fun g cur hg _=>hs.block g (aae.1 hg).1 fun h1=>?_
  subst h1;have hb:w.heap[E.rp]? =some (.cells _ 75 (0,0)):=h.blk;rw[hb]at hg;simp at hg
 ·refine aA.mono hs fun g h1=>?_
  subst h1;exact⟨h.low.1,.inl ⟨_,_,_,h.blk,.inl rfl⟩⟩
theorem fM.snoc{w:World}{base:Nat}{ub:Option Nat}{k:Int}{l0:List Int}{v:Value}(ho:aP w base 3 1 v l0.length (jN l0))(hu:∀g,v.ownBlock=some g->ub≠some g):∀{l:List (Int×List Int)}{vals:List (Int×Value)},fM w base ub l vals->(∀g,v.ownBlock=some g->∀y∈vals,y.2.ownBlock≠some g)->fM w base ub (l++[(k,l0)]) (vals++[(k,v)])
 | [],vals,h,hn=>by
  have:vals=[]:=h;subst this;exact⟨v,[],rfl,ho,fun g hg=>⟨hu g hg,by simp⟩,rfl⟩
 | x::l,vals,h,hn=>by
  obtain⟨v1,vs,rfl,h2,h3,h4⟩:=h;refine⟨v1,vs++[(k,v)],rfl,h2,fun g hg=>⟨(h3 g hg).1,fun y hy=>?_⟩,fM.snoc ho hu h4 fun g hg y hy=>hn g hg y (by simp[hy])⟩;rcases List.mem_append.1 hy with hy|hy
  ·exact(h3 g hg).2 y hy
  ·rw[List.mem_singleton]at hy
   subst hy;exact fun e=>hn g e (x.1,v1) (by simp) hg
theorem fM.lt{w:World}{base:Nat}{ub:Option Nat}:∀{l:List (Int×List Int)}{vals:List (Int×Value)},fM w base ub l vals->∀y∈vals,∀g,y.2.ownBlock=some g->g<w.heap.size
 | [],vals,h,y,hy=>by
  have:vals=[]:=h;subst this
  cases hy
 | x::l,vals,h,y,hy=>by
  obtain⟨v1,vs,rfl,h2,h3,h4⟩:=h;rcases List.mem_cons.1 hy with rfl|hy
  ·exact fun g hg=>(h2.lt g hg).2
  ·exact fM.lt h4 y hy
theorem fM.keys{w:World}{base:Nat}{ub:Option Nat}:∀{l:List (Int×List Int)}{vals:List (Int×Value)},fM w base ub l vals->vals.map (·.1)=l.map (·.1)
 | [],vals,h=>by
  have:vals=[]:=h;subst this;rfl
 | x::l,vals,h=>by
  obtain⟨v1,vs,rfl,h2,h3,h4⟩:=h;simp[fM.keys h4]
theorem Oc{K:Type}[DecidableEq K]:∀{m:List (K×Value)}{k:K}(v:Value),k ∉ m.map (·.1)->qM m k v=m++[(k,v)]
 | [],_,_,_=>rfl
 | x::m,k,v,h=>by
  rw[List.map_cons,List.mem_cons]at h;have hk:k≠x.1:=fun e=>h (.inl e)
  rw[EC _ _ _ _ hk,Oc v fun h1=>h (.inr h1)];rfl
theorem ED{K V:Type}[DecidableEq K]:∀{l:List (K×V)}{k:K}(v:V),k ∉ l.map (·.1)->dK l k v=l++[(k,v)]
 | [],_,_,_=>rfl
 | x::l,k,v,h=>by
  rw[List.map_cons,List.mem_cons]at h;have hk:k≠x.1:=fun e=>h (.inl e)
  rw[dK,if_neg hk,ED v fun h1=>h (.inr h1)];rfl
theorem bf.oh{E:RC}{G:bD}{r:RS}{V:RV}{w w1 w':World}(h:bf E G r V w)(hbs:E.base<=w.heap.size)(hb:Below w.heap.size w w1)(n:Int)(l:List Int)(v:Value)(ho:aP w1 w.heap.size 3 1 v l.length (jN l))(hn:n ∉ r.bH.map (·.1))(M:Nat->Prop)(hM:M E.vi)
 (hm:aY iN w' E.vi (qM V.vals n v)) (hs:aA (fun g=>g=E.vi) w1 w'):
 bf E G { r with bH:=dK r.bH n l } { V with vals:=qM V.vals n v } w'/\KX E M w w':=by
 have h1:=h.below hb;have hmap:=h1.vi.isMap
 have hnot:∀{g:Nat}{t:TypeId}{cs:Array Value},ak w1 g t cs->g≠E.vi:=fun hb e=>by
  obtain⟨es,ck,ho⟩:=hmap;subst e;have:w1.heap[_]? =some (Obj.cells _ _ (0,0)):=hb;rw[ho]at this;cases this
 have how:∀{e size v n xs base},aP w1 base e size v n xs->aP w' base e size v n xs:=fun ha=>ha.since hs (fun g hg e=>by
  subst e;obtain⟨cur,hc⟩:=ha.obj _ hg;obtain⟨es,ck,ho⟩:=hmap;rw[ho]at hc
  cases hc)
 have hkeys:n ∉ V.vals.map (·.1):=by rw[h.bH.keys];exact hn
 refine⟨⟨h1.blk.since hs (hnot h1.blk),h1.gl.since hs (fun e=>h.apart.1 e.symm),h1.fl.since hs (fun e=>h.apart.2.1 e.symm),h1.kn.since hs (fun e=>h.apart.2.2 e.symm),hm,?_,how h1.ds,how h1.us,how h1.ps,h.low,h.apart⟩,?_⟩
 ·show fM w' E.base (Value.slice E.uA r.uses.length E.uc).ownBlock (dK r.bH n l) (qM V.vals n v)
  rw[ED l hn,Oc v hkeys];refine fM.snoc (how (ho.mono hbs)) (fun g hg e=>?_) (fM.of_block h1.bH fun g cur hg _=>hs.block g (aae.1 hg).1 fun e=>?_) (fun g hg y hy e=>?_)
  ·have h3:=(ho.lt g hg).1
   have h4:=(h.us.lt g e).2;omega
  ·subst e
   obtain⟨es,ck,ho⟩:=hmap;rw[ho]at hg;cases hg
  ·have h3:=(ho.lt g hg).1
   have h4:=h.bH.lt y hy g e;omega
 ·exact(KX.of_below (M:=M) hb).trans (KX.oH hs hM h.low.2 hmap) (fun g hg=>.inl hg)
theorem bf.kQ{E:RC}{G:bD}{r:RS}{V:RV}{w w':World}{M:Nat->Prop}(h:bf E G r V w)(hk:KX E M w w'){g:Nat}{cs:Array Value}(hb:ak w g 24 cs):ak w' g 24 cs:=hk.blk hb (by decide) (by decide) (by decide) (h.RJ hb)
theorem bf.nU{E:RC}{G:bD}{r:RS}{V:RV}{w w':World}{M:Nat->Prop}(h:bf E G r V w)(hk:KX E M w w'){g:Nat}{cs:Array Value}(hb:ak w g 68 cs):ak w' g 68 cs:=hk.blk hb (by decide) (by decide) (by decide) (h.V7 hb)
theorem bne_dec(a b:Int):(a !=b)=decide (a≠b):=by by_cases h:a=b<;>simp[h]
theorem NQ(E:RC)(G:bD)(B:Nat)(hB:B<=E.base)(x:ByteArray)(a e:Int)(kids:List aa)(hih:∀k∈kids,gQ E G B k):gQ E G B (.node 3 x a e kids):=by
 intro i s p ms r V w A c h hs hsep hk hcap hbase hv hrb;obtain⟨nk,hnk⟩:∃q,kids.length=q:=⟨_,rfl⟩
 have hvk:mq s.isEmpty kids=true:=by
  rw[qx,if_neg (by decide),if_neg (by decide),if_neg (by decide)]at hv;exact hv
 have hq:aL G i (.node 3 x a e kids) s r=af G i kids 0 kids.length s { bF (aB r i (ah (aj s))) 0 r.next (.node 3 x a e kids) (decide ((bY G.globals x).getD 0≠(r.next:Int))) with owner:=(r.next:Int) }:=by rw[di,if_pos rfl]
 rw[hq,hnk];obtain⟨Q,hQ⟩:∃Q,af G i kids 0 nk s { bF (aB r i (ah (aj s))) 0 r.next (.node 3 x a e kids) (decide ((bY G.globals x).getD 0≠(r.next:Int))) with owner:=(r.next:Int) }=Q:=⟨_,rfl⟩
 rw[hQ];have HQ:=kH hQ;clear hq hQ;unfold bB;have aU:(aa.node 3 x a e kids).kind=3/\(aa.node 3 x a e kids).text=x/\(aa.node 3 x a e kids).at_=a/\(aa.node 3 x a e kids).end_=e/\(aa.node 3 x a e kids).kids=kids:=⟨rfl,rfl,rfl,rfl,rfl⟩
 rw[aU.1,aU.2.1,aU.2.2.1,aU.2.2.2.1,aU.2.2.2.2,hnk];rw[aU.2.2.2.2]at hk hcap;rw[hnk]at hcap;obtain⟨nx,hnx⟩:∃q,r.next=q:=⟨_,rfl⟩
 have hnb:nx<=1000000:=by have:=hrb.room;have:=hrb.most;omega
 have rq:w.cell? ⟨E.rp,7,none⟩=some (.int .i64 (nx:Int)):=by rw[<- hnx];exact h.blk.cell 7
 have hrw:=h.blk.lt;have hwn:IntKind.i64.wrap ((nx:Int)+1)=(nx:Int)+1:=IntWalk.i64_in _ (by omega);have hfx:=h.blk.frozen 7;have H:=kH h;have HS:=kH hs;have HK:=kH hk;have dC:=kH hrb;have aZ:=kH hnx;have gX:=kH hnk;have lS:=kH hvk;have fO:=kH hih;have HCAP:=kH hcap;have dh:=kH hbase;clear h hs hk hrb hnx hnk hvk hih hv aU hcap hbase;go_enter Tryz.func79,Tryz.ntmps79
 go_upto_if 32 with fail
 generalize hW3:(((w.setCell ⟨E.rp,7,none⟩ (.int .i64 ((nx:Int)+1))).alloc (.cells #[.pointer (some ⟨E.rp,0,none⟩)] 68)).alloc (.cells #[.int .i64 3,.string x,.int .i64 a,.int .i64 e,.slice A nk c] 24))=W3
 obtain⟨hr3,hk3⟩:=H.out.og (nx+1) (fun _=>False)
 have hbW:Below w.heap.size (w.setCell ⟨E.rp,7,none⟩ (.int .i64 ((nx:Int)+1))) W3:=by
  rw[<- hW3];have h1:=ae (w.setCell ⟨E.rp,7,none⟩ (.int .i64 ((nx:Int)+1))) (.cells #[.pointer (some ⟨E.rp,0,none⟩)] 68);have h2:=ae ((w.setCell ⟨E.rp,7,none⟩ (.int .i64 ((nx:Int)+1))).alloc (.cells #[.pointer (some ⟨E.rp,0,none⟩)] 68)) (.cells #[.int .i64 3,.string x,.int .i64 a,.int .i64 e,.slice A nk c] 24);have h3:=h1.trans (h2.mono (by simp));simpa using h3
 have jc:W3.heap.size=w.heap.size+2:=by rw[<- hW3];simp
 have jQ:ak W3 (w.heap.size+1) 24 #[.int .i64 3,.string x,.int .i64 a,.int .i64 e,.slice A nk c]:=by
  have:=ak.new ((w.setCell ⟨E.rp,7,none⟩ (.int .i64 ((nx:Int)+1))).alloc (.cells #[.pointer (some ⟨E.rp,0,none⟩)] 68)) 24 #[.int .i64 3,.string x,.int .i64 a,.int .i64 e,.slice A nk c];rw[hW3]at this;simpa using this
 have hp3:ak W3 w.heap.size 68 #[.pointer (some ⟨E.rp,0,none⟩)]:=by
  have:=(ak.new (w.setCell ⟨E.rp,7,none⟩ (.int .i64 ((nx:Int)+1))) 68 #[.pointer (some ⟨E.rp,0,none⟩)]).alloc (.cells #[.int .i64 3,.string x,.int .i64 a,.int .i64 e,.slice A nk c] 24);rw[hW3]at this;simpa using this
 have HR3:Hid (bf E G { r with next:=nx+1 } V W3):=kH (hr3.below (by simpa using hbW));have gq:Hid (KX E (fun _=>False) w W3):=kH (hk3.trans (KX.of_below (M:=fun _=>False) (by simpa using hbW)) (fun g hg=>.inl hg));have jE:Hid (aW W3 E.base p s ms):=kH (aW.kx gq.out H.out.dN HS.out (fun _ _ h=>h));have lG:=kH jQ;have gW:=kH hp3;have xP:=kH jc;have c5:W3.cell? ⟨E.rp,5,none⟩=some (.map (some E.vi)):=HR3.out.blk.cell 5;have p0:=hp3.cell 0;have qF:=HR3.out.blk.lt;have qX:=hp3.lt;clear hW3 hr3 hk3 hbW jQ hp3 jc rq hfx;go_cut [] (fun wx=> ∃Vx,Hid (bf E G (aB r i (ah (aj s))) Vx wx)/\Hid (KX E (fun g=>g=E.vi) W3 wx))
 case first=>
  cases i with
  | false=>
   go_wp2_with fail
   go_meet
   exact⟨V,by have:=HR3.out;rw[<- aZ.out]at this;exact kH this,kH (KX.refl _ _ _)⟩
  | true=>
   have hbz:E.base<=W3.heap.size:=aac dh.out gq.out.size;have hall:=oz E.base s p ms W3.drew (aW.below ((Below.refl _ W3).drew) jE.out) (by have:=dC.out.uP;have:=aZ.out;omega);have iV:=kH hall
   have gz:∀w':World,aA (fun g=>g=E.vi) W3 w'->w'.cell? ⟨E.rp,5,none⟩=some (.map (some E.vi))/\w'.cell? ⟨w.heap.size,0,none⟩=some (.pointer (some ⟨E.rp,0,none⟩)):=fun w' hw=>by
    have nm:∀{g:Nat}{t:TypeId}{cs:Array Value},ak W3 g t cs->g≠E.vi:=fun hb e=>by
     obtain⟨es,ck,ho⟩:=HR3.out.vi.isMap;subst e;have:W3.heap[_]? =some (Obj.cells _ _ (0,0)):=hb;rw[ho]at this;cases this
    exact⟨(HR3.out.blk.since hw (nm HR3.out.blk)).cell 5,(gW.out.since hw (nm gW.out)).cell 0⟩
   have gm:=kH gz;have hs0:aA (fun g=>g=E.vi) W3 W3.drew:=(aA.refl _ W3).drew
   have eG:(nx:Int) ∉ r.bH.map (·.1):=fun hm=>by
    obtain⟨y,hy,he⟩:=List.mem_map.1 hm;have:=dC.out.bH y hy;have:=aZ.out;omega
   have rD:=kH eG;clear hall gz eG;go_wp2_with fail
   go_region_held3 (fun w'=>w'.cell? ⟨E.rp,5,none⟩=some (.map (some E.vi))/\w'.cell? ⟨w.heap.size,0,none⟩=some (.pointer (some ⟨E.rp,0,none⟩))) (exact gm.out _ (by assumption)) ((go_at_call 145;refine iV.out.mono ?_;rintro e5 w5 ⟨v5,rfl,jY,hb5⟩;have hs5:=hs0.below hb5;obtain⟨w6,hrun,dM,ll,qH⟩:=bU (P:=Tryz.prog) (KK:=iN) (t:=72) (kt:=3) (et:=28) Tryz.underlying72 Tryz.underlying3 ((aY.drew HR3.out.vi).uH hb5) (nx:Int) v5;change (Instr.mapUpdate 72 (.map (some E.vi)) (Value.int .i64 (nx:Int)) v5).run Tryz.prog w5=_ at hrun;have hs6:aA (fun g=>g=E.vi) w5 w6:=(aA.refl (fun g=>g=E.vi) w5).grown ll (fun k hk=>by cases hk;exact .inl rfl);have hs7:=hs5.trans hs6))
   have hlen:(ah (aj s)).length=(aj s).length:=List.length_mergeSort _;have fV:Below W3.heap.size W3 w5:=((Below.refl _ W3).drew).trans hb5;have gG:=HR3.out.oh hbz fV (nx:Int) (ah (aj s)) v5 (by rw[hlen];exact jY) rD.out (fun g=>g=E.vi) rfl dM hs6;have gK:=kH gG;clear gG hs5 hs6 hs7 qH dM fV hb5 jY hs0 hrun ll;go_wp2_with fail
   go_meet
   exact⟨_,by have:=gK.out.1;rw[<- aZ.out]at this;exact kH this,kH gK.out.2⟩
 case rest=>
  obtain⟨Vx,ig,fQ⟩:=hcut;have hnx:(aB r i (ah (aj s))).next=nx+1:=by rw[<- aZ.out];rfl
  have iy:Hid (KX E (fun g=>g=E.vi) w wc):=kH ((gq.out.mono (fun _ hf=>hf.elim)).trans fQ.out (fun g hg=>.inl hg));have Bg:Hid (aW wc E.base p s ms):=kH (aW.kx fQ.out HR3.out.dN jE.out (fun m hm e=>(hsep.apart m hm).2.2.2 e));have Mx:=HR3.out.kQ fQ.out lG.out;have hpX:=HR3.out.nU fQ.out gW.out;have hlk:=fun q=>fq (wc.drewN q) E.g G.globals (aY.drewN ig.out.gl q) x
  obtain⟨gi,hgi⟩:∃q,(bG G.globals x).getD 0=q:=⟨_,rfl⟩
  obtain⟨gb,hgb⟩:∃q,(bG G.globals x).isSome=q:=⟨_,rfl⟩
  rw[hgi,hgb]at hlk;have c0:=ig.out.blk.cell 0;have lr:=ig.out.blk.lt;have q0:=hpX.cell 0;have lp:=hpX.lt;have n0:=Mx.cell 0;have n1:=Mx.cell 1;have n2:=Mx.cell 2;have n3:=Mx.cell 3;have n4:=Mx.cell 4;have ln:=Mx.lt;have HNXB:=kH Mx;have HPXB:=kH hpX;have uL:=kH hgi;have zq:=kH hgb;clear Mx hpX hgi hgb c5 p0 qF qX;have hsl:=dW.none_ r i (ah (aj s))
  have hdec:∀q al,Calls Tryz.prog 147 #[.pointer (some ⟨E.rp,0,none⟩),.int .i64 0,.int .i64 (nx:Int),.agg #[.int .i64 3,.string x,.int .i64 a,.int .i64 e,.slice A nk c],.bool al] (wc.drewN q) fun e' w'=>e'= .returned (.bool (!al))/\∃V',bf E G (bF (aB r i (ah (aj s))) 0 nx (.node 3 x a e kids) al) V' w'/\KX E (fun _=>False) (wc.drewN q) w':=fun q al=>by
   have h1:=dC.out;have h2:=h1.room;have h3:=su (.node 3 x a e kids);have:=AQ E G (aB r i (ah (aj s))) Vx (wc.drewN q) (ig.out.below (bq (Below.refl _ _) q)) (by show r.ds.length<=_;have:=h1.ds;have:=aZ.out;omega) (by show r.aR.length<=_;have:=h1.aR;have:=aZ.out;omega) (aac dh.out (KX.low iy.out dh.out).size) 0 nx (by show nx<r.uses.length;have:=aZ.out;omega) (.node 3 x a e kids) A c al (fun _=>False);rw[<- gX.out];exact this
  have QR:=kH hdec;clear hdec hsl;go_wp2_with fail
  go_quiet (fail)
  go_wp2_with fail
  refine(QR.out _ _).mono ?_;rintro e8 w8 ⟨rfl,V8,h8,k8⟩;have Wn:KX E (fun _=>False) wc w8:=(KX.of_below (M:=fun _=>False) (bq (Below.refl wc.heap.size wc) _)).trans k8 (fun g hg=>hg.elim);have HS8:Hid (aW w8 E.base p s ms):=kH (aW.kx Wn ig.out.dN Bg.out (fun _ _ h=>h));have FP:=kH (ig.out.kQ Wn HNXB.out);have HP8:=kH (ig.out.nU Wn HPXB.out);have nC:Hid (KX E (fun g=>g=E.vi) w w8):=kH (iy.out.trans Wn (fun g hg=>hg.elim));have Ej:=kH h8;have q8:=HP8.out.cell 0;have Ac:=HP8.out.lt;have o8:w8.cell? ⟨E.rp,8,none⟩=some (.int .i64 (bF (aB r i (ah (aj s))) 0 nx (.node 3 x a e kids) (gi !=(nx:Int))).owner):=Ej.out.blk.cell 8;have l8:=Ej.out.blk.lt;have m0:=FP.out.cell 0;have m4:=FP.out.cell 4;have lm8:=FP.out.lt;have fo8:=Ej.out.blk.frozen 8;obtain⟨ow,how⟩:∃q,(bF (aB r i (ah (aj s))) 0 nx (.node 3 x a e kids) (gi !=(nx:Int))).owner=q:=⟨_,rfl⟩
  rw[how]at o8;obtain⟨GU,zf⟩:=Ej.out.Ob (nx:Int) (fun _=>False);obtain⟨W9,nX⟩:∃W9,w8.setCell ⟨E.rp,8,none⟩ (.int .i64 (nx:Int))=W9:=⟨_,rfl⟩
  rw[nX]at GU zf
  have Yx:rz r { bF (aB r i (ah (aj s))) 0 nx (.node 3 x a e kids) (gi !=(nx:Int)) with owner:=(nx:Int) }:=by
   have:=dW.trans (dW.declare r i (ah (aj s)) 0 (.node 3 x a e kids) (gi !=(nx:Int))) (dW.owner _ (nx:Int));rw[aZ.out]at this;exact this
  have hne9:({ bF (aB r i (ah (aj s))) 0 nx (.node 3 x a e kids) (gi !=(nx:Int)) with owner:=(nx:Int) }:RS).next=nx+1:=by
   have:=rP r i (ah (aj s)) 0 (.node 3 x a e kids) (gi !=(nx:Int));rw[aZ.out]at this;exact this
  have hrb9:RB { bF (aB r i (ah (aj s))) 0 nx (.node 3 x a e kids) (gi !=(nx:Int)) with owner:=(nx:Int) } s (ag ((kids.drop 0).take nk)):=by
   refine dC.out.slow Yx (by have:=Yx.next;omega) ?_;rw[hne9,<- gX.out];have:=aZ.out;simp[ai];omega
  have hcall:=OW E G B hB kids fO.out i s p ms _ V8 W9 3 x a e A nk c 0 nk nk (w.heap.size+1) w.heap.size gX.out (by omega) GU (aW.kx zf Ej.out.dN HS8.out (fun _ _ h=>h)) hsep (aK.below (((KX.low nC.out dh.out).trans (KX.low zf (aac dh.out (KX.low nC.out dh.out).size))).mono hB) (aab _) _ _ _ HK.out) HCAP.out (by omega) (aac (aac dh.out (KX.low nC.out dh.out).size) zf.size) (Ej.out.kQ zf FP.out) (Ej.out.nU zf HP8.out) lS.out hrb9
  have kG:af G i kids 0 nk s { bF (aB r i (ah (aj s))) 0 nx (.node 3 x a e kids) (gi !=(nx:Int)) with owner:=(nx:Int) }=Q:=by
   rw[<- HQ.out,bne_dec,<- uL.out,aZ.out]
  rw[kG]at hcall;have m9:=(Ej.out.kQ zf FP.out).cell 4;have lm9:=(Ej.out.kQ zf FP.out).lt;have HC9:=kH hcall;have FQ:=kH zf;clear hcall zf GU kG hrb9 hne9 Yx how Wn h8 k8;go_wp2_with (rw[nX])
  refine HC9.out.mono ?_;rintro e10 bJ ⟨rfl,yH,h10,s10,k10⟩;have HE:Hid (∃V',bf E G Q.1 V' bJ/\aW bJ E.base p Q.2 ms/\KX E (fun g=>g=E.vi\/ms.head? =some g) w bJ):=kH ⟨yH,h10,s10,((nC.out.mono (M':=fun g=>g=E.vi\/ms.head? =some g) (fun _ h=>.inl h)).trans FQ.out (fun g hg=>hg.elim)).trans k10 (fun g hg=>.inl hg)⟩;clear h10 s10 k10 HC9 m9;go_wp2_with fail
  go_end0
  exact⟨rfl,HE.out⟩
structure NB where
 kids:List aa
 k:Int
 x:ByteArray
 a:Int
 z:Int
 A:Option Addr
 nk:Nat
 c:Nat
 bn:Nat
 br:Nat
structure VW (E:RC) (G:bD) (B:Nat) (N:NB) (w0:World) (M:Nat->Prop) (r:RS) (V:RV) (s:aT) (p:Option Addr) (ms:List Nat) (w:World):Prop where
 R:bf E G r V w
 S:aW w E.base p s ms
 N_:ak w N.bn 24 #[.int .i64 N.k,.string N.x,.int .i64 N.a,.int .i64 N.z,.slice N.A N.nk N.c]
 P:ak w N.br 68 #[.pointer (some ⟨E.rp,0,none⟩)]
 K:KX E M w0 w
 KD:aK w B N.A 0 N.kids
 base:E.base<=w.heap.size
 low:B<=E.base
section
variable {E:RC}{G:bD}{B:Nat}{N:NB}{w0 w w':World}{M M':Nat->Prop}{r r':RS}{V V':RV}{s s':aT}{p p':Option Addr}{ms ms':List Nat}
theorem VW.step(h:VW E G B N w0 M r V s p ms w)(hk:KX E M' w w')(hr:bf E G r' V' w')(hs:aW w' E.base p' s' ms')(hM:∀g,M' g->M g\/w0.heap.size<=g):VW E G B N w0 M r' V' s' p' ms' w' where
 R:=hr
 S:=hs
 N_:=h.R.kQ hk h.N_
 P:=h.R.nU hk h.P
 K:=h.K.trans hk hM
 KD:=aK.below ((KX.low hk h.base).mono h.low) (aab _) _ _ _ h.KD
 base:=aac h.base hk.size
 low:=h.low
theorem VW.ND(h:VW E G B N w0 M r V s p ms w)(hk:KX E M' w w')(hr:bf E G r' V' w')(hms:∀m∈ms,¬M' m)(hM:∀g,M' g->M g\/w0.heap.size<=g):VW E G B N w0 M r' V' s p ms w':=
 h.step hk hr (aW.kx hk h.R.dN h.S hms) hM
theorem VW.below(h:VW E G B N w0 M r V s p ms w)(hb:Below w.heap.size w w'):VW E G B N w0 M r V s p ms w':=
 h.step (KX.of_below (M:=fun _=>False) hb) (h.R.below hb) (h.S.below hb) (fun _ hf=>hf.elim)
theorem VW.drewN(h:VW E G B N w0 M r V s p ms w)(q:Nat):VW E G B N w0 M r V s p ms (w.drewN q):=h.below (bq (Below.refl _ _) q)
theorem VW.other(h:VW E G B N w0 M r V s p ms w)(hs:aW w E.base p' s' ms'):VW E G B N w0 M r V s' p' ms' w:=⟨h.R,hs,h.N_,h.P,h.K,h.KD,h.base,h.low⟩
theorem VW.cells(h:VW E G B N w0 M r V s p ms w):(w.cell? ⟨N.br,0,none⟩=some (.pointer (some ⟨E.rp,0,none⟩))/\N.br<w.heap.size)/\(w.cell? ⟨N.bn,0,none⟩=some (.int .i64 N.k)/\w.cell? ⟨N.bn,1,none⟩=some (.string N.x)/\w.cell? ⟨N.bn,2,none⟩=some (.int .i64 N.a)/\w.cell? ⟨N.bn,3,none⟩=some (.int .i64 N.z)/\w.cell? ⟨N.bn,4,none⟩=some (.slice N.A N.nk N.c)/\N.bn<w.heap.size) /\
 (w.cell? ⟨E.rp,0,none⟩=some (.map (some E.g))/\w.cell? ⟨E.rp,1,none⟩=some (.map (some E.f))/\w.cell? ⟨E.rp,2,none⟩=some (.map (some E.k))/\w.cell? ⟨E.rp,8,none⟩=some (.int .i64 r.owner)/\E.rp<w.heap.size):=
 ⟨⟨h.P.cell 0,h.P.lt⟩,⟨h.N_.cell 0,h.N_.cell 1,h.N_.cell 2,h.N_.cell 3,h.N_.cell 4,h.N_.lt⟩,⟨h.R.blk.cell 0,h.R.blk.cell 1,h.R.blk.cell 2,h.R.blk.cell 8,h.R.blk.lt⟩⟩
theorem VW.drew(h:VW E G B N w0 M r V s p ms w):VW E G B N w0 M r V s p ms w.drew:=h.below ((Below.refl _ _).drew)
theorem VW.kids(h:VW E G B N w0 M r V s p ms w)(hih:∀k∈N.kids,gQ E G B k)(i:Bool)(f n gu:Nat)(hto:gu=f+n)(hnk:N.kids.length=N.nk)(hfn:f+n<=N.nk)(hcap:N.nk<=N.c)(hv:mq s.isEmpty N.kids=true)(hrb:RB r s (ag ((N.kids.drop f).take n)))(hsep:Eg E ms)
 (hM:∀g,(g=E.vi\/ms.head? =some g)->M g\/w0.heap.size<=g):
 Calls Tryz.prog 146 #[.int .i64 (f:Int),.int .i64 (gu:Int),.pointer p,.bool i,.pointer (some ⟨N.bn,0,none⟩),.pointer (some ⟨N.br,0,none⟩)] w fun e w'=>e= .returned (.tuple #[])/\KX E (fun g=>g=E.vi\/ms.head? =some g) w w'/\∃V',VW E G B N w0 M (af G i N.kids f n s r).1 V' (af G i N.kids f n s r).2 p ms w':=
 (OW E G B h.low N.kids hih i s p ms r V w N.k N.x N.a N.z N.A N.nk N.c f n gu N.bn N.br hnk hto h.R h.S hsep h.KD hcap hfn h.base h.N_ h.P hv hrb).mono fun _ _ ⟨h1,V',h2,h3,h4⟩=>⟨h1,h4,V',h.step h4 h2 h3 hM⟩
theorem VW.NT(h:VW E G B N w0 M r V s p ms w)(t:aa)(ht:t.kind=N.k/\t.text=N.x/\t.at_=N.a/\t.end_=N.z/\t.kids=N.kids)(hnk:N.kids.length=N.nk)(hP:r.aR.length<=1000000)(n:Nat)(hn:n<r.uses.length)(tq:Option Int)(y:Int)(hy:∀k,tq=some k->k=y):
 Calls Tryz.prog 149 #[.pointer (some ⟨E.rp,0,none⟩),.int .i64 (n:Int),.agg #[.int .i64 N.k,.string N.x,.int .i64 N.a,.int .i64 N.z,.slice N.A N.nk N.c],.int .i64 y,.bool tq.isSome] w fun e w'=>e= .returned (.tuple #[])/\∃V',VW E G B N w0 M (gB r n t tq) V' s p ms w':=by
 have:=use_any E G r V w h.R hP h.base n hn t N.A N.c tq y hy (fun _=>False);unfold bB at this;rw[ht.1,ht.2.1,ht.2.2.1,ht.2.2.2.1,ht.2.2.2.2,hnk]at this;exact this.mono fun _ _ ⟨h1,V',h2,h3⟩=>⟨h1,V',h.ND h3 h2 (fun _ _ hf=>hf) (fun _ hf=>hf.elim)⟩
theorem VW.Qk(h:VW E G B N w0 M r V s p ms w)(t:aa)(ht:t.kind=N.k/\t.text=N.x/\t.at_=N.a/\t.end_=N.z/\t.kids=N.kids)(hnk:N.kids.length=N.nk)(hD:r.ds.length<=1000000)(hP:r.aR.length<=1000000)(kind:Int)(n:Nat)(hn:n<r.uses.length)(al:Bool):
 Calls Tryz.prog 147 #[.pointer (some ⟨E.rp,0,none⟩),.int .i64 kind,.int .i64 (n:Int),.agg #[.int .i64 N.k,.string N.x,.int .i64 N.a,.int .i64 N.z,.slice N.A N.nk N.c],.bool al] w fun e w'=>e= .returned (.bool (!al))/\∃V',VW E G B N w0 M (bF r kind n t al) V' s p ms w':=by
 have:=AQ E G r V w h.R hD hP h.base kind n hn t N.A N.c al (fun _=>False);unfold bB at this;rw[ht.1,ht.2.1,ht.2.2.1,ht.2.2.2.1,ht.2.2.2.2,hnk]at this;exact this.mono fun _ _ ⟨h1,V',h2,h3⟩=>⟨h1,V',h.ND h3 h2 (fun _ _ hf=>hf) (fun _ hf=>hf.elim)⟩
theorem VW.nS(h:VW E G B N w0 M r V s p ms w)(t:aa)(ht:t.kind=N.k/\t.text=N.x/\t.at_=N.a/\t.end_=N.z/\t.kids=N.kids)(hnk:N.kids.length=N.nk)(hD:r.ds.length<=1000000)(hP:r.aR.length<=1000000)(kind:Int)(n:Nat)(hn:n<r.uses.length)
 (l:nA) (s2:aT) (m:Nat) (wG:List Nat) (hs2:aW w E.base p' (l::s2) (m::wG)) (hsep:Eg E (m::wG)) (hM:M m\/w0.heap.size<=m):
 Calls Tryz.prog 148 #[.pointer (some ⟨E.rp,0,none⟩),.int .i64 kind,.int .i64 (n:Int),.agg #[.int .i64 N.k,.string N.x,.int .i64 N.a,.int .i64 N.z,.slice N.A N.nk N.c],.pointer p'] w fun e w'=>e= .returned (.tuple #[])/\KX E (fun g=>g=m) w w'/\∃V',VW E G B N w0 M (aD G r kind n t (l::s2)).1 V' (aD G r kind n t (l::s2)).2 p' (m::wG) w':=by
 have:=Nn E G r V w h.R hD hP h.base kind n hn t N.A N.c l s2 p' m wG hs2 hsep;unfold bB at this;rw[ht.1,ht.2.1,ht.2.2.1,ht.2.2.2.1,ht.2.2.2.2,hnk]at this;exact this.mono fun _ _ ⟨h1,V',h2,h3,h4⟩=>⟨h1,h4,V',h.step h4 h2 h3 (fun g hg=>by rw[hg];exact hM)⟩
theorem aW.tail{b m:Nat}(h:aW w E.base (some ⟨b,0,none⟩) s (m::ms))(hb:ak w b 95 #[.pointer p,.map (some m)]):aW w E.base p s.tail ms:=by
 cases s with
 | nil=>exact absurd h.2 (by simp)
 | cons l s=>
  obtain⟨b',m',p',ms',h1,h2,_,_,h5,_,h7⟩:=h;simp only[List.cons.injEq]at h2;obtain⟨rfl,rfl⟩:=h2;simp only[aag,Addr.mk.injEq,and_true]at h1;subst h1;have e1:w.heap[b]? =some (Obj.cells _ _ (0,0)):=hb;have e2:w.heap[b]? =some (Obj.cells _ _ (0,0)):=h5;rw[e1]at e2;simp at e2;rw[e2];exact h7
theorem aW.head{b m:Nat}{l:nA}(h:aW w E.base (some ⟨b,0,none⟩) (l::s) (m::ms)):aY jB w m (jV l)/\E.base<=b/\E.base<=m/\∃p,ak w b 95 #[.pointer p,.map (some m)]/\aW w E.base p s ms:=by
 obtain⟨b',m',p',ms',h1,h2,h3,h4,h5,h6,h7⟩:=h;simp only[List.cons.injEq]at h2;obtain⟨rfl,rfl⟩:=h2;simp only[aag,Addr.mk.injEq,and_true]at h1;subst h1;exact⟨h6,h3,h4,p',h5,h7⟩
theorem VW.xG(h:VW E G B N w0 M r V s p ms w)(hk:KX E M' w w'){g:Nat}{cs:Array Value}(hb:ak w g 95 cs):ak w' g 95 cs:=
 hk.blk hb (by decide) (by decide) (by decide) (fun e=>h.R.dN g cs e hb)
theorem Eg.cons{m:Nat}(h:Eg E ms)(hm:m ∉ ms)(h2:m≠E.g/\m≠E.f/\m≠E.k/\m≠E.vi):Eg E (m::ms):=
 ⟨List.nodup_cons.2 ⟨hm,h.nodup⟩,fun x hx=>by rcases List.mem_cons.1 hx with rfl|hx;exact h2;exact h.apart x hx⟩
theorem aW.lt:∀{s:aT}{p:Option Addr}{ms:List Nat},aW w E.base p s ms->∀m∈ms,m<w.heap.size
 | [],_,_,h,m,hm=>by rw[h.2]at hm;cases hm
 | _::_,_,_,⟨_,m',_,ms',_,h2,_,_,_,h6,h7⟩,m,hm=>by
  rw[h2]at hm;rcases List.mem_cons.1 hm with rfl|hm
  ·exact h6.lt
  ·exact aW.lt h7 m hm
theorem VW.EW(h:VW E G B N w0 M r V s p ms w){p1:Option Addr}{s1:aT}{ms1:List Nat}(hs1:aW w E.base p1 s1 ms1)(hsep1:Eg E ms1):
 Calls Tryz.prog 48 #[.pointer p1] w fun e w'=> ∃b m,e= .returned (.pointer (some ⟨b,0,none⟩))/\w.heap.size<=m/\ak w' b 95 #[.pointer p1,.map (some m)]/\aY jB w' m []/\aW w' E.base (some ⟨b,0,none⟩) ([]::s1) (m::ms1)/\Eg E (m::ms1)/\Below w.heap.size w w'/\VW E G B N w0 M r V s p ms w':=by
 refine(EU p1 w).mono ?_;rintro e w' ⟨b,m,h1,h2,h3,h4,h5,h6⟩;have hv:=h.below h6;refine⟨b,m,h1,h3,h4,h5,⟨b,m,p1,ms1,rfl,rfl,aac h.base h2,aac h.base h3,h4,h5,hs1.below h6⟩,hsep1.cons (fun hm=>?_) ?_,h6,hv⟩
 ·have:=aW.lt hs1 m hm
  omega
 ·have g1:=h.R.gl.lt
  have g2:=h.R.fl.lt;have g3:=h.R.kn.lt;have g4:=h.R.vi.lt;exact⟨by omega,by omega,by omega,by omega⟩
theorem VW.end_(h:VW E G B N w0 (fun g=>g=E.vi\/ms.head? =some g) r V s p ms w):∃V',bf E G r V' w/\aW w E.base p s ms/\KX E (fun g=>g=E.vi\/ms.head? =some g) w0 w:=⟨V,h.R,h.S,h.K⟩
end
theorem JW(w:World)(r:Nat)(l:nA)(h:aY jB w r (jV l))(x:ByteArray):
 (Instr.lookup 70 (.map (some r)) (.string x) false).run Tryz.prog w= .ok (.int .i64 ((bG l x).getD 0)) w:=by
 have:=uU (P:=Tryz.prog) (KK:=jB) (t:=70) (kt:=9) (et:=3) Tryz.underlying70 Tryz.underlying9 Ht h x;unfold jV at this;rw[EO]at this
 cases hl:bG l x with
 | none=>rw[hl]at this;exact this
 | some k=>rw[hl]at this;exact this
theorem uu(w:World)(r:Nat)(l:List (Int×Int))(h:aY iN w r (uN l))(x:Int):
 (Instr.lookup 71 (.map (some r)) (.int .i64 x) false).run Tryz.prog w= .ok (.int .i64 ((bG l x).getD 0)) w:=by
 have:=uU (P:=Tryz.prog) (KK:=iN) (t:=71) (kt:=3) (et:=3) Tryz.underlying71 Tryz.underlying3 Ht h x;unfold uN at this;rw[EO]at this
 cases hl:bG l x with
 | none=>rw[hl]at this;exact this
 | some k=>rw[hl]at this;exact this
theorem Qo(a b:Int):(a !=b)=decide (a≠b):=by by_cases h:a=b<;>simp[h]
theorem RB.kids{r q:RS}{s s':aT}{t:aa}{f n:Nat}(h:RB r s (ai t))(k:rz r q)(ha:(aj s').length+r.next<=(aj s).length+q.next)(hn:q.next<=r.next+1+ag (t.kids.take f)):RB q s' (ag ((t.kids.drop f).take n)):=by
 refine h.slow k ha ?_;have h1:=su t;have h2:=AU t.kids f n;have h3:=Rm t;omega
theorem QX(E:RC)(G:bD)(B:Nat)(hB:B<=E.base)(k:Int)(x:ByteArray)(a e:Int)(kids:List aa)(hih:∀k∈kids,gQ E G B k)(hk3:¬k=3)(hk4:¬k=4)(hk5:¬k=5)(hk7:¬k=7)(D6:¬k=8)(hk11:¬k=11)(kX:¬k=12)(nI:¬k=16)(Pn:¬k=20)(hk22:¬k=22)(hk27:¬k=27)(hk19:¬k=19)(zf:¬k=9):gQ E G B (.node k x a e kids):=by
 intro i s p ms r V w A c h hs hsep hk hcap hbase hv hrb;obtain⟨nk,hnk⟩:∃q,kids.length=q:=⟨_,rfl⟩
 have hvk:mq s.isEmpty kids=true:=by
  rw[qx,if_neg hk5,if_neg hk11,if_neg (by omega)]at hv;exact hv
 have hq:aL G i (aa.node k x a e kids) s r=af G i kids 0 kids.length s (ik G s r (aB r i (ah (aj s))) (aa.node k x a e kids)):=by
  rw[di,if_neg hk3,if_neg hk4,if_neg hk5,if_neg (by omega),if_neg hk11,if_neg kX,if_neg nI]
 rw[hq];obtain⟨Q,hQ⟩:∃Q,af G i kids 0 kids.length s (ik G s r (aB r i (ah (aj s))) (aa.node k x a e kids))=Q:=⟨_,rfl⟩
 rw[hQ];have HQ:=kH hQ;clear hq hQ;unfold bB;have aU:(aa.node k x a e kids).kind=k/\(aa.node k x a e kids).text=x/\(aa.node k x a e kids).at_=a/\(aa.node k x a e kids).end_=e/\(aa.node k x a e kids).kids=kids:=⟨rfl,rfl,rfl,rfl,rfl⟩
 rw[aU.1,aU.2.1,aU.2.2.1,aU.2.2.2.1,aU.2.2.2.2,hnk];rw[aU.2.2.2.2]at hk hcap;rw[hnk]at hcap;obtain⟨nx,hnx⟩:∃q,r.next=q:=⟨_,rfl⟩
 have hnb:nx<=1000000:=by have:=hrb.room;have:=hrb.most;omega
 have yT:nk<=1000000:=by have h1:=hrb.room;have h2:=hrb.most;have h3:=dU kids;rw[ai]at h1;omega
 have rq:w.cell? ⟨E.rp,7,none⟩=some (.int .i64 (nx:Int)):=by rw[<- hnx];exact h.blk.cell 7
 have hrw:=h.blk.lt;have hwn:IntKind.i64.wrap ((nx:Int)+1)=(nx:Int)+1:=IntWalk.i64_in _ (by omega);have hfx:=h.blk.frozen 7;have H:=kH h;have HS:=kH hs;have HK:=kH hk;have dC:=kH hrb;have aZ:=kH hnx;have gX:=kH hnk;have lS:=kH hvk;have fO:=kH hih;have HCAP:=kH hcap;have dh:=kH hbase;clear h hs hk hrb hnx hnk hvk hih hv aU hcap hbase;go_enter Tryz.func79,Tryz.ntmps79
 go_upto_if 32 with fail
 generalize hW3:(((w.setCell ⟨E.rp,7,none⟩ (.int .i64 ((nx:Int)+1))).alloc (.cells #[.pointer (some ⟨E.rp,0,none⟩)] 68)).alloc (.cells #[.int .i64 k,.string x,.int .i64 a,.int .i64 e,.slice A nk c] 24))=W3
 obtain⟨hr3,hk3⟩:=H.out.og (nx+1) (fun _=>False)
 have hbW:Below w.heap.size (w.setCell ⟨E.rp,7,none⟩ (.int .i64 ((nx:Int)+1))) W3:=by
  rw[<- hW3];have h1:=ae (w.setCell ⟨E.rp,7,none⟩ (.int .i64 ((nx:Int)+1))) (.cells #[.pointer (some ⟨E.rp,0,none⟩)] 68);have h2:=ae ((w.setCell ⟨E.rp,7,none⟩ (.int .i64 ((nx:Int)+1))).alloc (.cells #[.pointer (some ⟨E.rp,0,none⟩)] 68)) (.cells #[.int .i64 k,.string x,.int .i64 a,.int .i64 e,.slice A nk c] 24);have h3:=h1.trans (h2.mono (by simp));simpa using h3
 have jc:W3.heap.size=w.heap.size+2:=by rw[<- hW3];simp
 have jQ:ak W3 (w.heap.size+1) 24 #[.int .i64 k,.string x,.int .i64 a,.int .i64 e,.slice A nk c]:=by
  have:=ak.new ((w.setCell ⟨E.rp,7,none⟩ (.int .i64 ((nx:Int)+1))).alloc (.cells #[.pointer (some ⟨E.rp,0,none⟩)] 68)) 24 #[.int .i64 k,.string x,.int .i64 a,.int .i64 e,.slice A nk c];rw[hW3]at this;simpa using this
 have hp3:ak W3 w.heap.size 68 #[.pointer (some ⟨E.rp,0,none⟩)]:=by
  have:=(ak.new (w.setCell ⟨E.rp,7,none⟩ (.int .i64 ((nx:Int)+1))) 68 #[.pointer (some ⟨E.rp,0,none⟩)]).alloc (.cells #[.int .i64 k,.string x,.int .i64 a,.int .i64 e,.slice A nk c] 24);rw[hW3]at this;simpa using this
 have HR3:Hid (bf E G { r with next:=nx+1 } V W3):=kH (hr3.below (by simpa using hbW));have gq:Hid (KX E (fun _=>False) w W3):=kH (hk3.trans (KX.of_below (M:=fun _=>False) (by simpa using hbW)) (fun g hg=>.inl hg));have jE:Hid (aW W3 E.base p s ms):=kH (aW.kx gq.out H.out.dN HS.out (fun _ _ h=>h));have lG:=kH jQ;have gW:=kH hp3;have xP:=kH jc;have c5:W3.cell? ⟨E.rp,5,none⟩=some (.map (some E.vi)):=HR3.out.blk.cell 5;have p0:=hp3.cell 0;have qF:=HR3.out.blk.lt;have qX:=hp3.lt;clear hW3 hr3 hk3 hbW jQ hp3 jc rq hfx;go_cut [] (fun wx=> ∃Vx,Hid (bf E G (aB r i (ah (aj s))) Vx wx)/\Hid (KX E (fun g=>g=E.vi) W3 wx))
 case first=>
  cases i with
  | false=>
   go_wp2_with fail
   go_meet
   exact⟨V,by have:=HR3.out;rw[<- aZ.out]at this;exact kH this,kH (KX.refl _ _ _)⟩
  | true=>
   have hbz:E.base<=W3.heap.size:=aac dh.out gq.out.size;have hall:=oz E.base s p ms W3.drew (aW.below ((Below.refl _ W3).drew) jE.out) (by have:=dC.out.uP;have:=aZ.out;omega);have iV:=kH hall
   have gz:∀w':World,aA (fun g=>g=E.vi) W3 w'->w'.cell? ⟨E.rp,5,none⟩=some (.map (some E.vi))/\w'.cell? ⟨w.heap.size,0,none⟩=some (.pointer (some ⟨E.rp,0,none⟩)):=fun w' hw=>by
    have nm:∀{g:Nat}{t:TypeId}{cs:Array Value},ak W3 g t cs->g≠E.vi:=fun hb e=>by
     obtain⟨es,ck,ho⟩:=HR3.out.vi.isMap;subst e;have:W3.heap[_]? =some (Obj.cells _ _ (0,0)):=hb;rw[ho]at this;cases this
    exact⟨(HR3.out.blk.since hw (nm HR3.out.blk)).cell 5,(gW.out.since hw (nm gW.out)).cell 0⟩
   have gm:=kH gz;have hs0:aA (fun g=>g=E.vi) W3 W3.drew:=(aA.refl _ W3).drew
   have eG:(nx:Int) ∉ r.bH.map (·.1):=fun hm=>by
    obtain⟨y,hy,he⟩:=List.mem_map.1 hm;have:=dC.out.bH y hy;have:=aZ.out;omega
   have rD:=kH eG;clear hall gz eG;go_wp2_with fail
   go_region_held3 (fun w'=>w'.cell? ⟨E.rp,5,none⟩=some (.map (some E.vi))/\w'.cell? ⟨w.heap.size,0,none⟩=some (.pointer (some ⟨E.rp,0,none⟩))) (exact gm.out _ (by assumption)) ((go_at_call 145;refine iV.out.mono ?_;rintro e5 w5 ⟨v5,rfl,jY,hb5⟩;have hs5:=hs0.below hb5;obtain⟨w6,hrun,dM,ll,qH⟩:=bU (P:=Tryz.prog) (KK:=iN) (t:=72) (kt:=3) (et:=28) Tryz.underlying72 Tryz.underlying3 ((aY.drew HR3.out.vi).uH hb5) (nx:Int) v5;change (Instr.mapUpdate 72 (.map (some E.vi)) (Value.int .i64 (nx:Int)) v5).run Tryz.prog w5=_ at hrun;have hs6:aA (fun g=>g=E.vi) w5 w6:=(aA.refl (fun g=>g=E.vi) w5).grown ll (fun k hk=>by cases hk;exact .inl rfl);have hs7:=hs5.trans hs6))
   have hlen:(ah (aj s)).length=(aj s).length:=List.length_mergeSort _;have fV:Below W3.heap.size W3 w5:=((Below.refl _ W3).drew).trans hb5;have gG:=HR3.out.oh hbz fV (nx:Int) (ah (aj s)) v5 (by rw[hlen];exact jY) rD.out (fun g=>g=E.vi) rfl dM hs6;have gK:=kH gG;clear gG hs5 hs6 hs7 qH dM fV hb5 jY hs0 hrun ll;go_wp2_with fail
   go_meet
   exact⟨_,by have:=gK.out.1;rw[<- aZ.out]at this;exact kH this,kH gK.out.2⟩
 case rest=>
  obtain⟨Vx,ig,fQ⟩:=hcut;have iy:Hid (KX E (fun g=>g=E.vi) w wc):=kH ((gq.out.mono (fun _ hf=>hf.elim)).trans fQ.out (fun g hg=>.inl hg));have HV:Hid (VW E G B ⟨kids,k,x,a,e,A,nk,c,w.heap.size+1,w.heap.size⟩ w (fun g=>g=E.vi\/ms.head? =some g) (aB r i (ah (aj s))) Vx s p ms wc):=kH ⟨ig.out,aW.kx fQ.out HR3.out.dN jE.out (fun m hm e=>(hsep.apart m hm).2.2.2 e),HR3.out.kQ fQ.out lG.out,HR3.out.nU fQ.out gW.out,iy.out.mono (fun _ h=>.inl h),aK.below ((KX.low iy.out dh.out).mono hB) (aab _) _ _ _ HK.out,aac dh.out (KX.low iy.out dh.out).size,hB⟩;have hlk:=fun q=>fq (wc.drewN q) E.g G.globals (aY.drewN ig.out.gl q) x
  obtain⟨gi,hgi⟩:∃q,(bG G.globals x).getD 0=q:=⟨_,rfl⟩
  obtain⟨gb,hgb⟩:∃q,(bG G.globals x).isSome=q:=⟨_,rfl⟩
  rw[hgi,hgb]at hlk;obtain⟨⟨q0,lp⟩,⟨n0,n1,n2,n3,n4,ln⟩,⟨c0,c1,c2,c8,lr⟩⟩:=HV.out.cells;have uL:=kH hgi;have zq:=kH hgb;have hD:(aB r i (ah (aj s))).ds.length<=1000000:=by show r.ds.length<=_;have:=dC.out.ds;have:=aZ.out;omega
  have hP:(aB r i (ah (aj s))).aR.length<=1000000:=by show r.aR.length<=_;have:=dC.out.aR;have:=aZ.out;omega
  have hU:nx<(aB r i (ah (aj s))).uses.length:=by show nx<r.uses.length;have h1:=dC.out.room;have h2:=aZ.out;rw[ai]at h1;omega
  have HD:=kH hD;have qK:=kH hP;have HU:=kH hU;have kJ:∀u:RS,u.next=r.next+1->u.next<=r.next+1+ag ((aa.node k x a e kids).kids.take 0):=fun u hu=>by rw[hu];exact Nat.le_add_right _ _
  have rR:=kH kJ;clear hgi hgb c5 p0 qF qX kJ hD hP hU c8
  have hu:ik G s r (aB r i (ah (aj s))) (aa.node k x a e kids)=(aB r i (ah (aj s))):=by
   unfold ik;show(if k=20 then _ else if k=22 then _ else if k=27 then _ else if k=19 then _ else if k=9/\iB x=false then _ else _)=_;rw[if_neg Pn,if_neg hk22,if_neg hk27,if_neg hk19,if_neg (fun(h:k=9/\iB x=false)=>zf h.1)]
  have hcall:=fun q=>(HV.out.drewN q).kids fO.out i 0 nk nk (by omega) gX.out (by show 0+nk<=nk;omega) HCAP.out lS.out (dC.out.kids (t:=(aa.node k x a e kids)) (dW.none_ r i _) (Nat.add_le_add_left (Nat.le_succ _) _) (rR.out _ rfl)) hsep (fun g hg=>.inl hg)
  have kG:af G i kids 0 nk s (aB r i (ah (aj s)))=Q:=by rw[<- HQ.out,hu,gX.out]
  have oW:=kH kG;have Nh:=kH hcall;clear hcall kG hu;go_wp2_with fail
  go_quiet (fail)
  go_wp2_with fail
  refine(Nh.out _).mono ?_;rintro e10 bJ ⟨rfl,-,yH,h10⟩;have HE:Hid (∃V',bf E G Q.1 V' bJ/\aW bJ E.base p Q.2 ms/\KX E (fun g=>g=E.vi\/ms.head? =some g) w bJ):=kH (by rw[<- oW.out];exact h10.end_);clear h10 Nh;go_wp2_with fail
  go_end0
  exact⟨rfl,HE.out⟩
end Go.Proofs.YtoepemlnlpamlaaGreat
