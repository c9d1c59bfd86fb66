/- The law NamesResolves holds where what it reads is of bulk at most 1048576: it returns true, and its argument reads as before. Part 26: Nam9 Vis3 VisW VisH. -/
import Derived.Test.YtoepemlnlpamlaaGreatReso25
set_option maxRecDepth 100000
set_option maxHeartbeats 4000000
namespace Go.Proofs.YtoepemlnlpamlaaGreat
open Go.RowKit
theorem aV.TF{E:RC}{G:bf}{r:RS}{V:RV}{w:World}(h:aV E G r V w)(n:Nat)(M:Nat->Prop):
 aV E G { r with next:=n } V (w.setCell ⟨E.rp,7,none⟩ (.int .i64 (n:Int)))/\KX E M w (w.setCell ⟨E.rp,7,none⟩ (.int .i64 (n:Int))):=by
 have hs:aF (fun g=>g=E.rp) w (w.setCell ⟨E.rp,7,none⟩ (.int .i64 (n:Int))):=aF.setCell (S:=fun g=>g=E.rp) (aF.refl _ w) (p:=⟨E.rp,7,none⟩) (.inl rfl) _;have ik:∀{K:Type} [DecidableEq K] {KK:oD K}{q:Nat}{m:List (K×Value)},aY KK w q m->aY KK (w.setCell ⟨E.rp,7,none⟩ (.int .i64 (n:Int))) q m:=fun ha=>ha.since hs (fun h1=>ha.qZ h.blk h1)
 have how:∀{e size v n' xs},aL w E.base e size v n' xs->e≠75->aL (w.setCell ⟨E.rp,7,none⟩ (.int .i64 (n:Int))) E.base e size v n' xs:=fun ha h1=>ha.since hs (fun g hg h3=>ha.bZ h.blk h1 (by rw[hg,h3]))
 refine⟨⟨?_,ik h.gl,ik h.fl,ik h.kn,ik h.vi,?_,how h.ds (by decide),how h.us (by decide),how h.ps (by decide),h.low,h.apart⟩,?_⟩
 ·have:=h.blk.fM 7 (.int .i64 (n:Int))
  simpa using this
 ·refine fB.of_block h.aS fun g cur hg _=>hs.block g (abH.1 hg).1 fun h1=>?_
  subst h1;have hb:w.heap[E.rp]? =some (.cells _ 75 (0,0)):=h.blk;rw[hb]at hg;simp at hg
 ·refine aF.mono hs fun g h1=>?_
  subst h1;exact⟨h.low.1,.inl ⟨_,_,_,h.blk,.inl rfl⟩⟩
theorem aV.PL{E:RC}{G:bf}{r:RS}{V:RV}{w:World}(h:aV E G r V w)(n:Int)(M:Nat->Prop):
 aV E G { r with owner:=n } V (w.setCell ⟨E.rp,8,none⟩ (.int .i64 n))/\KX E M w (w.setCell ⟨E.rp,8,none⟩ (.int .i64 n)):=by
 have hs:aF (fun g=>g=E.rp) w (w.setCell ⟨E.rp,8,none⟩ (.int .i64 n)):=aF.setCell (S:=fun g=>g=E.rp) (aF.refl _ w) (p:=⟨E.rp,8,none⟩) (.inl rfl) _;have ik:∀{K:Type} [DecidableEq K] {KK:oD K}{q:Nat}{m:List (K×Value)},aY KK w q m->aY KK (w.setCell ⟨E.rp,8,none⟩ (.int .i64 n)) q m:=fun ha=>ha.since hs (fun h1=>ha.qZ h.blk h1)
 have how:∀{e size v n' xs},aL w E.base e size v n' xs->e≠75->aL (w.setCell ⟨E.rp,8,none⟩ (.int .i64 n)) E.base e size v n' xs:=fun ha h1=>ha.since hs (fun g hg h3=>ha.bZ h.blk h1 (by rw[hg,h3]))
 refine⟨⟨?_,ik h.gl,ik h.fl,ik h.kn,ik h.vi,?_,how h.ds (by decide),how h.us (by decide),how h.ps (by decide),h.low,h.apart⟩,?_⟩
 ·have:=h.blk.fM 8 (.int .i64 n)
  simpa using this
 ·refine fB.of_block h.aS fun g cur hg _=>hs.block g (abH.1 hg).1 fun h1=>?_
  subst h1;have hb:w.heap[E.rp]? =some (.cells _ 75 (0,0)):=h.blk;rw[hb]at hg;simp at hg
 ·refine aF.mono hs fun g h1=>?_
  subst h1;exact⟨h.low.1,.inl ⟨_,_,_,h.blk,.inl rfl⟩⟩
theorem fB.snoc{w:World}{base:Nat}{ub:Option Nat}{k:Int}{l0:List Int}{v:Value}(ho:aL w base 3 1 v l0.length (gY l0))(hu:∀g,v.ownBlock=some g->ub≠some g):∀{l:List (Int×List Int)}{vals:List (Int×Value)},fB w base ub l vals->(∀g,v.ownBlock=some g->∀y∈vals,y.2.ownBlock≠some g)->fB w base ub (l++[(k,l0)]) (vals++[(k,v)])
 | [],vals,h,hn=>by
  have:vals=[]:=h;subst this;exact⟨v,[],rfl,ho,fun g hg=>⟨hu g hg,by simp⟩,rfl⟩
 | x::l,vals,h,hn=>by
  obtain⟨v1,vs,rfl,h2,h3,h4⟩:=h;refine⟨v1,vs++[(k,v)],rfl,h2,fun g hg=>⟨(h3 g hg).1,fun y hy=>?_⟩,fB.snoc ho hu h4 fun g hg y hy=>hn g hg y (by simp[hy])⟩;rcases List.mem_append.1 hy with hy|hy
  ·exact(h3 g hg).2 y hy
  ·rw[List.mem_singleton]at hy
   subst hy;exact fun e=>hn g e (x.1,v1) (by simp) hg
theorem fB.lt{w:World}{base:Nat}{ub:Option Nat}:∀{l:List (Int×List Int)}{vals:List (Int×Value)},fB w base ub l vals->∀y∈vals,∀g,y.2.ownBlock=some g->g<w.heap.size
 | [],vals,h,y,hy=>by
  have:vals=[]:=h;subst this
  cases hy
 | x::l,vals,h,y,hy=>by
  obtain⟨v1,vs,rfl,h2,h3,h4⟩:=h;rcases List.mem_cons.1 hy with rfl|hy
  ·exact fun g hg=>(h2.lt g hg).2
  ·exact fB.lt h4 y hy
theorem fB.keys{w:World}{base:Nat}{ub:Option Nat}:∀{l:List (Int×List Int)}{vals:List (Int×Value)},fB w base ub l vals->vals.map (·.1)=l.map (·.1)
 | [],vals,h=>by
  have:vals=[]:=h;subst this;rfl
 | x::l,vals,h=>by
  obtain⟨v1,vs,rfl,h2,h3,h4⟩:=h;simp[fB.keys h4]
theorem PN{K:Type}[DecidableEq K]:∀{m:List (K×Value)}{k:K}(v:Value),k ∉ m.map (·.1)->pE m k v=m++[(k,v)]
 | [],_,_,_=>rfl
 | x::m,k,v,h=>by
  rw[List.map_cons,List.mem_cons]at h;have hk:k≠x.1:=fun e=>h (.inl e)
  rw[Fj _ _ _ _ hk,PN v fun h1=>h (.inr h1)];rfl
theorem Fp{K V:Type}[DecidableEq K]:∀{l:List (K×V)}{k:K}(v:V),k ∉ l.map (·.1)->cZ l k v=l++[(k,v)]
 | [],_,_,_=>rfl
 | x::l,k,v,h=>by
  rw[List.map_cons,List.mem_cons]at h;have hk:k≠x.1:=fun e=>h (.inl e)
  rw[cZ,if_neg hk,Fp v fun h1=>h (.inr h1)];rfl
theorem aV.TJ{E:RC}{G:bf}{r:RS}{V:RV}{w w1 w':World}(h:aV E G r V w)(hbs:E.base<=w.heap.size)(hb:Below w.heap.size w w1)(n:Int)(l:List Int)(v:Value)(ho:aL w1 w.heap.size 3 1 v l.length (gY l))(hn:n ∉ r.aS.map (·.1))(M:Nat->Prop)(hM:M E.vi)
 (hm:aY kC w' E.vi (pE V.vals n v)) (hs:aF (fun g=>g=E.vi) w1 w'):
 aV E G { r with aS:=cZ r.aS n l } { V with vals:=pE V.vals n v } w'/\KX E M w w':=by
 have h1:=h.below hb;have hmap:=h1.vi.isMap
 have hnot:∀{g:Nat}{t:TypeId}{cs:Array Value},ai w1 g t cs->g≠E.vi:=fun hb e=>by
  obtain⟨es,ck,ho⟩:=hmap;subst e;have:w1.heap[_]? =some (Obj.cells _ _ (0,0)):=hb;rw[ho]at this;cases this
 have how:∀{e size v n xs base},aL w1 base e size v n xs->aL w' base e size v n xs:=fun ha=>ha.since hs (fun g hg e=>by
  subst e;obtain⟨cur,hc⟩:=ha.obj _ hg;obtain⟨es,ck,ho⟩:=hmap;rw[ho]at hc
  cases hc)
 have hkeys:n ∉ V.vals.map (·.1):=by rw[h.aS.keys];exact hn
 refine⟨⟨h1.blk.since hs (hnot h1.blk),h1.gl.since hs (fun e=>h.apart.1 e.symm),h1.fl.since hs (fun e=>h.apart.2.1 e.symm),h1.kn.since hs (fun e=>h.apart.2.2 e.symm),hm,?_,how h1.ds,how h1.us,how h1.ps,h.low,h.apart⟩,?_⟩
 ·show fB w' E.base (Value.slice E.uA r.uses.length E.uc).ownBlock (cZ r.aS n l) (pE V.vals n v)
  rw[Fp l hn,PN v hkeys];refine fB.snoc (how (ho.mono hbs)) (fun g hg e=>?_) (fB.of_block h1.aS fun g cur hg _=>hs.block g (abH.1 hg).1 fun e=>?_) (fun g hg y hy e=>?_)
  ·have h3:=(ho.lt g hg).1
   have h4:=(h.us.lt g e).2;omega
  ·subst e
   obtain⟨es,ck,ho⟩:=hmap;rw[ho]at hg;cases hg
  ·have h3:=(ho.lt g hg).1
   have h4:=h.aS.lt y hy g e;omega
 ·exact(KX.of_below (M:=M) hb).trans (KX.oo hs hM h.low.2 hmap) (fun g hg=>.inl hg)
theorem aV.xS{E:RC}{G:bf}{r:RS}{V:RV}{w w':World}{M:Nat->Prop}(h:aV E G r V w)(hk:KX E M w w'){g:Nat}{cs:Array Value}(hb:ai w g 24 cs):ai w' g 24 cs:=hk.blk hb (by decide) (by decide) (by decide) (h.TK hb)
theorem aV.Fw{E:RC}{G:bf}{r:RS}{V:RV}{w w':World}{M:Nat->Prop}(h:aV E G r V w)(hk:KX E M w w'){g:Nat}{cs:Array Value}(hb:ai w g 68 cs):ai w' g 68 cs:=hk.blk hb (by decide) (by decide) (by decide) (h.Ya hb)
theorem bne_dec(a b:Int):(a !=b)=decide (a≠b):=by by_cases h:a=b<;>simp[h]
theorem Pk(E:RC)(G:bf)(B:Nat)(hB:B<=E.base)(x:ByteArray)(a e:Int)(kids:List ae)(hih:∀k∈kids,gz E G B k):gz E G B (.node 3 x a e kids):=by
 intro i s p ms r V w A c h hs hsep hk hcap hbase hv hrb;obtain⟨nk,hnk⟩:∃q,kids.length=q:=⟨_,rfl⟩
 have hvk:lU s.isEmpty kids=true:=by
  rw[qb,if_neg (by decide),if_neg (by decide),if_neg (by decide)]at hv;exact hv
 have hq:aJ G i (.node 3 x a e kids) s r=ah G i kids 0 kids.length s { aU (aC r i (aj (ak s))) 0 r.next (.node 3 x a e kids) (decide ((aT G.globals x).getD 0≠(r.next:Int))) with owner:=(r.next:Int) }:=by rw[dh,if_pos rfl]
 rw[hq,hnk];obtain⟨Q,hQ⟩:∃Q,ah G i kids 0 nk s { aU (aC r i (aj (ak s))) 0 r.next (.node 3 x a e kids) (decide ((aT G.globals x).getD 0≠(r.next:Int))) with owner:=(r.next:Int) }=Q:=⟨_,rfl⟩
 rw[hQ];have HQ:=kH hQ;clear hq hQ;unfold bD;have sI:(ae.node 3 x a e kids).kind=3/\(ae.node 3 x a e kids).text=x/\(ae.node 3 x a e kids).at_=a/\(ae.node 3 x a e kids).end_=e/\(ae.node 3 x a e kids).kids=kids:=⟨rfl,rfl,rfl,rfl,rfl⟩
 rw[sI.1,sI.2.1,sI.2.2.1,sI.2.2.2.1,sI.2.2.2.2,hnk];rw[sI.2.2.2.2]at hk hcap;rw[hnk]at hcap;obtain⟨nx,hnx⟩:∃q,r.next=q:=⟨_,rfl⟩
 have hnb:nx<=1000000:=by have:=hrb.room;have:=hrb.most;omega
 have ry:w.cell? ⟨E.rp,7,none⟩=some (.int .i64 (nx:Int)):=by rw[<- hnx];exact h.blk.cell 7
 have hrw:=h.blk.lt;have hwn:IntKind.i64.wrap ((nx:Int)+1)=(nx:Int)+1:=IntWalk.i64_in _ (by omega);have hfx:=h.blk.frozen 7;have H:=kH h;have HS:=kH hs;have HK:=kH hk;have dH:=kH hrb;have bF:=kH hnx;have fQ:=kH hnk;have kZ:=kH hvk;have fD:=kH hih;have HCAP:=kH hcap;have dC:=kH hbase;clear h hs hk hrb hnx hnk hvk hih hv sI hcap hbase;go_enter Tryz.func79,Tryz.ntmps79
 go_upto_if 32 with fail
 generalize hW3:(((w.setCell ⟨E.rp,7,none⟩ (.int .i64 ((nx:Int)+1))).alloc (.cells #[.pointer (some ⟨E.rp,0,none⟩)] 68)).alloc (.cells #[.int .i64 3,.string x,.int .i64 a,.int .i64 e,.slice A nk c] 24))=W3
 obtain⟨hr3,hk3⟩:=H.out.TF (nx+1) (fun _=>False)
 have hbW:Below w.heap.size (w.setCell ⟨E.rp,7,none⟩ (.int .i64 ((nx:Int)+1))) W3:=by
  rw[<- hW3];have h1:=ag (w.setCell ⟨E.rp,7,none⟩ (.int .i64 ((nx:Int)+1))) (.cells #[.pointer (some ⟨E.rp,0,none⟩)] 68);have h2:=ag ((w.setCell ⟨E.rp,7,none⟩ (.int .i64 ((nx:Int)+1))).alloc (.cells #[.pointer (some ⟨E.rp,0,none⟩)] 68)) (.cells #[.int .i64 3,.string x,.int .i64 a,.int .i64 e,.slice A nk c] 24);have h3:=h1.trans (h2.mono (by simp));simpa using h3
 have hsz3:W3.heap.size=w.heap.size+2:=by rw[<- hW3];simp
 have EJ:ai W3 (w.heap.size+1) 24 #[.int .i64 3,.string x,.int .i64 a,.int .i64 e,.slice A nk c]:=by
  have:=ai.new ((w.setCell ⟨E.rp,7,none⟩ (.int .i64 ((nx:Int)+1))).alloc (.cells #[.pointer (some ⟨E.rp,0,none⟩)] 68)) 24 #[.int .i64 3,.string x,.int .i64 a,.int .i64 e,.slice A nk c];rw[hW3]at this;simpa using this
 have hp3:ai W3 w.heap.size 68 #[.pointer (some ⟨E.rp,0,none⟩)]:=by
  have:=(ai.new (w.setCell ⟨E.rp,7,none⟩ (.int .i64 ((nx:Int)+1))) 68 #[.pointer (some ⟨E.rp,0,none⟩)]).alloc (.cells #[.int .i64 3,.string x,.int .i64 a,.int .i64 e,.slice A nk c] 24);rw[hW3]at this;simpa using this
 have HR3:Hid (aV E G { r with next:=nx+1 } V W3):=kH (hr3.below (by simpa using hbW));have gM:Hid (KX E (fun _=>False) w W3):=kH (hk3.trans (KX.of_below (M:=fun _=>False) (by simpa using hbW)) (fun g hg=>.inl hg));have iQ:Hid (bL W3 E.base p s ms):=kH (bL.kx gM.out H.out.om HS.out (fun _ _ h=>h));have jH:=kH EJ;have iM:=kH hp3;have HSZ3:=kH hsz3;have c5:W3.cell? ⟨E.rp,5,none⟩=some (.map (some E.vi)):=HR3.out.blk.cell 5;have p0:=hp3.cell 0;have qy:=HR3.out.blk.lt;have rf:=hp3.lt;clear hW3 hr3 hk3 hbW EJ hp3 hsz3 ry hfx;go_cut [] (fun wx=> ∃Vx,Hid (aV E G (aC r i (aj (ak s))) Vx wx)/\Hid (KX E (fun g=>g=E.vi) W3 wx))
 case first=>
  cases i with
  | false=>
   go_wp2_with fail
   go_meet
   exact⟨V,by have:=HR3.out;rw[<- bF.out]at this;exact kH this,kH (KX.refl _ _ _)⟩
  | true=>
   have hbz:E.base<=W3.heap.size:=abF dC.out gM.out.size;have hall:=Uq E.base s p ms W3.drew (bL.below ((Below.refl _ W3).drew) iQ.out) (by have:=dH.out.Xa;have:=bF.out;omega);have iO:=kH hall
   have kF:∀w':World,aF (fun g=>g=E.vi) W3 w'->w'.cell? ⟨E.rp,5,none⟩=some (.map (some E.vi))/\w'.cell? ⟨w.heap.size,0,none⟩=some (.pointer (some ⟨E.rp,0,none⟩)):=fun w' hw=>by
    have nm:∀{g:Nat}{t:TypeId}{cs:Array Value},ai W3 g t cs->g≠E.vi:=fun hb e=>by
     obtain⟨es,ck,ho⟩:=HR3.out.vi.isMap;subst e;have:W3.heap[_]? =some (Obj.cells _ _ (0,0)):=hb;rw[ho]at this;cases this
    exact⟨(HR3.out.blk.since hw (nm HR3.out.blk)).cell 5,(iM.out.since hw (nm iM.out)).cell 0⟩
   have dU:=kH kF;have hs0:aF (fun g=>g=E.vi) W3 W3.drew:=(aF.refl _ W3).drew
   have nC:(nx:Int) ∉ r.aS.map (·.1):=fun hm=>by
    obtain⟨y,hy,he⟩:=List.mem_map.1 hm;have:=dH.out.aS y hy;have:=bF.out;omega
   have HVN:=kH nC;clear hall kF nC;go_wp2_with fail
   go_region_held3 (fun w'=>w'.cell? ⟨E.rp,5,none⟩=some (.map (some E.vi))/\w'.cell? ⟨w.heap.size,0,none⟩=some (.pointer (some ⟨E.rp,0,none⟩))) (exact dU.out _ (by assumption)) ((go_at_call 145;refine iO.out.mono ?_;rintro e5 w5 ⟨v5,rfl,jR,hb5⟩;have hs5:=hs0.below hb5;obtain⟨w6,hrun,gQ,Q6,hz6⟩:=fF (P:=Tryz.prog) (KK:=kC) (t:=72) (kt:=3) (et:=28) Tryz.underlying72 Tryz.underlying3 ((aY.drew HR3.out.vi).IL hb5) (nx:Int) v5;change (Instr.mapUpdate 72 (.map (some E.vi)) (Value.int .i64 (nx:Int)) v5).run Tryz.prog w5=_ at hrun;have hs6:aF (fun g=>g=E.vi) w5 w6:=(aF.refl (fun g=>g=E.vi) w5).grown Q6 (fun k hk=>by cases hk;exact .inl rfl);have hs7:=hs5.trans hs6))
   have hlen:(aj (ak s)).length=(ak s).length:=List.length_mergeSort _;have wW:Below W3.heap.size W3 w5:=((Below.refl _ W3).drew).trans hb5;have uJ:=HR3.out.TJ hbz wW (nx:Int) (aj (ak s)) v5 (by rw[hlen];exact jR) HVN.out (fun g=>g=E.vi) rfl gQ hs6;have yD:=kH uJ;clear uJ hs5 hs6 hs7 hz6 gQ wW hb5 jR hs0 hrun Q6;go_wp2_with fail
   go_meet
   exact⟨_,by have:=yD.out.1;rw[<- bF.out]at this;exact kH this,kH yD.out.2⟩
 case rest=>
  obtain⟨Vx,gW,mH⟩:=hcut;have hnx:(aC r i (aj (ak s))).next=nx+1:=by rw[<- bF.out];rfl
  have Dt:Hid (KX E (fun g=>g=E.vi) w wc):=kH ((gM.out.mono (fun _ hf=>hf.elim)).trans mH.out (fun g hg=>.inl hg));have Bf:Hid (bL wc E.base p s ms):=kH (bL.kx mH.out HR3.out.om iQ.out (fun m hm e=>(hsep.apart m hm).2.2.2 e));have NQ:=HR3.out.xS mH.out jH.out;have hpX:=HR3.out.Fw mH.out iM.out;have hlk:=fun q=>pG (wc.drewN q) E.g G.globals (aY.drewN gW.out.gl q) x
  obtain⟨gi,hgi⟩:∃q,(bG G.globals x).getD 0=q:=⟨_,rfl⟩
  obtain⟨gb,hgb⟩:∃q,(bG G.globals x).isSome=q:=⟨_,rfl⟩
  rw[hgi,hgb]at hlk;have c0:=gW.out.blk.cell 0;have lr:=gW.out.blk.lt;have q0:=hpX.cell 0;have lp:=hpX.lt;have n0:=NQ.cell 0;have n1:=NQ.cell 1;have n2:=NQ.cell 2;have n3:=NQ.cell 3;have n4:=NQ.cell 4;have ln:=NQ.lt;have HNXB:=kH NQ;have HPXB:=kH hpX;have uO:=kH hgi;have zx:=kH hgb;clear NQ hpX hgi hgb c5 p0 qy rf;have hsl:=dM.none_ r i (aj (ak s))
  have hdec:∀q al,Calls Tryz.prog 147 #[.pointer (some ⟨E.rp,0,none⟩),.int .i64 0,.int .i64 (nx:Int),.agg #[.int .i64 3,.string x,.int .i64 a,.int .i64 e,.slice A nk c],.bool al] (wc.drewN q) fun e' w'=>e'= .returned (.bool (!al))/\∃V',aV E G (aU (aC r i (aj (ak s))) 0 nx (.node 3 x a e kids) al) V' w'/\KX E (fun _=>False) (wc.drewN q) w':=fun q al=>by
   have h1:=dH.out;have h2:=h1.room;have h3:=nJ (.node 3 x a e kids);have:=AY E G (aC r i (aj (ak s))) Vx (wc.drewN q) (gW.out.below (aR (Below.refl _ _) q)) (by show r.ds.length<=_;have:=h1.ds;have:=bF.out;omega) (by show r.aW.length<=_;have:=h1.aW;have:=bF.out;omega) (abF dC.out (KX.low Dt.out dC.out).size) 0 nx (by show nx<r.uses.length;have:=bF.out;omega) (.node 3 x a e kids) A c al (fun _=>False);rw[<- fQ.out];exact this
  have GD:=kH hdec;clear hdec hsl;go_wp2_with fail
  go_quiet (fail)
  go_wp2_with fail
  refine(GD.out _ _).mono ?_;rintro e8 w8 ⟨rfl,V8,h8,k8⟩;have Yj:KX E (fun _=>False) wc w8:=(KX.of_below (M:=fun _=>False) (aR (Below.refl wc.heap.size wc) _)).trans k8 (fun g hg=>hg.elim);have HS8:Hid (bL w8 E.base p s ms):=kH (bL.kx Yj gW.out.om Bf.out (fun _ _ h=>h));have Gv:=kH (gW.out.xS Yj HNXB.out);have HP8:=kH (gW.out.Fw Yj HPXB.out);have ng:Hid (KX E (fun g=>g=E.vi) w w8):=kH (Dt.out.trans Yj (fun g hg=>hg.elim));have EU:=kH h8;have q8:=HP8.out.cell 0;have Ap:=HP8.out.lt;have o8:w8.cell? ⟨E.rp,8,none⟩=some (.int .i64 (aU (aC r i (aj (ak s))) 0 nx (.node 3 x a e kids) (gi !=(nx:Int))).owner):=EU.out.blk.cell 8;have l8:=EU.out.blk.lt;have m0:=Gv.out.cell 0;have m4:=Gv.out.cell 4;have lm8:=Gv.out.lt;have fo8:=EU.out.blk.frozen 8;obtain⟨ow,how⟩:∃q,(aU (aC r i (aj (ak s))) 0 nx (.node 3 x a e kids) (gi !=(nx:Int))).owner=q:=⟨_,rfl⟩
  rw[how]at o8;obtain⟨IA,vU⟩:=EU.out.PL (nx:Int) (fun _=>False);obtain⟨W9,qA⟩:∃W9,w8.setCell ⟨E.rp,8,none⟩ (.int .i64 (nx:Int))=W9:=⟨_,rfl⟩
  rw[qA]at IA vU
  have aas:rC r { aU (aC r i (aj (ak s))) 0 nx (.node 3 x a e kids) (gi !=(nx:Int)) with owner:=(nx:Int) }:=by
   have:=dM.trans (dM.declare r i (aj (ak s)) 0 (.node 3 x a e kids) (gi !=(nx:Int))) (dM.owner _ (nx:Int));rw[bF.out]at this;exact this
  have hne9:({ aU (aC r i (aj (ak s))) 0 nx (.node 3 x a e kids) (gi !=(nx:Int)) with owner:=(nx:Int) }:RS).next=nx+1:=by
   have:=rV r i (aj (ak s)) 0 (.node 3 x a e kids) (gi !=(nx:Int));rw[bF.out]at this;exact this
  have hrb9:RB { aU (aC r i (aj (ak s))) 0 nx (.node 3 x a e kids) (gi !=(nx:Int)) with owner:=(nx:Int) } s (aG ((kids.drop 0).take nk)):=by
   refine dH.out.slow aas (by have:=aas.next;omega) ?_;rw[hne9,<- fQ.out];have:=bF.out;simp[au];omega
  have hcall:=QH E G B hB kids fD.out i s p ms _ V8 W9 3 x a e A nk c 0 nk nk (w.heap.size+1) w.heap.size fQ.out (by omega) IA (bL.kx vU EU.out.om HS8.out (fun _ _ h=>h)) hsep (aK.below (((KX.low ng.out dC.out).trans (KX.low vU (abF dC.out (KX.low ng.out dC.out).size))).mono hB) (abE _) _ _ _ HK.out) HCAP.out (by omega) (abF (abF dC.out (KX.low ng.out dC.out).size) vU.size) (EU.out.xS vU Gv.out) (EU.out.Fw vU HP8.out) kZ.out hrb9
  have jr:ah G i kids 0 nk s { aU (aC r i (aj (ak s))) 0 nx (.node 3 x a e kids) (gi !=(nx:Int)) with owner:=(nx:Int) }=Q:=by
   rw[<- HQ.out,bne_dec,<- uO.out,bF.out]
  rw[jr]at hcall;have m9:=(EU.out.xS vU Gv.out).cell 4;have lm9:=(EU.out.xS vU Gv.out).lt;have HC9:=kH hcall;have Gx:=kH vU;clear hcall vU IA jr hrb9 hne9 aas how Yj h8 k8;go_wp2_with (rw[qA])
  refine HC9.out.mono ?_;rintro e10 bA ⟨rfl,yT,h10,s10,k10⟩;have HE:Hid (∃V',aV E G Q.1 V' bA/\bL bA E.base p Q.2 ms/\KX E (fun g=>g=E.vi\/ms.head? =some g) w bA):=kH ⟨yT,h10,s10,((ng.out.mono (M':=fun g=>g=E.vi\/ms.head? =some g) (fun _ h=>.inl h)).trans Gx.out (fun g hg=>hg.elim)).trans k10 (fun g hg=>.inl hg)⟩;clear h10 s10 k10 HC9 m9;go_wp2_with fail
  go_end0
  exact⟨rfl,HE.out⟩
structure NB where
 kids:List ae
 k:Int
 x:ByteArray
 a:Int
 z:Int
 A:Option Addr
 nk:Nat
 c:Nat
 bn:Nat
 br:Nat
structure VW (E:RC) (G:bf) (B:Nat) (N:NB) (w0:World) (M:Nat->Prop) (r:RS) (V:RV) (s:aQ) (p:Option Addr) (ms:List Nat) (w:World):Prop where
 R:aV E G r V w
 S:bL w E.base p s ms
 N_:ai w N.bn 24 #[.int .i64 N.k,.string N.x,.int .i64 N.a,.int .i64 N.z,.slice N.A N.nk N.c]
 P:ai w N.br 68 #[.pointer (some ⟨E.rp,0,none⟩)]
 K:KX E M w0 w
 KD:aK w B N.A 0 N.kids
 base:E.base<=w.heap.size
 low:B<=E.base
section
variable {E:RC}{G:bf}{B:Nat}{N:NB}{w0 w w':World}{M M':Nat->Prop}{r r':RS}{V V':RV}{s s':aQ}{p p':Option Addr}{ms ms':List Nat}
theorem VW.step(h:VW E G B N w0 M r V s p ms w)(hk:KX E M' w w')(hr:aV E G r' V' w')(hs:bL w' E.base p' s' ms')(hM:∀g,M' g->M g\/w0.heap.size<=g):VW E G B N w0 M r' V' s' p' ms' w' where
 R:=hr
 S:=hs
 N_:=h.R.xS hk h.N_
 P:=h.R.Fw hk h.P
 K:=h.K.trans hk hM
 KD:=aK.below ((KX.low hk h.base).mono h.low) (abE _) _ _ _ h.KD
 base:=abF h.base hk.size
 low:=h.low
theorem VW.OZ(h:VW E G B N w0 M r V s p ms w)(hk:KX E M' w w')(hr:aV E G r' V' w')(hms:∀m∈ms,¬M' m)(hM:∀g,M' g->M g\/w0.heap.size<=g):VW E G B N w0 M r' V' s p ms w':=
 h.step hk hr (bL.kx hk h.R.om h.S hms) hM
theorem VW.below(h:VW E G B N w0 M r V s p ms w)(hb:Below w.heap.size w w'):VW E G B N w0 M r V s p ms w':=
 h.step (KX.of_below (M:=fun _=>False) hb) (h.R.below hb) (h.S.below hb) (fun _ hf=>hf.elim)
theorem VW.drewN(h:VW E G B N w0 M r V s p ms w)(q:Nat):VW E G B N w0 M r V s p ms (w.drewN q):=h.below (aR (Below.refl _ _) q)
theorem VW.other(h:VW E G B N w0 M r V s p ms w)(hs:bL w E.base p' s' ms'):VW E G B N w0 M r V s' p' ms' w:=⟨h.R,hs,h.N_,h.P,h.K,h.KD,h.base,h.low⟩
theorem VW.cells(h:VW E G B N w0 M r V s p ms w):(w.cell? ⟨N.br,0,none⟩=some (.pointer (some ⟨E.rp,0,none⟩))/\N.br<w.heap.size)/\(w.cell? ⟨N.bn,0,none⟩=some (.int .i64 N.k)/\w.cell? ⟨N.bn,1,none⟩=some (.string N.x)/\w.cell? ⟨N.bn,2,none⟩=some (.int .i64 N.a)/\w.cell? ⟨N.bn,3,none⟩=some (.int .i64 N.z)/\w.cell? ⟨N.bn,4,none⟩=some (.slice N.A N.nk N.c)/\N.bn<w.heap.size) /\
 (w.cell? ⟨E.rp,0,none⟩=some (.map (some E.g))/\w.cell? ⟨E.rp,1,none⟩=some (.map (some E.f))/\w.cell? ⟨E.rp,2,none⟩=some (.map (some E.k))/\w.cell? ⟨E.rp,8,none⟩=some (.int .i64 r.owner)/\E.rp<w.heap.size):=
 ⟨⟨h.P.cell 0,h.P.lt⟩,⟨h.N_.cell 0,h.N_.cell 1,h.N_.cell 2,h.N_.cell 3,h.N_.cell 4,h.N_.lt⟩,⟨h.R.blk.cell 0,h.R.blk.cell 1,h.R.blk.cell 2,h.R.blk.cell 8,h.R.blk.lt⟩⟩
theorem VW.drew(h:VW E G B N w0 M r V s p ms w):VW E G B N w0 M r V s p ms w.drew:=h.below ((Below.refl _ _).drew)
theorem VW.kids(h:VW E G B N w0 M r V s p ms w)(hih:∀k∈N.kids,gz E G B k)(i:Bool)(f n Np:Nat)(hto:Np=f+n)(hnk:N.kids.length=N.nk)(hfn:f+n<=N.nk)(hcap:N.nk<=N.c)(hv:lU s.isEmpty N.kids=true)(hrb:RB r s (aG ((N.kids.drop f).take n)))(hsep:Dm E ms)
 (hM:∀g,(g=E.vi\/ms.head? =some g)->M g\/w0.heap.size<=g):
 Calls Tryz.prog 146 #[.int .i64 (f:Int),.int .i64 (Np:Int),.pointer p,.bool i,.pointer (some ⟨N.bn,0,none⟩),.pointer (some ⟨N.br,0,none⟩)] w fun e w'=>e= .returned (.tuple #[])/\KX E (fun g=>g=E.vi\/ms.head? =some g) w w'/\∃V',VW E G B N w0 M (ah G i N.kids f n s r).1 V' (ah G i N.kids f n s r).2 p ms w':=
 (QH E G B h.low N.kids hih i s p ms r V w N.k N.x N.a N.z N.A N.nk N.c f n Np N.bn N.br hnk hto h.R h.S hsep h.KD hcap hfn h.base h.N_ h.P hv hrb).mono fun _ _ ⟨h1,V',h2,h3,h4⟩=>⟨h1,h4,V',h.step h4 h2 h3 hM⟩
theorem VW.Jb(h:VW E G B N w0 M r V s p ms w)(t:ae)(ht:t.kind=N.k/\t.text=N.x/\t.at_=N.a/\t.end_=N.z/\t.kids=N.kids)(hnk:N.kids.length=N.nk)(hP:r.aW.length<=1000000)(n:Nat)(hn:n<r.uses.length)(tq:Option Int)(y:Int)(hy:∀k,tq=some k->k=y):
 Calls Tryz.prog 149 #[.pointer (some ⟨E.rp,0,none⟩),.int .i64 (n:Int),.agg #[.int .i64 N.k,.string N.x,.int .i64 N.a,.int .i64 N.z,.slice N.A N.nk N.c],.int .i64 y,.bool tq.isSome] w fun e w'=>e= .returned (.tuple #[])/\∃V',VW E G B N w0 M (gT r n t tq) V' s p ms w':=by
 have:=use_any E G r V w h.R hP h.base n hn t N.A N.c tq y hy (fun _=>False);unfold bD at this;rw[ht.1,ht.2.1,ht.2.2.1,ht.2.2.2.1,ht.2.2.2.2,hnk]at this;exact this.mono fun _ _ ⟨h1,V',h2,h3⟩=>⟨h1,V',h.OZ h3 h2 (fun _ _ hf=>hf) (fun _ hf=>hf.elim)⟩
theorem VW.RG(h:VW E G B N w0 M r V s p ms w)(t:ae)(ht:t.kind=N.k/\t.text=N.x/\t.at_=N.a/\t.end_=N.z/\t.kids=N.kids)(hnk:N.kids.length=N.nk)(hD:r.ds.length<=1000000)(hP:r.aW.length<=1000000)(kind:Int)(n:Nat)(hn:n<r.uses.length)(al:Bool):
 Calls Tryz.prog 147 #[.pointer (some ⟨E.rp,0,none⟩),.int .i64 kind,.int .i64 (n:Int),.agg #[.int .i64 N.k,.string N.x,.int .i64 N.a,.int .i64 N.z,.slice N.A N.nk N.c],.bool al] w fun e w'=>e= .returned (.bool (!al))/\∃V',VW E G B N w0 M (aU r kind n t al) V' s p ms w':=by
 have:=AY E G r V w h.R hD hP h.base kind n hn t N.A N.c al (fun _=>False);unfold bD at this;rw[ht.1,ht.2.1,ht.2.2.1,ht.2.2.2.1,ht.2.2.2.2,hnk]at this;exact this.mono fun _ _ ⟨h1,V',h2,h3⟩=>⟨h1,V',h.OZ h3 h2 (fun _ _ hf=>hf) (fun _ hf=>hf.elim)⟩
theorem VW.nL(h:VW E G B N w0 M r V s p ms w)(t:ae)(ht:t.kind=N.k/\t.text=N.x/\t.at_=N.a/\t.end_=N.z/\t.kids=N.kids)(hnk:N.kids.length=N.nk)(hD:r.ds.length<=1000000)(hP:r.aW.length<=1000000)(kind:Int)(n:Nat)(hn:n<r.uses.length)
 (l:kP) (s2:aQ) (m:Nat) (wL:List Nat) (hs2:bL w E.base p' (l::s2) (m::wL)) (hsep:Dm E (m::wL)) (hM:M m\/w0.heap.size<=m):
 Calls Tryz.prog 148 #[.pointer (some ⟨E.rp,0,none⟩),.int .i64 kind,.int .i64 (n:Int),.agg #[.int .i64 N.k,.string N.x,.int .i64 N.a,.int .i64 N.z,.slice N.A N.nk N.c],.pointer p'] w fun e w'=>e= .returned (.tuple #[])/\KX E (fun g=>g=m) w w'/\∃V',VW E G B N w0 M (aD G r kind n t (l::s2)).1 V' (aD G r kind n t (l::s2)).2 p' (m::wL) w':=by
 have:=OE E G r V w h.R hD hP h.base kind n hn t N.A N.c l s2 p' m wL hs2 hsep;unfold bD at this;rw[ht.1,ht.2.1,ht.2.2.1,ht.2.2.2.1,ht.2.2.2.2,hnk]at this;exact this.mono fun _ _ ⟨h1,V',h2,h3,h4⟩=>⟨h1,h4,V',h.step h4 h2 h3 (fun g hg=>by rw[hg];exact hM)⟩
theorem bL.tail{b m:Nat}(h:bL w E.base (some ⟨b,0,none⟩) s (m::ms))(hb:ai w b 95 #[.pointer p,.map (some m)]):bL w E.base p s.tail ms:=by
 cases s with
 | nil=>exact absurd h.2 (by simp)
 | cons l s=>
  obtain⟨b',m',p',ms',h1,h2,_,_,h5,_,h7⟩:=h;simp only[List.cons.injEq]at h2;obtain⟨rfl,rfl⟩:=h2;simp only[abJ,Addr.mk.injEq,and_true]at h1;subst h1;have e1:w.heap[b]? =some (Obj.cells _ _ (0,0)):=hb;have e2:w.heap[b]? =some (Obj.cells _ _ (0,0)):=h5;rw[e1]at e2;simp at e2;rw[e2];exact h7
theorem bL.head{b m:Nat}{l:kP}(h:bL w E.base (some ⟨b,0,none⟩) (l::s) (m::ms)):aY jg w m (jC l)/\E.base<=b/\E.base<=m/\∃p,ai w b 95 #[.pointer p,.map (some m)]/\bL w E.base p s ms:=by
 obtain⟨b',m',p',ms',h1,h2,h3,h4,h5,h6,h7⟩:=h;simp only[List.cons.injEq]at h2;obtain⟨rfl,rfl⟩:=h2;simp only[abJ,Addr.mk.injEq,and_true]at h1;subst h1;exact⟨h6,h3,h4,p',h5,h7⟩
theorem VW.xP(h:VW E G B N w0 M r V s p ms w)(hk:KX E M' w w'){g:Nat}{cs:Array Value}(hb:ai w g 95 cs):ai w' g 95 cs:=
 hk.blk hb (by decide) (by decide) (by decide) (fun e=>h.R.om g cs e hb)
theorem Dm.cons{m:Nat}(h:Dm E ms)(hm:m ∉ ms)(h2:m≠E.g/\m≠E.f/\m≠E.k/\m≠E.vi):Dm E (m::ms):=
 ⟨List.nodup_cons.2 ⟨hm,h.nodup⟩,fun x hx=>by rcases List.mem_cons.1 hx with rfl|hx;exact h2;exact h.apart x hx⟩
theorem bL.lt:∀{s:aQ}{p:Option Addr}{ms:List Nat},bL w E.base p s ms->∀m∈ms,m<w.heap.size
 | [],_,_,h,m,hm=>by rw[h.2]at hm;cases hm
 | _::_,_,_,⟨_,m',_,ms',_,h2,_,_,_,h6,h7⟩,m,hm=>by
  rw[h2]at hm;rcases List.mem_cons.1 hm with rfl|hm
  ·exact h6.lt
  ·exact bL.lt h7 m hm
theorem VW.FK(h:VW E G B N w0 M r V s p ms w){p1:Option Addr}{s1:aQ}{ms1:List Nat}(hs1:bL w E.base p1 s1 ms1)(hsep1:Dm E ms1):
 Calls Tryz.prog 48 #[.pointer p1] w fun e w'=> ∃b m,e= .returned (.pointer (some ⟨b,0,none⟩))/\w.heap.size<=m/\ai w' b 95 #[.pointer p1,.map (some m)]/\aY jg w' m []/\bL w' E.base (some ⟨b,0,none⟩) ([]::s1) (m::ms1)/\Dm E (m::ms1)/\Below w.heap.size w w'/\VW E G B N w0 M r V s p ms w':=by
 refine(FJ p1 w).mono ?_;rintro e w' ⟨b,m,h1,h2,h3,h4,h5,h6⟩;have hv:=h.below h6;refine⟨b,m,h1,h3,h4,h5,⟨b,m,p1,ms1,rfl,rfl,abF h.base h2,abF h.base h3,h4,h5,hs1.below h6⟩,hsep1.cons (fun hm=>?_) ?_,h6,hv⟩
 ·have:=bL.lt hs1 m hm
  omega
 ·have g1:=h.R.gl.lt
  have g2:=h.R.fl.lt;have g3:=h.R.kn.lt;have g4:=h.R.vi.lt;exact⟨by omega,by omega,by omega,by omega⟩
theorem VW.end_(h:VW E G B N w0 (fun g=>g=E.vi\/ms.head? =some g) r V s p ms w):∃V',aV E G r V' w/\bL w E.base p s ms/\KX E (fun g=>g=E.vi\/ms.head? =some g) w0 w:=⟨V,h.R,h.S,h.K⟩
end
theorem Lb(w:World)(r:Nat)(l:kP)(h:aY jg w r (jC l))(x:ByteArray):
 (Instr.lookup 70 (.map (some r)) (.string x) false).run Tryz.prog w= .ok (.int .i64 ((bG l x).getD 0)) w:=by
 have:=vg (P:=Tryz.prog) (KK:=jg) (t:=70) (kt:=9) (et:=3) Tryz.underlying70 Tryz.underlying9 I8 h x;unfold jC at this;rw[FB]at this
 cases hl:bG l x with
 | none=>rw[hl]at this;exact this
 | some k=>rw[hl]at this;exact this
theorem uH(w:World)(r:Nat)(l:List (Int×Int))(h:aY kC w r (uQ l))(x:Int):
 (Instr.lookup 71 (.map (some r)) (.int .i64 x) false).run Tryz.prog w= .ok (.int .i64 ((bG l x).getD 0)) w:=by
 have:=vg (P:=Tryz.prog) (KK:=kC) (t:=71) (kt:=3) (et:=3) Tryz.underlying71 Tryz.underlying3 I8 h x;unfold uQ at this;rw[FB]at this
 cases hl:bG l x with
 | none=>rw[hl]at this;exact this
 | some k=>rw[hl]at this;exact this
theorem RJ(a b:Int):(a !=b)=decide (a≠b):=by by_cases h:a=b<;>simp[h]
theorem RB.kids{r q:RS}{s s':aQ}{t:ae}{f n:Nat}(h:RB r s (au t))(k:rC r q)(ha:(ak s').length+r.next<=(ak s).length+q.next)(hn:q.next<=r.next+1+aG (t.kids.take f)):RB q s' (aG ((t.kids.drop f).take n)):=by
 refine h.slow k ha ?_;have h1:=nJ t;have h2:=AZ t.kids f n;have h3:=Tf t;omega
section
variable {E:RC}{G:bf}{B:Nat}{k:Int}{x:ByteArray}{a e:Int}{kids:List ae}{i:Bool}{s:aQ}{p:Option Addr}{ms:List Nat}{r:RS}{V:RV}{w:World}{A:Option Addr}{c nk nx:Nat}
theorem CS(h:aV E G r V w)(hrb:RB r s (au (.node k x a e kids)))(hnk:kids.length=nk):∃nx:Nat,Hid (r.next=nx)/\nx<=1000000/\nk<=1000000/\w.cell? ⟨E.rp,7,none⟩=some (.int .i64 (nx:Int))/\E.rp<w.heap.size/\IntKind.i64.wrap ((nx:Int)+1)=(nx:Int)+1/\w.frozen? ⟨E.rp,7,none⟩=false:=by
 have h1:=hrb.room;have h2:=hrb.most;have h3:=kV kids;rw[au]at h1;exact⟨r.next,kH rfl,by omega,by omega,h.blk.cell 7,h.blk.lt,IntWalk.i64_in _ (by omega),h.blk.frozen 7⟩
theorem CR{W3:World}(H:Hid (aV E G r V w))(HS:Hid (bL w E.base p s ms))(hW3:(((w.setCell ⟨E.rp,7,none⟩ (.int .i64 ((nx:Int)+1))).alloc (.cells #[.pointer (some ⟨E.rp,0,none⟩)] 68)).alloc (.cells #[.int .i64 k,.string x,.int .i64 a,.int .i64 e,.slice A nk c] 24))=W3):
 Hid (aV E G { r with next:=nx+1 } V W3)/\Hid (KX E (fun _=>False) w W3)/\Hid (bL W3 E.base p s ms)/\Hid (ai W3 (w.heap.size+1) 24 #[.int .i64 k,.string x,.int .i64 a,.int .i64 e,.slice A nk c])/\Hid (ai W3 w.heap.size 68 #[.pointer (some ⟨E.rp,0,none⟩)]) /\
  W3.cell? ⟨E.rp,5,none⟩=some (.map (some E.vi))/\W3.cell? ⟨w.heap.size,0,none⟩=some (.pointer (some ⟨E.rp,0,none⟩))/\E.rp<W3.heap.size/\w.heap.size<W3.heap.size:=by
 obtain⟨hr3,hk3⟩:=H.out.TF (nx+1) (fun _=>False)
 have hbW:Below w.heap.size (w.setCell ⟨E.rp,7,none⟩ (.int .i64 ((nx:Int)+1))) W3:=by
  rw[<- hW3];have h1:=ag (w.setCell ⟨E.rp,7,none⟩ (.int .i64 ((nx:Int)+1))) (.cells #[.pointer (some ⟨E.rp,0,none⟩)] 68);have h2:=ag ((w.setCell ⟨E.rp,7,none⟩ (.int .i64 ((nx:Int)+1))).alloc (.cells #[.pointer (some ⟨E.rp,0,none⟩)] 68)) (.cells #[.int .i64 k,.string x,.int .i64 a,.int .i64 e,.slice A nk c] 24);have h3:=h1.trans (h2.mono (by simp));simpa using h3
 have EJ:ai W3 (w.heap.size+1) 24 #[.int .i64 k,.string x,.int .i64 a,.int .i64 e,.slice A nk c]:=by
  have:=ai.new ((w.setCell ⟨E.rp,7,none⟩ (.int .i64 ((nx:Int)+1))).alloc (.cells #[.pointer (some ⟨E.rp,0,none⟩)] 68)) 24 #[.int .i64 k,.string x,.int .i64 a,.int .i64 e,.slice A nk c];rw[hW3]at this;simpa using this
 have hp3:ai W3 w.heap.size 68 #[.pointer (some ⟨E.rp,0,none⟩)]:=by
  have:=(ai.new (w.setCell ⟨E.rp,7,none⟩ (.int .i64 ((nx:Int)+1))) 68 #[.pointer (some ⟨E.rp,0,none⟩)]).alloc (.cells #[.int .i64 k,.string x,.int .i64 a,.int .i64 e,.slice A nk c] 24);rw[hW3]at this;simpa using this
 have HR3:aV E G { r with next:=nx+1 } V W3:=hr3.below (by simpa using hbW);have gM:KX E (fun _=>False) w W3:=hk3.trans (KX.of_below (M:=fun _=>False) (by simpa using hbW)) (fun g hg=>.inl hg);exact⟨kH HR3,kH gM,kH (bL.kx gM H.out.om HS.out (fun _ _ h=>h)),kH EJ,kH hp3,HR3.blk.cell 5,hp3.cell 0,HR3.blk.lt,hp3.lt⟩
variable {W3:World}
theorem CQ(HR3:Hid (aV E G { r with next:=nx+1 } V W3)) (iM:Hid (ai W3 w.heap.size 68 #[.pointer (some ⟨E.rp,0,none⟩)])) (iQ:Hid (bL W3 E.base p s ms)) (dH:Hid (RB r s (au (.node k x a e kids)))) (bF:Hid (r.next=nx)) (hn:nx<=1000000):
 Hid (Calls Tryz.prog 145 #[.pointer p] W3.drew fun e w'=> ∃v,e= .returned v/\aL w' W3.drew.heap.size 3 1 v (ak s).length (gY (aj (ak s)))/\Below W3.drew.heap.size W3.drew w') /\
  Hid (∀w':World,aF (fun g=>g=E.vi) W3 w'->w'.cell? ⟨E.rp,5,none⟩=some (.map (some E.vi))/\w'.cell? ⟨w.heap.size,0,none⟩=some (.pointer (some ⟨E.rp,0,none⟩)))/\aF (fun g=>g=E.vi) W3 W3.drew:=by
 refine⟨kH (Uq E.base s p ms W3.drew (bL.below ((Below.refl _ W3).drew) iQ.out) (by have:=dH.out.Xa;have:=bF.out;omega)),kH fun w' hw=>?_,(aF.refl _ W3).drew⟩
 have nm:∀{g:Nat}{t:TypeId}{cs:Array Value},ai W3 g t cs->g≠E.vi:=fun hb e=>by
  obtain⟨es,ck,ho⟩:=HR3.out.vi.isMap;subst e;have:W3.heap[_]? =some (Obj.cells _ _ (0,0)):=hb;rw[ho]at this;cases this
 exact⟨(HR3.out.blk.since hw (nm HR3.out.blk)).cell 5,(iM.out.since hw (nm iM.out)).cell 0⟩
theorem CP{w5:World}(HR3:Hid (aV E G { r with next:=nx+1 } V W3)) (hb5:Below W3.drew.heap.size W3.drew w5) (hs0:aF (fun g=>g=E.vi) W3 W3.drew) (v5:Value):
 aF (fun g=>g=E.vi) W3 w5/\∃w6,(Instr.mapUpdate 72 (.map (some E.vi)) (Value.int .i64 (nx:Int)) v5).run Tryz.prog w5= .ok () w6/\Hid (aY kC w6 E.vi (pE V.vals (nx:Int) v5)/\aF (fun g=>g=E.vi) w5 w6)/\aF (fun g=>g=E.vi) W3 w6:=by
 have hs5:=hs0.below hb5;obtain⟨w6,hrun,gQ,Q6,hz6⟩:=fF (P:=Tryz.prog) (KK:=kC) (t:=72) (kt:=3) (et:=28) Tryz.underlying72 Tryz.underlying3 ((aY.drew HR3.out.vi).IL hb5) (nx:Int) v5;have hs6:aF (fun g=>g=E.vi) w5 w6:=(aF.refl (fun g=>g=E.vi) w5).grown Q6 (fun k hk=>by cases hk;exact .inl rfl);exact⟨hs5,w6,hrun,kH ⟨gQ,hs6⟩,hs5.trans hs6⟩
theorem CO{w5 w6:World}{v5:Value}(HR3:Hid (aV E G { r with next:=nx+1 } V W3)) (gM:Hid (KX E (fun _=>False) w W3)) (dH:Hid (RB r s (au (.node k x a e kids)))) (bF:Hid (r.next=nx)) (dC:Hid (E.base<=w.heap.size)) (hb5:Below W3.drew.heap.size W3.drew w5) (jR:aL w5 W3.drew.heap.size 3 1 v5 (ak s).length (gY (aj (ak s))))
 (lF:Hid (aY kC w6 E.vi (pE V.vals (nx:Int) v5)/\aF (fun g=>g=E.vi) w5 w6)):∃Vx,Hid (aV E G (aC r true (aj (ak s))) Vx w6)/\Hid (KX E (fun g=>g=E.vi) W3 w6):=by
 have hlen:(aj (ak s)).length=(ak s).length:=List.length_mergeSort _
 have uJ:=HR3.out.TJ (abF dC.out gM.out.size) (((Below.refl _ W3).drew).trans hb5) (nx:Int) (aj (ak s)) v5 (by rw[hlen];exact jR) (fun hm=>by
  obtain⟨y,hy,he⟩:=List.mem_map.1 hm;have:=dH.out.aS y hy;have:=bF.out
  omega) (fun g=>g=E.vi) rfl lF.out.1 lF.out.2
 exact⟨_,by have:=uJ.1;rw[<- bF.out]at this;exact kH this,kH uJ.2⟩
theorem CL{wc:World}{Vx:RV}(hB:B<=E.base)(hsep:Dm E ms)(gW:Hid (aV E G (aC r i (aj (ak s))) Vx wc))(mH:Hid (KX E (fun g=>g=E.vi) W3 wc))(HR3:Hid (aV E G { r with next:=nx+1 } V W3)) (gM:Hid (KX E (fun _=>False) w W3)) (iQ:Hid (bL W3 E.base p s ms))
 (jH:Hid (ai W3 (w.heap.size+1) 24 #[.int .i64 k,.string x,.int .i64 a,.int .i64 e,.slice A nk c])) (iM:Hid (ai W3 w.heap.size 68 #[.pointer (some ⟨E.rp,0,none⟩)])) (HK:Hid (aK w B A 0 kids)) (dH:Hid (RB r s (au (.node k x a e kids)))) (bF:Hid (r.next=nx)) (dC:Hid (E.base<=w.heap.size)) (hn:nx<=1000000):
 Hid (VW E G B ⟨kids,k,x,a,e,A,nk,c,w.heap.size+1,w.heap.size⟩ w (fun g=>g=E.vi\/ms.head? =some g) (aC r i (aj (ak s))) Vx s p ms wc)/\Hid ((aC r i (aj (ak s))).ds.length<=1000000)/\Hid ((aC r i (aj (ak s))).aW.length<=1000000)/\Hid (nx<(aC r i (aj (ak s))).uses.length) /\
  Hid (∀u:RS,u.next=r.next+1->u.next<=r.next+1+aG ((ae.node k x a e kids).kids.take 0)):=by
 have Dt:KX E (fun g=>g=E.vi) w wc:=(gM.out.mono (fun _ hf=>hf.elim)).trans mH.out (fun g hg=>.inl hg);have h1:=dH.out.room;have h2:=bF.out;rw[au]at h1;refine⟨kH ⟨gW.out,bL.kx mH.out HR3.out.om iQ.out (fun m hm e=>(hsep.apart m hm).2.2.2 e),HR3.out.xS mH.out jH.out,HR3.out.Fw mH.out iM.out,Dt.mono (fun _ h=>.inl h),aK.below ((KX.low Dt dC.out).mono hB) (abE _) _ _ _ HK.out,abF dC.out (KX.low Dt dC.out).size,hB⟩,kH ?_,kH ?_,kH ?_,kH fun u hu=>by rw[hu];exact Nat.le_add_right _ _⟩
 ·show r.ds.length<=_
  have:=dH.out.ds;omega
 ·show r.aW.length<=_
  have:=dH.out.aW;omega
 ·show nx<r.uses.length
  omega
theorem CK{wc:World}{Vx:RV}{q:RS}(gW:Hid (aV E G q Vx wc))(x:ByteArray):∃(gi:Int) (gb:Bool),Hid ((bG G.globals x).getD 0=gi)/\Hid ((bG G.globals x).isSome=gb)/\∀q,(Instr.lookup 70 (.map (some E.g)) (.string x) true).run Tryz.prog (wc.drewN q)= .ok (.tuple #[.int .i64 gi,.bool gb]) (wc.drewN q):=
 ⟨_,_,kH rfl,kH rfl,fun q=>pG (wc.drewN q) E.g G.globals (aY.drewN gW.out.gl q) x⟩
end
end Go.Proofs.YtoepemlnlpamlaaGreat
