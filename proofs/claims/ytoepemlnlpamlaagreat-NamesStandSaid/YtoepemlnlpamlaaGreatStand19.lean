/- The law NamesStand holds: for every text and every number the law returns true, and its arguments read as before. No condition. Part 19: Tr4 Visit. -/
import Derived.RangeFuncNested
import Derived.RangeFuncBound
import Derived.RangeFuncCalls
import Derived.RangeFuncLeaves
import Derived.Shelf.Abstract
import Derived.Shelf.RegionOpen
import Derived.WalkKit
import Derived.OwnWalkIn
import Derived.TacticsInMore
import Derived.LoopNIn
import Derived.LoopIn
import Derived.Test.YtoepemlnlpamlaaGreatStand17
set_option maxRecDepth 100000
set_option maxHeartbeats 4000000
namespace Go.Proofs.YtoepemlnlpamlaaGreat
open Go.RowKit
mutual
def bL:aa->List aa
 | .node k t a e kids=>.node k t a e kids::aX kids
def aX:List aa->List aa
 | []=>[]
 | t::ts=>bL t++aX ts
end
mutual
theorem dz:∀(t:aa),(bL t).length=ai t
 | .node _ _ _ _ kids=>by
  simp only[bL,ai,aao,nO kids];omega
theorem nO:∀(ts:List aa),(aX ts).length=ag ts
 | []=>rfl
 | t::ts=>by simp only[aX,ag,aam,dz t,nO ts]
end
theorem kC(t:aa):bL t=t::aX t.kids:=by
 cases t
 rfl
theorem BV:∀(ts:List aa) (i:Nat) (t:aa),ts[i]? =some t->aX (ts.take (i+1))=aX (ts.take i)++bL t
 | [],i,t,h=>by simp at h
 | u::ts,0,t,h=>by
  simp at h;subst h;simp[aX]
 | u::ts,i+1,t,h=>by
  have:=BV ts i t (by simpa using h);simp only[List.take_succ_cons,aX,this,List.append_assoc]
def lM(w:World)(B:Nat):List aa->List (List Value)->Prop
 | [],vals=>vals=[]
 | t::ts,vals=> ∃v vs,vals=v::vs/\mg w B t v/\lM w B ts vs
theorem lM.append{w:World}{B:Nat}:∀{ts us:List aa}{vs ws:List (List Value)},lM w B ts vs->lM w B us ws->lM w B (ts++us) (vs++ws)
 | [],us,vs,ws,h,h2=>by
  have:vs=[]:=h;subst this;exact h2
 | t::ts,us,_,ws,h,h2=>by
  obtain⟨v,vs,rfl,h3,h4⟩:=h;exact⟨v,vs++ws,rfl,h3,lM.append h4 h2⟩
theorem lM.below{w w':World}{B B':Nat}(hb:Below B' w w')(hB:B<=B'):∀{ts:List aa}{vs:List (List Value)},lM w B ts vs->lM w' B ts vs
 | [],_,h=>h
 | _::_,_,h=>by
  obtain⟨v,vs,rfl,h3,h4⟩:=h;exact⟨v,vs,rfl,mg.below hb hB _ _ h3,lM.below hb hB h4⟩
theorem lM.lens{w:World}{B:Nat}:∀{ts:List aa}{vs:List (List Value)},lM w B ts vs->(List.flatten vs).length=ts.length*5/\∀u∈List.flatten vs,u.oneCell'=true
 | [],vs,h=>by
  have:vs=[]:=h;subst this;exact⟨rfl,by simp⟩
 | t::ts,_,h=>by
  obtain⟨v,vs,rfl,h3,h4⟩:=h;have ih:=lM.lens h4;obtain⟨A,c,rfl,-⟩:=h3.five;refine⟨?_,fun u hu=>?_⟩
  ·simp only[List.flatten_cons,aam,ih.1,aao,List.length_nil]
   omega
  ·simp only[List.flatten_cons,List.mem_append]at hu
   rcases hu with hu|hu
   ·simp at hu
    rcases hu with rfl|rfl|rfl|rfl|rfl<;>rfl
   ·exact ih.2 u hu
def Zq(w:World)(B:Nat)(ts:List aa)(e:Ending)(w':World):Prop:=
 ∃v n vals,e= .returned v/\n=ts.length/\aP w' w.heap.size 24 5 v n (List.flatten vals)/\lM w' B ts vals/\Below w.heap.size w w'
theorem Ul:∀(m:Nat) (t:aa) (A:Option Addr) (c:Nat) (w:World) (B:Nat),B<=w.heap.size->ai t<=m->m<=1000000000->t.kids.length<=c->aK w B A 0 t.kids ->
 Calls Tryz.prog 36 #[bB t A c] w (Zq w B (bL t)):=by
 obtain⟨i0,hi0,hz0,hz1,hz2⟩:=info_parts pF;intro m
 induction m with
 | zero=>
  intro t A c w B _ h;have:=sj t;omega
 | succ m ih=>
  intro t A c w B hBw hm hbig hcap hk;have hce:=jO t;have hnd:=kC t;obtain⟨kids,mh⟩:∃x,t.kids=x:=⟨_,rfl⟩
  obtain⟨n,hn⟩:∃x,kids.length=x:=⟨_,rfl⟩
  have WI:∀w',aK w' B A 0 t.kids->mg w' B t [.int .i64 t.kind,.string t.text,.int .i64 t.at_,.int .i64 t.end_,.slice A t.kids.length c]:=fun w' h=>by cases t;exact⟨A,c,rfl,hcap,h⟩
  unfold bB;rw[mh]at hk hce hnd WI⊢;rw[hn]at WI⊢;obtain⟨k,hk0⟩:∃x,t.kind=x:=⟨_,rfl⟩
  obtain⟨x,hx0⟩:∃x,t.text=x:=⟨_,rfl⟩
  obtain⟨a,ha0⟩:∃x,t.at_=x:=⟨_,rfl⟩
  obtain⟨z,hzz⟩:∃x,t.end_=x:=⟨_,rfl⟩
  rw[hk0,hx0,ha0,hzz]at WI⊢;have hcl:=dU kids;have He:=kH WI;have HK:=kH hk;have HN:=kH hn;have mD:=kH hnd;have fO:=kH ih;have HM:Hid (ag kids<=m/\m<=1000000000):=kH ⟨by omega,by omega⟩;have hnb:n<=1000000000:=by omega
  clear hk hce ih hm hbig hcap hk0 hx0 ha0 hzz mh hn hcl WI hnd;go_enter Tryz.func36,Tryz.ntmps36
  go_wp2_with fail
  generalize hW1:w.alloc (.cells #[.int .i64 k,.string x,.int .i64 a,.int .i64 z,.slice A n c] 24)=W1
  have hb1:Below w.heap.size w W1:=by rw[<- hW1];exact ae _ _
  have eP:ak W1 w.heap.size 24 #[.int .i64 k,.string x,.int .i64 a,.int .i64 z,.slice A n c]:=by rw[<- hW1];exact ak.new w _ _
  have hs1:W1.heap.size=w.heap.size+1:=by rw[<- hW1];simp
  rw[<- hs1];generalize hW2:W1.alloc (.cells #[.int .i64 k,.string x,.int .i64 a,.int .i64 z,.slice A n c] 24)=W2
  have hb2:Below W1.heap.size W1 W2:=by rw[<- hW2];exact ae _ _
  have hO2:aP W2 W1.heap.size 24 5 (.slice (some ⟨W1.heap.size,0,none⟩) 1 1) 1 (List.flatten [[.int .i64 k,.string x,.int .i64 a,.int .i64 z,.slice A n c]]):=by
   have:=aP.block (base:=W1.heap.size) (e:=24) (size:=5) (n:=1) (aab _) (ak.new W1 24 #[.int .i64 k,.string x,.int .i64 a,.int .i64 z,.slice A n c]) (by simp[maxLen]) rfl;rw[hW2]at this;exact this
  have hR2:=eP.below hb2 eP.lt;have lX:=hb1.trans (hb2.mono hb1.size);have hk2:=aK.below lX hBw _ _ _ HK.out;have hv2:lM W2 B [t] [[.int .i64 k,.string x,.int .i64 a,.int .i64 z,.slice A n c]]:=⟨_,_,rfl,He.out W2 hk2,rfl⟩
  have HR2:=kH hR2;have xx:=kH hO2;have HB2:=kH lX;have iw:=kH hv2;have Hl:=kH hk2;have hl2:=hR2.lt;have pJ:Hid (W1.heap.size=w.heap.size+1/\W1.heap.size<W2.heap.size):=kH ⟨hs1,by rw[<- hW2];simp⟩;clear hW1 hW2 hb1 hb2 eP hR2 hO2 lX hk2 hv2 hs1;go_loopg [3,4] n (fun gk s3 s4 wr=> ∃(i:Nat) (A3:Option Addr) (n3 c3:Nat) (vals:List (List Value)),i+gk=n/\s3= .slice A3 n3 c3/\s4= .int .i64 (i:Int)/\n3=1+ag (kids.take i)/\aP wr W1.heap.size 24 5 (.slice A3 n3 c3) n3 (List.flatten vals)/\lM wr B (t::aX (kids.take i)) vals/\Below W1.heap.size W2 wr)
  case atStart=>exact⟨0,_,1,1,_,by omega,rfl,rfl,by simp[ag],xx.out,by simpa [aX] using iw.out,Below.refl _ _⟩
  case round=>
   obtain⟨i,A3,n3,c3,vals,hi,rfl,rfl,jQ,hO,hV,hB⟩:=hrel;have hS1:=pJ.out;have hRr:=HR2.out.below hB (by omega);have hc4:wr.cell? ⟨w.heap.size,4,none⟩=some (.slice A n c):=hRr.cell 4;have hlr:=hRr.lt;have HB:=kH hB;have HI:=kH hi;have HO:=kH hO;have HV:=kH hV;have lG:=kH jQ;have hin:i<=n:=by omega
   have hcl:=iZ kids i;have hcb:n3<=1000000001:=by have:=HM.out;omega
   clear hB hRr hi hcl hO hV jQ hS1;by_cases hlt:i<n
   ·have hlt':(i:Int)<(n:Int):=by omega
    obtain⟨u,hu⟩:∃u,kids[i]? =some u:=⟨_,aaf (by rw[HN.out];exact hlt)⟩
    obtain⟨kv,⟨b,off,hA,hbl,hcs⟩,hT⟩:=Hl.out.get i u hu;obtain⟨A',c',lh,hK'⟩:=hT.five;subst hA;subst lh;have Kg:=hT.cap;have hS1:=pJ.out;have hbb:b<wr.heap.size:=by omega
    have hbW:b<W1.heap.size:=by omega
    have t0:wr.cell? ⟨b,off+i*5,none⟩=some (.int .i64 u.kind):=(HB.out.cell (p:=⟨b,_,none⟩) hbW).trans (by simpa using hcs 0 _ rfl);have t1:wr.cell? ⟨b,off+i*5+1,none⟩=some (.string u.text):=(HB.out.cell (p:=⟨b,_,none⟩) hbW).trans (by simpa using hcs 1 _ rfl);have t2:wr.cell? ⟨b,off+i*5+2,none⟩=some (.int .i64 u.at_):=(HB.out.cell (p:=⟨b,_,none⟩) hbW).trans (by simpa using hcs 2 _ rfl);have t3:wr.cell? ⟨b,off+i*5+3,none⟩=some (.int .i64 u.end_):=(HB.out.cell (p:=⟨b,_,none⟩) hbW).trans (by simpa using hcs 3 _ rfl);have t4:wr.cell? ⟨b,off+i*5+4,none⟩=some (.slice A' u.kids.length c'):=(HB.out.cell (p:=⟨b,_,none⟩) hbW).trans (by simpa using hcs 4 _ rfl);have htk:=gP kids i u hu;have hle:=iZ kids (i+1);have hnt:=BV kids i u hu;have IX:=HB.out.size;have hcall:=fO.out u A' c' wr B (by omega) (by have:=HM.out;omega) HM.out.2 Kg (aK.below HB.out (by omega) _ _ _ hK');unfold bB at hcall;have HC:=kH hcall;have uI:=kH htk;have HNT:=kH hnt;have hub:ai u<=1000000001:=by have:=HM.out;omega
    have Bf:=kH hub;have hup:=sj u;have HUP:=kH hup;have hwr:IntKind.i64.wrap ((i:Int)+1)=(i:Int)+1:=IntWalk.i64_in _ (by omega);obtain⟨un,hun⟩:∃q,u.kids.length=q:=⟨_,rfl⟩
    rw[hun]at t4 HC;have HZ:Hid (W1.heap.size<=wr.heap.size/\w.heap.size<=W1.heap.size/\w.heap.size<wr.heap.size):=kH ⟨by omega,by omega,by omega⟩;clear hcs hT hK' htk hle hnt hcall hu hun hub hup hS1 IX Kg;go_wp2_with fail
    refine HC.out.mono ?_;rintro e w5 ⟨v5,n5,NC,rfl,Ai,Kn,Fg,hb5⟩;rw[dz]at Ai;have hn5p:0<n5:=by rw[Ai];exact HUP.out
    obtain⟨g5,off5,cap5,rfl,hc5,iH,hg5,hgl5,R7⟩:=Kn.form hn5p;have UR:=Fg.lens;rw[dz,<- Ai]at UR;have hO5r:=HO.out.below hb5 (fun g hg=>(HO.out.lt g hg).2);have hsz5:=hb5.size;have HO5R:=kH hO5r;have HL5:=kH UR
    have FN:Hid (∀j u,(List.flatten NC)[j]? =some u->w5.cell? ((⟨g5,off5,none⟩:Addr).add j)=some u):=kH (fun j u hu=>by
     have h5:=R7 j u hu;by_cases h0:j=0
     ·subst h0
      simpa [Addr.add] using h5
     ·simpa [Addr.add,h0] using h5)
    have HV5:=kH Fg;have fT:=kH hb5;have zm:=kH Kn;have CE:=kH Ai;have hn5b:n5<=1000000001:=by have:=Bf.out;omega
    have Sn:Hid (W1.heap.size<=w5.heap.size/\wr.heap.size<=g5):=kH ⟨by have:=HZ.out;omega,hg5⟩;clear hO5r UR R7 Fg hb5 Kn Ai hc5 iH hg5 hn5p;go_wp2_with (at_builtin;go_must (refine dP _ rfl (.tmp 14) (.tmp 20) _ rfl W1.heap.size 24 i0 _ 5 64 Tryz.underlying22 hi0 hz0 hz1 hz2 rfl (.slice A3 n3 c3) n3 (List.flatten vals) rfl HO5R.out ⟨g5,off5,none⟩ n5 cap5 (List.flatten NC) rfl HL5.out.1 (FN.out) HL5.out.2 (by simp only[maxLen];omega) (by omega) Sn.out.1 ?_);intro vn w6 hown hgrow hat;obtain⟨A6,c6,eG,-,-⟩:=hown.shape;subst eG;have HOWN:=kH hown;have pz:=kH hgrow;clear hown hgrow hat)
    have BH:Below W1.heap.size W2 w6:=((HB.out.trans (fT.out.mono HZ.out.1)).trans (((aA.refl (fun g=>W1.heap.size<=g) w5).grown pz.out (fun g hg=>.inl (HO.out.lt g hg).1)).toBelow Sn.out.1 (fun g hg=>hg)))
    have hb56:Below w.heap.size w5 w6:=((aA.refl (fun g=>W1.heap.size<=g) w5).grown pz.out (fun g hg=>.inl (HO.out.lt g hg).1)).toBelow (by have:=HZ.out;have:=Sn.out;omega) (fun g hg=>by have:=HZ.out;omega)
    have hV6:lM w6 B (t::aX (kids.take (i+1))) (vals++NC):=by
     rw[HNT.out,<- List.cons_append];exact((HV.out.below (fT.out.mono (by have:=HZ.out;omega)) hBw).append HV5.out).below hb56 hBw
    go_roundg (gk - 1)
    case measure=>have:=HI.out;omega
    case rel=>exact⟨i+1,A6,n3+n5,c6,vals++NC,by have:=HI.out;omega,rfl,by simp,by rw[uI.out,lG.out,CE.out];omega,by rw[List.flatten_append];exact HOWN.out,hV6,BH⟩
   ·have hie:i=n:=by omega
    have htake:kids.take i=kids:=by rw[hie,<- HN.out,List.take_length]
    have hV2:=HV.out;rw[htake,<- mD.out]at hV2;have HV2':=kH hV2;have hn2:n3=(bL t).length:=by rw[lG.out,htake,mD.out,aao,nO];omega
    have vS:=kH hn2;clear hV2 hn2;go_wp2_with fail
    go_ret
    exact⟨_,n3,vals,rfl,vS.out,HO.out.mono (by have:=pJ.out;omega),HV2'.out,HB2.out.trans (HB.out.mono (by have:=pJ.out;omega))⟩
open Go.Shelf
attribute [local go_sem] Oper.semAt_some
theorem Om{F:Fence}(hd:F.depth=none)(k:Nat):F.room k:=fun d h=>by rw[hd]at h;cases h
theorem VR{F:Fence}(hd:F.depth=none){m m':Nat}{P:Program}{l:Nat}{f:FuncId}{tmps:Array Value}{assign body:Code}{w:World}{R:Ending->World->Prop}
 (h:RoundIn F m P l f tmps assign body w R):RoundIn F m' P l f tmps assign body w R:=⟨h.1,fun c cs _=>h.2 c cs (Om hd _)⟩
theorem Vw{F:Fence}(hd:F.depth=none){m:Nat}(m':Nat){P:Program}{l:Nat}{args:Array Value}{W:World}{R:Ending->World->Prop}(h:YieldAt F m P l args W R):YieldAt F m' P l args W R:=by
 obtain⟨fn,tmps,assign,body,hy,hR⟩:=h;exact⟨fn,tmps,assign,body,hy,VR hd hR⟩
structure Eh (w:World) (B M:Nat) where
 t:aa
 A:Option Addr
 c:Nat
 kids:aK w B A 0 t.kids
 small:ai t<=M
theorem DU:∀(a b:List aa),aX (a++b)=aX a++aX b
 | [],_=>rfl
 | t::ts,b=>by simp only[List.cons_append,aX,DU ts b,List.append_assoc]
structure gM (B n₁:Nat) (W W':World):Prop where
 size:W.heap.size<=W'.heap.size
 same:∀(g:Nat) (o:Obj),(g<B\/n₁<=g)->W.heap[g]? =some o->o.isCells=true->W'.heap[g]? =some o
theorem gM.refl(B n₁:Nat)(W:World):gM B n₁ W W:=⟨aab _,fun _ _ _ h _=>h⟩
theorem gM.trans{B n₁:Nat}{W W1 W2:World}(h:gM B n₁ W W1)(k:gM B n₁ W1 W2):gM B n₁ W W2:=
 ⟨aac h.size k.size,fun g o hg ho hc=>k.same g o hg (h.same g o hg ho hc) hc⟩
theorem gM.of_below{B n₁ n:Nat}{W W':World}(h:Below n W W')(hn:n=W.heap.size):gM B n₁ W W':=
 ⟨h.size,fun g o _ ho _=>(h.block g (by subst hn;exact(aae.1 ho).1)).trans ho⟩
theorem gM.putObj{B n₁:Nat}{W:World}{l:Nat}{o:Obj}(o':Obj)(h:W.heap[l]? =some o)(hc:o.isCells=false):gM B n₁ W (W.putObj l o'):=by
 have hlt:=(aae.1 h).1;refine⟨(grownBy_putObj' W l o').size,fun g p _ hg hp=>?_⟩
 have hne:g≠l:=fun e=>by
  subst e;rw[h]at hg;cases hg
  rw[hc]at hp;cases hp
 exact((grownBy_putObj' W l o').block g (aae.1 hg).1 (fun e=>hne (by cases e;rfl))).trans hg
theorem gM.setCell{B n₁:Nat}{W:World}(p:Addr)(u:Value)(h1:B<=p.block)(h2:p.block<n₁):gM B n₁ W (W.setCell p u):=
 ⟨by simp,fun g o hg ho _=>(Below.heap_setCell W p u g (by omega)).trans ho⟩
theorem Zj{W:World}{p:Addr}{v:Value}(h:W.cell? p=some v):∃o,W.heap[p.block]? =some o/\o.isCells=true:=by
 unfold World.cell? at h
 cases ho:W.heap[p.block]? with
 | none=>rw[ho]at h;simp at h
 | some o=>
  refine⟨o,rfl,?_⟩;rw[ho]at h;cases o<;>simp_all [Obj.isCells]
theorem gM.cell{B n₁:Nat}{W W':World}(h:gM B n₁ W W'){p:Addr}{v:Value}(hp:p.block<B\/n₁<=p.block)(hv:W.cell? p=some v):W'.cell? p=some v:=by
 obtain⟨o,ho,hc⟩:=Zj hv;have h2:=h.same _ _ hp ho hc;unfold World.cell? at hv⊢;rw[h2];rw[ho]at hv;exact hv
theorem gM.blk{B n₁:Nat}{W W':World}(h:gM B n₁ W W'){g:Nat}{t:TypeId}{cs:Array Value}(hg:g<B\/n₁<=g)(hb:ak W g t cs):ak W' g t cs:=h.same g _ hg hb rfl
theorem XR(F:Fence)(hd:F.depth=none)(hf:F.fn 200)(hro:F.round=none)(l B n₁ M N:Nat)(hB:B<=n₁)(hM:M<=1000000000)(w0:World)(J Jx:List (Eh w0 B M)->World->Prop)
 (hJ:∀s W o,J s W->J s (W.alloc o))
 (hY:∀m pre x W,J pre W->pre.length<N->YieldAt F m Tryz.prog l #[bB x.t x.A x.c] W fun e W'=>
  (e= .returned (.bool true)/\J (pre++[x]) W'/\gM B n₁ W W')\/(e= .returned (.bool false)/\Jx (pre++[x]) W')):
 ∀(m:Nat) (t:aa) (A:Option Addr) (c n:Nat) (pre:List (Eh w0 B M)) (W:World),ai t<=m->m<=M->aK w0 B A 0 t.kids->gM B n₁ w0 W->n₁<=W.heap.size->J pre W->pre.length+ai t<=N ->
  CallsIn F n Tryz.prog 200 #[bB t A c,.func (.yield l) #[] #[]] W fun e W'=>
   (e= .returned (.bool true)/\∃ys:List (Eh w0 B M),ys.map (·.t)=bL t/\J (pre++ys) W'/\gM B n₁ W W') \/
   (e= .returned (.bool false)/\∃q:List (Eh w0 B M),q.map (·.t)<+:bL t/\Jx (pre++q) W'):=by
 intro m
 induction m with
 | zero=>
  intro t A c n pre W h;have:=sj t;omega
 | succ m ih=>
  intro t A c n pre W hm hmM hk hw0 hsz hj hN;have hdd:∀k:Nat,(F.depth.isSome=true->1<=k):=fun k h=>by rw[hd]at h;cases h
  have hce:=jO t;have hnd:=kC t;obtain⟨x,hx⟩:∃x:Eh w0 B M,x=⟨t,A,c,hk,by omega⟩:=⟨_,rfl⟩
  have hy0:=fun W' hj'=>hY (n - 1) pre x W' hj' (by omega)
  have hxt:x.t=t:=by rw[hx]
  have hxA:x.A=A:=by rw[hx]
  have Z6:x.c=c:=by rw[hx]
  rw[hxt,hxA,Z6]at hy0;clear hx;obtain⟨kids,mh⟩:∃x,t.kids=x:=⟨_,rfl⟩
  obtain⟨nk,hn⟩:∃x,kids.length=x:=⟨_,rfl⟩
  unfold bB at hy0⊢;rw[mh]at hk hce hnd hy0⊢;rw[hn]at hy0⊢;obtain⟨k,hk0⟩:∃x,t.kind=x:=⟨_,rfl⟩
  obtain⟨tx,hx0⟩:∃x,t.text=x:=⟨_,rfl⟩
  obtain⟨a,ha0⟩:∃x,t.at_=x:=⟨_,rfl⟩
  obtain⟨z,hzz⟩:∃x,t.end_=x:=⟨_,rfl⟩
  rw[hk0,hx0,ha0,hzz]at hy0⊢;have hcl:=dU kids;have hnb:nk<=1000000000:=by omega
  generalize hW1:W.alloc (.cells #[.int .i64 k,.string tx,.int .i64 a,.int .i64 z,.slice A nk c] 24)=W1
  have hj1:J pre W1:=by rw[<- hW1];exact hJ _ _ _ hj
  have hk1:gM B n₁ W W1:=by rw[<- hW1];exact gM.of_below (ae _ _) rfl
  have eP:ak W1 W.heap.size 24 #[.int .i64 k,.string tx,.int .i64 a,.int .i64 z,.slice A nk c]:=by rw[<- hW1];exact ak.new W _ _
  have hy1:=(hy0 W1 hj1).mono (R':=fun e W2=>(e= .returned (.bool true)/\W2.cell? ⟨W.heap.size,4,none⟩=some (.slice A nk c)/\J (pre++[x]) W2/\gM B n₁ W W2)\/(e= .returned (.bool false)/\Jx (pre++[x]) W2))
   (fun e W2 h=>h.elim (fun⟨h1,h2,h3⟩=>.inl ⟨h1,(h3.blk (.inr hsz) eP).cell 4,h2,hk1.trans h3⟩) .inr)
  rw[<- hW1]at hy1;clear hy0 hW1 hj1 hk1 eP;refine callsIn_of_wp Tryz.func200 rfl hf ?_ hro;simp only[Tryz.ntmps200,List.size_toArray,aao,List.length_nil,Nat.reduceAdd,Nat.reduceSub,Array.replicate_succ,Array.replicate_zero,List.push_toArray,List.append_toArray,List.nil_append,List.cons_append];obtain⟨fn,tmps,assign,body,hy,hR⟩:=hy1
  gi_wp2_with (first
   | ((try refine⟨hdd _,?_⟩);refine hR.mono ?_;clear hR;rintro e W2 (⟨rfl,c4,hJ2,hk2⟩| ⟨rfl,hx2⟩)))
  ·have HK:=kH hk
   have HN:=kH hn;have mD:=kH hnd;have fO:=kH ih;have HM:Hid (ag kids<=m/\m<=1000000000/\m<=M/\pre.length+1+ag kids<=N):=kH ⟨by omega,by omega,by omega,by omega⟩;have HJ:=kH hJ;have HW0:=kH hw0;have HJ2:=kH hJ2;have Hl:=kH hk2;have HXT:=kH hxt;clear hk hn hnd ih hm hmM hN hY hJ hw0 hJ2 hk2 hj hce mh hcl hxt hxA Z6 c4;gi_loopw [14] (fun p wr=> ∃(i:Nat) (ys:List (Eh w0 B M)),p= .int .i64 (i:Int)/\i<=nk/\Hid (ys.map (·.t)=aX (kids.take i)/\J (pre++x::ys) wr/\gM B n₁ W wr)) (fun p _=>nk - (intOf p).toNat)
   case atStart=>exact⟨0,[],rfl,Nat.zero_le _,kH ⟨by simp[aX],HJ2.out,Hl.out⟩⟩
   case round=>
    obtain⟨i,ys,rfl,hi,HI⟩:=hrel;by_cases hlt:i<nk
    ·obtain⟨u,hu⟩:∃u,kids[i]? =some u:=⟨_,aaf (by rw[HN.out];exact hlt)⟩
     obtain⟨kv,⟨b,off,hA,hbl,hcs⟩,hT⟩:=HK.out.get i u hu;obtain⟨A',c',lh,hK'⟩:=hT.five;have hbwr:b<wr.heap.size:=by have:=HI.out.2.2.size;omega
     subst hA;subst lh;have J9:=HW0.out.trans HI.out.2.2;have t0:wr.cell? ⟨b,off+i*5,none⟩=some (.int .i64 u.kind):=J9.cell (.inl hbl) (by simpa using hcs 0 _ rfl);have t1:wr.cell? ⟨b,off+i*5+1,none⟩=some (.string u.text):=J9.cell (.inl hbl) (by simpa using hcs 1 _ rfl);have t2:wr.cell? ⟨b,off+i*5+2,none⟩=some (.int .i64 u.at_):=J9.cell (.inl hbl) (by simpa using hcs 2 _ rfl);have t3:wr.cell? ⟨b,off+i*5+3,none⟩=some (.int .i64 u.end_):=J9.cell (.inl hbl) (by simpa using hcs 3 _ rfl);have t4:wr.cell? ⟨b,off+i*5+4,none⟩=some (.slice A' u.kids.length c'):=J9.cell (.inl hbl) (by simpa using hcs 4 _ rfl);have htk:=gP kids i u hu;have hle:=iZ kids (i+1);have hnt:=BV kids i u hu;have hup:=sj u;obtain⟨W4,l9⟩:∃W4,wr.alloc (.cells #[.int .i64 u.kind,.string u.text,.int .i64 u.at_,.int .i64 u.end_,.slice A' u.kids.length c'] 24)=W4:=⟨_,rfl⟩
     have hk4:gM B n₁ W W4:=by rw[<- l9];exact HI.out.2.2.trans (gM.of_below (ae _ _) rfl)
     have hj4:J (pre++x::ys) W4:=by rw[<- l9];exact HJ.out _ _ _ HI.out.2.1
     have hlen:ys.length=ag (kids.take i):=by rw[<- nO,<- HI.out.1,List.length_map]
     have hcall:=fO.out u A' c' (n - 1) (pre++x::ys) W4 (by have:=HM.out;omega) HM.out.2.2.1 hK' (HW0.out.trans hk4) (by have:=hk4.size;omega) hj4 (by have:=HM.out;simp only[aam,aao];omega)
     have yA:=hcall.mono (R':=fun e W5=>(e= .returned (.bool true)/\Hid (∃zs:List (Eh w0 B M),zs.map (·.t)=aX (kids.take (i+1))/\J (pre++x::zs) W5/\gM B n₁ W W5))\/(e= .returned (.bool false)/\Hid (∃q:List (Eh w0 B M),q.map (·.t)<+:aX kids/\Jx (pre++x::q) W5)))
      (fun e W5 h=>h.elim (fun⟨h1,zs,h2,h3,h4⟩=>.inl ⟨h1,kH ⟨ys++zs,by rw[List.map_append,h2,HI.out.1,hnt],by simpa [List.append_assoc] using h3,hk4.trans h4⟩⟩)
       (fun⟨h1,q,h2,h3⟩=>.inr ⟨h1,kH ⟨ys++q,by
        rw[List.map_append,HI.out.1]
        have h5:aX (kids.take i)++bL u<+:aX kids:=by
         rw[<- hnt];conv=>rhs;rw[<- List.take_append_drop (i+1) kids,DU]
         exact List.prefix_append _ _
        exact((List.prefix_append_right_inj _).2 h2).trans h5,by simpa [List.append_assoc] using h3⟩⟩))
     rw[<- l9]at yA;unfold bB at yA;have hwrp:IntKind.i64.wrap ((i:Int)+1)=(i:Int)+1:=IntWalk.i64_in _ (by omega);obtain⟨un,hun⟩:∃q,u.kids.length=q:=⟨_,rfl⟩
     rw[hun]at t4 yA;clear hcs hT hK' J9 htk hle hnt hup l9 hk4 hj4 hlen hcall hun hu HI
     gi_wp2_with (first
      | ((try refine⟨hdd _,?_⟩);gi_at_call 200;refine yA.mono ?_;clear yA;rintro e W5 (⟨rfl,HI5⟩| ⟨rfl,HI5⟩)))
     ·obtain⟨zs,hz⟩:=HI5.out
      exact⟨⟨i+1,zs,by simp,by omega,kH hz⟩,by simp only[intOf];omega⟩
     ·go_ret
      obtain⟨q,hq,hx⟩:=HI5.out;exact .inr ⟨rfl,x::q,by rw[mD.out,List.map_cons,HXT.out];exact List.cons_prefix_cons.2 ⟨rfl,hq⟩,hx⟩
    ·have hie:i=nk:=by omega
     subst hie;have htake:kids.take i=kids:=by rw[<- HN.out,List.take_length]
     have H1:=HI.out.1;rw[htake]at H1;gi_wp2
     go_ret
     exact .inl ⟨rfl,x::ys,by rw[mD.out,List.map_cons,HXT.out,H1],HI.out.2.1,HI.out.2.2⟩
  ·go_ret
   exact .inr ⟨rfl,[x],by rw[hnd];simp[hxt],hx2⟩
theorem Wd(F:Fence)(hd:F.depth=none)(h1:F.fn 199)(hf:F.fn 200)(hro:F.round=none)(l Bt B n₁ M:Nat)(hB:B<=n₁)(hM:M<=1000000000)(w0:World)(n:Nat)(t:aa)(A:Option Addr)(c:Nat)(J Jx:List (Eh w0 B M)->World->Prop)
 (hJ:∀s W o,J s W->J s (W.alloc o))
 (hY:∀pre x W,J pre W->pre.length<ai t->YieldAt F (n - 1) Tryz.prog l #[bB x.t x.A x.c] W fun e W'=>
  (e= .returned (.bool true)/\J (pre++[x]) W'/\gM B n₁ W W')\/(e= .returned (.bool false)/\Jx (pre++[x]) W'))
 (W:World) (hm:ai t<=M) (hk:aK w0 B A 0 t.kids) (hw0:gM B n₁ w0 W) (hsz:n₁<=W.heap.size) (GZ:ak W Bt 24 #[.int .i64 t.kind,.string t.text,.int .i64 t.at_,.int .i64 t.end_,.slice A t.kids.length c]) (h0:J [] W):
 CallsIn F n Tryz.prog 199 #[.func (.yield l) #[] #[],.pointer (some ⟨Bt,0,none⟩)] W fun e W'=>(∃v,e= .returned v) /\
  ((∃ys:List (Eh w0 B M),ys.map (·.t)=bL t/\J ys W')\/(∃pre:List (Eh w0 B M),pre.map (·.t)<+:bL t/\Jx pre W')):=by
 have hdd:∀k:Nat,(F.depth.isSome=true->1<=k):=fun k h=>by rw[hd]at h;cases h
 have hp:=XR F hd hf hro l B n₁ M (ai t) hB hM w0 J Jx hJ (fun m pre x W hj hl=>Vw hd m (hY pre x W hj hl)) M t A c (n - 1) [] W hm (aab _) hk hw0 hsz h0 (by simp);unfold bB at hp;have c0:=GZ.cell 0;have c1:=GZ.cell 1;have c2:=GZ.cell 2;have c3:=GZ.cell 3;have c4:=GZ.cell 4;have hlt:=GZ.lt;clear hY hJ GZ;refine callsIn_of_wp Tryz.func199 rfl h1 ?_ hro;simp only[Tryz.ntmps199,List.size_toArray,aao,List.length_nil,Nat.reduceAdd,Nat.reduceSub,Array.replicate_succ,Array.replicate_zero,List.push_toArray,List.append_toArray,List.nil_append,List.cons_append];gi_wp2_with ((try refine⟨hdd _,?_⟩);gi_at_call 200;refine hp.mono ?_;clear hp;rintro e W1 (⟨rfl,q,h2,h3,h4⟩| ⟨rfl,q,h2,h3⟩))
 ·go_end0
  exact⟨⟨_,rfl⟩,.inl ⟨q,h2,by simpa using h3⟩⟩
 ·go_end0
  exact⟨⟨_,rfl⟩,.inr ⟨q,h2,by simpa using h3⟩⟩
theorem yg{β:Type}(B g:Nat)(t:TypeId)(f:β->Array Value):OwnFrom B (fun s W=>ak W g t (f s)):=fun s X Y row hs hg hr=>ak.grown hs hg (fun e=>by
 obtain⟨_,o,ho,hc⟩:=hr g e.symm;rw[show X.heap[g]? =_ from hs]at ho;cases ho
 cases hc)
theorem GA(F:Fence)(hd:F.depth=none)(n:Nat)(h1:F.fn 199)(hf:F.fn 200)(hro:F.round=none)(Bt B n₁ M:Nat)(hB:B<=n₁)(hM:M<=1000000000)(w0 w:World)(t:aa)(A:Option Addr)(c:Nat)
 (hm:ai t<=M) (hk:aK w0 B A 0 t.kids) (hw0:gM B n₁ w0 w) (hsz:n₁<=w.heap.size) (GZ:ak w Bt 24 #[.int .i64 t.kind,.string t.text,.int .i64 t.at_,.int .i64 t.end_,.slice A t.kids.length c]):
 SeqStopsK F n Tryz.prog 199 #[.pointer (some ⟨Bt,0,none⟩)] (fun x:Eh w0 B M=> #[bB x.t x.A x.c]) (gM B n₁) (fun ys=>ys.map (·.t)=bL t) (fun pre=>pre.map (·.t)<+:bL t) (ai t) w:=
 fun l J Jx W hW hJ _ hY h0=>
  Wd F hd h1 hf hro l Bt B n₁ M hB hM w0 n t A c J Jx (fun s X o hs=>hJ s X _ none hs (World.grownBy_alloc X o none) (fun r e=>by cases e)) hY W hm hk (hw0.trans (gM.of_below hW rfl)) (aac hsz hW.size) (GZ.below hW GZ.lt) h0
theorem Mo(t:aa)(A:Option Addr)(c:Nat)(w:World):
 Calls Tryz.prog 142 #[bB t A c] w fun e w'=>e= .returned (.func (.func 199) #[] #[.pointer (some ⟨w.heap.size,0,none⟩)])/\w'=w.alloc (.cells #[.int .i64 t.kind,.string t.text,.int .i64 t.at_,.int .i64 t.end_,.slice A t.kids.length c] 24):=by
 unfold bB;go_enter Tryz.func142,Tryz.ntmps142
 go_wp2_with fail
 go_ret
 exact⟨rfl,rfl⟩
theorem Fx(t:aa)(A:Option Addr)(c:Nat)(w:World)(hm:ai t<=1000000000)(hk:aK w w.heap.size A 0 t.kids):
 Calls Tryz.prog 77 #[bB t A c] w fun e w'=>e= .returned (.int .i64 (ai t:Int))/\Below w.heap.size w w':=by
 refine(callsIn_wide (n:=6)).1 ?_;have sF:=fun w'=>Mo t A c w'
 unfold bB at sF⊢;refine callsIn_of_wp_marks Tryz.func77 rfl trivial ?_ rfl;simp only[Tryz.ntmps77,List.size_toArray,aao,List.length_nil,Nat.reduceAdd,Nat.reduceSub,Array.replicate_succ,Array.replicate_zero,List.push_toArray,List.append_toArray,List.nil_append,List.cons_append];gi_wp2_with (refine⟨trivial,?_⟩;gi_at_call 142;refine(callsIn_wide.2 (sF _)).mono ?_;rintro e w' ⟨rfl,rfl⟩)
 have hS:ak (w.alloc (.cells #[.int .i64 t.kind,.string t.text,.int .i64 t.at_,.int .i64 t.end_,.slice A t.kids.length c] 24)) w.heap.size 24 #[.int .i64 t.kind,.string t.text,.int .i64 t.at_,.int .i64 t.end_,.slice A t.kids.length c]:=ak.new w _ _;generalize hW1:w.alloc (.cells #[.int .i64 t.kind,.string t.text,.int .i64 t.at_,.int .i64 t.end_,.slice A t.kids.length c] 24)=W1 at hS
 have hb1:Below w.heap.size w W1:=by rw[<- hW1];exact ae _ _
 have hs1:W1.heap.size=w.heap.size+1:=by rw[<- hW1];simp
 have hS2:ak (W1.alloc (.cells #[.int .i64 0] 3)) (w.heap.size+1) 3 #[.int .i64 0]:=by rw[<- hs1];exact ak.new W1 _ _
 generalize hW2:W1.alloc (.cells #[.int .i64 0] 3)=W2 at hS2
 have hb2:Below W1.heap.size W1 W2:=by rw[<- hW2];exact ae _ _
 have hs2:W2.heap.size=w.heap.size+2:=by rw[<- hW2];simp[hs1]
 have mr:ak (W2.alloc (.cells #[.int .i64 t.kind,.string t.text,.int .i64 t.at_,.int .i64 t.end_,.slice A t.kids.length c] 24)) (w.heap.size+1+1) 24 #[.int .i64 t.kind,.string t.text,.int .i64 t.at_,.int .i64 t.end_,.slice A t.kids.length c]:=by
  rw[show w.heap.size+1+1=W2.heap.size by omega];exact ak.new W2 _ _
 generalize hW3:W2.alloc (.cells #[.int .i64 t.kind,.string t.text,.int .i64 t.at_,.int .i64 t.end_,.slice A t.kids.length c] 24)=W3 at mr⊢
 have hb3:Below W2.heap.size W2 W3:=by rw[<- hW3];exact ae _ _
 have hs3:W3.heap.size=w.heap.size+3:=by rw[<- hW3];simp[hs2]
 have sQ:=hS2.below hb3 hS2.lt;have wO:Below w.heap.size w W3:=(hb1.trans (hb2.mono (by omega))).trans (hb3.mono (by omega));have hk3:=aK.below wO (aab _) _ _ _ hk;clear hW1 hW2 hW3 hS2 hS hb1 hb2 hb3 hs1 hs2 hk;have h1:1<=6:=by omega
 refine wpIn_rangeFunc_ownF rfl h1 (gf:=199) (lb:=#[.pointer (some ⟨w.heap.size+1+1,0,none⟩)]) rfl trivial (enters_of Tryz.func199 (by kernel_rfl) rfl)
  (GA Fence.wide rfl (6 - 1) trivial trivial rfl (w.heap.size+1+1) w.heap.size (w.heap.size+3) 1000000000 (by omega) (aab _) W3 W3 t A c hm hk3 (gM.refl _ _ _) (by omega) mr) gM.trans (fun W l o o' _ h hc _=>gM.putObj o' h hc) (Below.refl _ _) (fun _=>rfl)
  (fun pre W=>ak W (w.heap.size+1) 3 #[.int .i64 (pre.length:Int)]/\Below w.heap.size w W)
  (fun _ _ _=>False)
  (OwnFrom.and (yg _ _ _ _) (ownFrom_below (aab _) (by omega)))
  (fun _ _ _ _ _ hs _ _=>hs)
  ⟨sQ,wO⟩
  (fun x=> { tmps:=#[.agg #[.int .i64 t.kind,.string t.text,.int .i64 t.at_,.int .i64 t.end_,.slice A t.kids.length c],.pointer (some ⟨w.heap.size,0,none⟩),.int .i64 0,.pointer (some ⟨w.heap.size+1,0,none⟩),.agg #[.int .i64 t.kind,.string t.text,.int .i64 t.at_,.int .i64 t.end_,.slice A t.kids.length c],
   .func (.func 199) #[] #[.pointer (some ⟨w.heap.size+1+1,0,none⟩)],bB x.t x.A x.c,undef,undef,undef],defers:=[] }) ?assign ?body ?done ?stop
 case assign=>
  intro l x W K hK;gi_wp2
  simpa using hK
 case body=>
  rintro l pre x W ⟨hc,hf⟩ hl;have c0:=hc.cell 0;have f0:=hc.frozen 0;have hlt:=hc.lt;have hwr:IntKind.i64.wrap ((pre.length:Int)+1)=(pre.length:Int)+1:=IntWalk.i64_in _ (by omega);have jE:=kH hs3;have HC:=kH hc;have HF:=kH hf;clear hk3 sQ mr wO sF hc hf hs3;gi_wp2
  exact⟨KeepsOthers.setCell _ _ _,gM.setCell _ _ (by show w.heap.size<=w.heap.size+1;omega) (by show w.heap.size+1<w.heap.size+3;omega),by simpa using HC.out.gY 0 (.int .i64 ((pre.length:Int)+1)),HF.out.setCell (p:=⟨w.heap.size+1,0,none⟩) (by show w.heap.size<=w.heap.size+1;omega) _⟩
 case done=>
  rintro D ys W hD hys ⟨hc,hf⟩ hK;have c0:=hc.cell 0;have hys2:ys.length=ai t:=by rw[<- dz,<- hys,List.length_map]
  have HK:=kH hK;have HF:=kH hf;have hD2:w.heap.size<=D:=by omega
  clear hk3 sQ mr wO sF hc hf hs3 hK hys;gi_wp2
  refine⟨by simp,.inl ⟨_,_,rfl,run_takeDeferred HK.out,?_⟩⟩;refine⟨_,results_tmp rfl _ _ _,?_⟩;exact⟨rfl,HF.out.trans (belowK_b (w:=w) (aab _) W D _ _ hD2 HK.out rfl rfl)⟩
 case stop=>
  rintro D c pre W _ _ h _;exact h.elim
end Go.Proofs.YtoepemlnlpamlaaGreat
