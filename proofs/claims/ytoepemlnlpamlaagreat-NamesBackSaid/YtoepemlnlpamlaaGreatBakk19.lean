/- The law NamesBack holds for every text and every number: it returns true, and its arguments read as before. No condition. Part 19: Visit Inv Shp3. -/
import Derived.RangeFuncNested
import Derived.RangeFuncBound
import Derived.RangeFuncCalls
import Derived.RangeFuncLeaves
import Derived.Shelf.Abstract
import Derived.Shelf.RegionOpen
import Derived.WalkKit
import Derived.OwnWalkIn
import Derived.TacticsInMore
import Derived.LoopNIn
import Derived.LoopIn
import Derived.Test.YtoepemlnlpamlaaGreatBakk14
import Derived.Test.YtoepemlnlpamlaaGreatBakk17
import Derived.Test.YtoepemlnlpamlaaGreatBakk18
set_option maxRecDepth 100000
set_option maxHeartbeats 4000000
namespace Go.Proofs.YtoepemlnlpamlaaGreat
open Go.RowKit Go.Shelf
attribute [local go_sem] Oper.semAt_some
theorem OH{F:Fence}(hd:F.depth=none)(k:Nat):F.room k:=fun d h=>by rw[hd]at h;cases h
theorem WI{F:Fence}(hd:F.depth=none){m m':Nat}{P:Program}{l:Nat}{f:FuncId}{tmps:Array Value}{assign body:Code}{w:World}{R:Ending->World->Prop}
 (h:RoundIn F m P l f tmps assign body w R):RoundIn F m' P l f tmps assign body w R:=⟨h.1,fun c cs _=>h.2 c cs (OH hd _)⟩
theorem Wl{F:Fence}(hd:F.depth=none){m:Nat}(m':Nat){P:Program}{l:Nat}{args:Array Value}{W:World}{R:Ending->World->Prop}(h:YieldAt F m P l args W R):YieldAt F m' P l args W R:=by
 obtain⟨fn,tmps,assign,body,hy,hR⟩:=h;exact⟨fn,tmps,assign,body,hy,WI hd hR⟩
structure D6 (w:World) (B M:Nat) where
 t:aa
 A:Option Addr
 c:Nat
 kids:aD w B A 0 t.kids
 small:ah t<=M
theorem Dx:∀(a b:List aa),dh (a++b)=dh a++dh b
 | [],_=>rfl
 | t::ts,b=>by simp only[List.cons_append,dh,Dx ts b,List.append_assoc]
structure fG (B n₁:Nat) (W W':World):Prop where
 size:W.heap.size<=W'.heap.size
 same:∀(g:Nat) (o:Obj),(g<B\/n₁<=g)->W.heap[g]? =some o->o.isCells=true->W'.heap[g]? =some o
theorem fG.refl(B n₁:Nat)(W:World):fG B n₁ W W:=⟨aaD _,fun _ _ _ h _=>h⟩
theorem fG.trans{B n₁:Nat}{W W1 W2:World}(h:fG B n₁ W W1)(k:fG B n₁ W1 W2):fG B n₁ W W2:=
 ⟨aaE h.size k.size,fun g o hg ho hc=>k.same g o hg (h.same g o hg ho hc) hc⟩
theorem fG.of_below{B n₁ n:Nat}{W W':World}(h:Below n W W')(hn:n=W.heap.size):fG B n₁ W W':=
 ⟨h.size,fun g o _ ho _=>(h.block g (by subst hn;exact(aaG.1 ho).1)).trans ho⟩
theorem fG.putObj{B n₁:Nat}{W:World}{l:Nat}{o:Obj}(o':Obj)(h:W.heap[l]? =some o)(hc:o.isCells=false):fG B n₁ W (W.putObj l o'):=by
 have hlt:=(aaG.1 h).1;refine⟨(grownBy_putObj' W l o').size,fun g p _ hg hp=>?_⟩
 have hne:g≠l:=fun e=>by
  subst e;rw[h]at hg;cases hg
  rw[hc]at hp;cases hp
 exact((grownBy_putObj' W l o').block g (aaG.1 hg).1 (fun e=>hne (by cases e;rfl))).trans hg
theorem fG.setCell{B n₁:Nat}{W:World}(p:Addr)(u:Value)(h1:B<=p.block)(h2:p.block<n₁):fG B n₁ W (W.setCell p u):=
 ⟨by simp,fun g o hg ho _=>(Below.heap_setCell W p u g (by omega)).trans ho⟩
theorem Z8{W:World}{p:Addr}{v:Value}(h:W.cell? p=some v):∃o,W.heap[p.block]? =some o/\o.isCells=true:=by
 unfold World.cell? at h
 cases ho:W.heap[p.block]? with
 | none=>rw[ho]at h;simp at h
 | some o=>
  refine⟨o,rfl,?_⟩;rw[ho]at h;cases o<;>simp_all [Obj.isCells]
theorem fG.cell{B n₁:Nat}{W W':World}(h:fG B n₁ W W'){p:Addr}{v:Value}(hp:p.block<B\/n₁<=p.block)(hv:W.cell? p=some v):W'.cell? p=some v:=by
 obtain⟨o,ho,hc⟩:=Z8 hv;have h2:=h.same _ _ hp ho hc;unfold World.cell? at hv⊢;rw[h2];rw[ho]at hv;exact hv
theorem fG.blk{B n₁:Nat}{W W':World}(h:fG B n₁ W W'){g:Nat}{t:TypeId}{cs:Array Value}(hg:g<B\/n₁<=g)(hb:ai W g t cs):ai W' g t cs:=h.same g _ hg hb rfl
theorem YG(F:Fence)(hd:F.depth=none)(hf:F.fn 200)(hro:F.round=none)(l B n₁ M N:Nat)(hB:B<=n₁)(hM:M<=1000000000)(w0:World)(J Jx:List (D6 w0 B M)->World->Prop)
 (hJ:∀s W o,J s W->J s (W.alloc o))
 (hY:∀m pre x W,J pre W->pre.length<N->YieldAt F m Tryz.prog l #[aX x.t x.A x.c] W fun e W'=>
  (e= .returned (.bool true)/\J (pre++[x]) W'/\fG B n₁ W W')\/(e= .returned (.bool false)/\Jx (pre++[x]) W')):
 ∀(m:Nat) (t:aa) (A:Option Addr) (c n:Nat) (pre:List (D6 w0 B M)) (W:World),ah t<=m->m<=M->aD w0 B A 0 t.kids->fG B n₁ w0 W->n₁<=W.heap.size->J pre W->pre.length+ah t<=N ->
  CallsIn F n Tryz.prog 200 #[aX t A c,.func (.yield l) #[] #[]] W fun e W'=>
   (e= .returned (.bool true)/\∃ys:List (D6 w0 B M),ys.map (·.t)=dV t/\J (pre++ys) W'/\fG B n₁ W W') \/
   (e= .returned (.bool false)/\∃q:List (D6 w0 B M),q.map (·.t)<+:dV t/\Jx (pre++q) W'):=by
 intro m
 induction m with
 | zero=>
  intro t A c n pre W h;have:=oL t;omega
 | succ m ih=>
  intro t A c n pre W hm hmM hk hw0 hsz hj hN;have hdd:∀k:Nat,(F.depth.isSome=true->1<=k):=fun k h=>by rw[hd]at h;cases h
  have hce:=tN t;have hnd:=EC t;obtain⟨x,hx⟩:∃x:D6 w0 B M,x=⟨t,A,c,hk,by omega⟩:=⟨_,rfl⟩
  have hy0:=fun W' hj'=>hY (n - 1) pre x W' hj' (by omega)
  have hxt:x.t=t:=by rw[hx]
  have hxA:x.A=A:=by rw[hx]
  have hxc:x.c=c:=by rw[hx]
  rw[hxt,hxA,hxc]at hy0;clear hx;obtain⟨kids,oJ⟩:∃x,t.kids=x:=⟨_,rfl⟩
  obtain⟨nk,hn⟩:∃x,kids.length=x:=⟨_,rfl⟩
  unfold aX at hy0⊢;rw[oJ]at hk hce hnd hy0⊢;rw[hn]at hy0⊢;obtain⟨k,hk0⟩:∃x,t.kind=x:=⟨_,rfl⟩
  obtain⟨tx,hx0⟩:∃x,t.text=x:=⟨_,rfl⟩
  obtain⟨a,ha0⟩:∃x,t.at_=x:=⟨_,rfl⟩
  obtain⟨z,hzz⟩:∃x,t.end_=x:=⟨_,rfl⟩
  rw[hk0,hx0,ha0,hzz]at hy0⊢;have hcl:=kC kids;have hnb:nk<=1000000000:=by omega
  generalize hW1:W.alloc (.cells #[.int .i64 k,.string tx,.int .i64 a,.int .i64 z,.slice A nk c] 24)=W1
  have hj1:J pre W1:=by rw[<- hW1];exact hJ _ _ _ hj
  have hk1:fG B n₁ W W1:=by rw[<- hW1];exact fG.of_below (af _ _) rfl
  have eD:ai W1 W.heap.size 24 #[.int .i64 k,.string tx,.int .i64 a,.int .i64 z,.slice A nk c]:=by rw[<- hW1];exact ai.new W _ _
  have hy1:=(hy0 W1 hj1).mono (R':=fun e W2=>(e= .returned (.bool true)/\W2.cell? ⟨W.heap.size,4,none⟩=some (.slice A nk c)/\J (pre++[x]) W2/\fG B n₁ W W2)\/(e= .returned (.bool false)/\Jx (pre++[x]) W2))
   (fun e W2 h=>h.elim (fun⟨h1,h2,h3⟩=>.inl ⟨h1,(h3.blk (.inr hsz) eD).cell 4,h2,hk1.trans h3⟩) .inr)
  rw[<- hW1]at hy1;clear hy0 hW1 hj1 hk1 eD;refine callsIn_of_wp Tryz.func200 rfl hf ?_ hro;simp only[Tryz.ntmps200,List.size_toArray,aaQ,List.length_nil,Nat.reduceAdd,Nat.reduceSub,Array.replicate_succ,Array.replicate_zero,List.push_toArray,List.append_toArray,List.nil_append,List.cons_append];obtain⟨fn,tmps,assign,body,hy,hR⟩:=hy1
  gi_wp2_with (first
   | ((try refine⟨hdd _,?_⟩);refine hR.mono ?_;clear hR;rintro e W2 (⟨rfl,c4,hJ2,hk2⟩| ⟨rfl,hx2⟩)))
  ·have HK:=kH hk
   have HN:=kH hn;have rF:=kH hnd;have eH:=kH ih;have HM:Hid (ag kids<=m/\m<=1000000000/\m<=M/\pre.length+1+ag kids<=N):=kH ⟨by omega,by omega,by omega,by omega⟩;have HJ:=kH hJ;have HW0:=kH hw0;have HJ2:=kH hJ2;have Ap:=kH hk2;have Tu:=kH hxt;clear hk hn hnd ih hm hmM hN hY hJ hw0 hJ2 hk2 hj hce oJ hcl hxt hxA hxc c4;gi_loopw [14] (fun p wr=> ∃(i:Nat) (ys:List (D6 w0 B M)),p= .int .i64 (i:Int)/\i<=nk/\Hid (ys.map (·.t)=dh (kids.take i)/\J (pre++x::ys) wr/\fG B n₁ W wr)) (fun p _=>nk - (intOf p).toNat)
   case atStart=>exact⟨0,[],rfl,Nat.zero_le _,kH ⟨by simp[dh],HJ2.out,Ap.out⟩⟩
   case round=>
    obtain⟨i,ys,rfl,hi,HI⟩:=hrel;by_cases hlt:i<nk
    ·obtain⟨u,hu⟩:∃u,kids[i]? =some u:=⟨_,aaH (by rw[HN.out];exact hlt)⟩
     obtain⟨kv,⟨b,off,hA,hbl,hcs⟩,hT⟩:=HK.out.get i u hu;obtain⟨A',c',nO,hK'⟩:=hT.five;have hbwr:b<wr.heap.size:=by have:=HI.out.2.2.size;omega
     subst hA;subst nO;have Kk:=HW0.out.trans HI.out.2.2;have t0:wr.cell? ⟨b,off+i*5,none⟩=some (.int .i64 u.kind):=Kk.cell (.inl hbl) (by simpa using hcs 0 _ rfl);have t1:wr.cell? ⟨b,off+i*5+1,none⟩=some (.string u.text):=Kk.cell (.inl hbl) (by simpa using hcs 1 _ rfl);have t2:wr.cell? ⟨b,off+i*5+2,none⟩=some (.int .i64 u.at_):=Kk.cell (.inl hbl) (by simpa using hcs 2 _ rfl);have t3:wr.cell? ⟨b,off+i*5+3,none⟩=some (.int .i64 u.end_):=Kk.cell (.inl hbl) (by simpa using hcs 3 _ rfl);have t4:wr.cell? ⟨b,off+i*5+4,none⟩=some (.slice A' u.kids.length c'):=Kk.cell (.inl hbl) (by simpa using hcs 4 _ rfl);have htk:=gU kids i u hu;have hle:=jk kids (i+1);have hnt:=Bp kids i u hu;have hup:=oL u;obtain⟨W4,lV⟩:∃W4,wr.alloc (.cells #[.int .i64 u.kind,.string u.text,.int .i64 u.at_,.int .i64 u.end_,.slice A' u.kids.length c'] 24)=W4:=⟨_,rfl⟩
     have hk4:fG B n₁ W W4:=by rw[<- lV];exact HI.out.2.2.trans (fG.of_below (af _ _) rfl)
     have hj4:J (pre++x::ys) W4:=by rw[<- lV];exact HJ.out _ _ _ HI.out.2.1
     have hlen:ys.length=ag (kids.take i):=by rw[<- y9,<- HI.out.1,List.length_map]
     have hcall:=eH.out u A' c' (n - 1) (pre++x::ys) W4 (by have:=HM.out;omega) HM.out.2.2.1 hK' (HW0.out.trans hk4) (by have:=hk4.size;omega) hj4 (by have:=HM.out;simp only[aaO,aaQ];omega)
     have yu:=hcall.mono (R':=fun e W5=>(e= .returned (.bool true)/\Hid (∃zs:List (D6 w0 B M),zs.map (·.t)=dh (kids.take (i+1))/\J (pre++x::zs) W5/\fG B n₁ W W5))\/(e= .returned (.bool false)/\Hid (∃q:List (D6 w0 B M),q.map (·.t)<+:dh kids/\Jx (pre++x::q) W5)))
      (fun e W5 h=>h.elim (fun⟨h1,zs,h2,h3,h4⟩=>.inl ⟨h1,kH ⟨ys++zs,by rw[List.map_append,h2,HI.out.1,hnt],by simpa [List.append_assoc] using h3,hk4.trans h4⟩⟩)
       (fun⟨h1,q,h2,h3⟩=>.inr ⟨h1,kH ⟨ys++q,by
        rw[List.map_append,HI.out.1]
        have h5:dh (kids.take i)++dV u<+:dh kids:=by
         rw[<- hnt];conv=>rhs;rw[<- List.take_append_drop (i+1) kids,Dx]
         exact List.prefix_append _ _
        exact((List.prefix_append_right_inj _).2 h2).trans h5,by simpa [List.append_assoc] using h3⟩⟩))
     rw[<- lV]at yu;unfold aX at yu;have hwrp:IntKind.i64.wrap ((i:Int)+1)=(i:Int)+1:=IntWalk.i64_in _ (by omega);obtain⟨un,hun⟩:∃q,u.kids.length=q:=⟨_,rfl⟩
     rw[hun]at t4 yu;clear hcs hT hK' Kk htk hle hnt hup lV hk4 hj4 hlen hcall hun hu HI
     gi_wp2_with (first
      | ((try refine⟨hdd _,?_⟩);gi_at_call 200;refine yu.mono ?_;clear yu;rintro e W5 (⟨rfl,HI5⟩| ⟨rfl,HI5⟩)))
     ·obtain⟨zs,hz⟩:=HI5.out
      exact⟨⟨i+1,zs,by simp,by omega,kH hz⟩,by simp only[intOf];omega⟩
     ·go_ret
      obtain⟨q,hq,hx⟩:=HI5.out;exact .inr ⟨rfl,x::q,by rw[rF.out,List.map_cons,Tu.out];exact List.cons_prefix_cons.2 ⟨rfl,hq⟩,hx⟩
    ·have hie:i=nk:=by omega
     subst hie;have htake:kids.take i=kids:=by rw[<- HN.out,List.take_length]
     have H1:=HI.out.1;rw[htake]at H1;gi_wp2
     go_ret
     exact .inl ⟨rfl,x::ys,by rw[rF.out,List.map_cons,Tu.out,H1],HI.out.2.1,HI.out.2.2⟩
  ·go_ret
   exact .inr ⟨rfl,[x],by rw[hnd];simp[hxt],hx2⟩
theorem WW(F:Fence)(hd:F.depth=none)(h1:F.fn 199)(hf:F.fn 200)(hro:F.round=none)(l Bt B n₁ M:Nat)(hB:B<=n₁)(hM:M<=1000000000)(w0:World)(n:Nat)(t:aa)(A:Option Addr)(c:Nat)(J Jx:List (D6 w0 B M)->World->Prop)
 (hJ:∀s W o,J s W->J s (W.alloc o))
 (hY:∀pre x W,J pre W->pre.length<ah t->YieldAt F (n - 1) Tryz.prog l #[aX x.t x.A x.c] W fun e W'=>
  (e= .returned (.bool true)/\J (pre++[x]) W'/\fG B n₁ W W')\/(e= .returned (.bool false)/\Jx (pre++[x]) W'))
 (W:World) (hm:ah t<=M) (hk:aD w0 B A 0 t.kids) (hw0:fG B n₁ w0 W) (hsz:n₁<=W.heap.size) (GV:ai W Bt 24 #[.int .i64 t.kind,.string t.text,.int .i64 t.at_,.int .i64 t.end_,.slice A t.kids.length c]) (h0:J [] W):
 CallsIn F n Tryz.prog 199 #[.func (.yield l) #[] #[],.pointer (some ⟨Bt,0,none⟩)] W fun e W'=>(∃v,e= .returned v) /\
  ((∃ys:List (D6 w0 B M),ys.map (·.t)=dV t/\J ys W')\/(∃pre:List (D6 w0 B M),pre.map (·.t)<+:dV t/\Jx pre W')):=by
 have hdd:∀k:Nat,(F.depth.isSome=true->1<=k):=fun k h=>by rw[hd]at h;cases h
 have hp:=YG F hd hf hro l B n₁ M (ah t) hB hM w0 J Jx hJ (fun m pre x W hj hl=>Wl hd m (hY pre x W hj hl)) M t A c (n - 1) [] W hm (aaD _) hk hw0 hsz h0 (by simp);unfold aX at hp;have c0:=GV.cell 0;have c1:=GV.cell 1;have c2:=GV.cell 2;have c3:=GV.cell 3;have c4:=GV.cell 4;have hlt:=GV.lt;clear hY hJ GV;refine callsIn_of_wp Tryz.func199 rfl h1 ?_ hro;simp only[Tryz.ntmps199,List.size_toArray,aaQ,List.length_nil,Nat.reduceAdd,Nat.reduceSub,Array.replicate_succ,Array.replicate_zero,List.push_toArray,List.append_toArray,List.nil_append,List.cons_append];gi_wp2_with ((try refine⟨hdd _,?_⟩);gi_at_call 200;refine hp.mono ?_;clear hp;rintro e W1 (⟨rfl,q,h2,h3,h4⟩| ⟨rfl,q,h2,h3⟩))
 ·go_end0
  exact⟨⟨_,rfl⟩,.inl ⟨q,h2,by simpa using h3⟩⟩
 ·go_end0
  exact⟨⟨_,rfl⟩,.inr ⟨q,h2,by simpa using h3⟩⟩
theorem xX{β:Type}(B g:Nat)(t:TypeId)(f:β->Array Value):OwnFrom B (fun s W=>ai W g t (f s)):=fun s X Y row hs hg hr=>ai.grown hs hg (fun e=>by
 obtain⟨_,o,ho,hc⟩:=hr g e.symm;rw[show X.heap[g]? =_ from hs]at ho;cases ho
 cases hc)
theorem GA(F:Fence)(hd:F.depth=none)(n:Nat)(h1:F.fn 199)(hf:F.fn 200)(hro:F.round=none)(Bt B n₁ M:Nat)(hB:B<=n₁)(hM:M<=1000000000)(w0 w:World)(t:aa)(A:Option Addr)(c:Nat)
 (hm:ah t<=M) (hk:aD w0 B A 0 t.kids) (hw0:fG B n₁ w0 w) (hsz:n₁<=w.heap.size) (GV:ai w Bt 24 #[.int .i64 t.kind,.string t.text,.int .i64 t.at_,.int .i64 t.end_,.slice A t.kids.length c]):
 SeqStopsK F n Tryz.prog 199 #[.pointer (some ⟨Bt,0,none⟩)] (fun x:D6 w0 B M=> #[aX x.t x.A x.c]) (fG B n₁) (fun ys=>ys.map (·.t)=dV t) (fun pre=>pre.map (·.t)<+:dV t) (ah t) w:=
 fun l J Jx W hW hJ _ hY h0=>
  WW F hd h1 hf hro l Bt B n₁ M hB hM w0 n t A c J Jx (fun s X o hs=>hJ s X _ none hs (World.grownBy_alloc X o none) (fun r e=>by cases e)) hY W hm hk (hw0.trans (fG.of_below hW rfl)) (aaE hsz hW.size) (GV.below hW GV.lt) h0
theorem MP(t:aa)(A:Option Addr)(c:Nat)(w:World):
 Calls Tryz.prog 142 #[aX t A c] w fun e w'=>e= .returned (.func (.func 199) #[] #[.pointer (some ⟨w.heap.size,0,none⟩)])/\w'=w.alloc (.cells #[.int .i64 t.kind,.string t.text,.int .i64 t.at_,.int .i64 t.end_,.slice A t.kids.length c] 24):=by
 unfold aX;go_enter Tryz.func142,Tryz.ntmps142
 go_wp2_with fail
 go_ret
 exact⟨rfl,rfl⟩
theorem Fp(t:aa)(A:Option Addr)(c:Nat)(w:World)(hm:ah t<=1000000000)(hk:aD w w.heap.size A 0 t.kids):
 Calls Tryz.prog 77 #[aX t A c] w fun e w'=>e= .returned (.int .i64 (ah t:Int))/\Below w.heap.size w w':=by
 refine(callsIn_wide (n:=6)).1 ?_;have yt:=fun w'=>MP t A c w'
 unfold aX at yt⊢;refine callsIn_of_wp_marks Tryz.func77 rfl trivial ?_ rfl;simp only[Tryz.ntmps77,List.size_toArray,aaQ,List.length_nil,Nat.reduceAdd,Nat.reduceSub,Array.replicate_succ,Array.replicate_zero,List.push_toArray,List.append_toArray,List.nil_append,List.cons_append];gi_wp2_with (refine⟨trivial,?_⟩;gi_at_call 142;refine(callsIn_wide.2 (yt _)).mono ?_;rintro e w' ⟨rfl,rfl⟩)
 have hS:ai (w.alloc (.cells #[.int .i64 t.kind,.string t.text,.int .i64 t.at_,.int .i64 t.end_,.slice A t.kids.length c] 24)) w.heap.size 24 #[.int .i64 t.kind,.string t.text,.int .i64 t.at_,.int .i64 t.end_,.slice A t.kids.length c]:=ai.new w _ _;generalize hW1:w.alloc (.cells #[.int .i64 t.kind,.string t.text,.int .i64 t.at_,.int .i64 t.end_,.slice A t.kids.length c] 24)=W1 at hS
 have hb1:Below w.heap.size w W1:=by rw[<- hW1];exact af _ _
 have hs1:W1.heap.size=w.heap.size+1:=by rw[<- hW1];simp
 have hS2:ai (W1.alloc (.cells #[.int .i64 0] 3)) (w.heap.size+1) 3 #[.int .i64 0]:=by rw[<- hs1];exact ai.new W1 _ _
 generalize hW2:W1.alloc (.cells #[.int .i64 0] 3)=W2 at hS2
 have hb2:Below W1.heap.size W1 W2:=by rw[<- hW2];exact af _ _
 have hs2:W2.heap.size=w.heap.size+2:=by rw[<- hW2];simp[hs1]
 have tK:ai (W2.alloc (.cells #[.int .i64 t.kind,.string t.text,.int .i64 t.at_,.int .i64 t.end_,.slice A t.kids.length c] 24)) (w.heap.size+1+1) 24 #[.int .i64 t.kind,.string t.text,.int .i64 t.at_,.int .i64 t.end_,.slice A t.kids.length c]:=by
  rw[show w.heap.size+1+1=W2.heap.size by omega];exact ai.new W2 _ _
 generalize hW3:W2.alloc (.cells #[.int .i64 t.kind,.string t.text,.int .i64 t.at_,.int .i64 t.end_,.slice A t.kids.length c] 24)=W3 at tK⊢
 have hb3:Below W2.heap.size W2 W3:=by rw[<- hW3];exact af _ _
 have hs3:W3.heap.size=w.heap.size+3:=by rw[<- hW3];simp[hs2]
 have sN:=hS2.below hb3 hS2.lt;have wH:Below w.heap.size w W3:=(hb1.trans (hb2.mono (by omega))).trans (hb3.mono (by omega));have hk3:=aD.below wH (aaD _) _ _ _ hk;clear hW1 hW2 hW3 hS2 hS hb1 hb2 hb3 hs1 hs2 hk;have h1:1<=6:=by omega
 refine wpIn_rangeFunc_ownF rfl h1 (gf:=199) (lb:=#[.pointer (some ⟨w.heap.size+1+1,0,none⟩)]) rfl trivial (enters_of Tryz.func199 (by kernel_rfl) rfl)
  (GA Fence.wide rfl (6 - 1) trivial trivial rfl (w.heap.size+1+1) w.heap.size (w.heap.size+3) 1000000000 (by omega) (aaD _) W3 W3 t A c hm hk3 (fG.refl _ _ _) (by omega) tK) fG.trans (fun W l o o' _ h hc _=>fG.putObj o' h hc) (Below.refl _ _) (fun _=>rfl)
  (fun pre W=>ai W (w.heap.size+1) 3 #[.int .i64 (pre.length:Int)]/\Below w.heap.size w W)
  (fun _ _ _=>False)
  (OwnFrom.and (xX _ _ _ _) (ownFrom_below (aaD _) (by omega)))
  (fun _ _ _ _ _ hs _ _=>hs)
  ⟨sN,wH⟩
  (fun x=> { tmps:=#[.agg #[.int .i64 t.kind,.string t.text,.int .i64 t.at_,.int .i64 t.end_,.slice A t.kids.length c],.pointer (some ⟨w.heap.size,0,none⟩),.int .i64 0,.pointer (some ⟨w.heap.size+1,0,none⟩),.agg #[.int .i64 t.kind,.string t.text,.int .i64 t.at_,.int .i64 t.end_,.slice A t.kids.length c],
   .func (.func 199) #[] #[.pointer (some ⟨w.heap.size+1+1,0,none⟩)],aX x.t x.A x.c,undef,undef,undef],defers:=[] }) ?assign ?body ?done ?stop
 case assign=>
  intro l x W K hK;gi_wp2
  simpa using hK
 case body=>
  rintro l pre x W ⟨hc,hf⟩ hl;have c0:=hc.cell 0;have f0:=hc.frozen 0;have hlt:=hc.lt;have hwr:IntKind.i64.wrap ((pre.length:Int)+1)=(pre.length:Int)+1:=IntWalk.i64_in _ (by omega);have iF:=kH hs3;have HC:=kH hc;have HF:=kH hf;clear hk3 sN tK wH yt hc hf hs3;gi_wp2
  exact⟨KeepsOthers.setCell _ _ _,fG.setCell _ _ (by show w.heap.size<=w.heap.size+1;omega) (by show w.heap.size+1<w.heap.size+3;omega),by simpa using HC.out.fU 0 (.int .i64 ((pre.length:Int)+1)),HF.out.setCell (p:=⟨w.heap.size+1,0,none⟩) (by show w.heap.size<=w.heap.size+1;omega) _⟩
 case done=>
  rintro D ys W hD hys ⟨hc,hf⟩ hK;have c0:=hc.cell 0;have hys2:ys.length=ah t:=by rw[<- qo,<- hys,List.length_map]
  have HK:=kH hK;have HF:=kH hf;have hD2:w.heap.size<=D:=by omega
  clear hk3 sN tK wH yt hc hf hs3 hK hys;gi_wp2
  refine⟨by simp,.inl ⟨_,_,rfl,run_takeDeferred HK.out,?_⟩⟩;refine⟨_,results_tmp rfl _ _ _,?_⟩;exact⟨rfl,HF.out.trans (belowK_b (w:=w) (aaD _) W D _ _ hD2 HK.out rfl rfl)⟩
 case stop=>
  rintro D c pre W _ _ h _;exact h.elim
end Go.Proofs.YtoepemlnlpamlaaGreat
namespace Go.Proofs.YtoepemlnlpamlaaGreat
def yM:List Bool->Nat
 | []=>0
 | b::l=>(if b then 0 else 1)+yM l
theorem QQ:∀(l:List Bool) (i:Nat),l[i]? =some false->yM (l.set i true)+1=yM l
 | [],i,h=>by simp at h
 | b::l,0,h=>by
  simp at h;subst h;simp[yM];omega
 | b::l,i+1,h=>by
  have:=QQ l i (by simpa using h);simp only[sC,yM];omega
theorem Nl:∀(l:List Bool),yM l=0->∀i,i<l.length->l[i]? =some true
 | [],_,i,h=>by simp at h
 | b::l,h,0,_=>by
  cases b with
  | true=>rfl
  | false=>simp[yM]at h
 | b::l,h,i+1,hi=>by
  have:yM l=0:=by unfold yM at h;omega
  simpa using Nl l this i (by simpa using hi)
theorem Z7(n:Nat):yM (List.replicate n false)=n:=by
 induction n with
 | zero=>rfl
 | succ n ih=>simp only[List.replicate_succ,yM,ih];simp;omega
section
variable {P:Program}{ops:Array Oper}{Q:Exit->Act->World->Prop}{md:Region.Mode}
theorem VO(De:∀(i:Nat) (o:Oper),ops[i]? =some o->∀e∈o.after,e.on<i){listed:Array Bool}(hs:listed.size=ops.size)(hr:Region.ready md ops listed=[]):∀i,i<ops.size->listed.getD i true=true:=by
 intro i
 induction i using Nat.strongRecOn with
 | ind i ih=>
  intro hi
  cases hl:listed.getD i true with
  | true=>rfl
  | false=>
   exfalso
   have ho:ops[i]? =some ops[i]:=Array.getElem?_eq_getElem hi
   have:i∈Region.ready md ops listed:=mem_ready.2 ⟨hl,ops[i],ho,fun e he _=>by
    have h1:=De i _ ho e he;have h2:=ih e.on h1 (by omega);have h3:e.on<listed.size:=by omega
    simp[h3]at h2⊢
    exact h2⟩
   rw[hr]at this;cases this
theorem Wn(I:Array Bool->Act->World->Prop)(De:∀(i:Nat) (o:Oper),ops[i]? =some o->∀e∈o.after,e.on<i)
 (hstep:∀listed a w i,listed.size=ops.size->I listed a w->i∈Region.ready md ops listed->wpOp P ops Q i (I (listed.setIfInBounds i true)) a w)
 (hend:∀listed a w,listed.size=ops.size->(∀i,i<ops.size->listed.getD i true=true)->I listed a w->Q .normal a w):
 ∀(fuel:Nat) (listed:Array Bool) (a:Act) (w:World),listed.size=ops.size->yM listed.toList<=fuel->I listed a w->wpAny P md ops Q fuel listed a w:=by
 intro fuel
 induction fuel with
 | zero=>
  intro listed a w hs hc hI
  have hall:∀i,i<ops.size->listed.getD i true=true:=by
   intro i hi;have:=Nl listed.toList (by omega) i (by simpa [hs] using hi);have h2:i<listed.size:=by omega
   simp[h2]at this⊢;exact this
  refine⟨?_,hend listed a w hs hall hI⟩
  cases hr:Region.ready md ops listed with
  | nil=>rfl
  | cons j l=>
   exfalso
   have hj:j∈Region.ready md ops listed:=by rw[hr];simp
   obtain⟨h1,o,h2,-⟩:=mem_ready.1 hj;have h3:j<ops.size:=(aaG.1 h2).1;rw[hall j h3]at h1
   cases h1
 | succ fuel ih=>
  intro listed a w hs hc hI;refine⟨fun hr=>hend listed a w hs (VO De hs hr) hI,fun i hi=>?_⟩;have h1:=(mem_ready.1 hi).1;obtain⟨o,h2,-⟩:=(mem_ready.1 hi).2;have h3:i<ops.size:=(aaG.1 h2).1;have h4:i<listed.size:=by omega
  have h5:listed.toList[i]? =some false:=by simp[h4]at h1⊢;exact h1
  refine wpOp_mono (fun a' w' hI'=>ih _ a' w' (by simpa using hs) ?_ hI') (hstep listed a w i hs hI hi);have:=QQ listed.toList i h5;rw[Array.toList_setIfInBounds];omega
theorem NH{id:Nat}{a:Act}{w:World}{l:List Oper}(I:Array Bool->Act->World->Prop)(hm:P.follows .mixedOrders=true)
 (De:∀(i:Nat) (o:Oper),l.toArray[i]? =some o->∀e∈o.after,e.on<i)
 (h0:I (Array.replicate l.toArray.size false) a w.drew)
 (hstep:∀listed a w i,listed.size=l.toArray.size->I listed a w->i∈Region.ready .any l.toArray listed->wpOp P l.toArray (NoPanic Q) i (I (listed.setIfInBounds i true)) a w)
 (hend:∀listed a w,listed.size=l.toArray.size->(∀i,i<l.toArray.size->listed.getD i true=true)->I listed a w->Q .normal a w):(Code.region id l.toArray true).wp P Q a w:=by
 refine wp_region_noPanic (wp_region_any hm ?_);exact Wn (md:=.any) I De hstep (fun listed a w h1 h2 h3=>(hend listed a w h1 h2 h3:Q .normal a w)) l.toArray.size _ a _ (by simp) (by rw[Array.toList_replicate,Z7];exact aaD _) h0
def Dl(ops:Array Oper)(T:Nat->World->Value->Prop)(listed:Array Bool)(a:Act)(w:World):Prop:=
 ∀(i:Nat) (o:Oper) (t:Nat),ops[i]? =some o->o.dst=some t->listed.getD i false=true->∃v,a.tmps[t]? =some v/\T t w v
theorem Dl.put{T:Nat->World->Value->Prop}{listed:Array Bool}{a:Act}{w w':World}(h:Dl ops T listed a w)(hs:listed.size=ops.size)(hT:∀t v,T t w v->T t w' v)
 (hinj:∀(i j:Nat) (o o':Oper) (t:Nat),ops[i]? =some o->ops[j]? =some o'->o.dst=some t->o'.dst=some t->i=j)
 {i:Nat}{o:Oper}{t:Nat}{v:Value}(ho:ops[i]? =some o) (hd:o.dst=some t) (ht:t<a.tmps.size) (hv:T t w' v):Dl ops T (listed.setIfInBounds i true) (a.put o.dst v) w':=by
 intro j o' t' ho' hd' hl;rw[hd];have hput:(a.put (some t) v).tmps=a.tmps.setIfInBounds t v:=rfl;rw[hput];by_cases hji:j=i
 ·subst hji
  rw[ho]at ho';cases ho'
  rw[hd]at hd';cases hd'
  exact⟨v,by simp[ht],hv⟩
 ·have hl2:listed.getD j false=true:=by
   have h3:j<listed.size:=by have:=(aaG.1 ho').1;omega
   simp[h3,Ne.symm hji]at hl⊢;exact hl
  obtain⟨v',h1,h2⟩:=h j o' t' ho' hd' hl2
  have hne:t'≠t:=by
   rintro rfl;exact hji (hinj j i o' o t' ho' ho hd' hd)
  exact⟨v',by rw[Array.getElem?_setIfInBounds_ne (Ne.symm hne)];exact h1,hT _ _ h2⟩
theorem Dl.skip{T:Nat->World->Value->Prop}{listed:Array Bool}{a:Act}{w w':World}(h:Dl ops T listed a w)(hs:listed.size=ops.size)(hT:∀t v,T t w v->T t w' v)
 {i:Nat}{o:Oper}(ho:ops[i]? =some o) (hd:o.dst=none):Dl ops T (listed.setIfInBounds i true) a w':=by
 intro j o' t' ho' hd' hl;by_cases hji:j=i
 ·subst hji
  rw[ho]at ho';cases ho'
  rw[hd]at hd';cases hd'
 ·have hl2:listed.getD j false=true:=by
   have h3:j<listed.size:=by have:=(aaG.1 ho').1;omega
   simp[h3,Ne.symm hji]at hl⊢;exact hl
  obtain⟨v',h1,h2⟩:=h j o' t' ho' hd' hl2;exact⟨v',h1,hT _ _ h2⟩
end
open Go.RowKit
structure vN where
 text:ByteArray->Bool
 kids:List (Int->Bool)
 list:Option (Int->Bool)
 most:Int
def dF(l:List Int):Int->Bool:=fun k=>l.any fun y=>decide (k=y)
def jE(p:Int->Bool):Int->Bool:=fun k=>decide (k=0) || p k
def uS(l:List ByteArray):ByteArray->Bool:=fun s=>nE l s
def cZ:ByteArray->Bool:=fun s=>xU s.data.toList
def jq:ByteArray->Bool:=fun s=>decide (s.size=0)
def FR:List ByteArray:=[⟨#[105,110,116]⟩,⟨#[98,111,111,108]⟩]
def Ol:ByteArray->Bool:=fun s=>uS FR s || cZ s
def NZ:List ByteArray:=[⟨#[116,114,117,101]⟩,⟨#[102,97,108,115,101]⟩]
def unW:List ByteArray:=[⟨#[45]⟩,⟨#[110,111,116]⟩]
def QT:List ByteArray:=[⟨#[111,114]⟩,⟨#[97,110,100]⟩,⟨#[61,61]⟩,⟨#[33,61]⟩,⟨#[60]⟩,⟨#[60,61]⟩,⟨#[62]⟩,⟨#[62,61]⟩,⟨#[43]⟩,⟨#[45]⟩,⟨#[42]⟩,⟨#[47]⟩,⟨#[37]⟩]
def sP:Nat->Option vN
 | 0=>some ⟨jq,[],none,0⟩
 | 2=>some ⟨jq,[],some (dF [3,5]),0⟩
 | 3=>some ⟨cZ,[],some (dF [4]),1⟩
 | 4=>some ⟨cZ,[dF [9]],none,0⟩
 | 5=>some ⟨cZ,[dF [6],jE fq,dF [11]],none,0⟩
 | 6=>some ⟨jq,[],some (dF [7,8]),0⟩
 | 7=>some ⟨cZ,[jE fq],none,0⟩
 | 8=>some ⟨cZ,[jE fq],none,0⟩
 | 9=>some ⟨Ol,[],none,0⟩
 | 10=>some ⟨oU,[],none,0⟩
 | 11=>some ⟨jq,[],some sI,0⟩
 | 12=>some ⟨cZ,[jE fq,bA],none,0⟩
 | 13=>some ⟨jq,[mU,bA],none,0⟩
 | 14=>some ⟨jq,[bA,dF [11],jE (dF [11,14])],none,0⟩
 | 15=>some ⟨jq,[bA,dF [11]],none,0⟩
 | 16=>some ⟨cZ,[bA,bA,dF [11]],none,0⟩
 | 17=>some ⟨jq,[jE bA],none,0⟩
 | 18=>some ⟨jq,[bA],none,0⟩
 | 19=>some ⟨cZ,[],some bA,0⟩
 | 20=>some ⟨cZ,[],none,0⟩
 | 21=>some ⟨jq,[dF [20],bA],none,0⟩
 | 22=>some ⟨cZ,[dF [20]],none,0⟩
 | 23=>some ⟨jq,[dF [20]],none,0⟩
 | 24=>some ⟨oU,[],none,0⟩
 | 25=>some ⟨uS NZ,[],none,0⟩
 | 26=>some ⟨jq,[],some bA,1⟩
 | 27=>some ⟨cZ,[],some bA,0⟩
 | 28=>some ⟨uS unW,[bA],none,0⟩
 | 29=>some ⟨uS QT,[bA,bA],none,0⟩
 | _=>none
def lJ:Int->Option vN
 | .ofNat n=>sP n
 | .negSucc _=>none
def Gb(w:World)(A:Option Addr)(ps:List (Int->Bool)):Prop:=
 ∀i p,ps[i]? =some p->∃b off v,A=some ⟨b,off,none⟩/\w.cell? ⟨b,off+i,none⟩=some v/\jv w v p
theorem Gb.kc{w w':World}{A:Option Addr}{ps:List (Int->Bool)}(h:Gb w A ps)(hk:KC w w')(hs:w.heap.size<=w'.heap.size):Gb w' A ps:=by
 intro i p hp;obtain⟨b,off,v,h1,h2,h3⟩:=h i p hp;exact⟨b,off,v,h1,hk.cell h2,h3.kc hk hs⟩
def ListFn(w:World)(v:Value):Option (Int->Bool)->Prop
 | none=>v= .nilFunc
 | some p=>jv w v p
def qf(w:World)(v:Value)(sh:vN):Prop:=
 ∃tv A c lv,v= .agg #[tv,.slice A sh.kids.length c,lv,.int .i64 sh.most]/\oD w tv sh.text/\Gb w A sh.kids/\ListFn w lv sh.list
theorem qf.kc{w w':World}{v:Value}{sh:vN}(h:qf w v sh)(hk:KC w w')(hs:w.heap.size<=w'.heap.size):qf w' v sh:=by
 obtain⟨tv,A,c,lv,h1,h2,h3,h4⟩:=h;refine⟨tv,A,c,lv,h1,h2.kc hk hs,h3.kc hk hs,?_⟩
 cases hl:sh.list with
 | none=>rw[hl]at h4;exact h4
 | some p=>rw[hl]at h4;exact jv.kc h4 hk hs
inductive Tg where
 | any
 | ints (l:List Int)
 | strs (l:List ByteArray)
 | kind (p:Int->Bool)
 | text (p:ByteArray->Bool)
 | qb (ps:List (Int->Bool))
 | shape (sh:vN)
def xK(w:World)(v:Value):Tg->Prop
 | .any=>True
 | .ints l=> ∃A c,v= .slice A l.length c/\bW 1 dM w w.heap.size A l
 | .strs l=> ∃A c,v= .slice A l.length c/\bW 1 eZ w w.heap.size A l
 | .kind p=>jv w v p
 | .text p=>oD w v p
 | .qb ps=> ∃A c,v= .slice A ps.length c/\Gb w A ps
 | .shape sh=>qf w v sh
theorem xK.kc{w w':World}{v:Value}(hk:KC w w')(hs:w.heap.size<=w'.heap.size):∀{g:Tg},xK w v g->xK w' v g
 | .any,h=>h
 | .ints _,h=>by
  obtain⟨A,c,h1,h2⟩:=h;exact⟨A,c,h1,(h2.kc hk).mono hs⟩
 | .strs _,h=>by
  obtain⟨A,c,h1,h2⟩:=h;exact⟨A,c,h1,(h2.kc hk).mono hs⟩
 | .kind _,h=>jv.kc h hk hs
 | .text _,h=>oD.kc h hk hs
 | .qb _,h=>by
  obtain⟨A,c,h1,h2⟩:=h;exact⟨A,c,h1,h2.kc hk hs⟩
 | .shape _,h=>qf.kc h hk hs
def AA(id:Nat):Code->Option (List Oper)
 | .region i ops _=>if i=id then some ops.toList else none
 | .seq a b=>(AA id a).or (AA id b)
 | .cond _ a b=>(AA id a).or (AA id b)
 | .block _ a=>AA id a
 | .loop a=>AA id a
 | .scope a=>AA id a
 | _=>none
def dz(f:Func)(id:Nat):List Oper:=((f.body).bind (AA id)).getD []
theorem MF:(dz Tryz.f141 4).length=138:=by kernel_rfl
theorem zg{ops:Array Oper}{md:Region.Mode}{listed:Array Bool}{i j:Nat}(hi:i∈Region.ready md ops listed)(h:(ops[i]?).map (fun o=>o.after.toList.any fun e=>Region.binds md e&&(e.on==j))=some true):listed.getD j false=true:=by
 obtain⟨-,o,ho,hall⟩:=mem_ready.1 hi;rw[ho]at h;simp only[Option.map_some,aaI,List.any_eq_true,aaF,beq_iff_eq]at h;obtain⟨e,h1,h2,h3⟩:=h;rw[<- h3];exact hall e (by simpa using h1) h2
theorem tL{a:Act}{t:Nat}{v:Value}(h:a.tmps[t]? =some v):a.eval (.tmp t)=v:=by
 simp[Act.eval,h]
end Go.Proofs.YtoepemlnlpamlaaGreat
