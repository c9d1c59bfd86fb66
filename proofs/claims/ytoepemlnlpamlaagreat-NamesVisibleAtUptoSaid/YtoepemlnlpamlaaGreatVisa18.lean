/- The law NamesVisibleAt holds where what it reads is of bulk at most 1048576: it returns true, and its arguments read as before. Part 18: Visit Inv Shp3. -/
import Derived.RangeFuncNested
import Derived.RangeFuncBound
import Derived.RangeFuncCalls
import Derived.RangeFuncLeaves
import Derived.Shelf.Abstract
import Derived.Shelf.RegionOpen
import Derived.WalkKit
import Derived.OwnWalkIn
import Derived.TacticsInMore
import Derived.LoopNIn
import Derived.LoopIn
import Derived.Test.YtoepemlnlpamlaaGreatVisa13
import Derived.Test.YtoepemlnlpamlaaGreatVisa16
import Derived.Test.YtoepemlnlpamlaaGreatVisa17
set_option maxRecDepth 100000
set_option maxHeartbeats 4000000
namespace Go.Proofs.YtoepemlnlpamlaaGreat
open Go.RowKit Go.Shelf
attribute [local go_sem] Oper.semAt_some
theorem QW{F:Fence}(A:F.depth=none)(k:Nat):F.room k:=fun d h=>by rw[A]at h;cases h
theorem Za{F:Fence}(B:F.depth=none){m C:Nat}{P:Program}{l:Nat}{f:FuncId}{tmps:Array Value}{assign body:Code}{w:World}{R:Ending->World->Prop}
 (h:RoundIn F m P l f tmps assign body w R):RoundIn F C P l f tmps assign body w R:=⟨h.1,fun c A _=>h.2 c A (QW B _)⟩
theorem YR{F:Fence}(C:F.depth=none){m:Nat}(E:Nat){P:Program}{l:Nat}{args:Array Value}{W:World}{R:Ending->World->Prop}(h:YieldAt F m P l args W R):YieldAt F E P l args W R:=by
 obtain⟨A,tmps,assign,body,D,B⟩:=h;exact⟨A,tmps,assign,body,D,Za C B⟩
structure FO (w:World) (B M:Nat) where
 t:ae
 A:Option Addr
 c:Nat
 kids:aJ w B A 0 t.kids
 small:ai t<=M
theorem Fy:∀(a b:List ae),dz (a++b)=dz a++dz b
 | [],_=>rfl
 | t::ts,b=>by simp only[List.cons_append,dz,Fy ts b,List.append_assoc]
structure gB (B n₁:Nat) (W W':World):Prop where
 size:W.heap.size<=W'.heap.size
 same:∀(g:Nat) (o:Obj),(g<B\/n₁<=g)->W.heap[g]? =some o->o.isCells=true->W'.heap[g]? =some o
theorem gB.refl(B A:Nat)(W:World):gB B A W W:=⟨aab _,fun _ _ _ h _=>h⟩
theorem gB.trans{B A:Nat}{W C D:World}(h:gB B A W C)(k:gB B A C D):gB B A W D:=
 ⟨aac h.size k.size,fun g o F G E=>k.same g o F (h.same g o F G E) E⟩
theorem gB.of_below{B A n:Nat}{W C:World}(h:Below n W C)(E:n=W.heap.size):gB B A W C:=
 ⟨h.size,fun g o _ D _=>(h.block g (by subst E;exact(aae.1 D).1)).trans D⟩
theorem gB.putObj{B A:Nat}{W:World}{l:Nat}{o:Obj}(E:Obj)(h:W.heap[l]? =some o)(G:o.isCells=false):gB B A W (W.putObj l E):=by
 have H:=(aae.1 h).1;refine⟨(grownBy_putObj' W l E).size,fun g p _ C F=>?_⟩
 have D:g≠l:=fun e=>by
  subst e;rw[h]at C;cases C
  rw[G]at F;cases F
 exact((grownBy_putObj' W l E).block g (aae.1 C).1 (fun e=>D (by cases e;rfl))).trans C
theorem gB.setCell{B A:Nat}{W:World}(p:Addr)(u:Value)(D:B<=p.block)(E:p.block<A):gB B A W (W.setCell p u):=
 ⟨by simp,fun g o F C _=>(Below.heap_setCell W p u g (by omega)).trans C⟩
theorem cell_obj{W:World}{p:Addr}{v:Value}(h:W.cell? p=some v):∃o,W.heap[p.block]? =some o/\o.isCells=true:=by
 unfold World.cell? at h
 cases A:W.heap[p.block]? with
 | none=>rw[A]at h;simp at h
 | some o=>
  refine⟨o,rfl,?_⟩;rw[A]at h;cases o<;>simp_all [Obj.isCells]
theorem gB.cell{B A:Nat}{W D:World}(h:gB B A W D){p:Addr}{v:Value}(H:p.block<B\/A<=p.block)(C:W.cell? p=some v):D.cell? p=some v:=by
 obtain⟨o,E,G⟩:=cell_obj C;have F:=h.same _ _ H E G;unfold World.cell? at C⊢;rw[F];rw[E]at C;exact C
theorem gB.blk{B A:Nat}{W C:World}(h:gB B A W C){g:Nat}{t:TypeId}{D:Array Value}(F:g<B\/A<=g)(E:aj W g t D):aj C g t D:=h.same g _ F E rfl
theorem visit_in(F:Fence)(hd:F.depth=none)(hf:F.fn 200)(hro:F.round=none)(l B E M N:Nat)(hB:B<=E)(hM:M<=1000000000)(T:World)(J Jx:List (FO T B M)->World->Prop)
 (hJ:∀s W o,J s W->J s (W.alloc o))
 (hY:∀m D x W,J D W->D.length<N->YieldAt F m Tryz.prog l #[aZ x.t x.A x.c] W fun e U=>
  (e= .returned (.bool true)/\J (D++[x]) U/\gB B E W U)\/(e= .returned (.bool false)/\Jx (D++[x]) U)):
 ∀(m:Nat) (t:ae) (A:Option Addr) (c n:Nat) (D:List (FO T B M)) (W:World),ai t<=m->m<=M->aJ T B A 0 t.kids->gB B E T W->E<=W.heap.size->J D W->D.length+ai t<=N ->
  CallsIn F n Tryz.prog 200 #[aZ t A c,.func (.yield l) #[] #[]] W fun e U=>
   (e= .returned (.bool true)/\∃I:List (FO T B M),I.map (·.t)=bT t/\J (D++I) U/\gB B E W U) \/
   (e= .returned (.bool false)/\∃q:List (FO T B M),q.map (·.t)<+:bT t/\Jx (D++q) U):=by
 intro m
 induction m with
 | zero=>
  intro t A c n D W h;have:=tT t;omega
 | succ m ih=>
  intro t A c n D W hm hmM hk hw0 hsz hj hN;have hdd:∀k:Nat,(F.depth.isSome=true->1<=k):=fun k h=>by rw[hd]at h;cases h
  have hce:=pO t;have X:=wQ t;obtain⟨x,d⟩:∃x:FO T B M,x=⟨t,A,c,hk,by omega⟩:=⟨_,rfl⟩
  have G:=fun U hj'=>hY (n - 1) D x U hj' (by omega)
  have Y:x.t=t:=by rw[d]
  have hxA:x.A=A:=by rw[d]
  have Va:x.c=c:=by rw[d]
  rw[Y,hxA,Va]at G;clear d;obtain⟨C,nY⟩:∃x,t.kids=x:=⟨_,rfl⟩
  obtain⟨Z,hn⟩:∃x,C.length=x:=⟨_,rfl⟩
  unfold aZ at G⊢;rw[nY]at hk hce X G⊢;rw[hn]at G⊢;obtain⟨k,hk0⟩:∃x,t.kind=x:=⟨_,rfl⟩
  obtain⟨tx,hx0⟩:∃x,t.text=x:=⟨_,rfl⟩
  obtain⟨a,ha0⟩:∃x,t.at_=x:=⟨_,rfl⟩
  obtain⟨z,hzz⟩:∃x,t.end_=x:=⟨_,rfl⟩
  rw[hk0,hx0,ha0,hzz]at G⊢;have hcl:=jO C;have hnb:Z<=1000000000:=by omega
  generalize L:W.alloc (.cells #[.int .i64 k,.string tx,.int .i64 a,.int .i64 z,.slice A Z c] 24)=W1
  have hj1:J D W1:=by rw[<- L];exact hJ _ _ _ hj
  have hk1:gB B E W W1:=by rw[<- L];exact gB.of_below (ag _ _) rfl
  have iE:aj W1 W.heap.size 24 #[.int .i64 k,.string tx,.int .i64 a,.int .i64 z,.slice A Z c]:=by rw[<- L];exact aj.new W _ _
  have hy1:=(G W1 hj1).mono (R':=fun e g=>(e= .returned (.bool true)/\g.cell? ⟨W.heap.size,4,none⟩=some (.slice A Z c)/\J (D++[x]) g/\gB B E W g)\/(e= .returned (.bool false)/\Jx (D++[x]) g))
   (fun e g h=>h.elim (fun⟨h1,h2,f⟩=>.inl ⟨h1,(f.blk (.inr hsz) iE).cell 4,h2,hk1.trans f⟩) .inr)
  rw[<- L]at hy1;clear G L hj1 hk1 iE;refine callsIn_of_wp Tryz.func200 rfl hf ?_ hro;simp only[Tryz.ntmps200,List.size_toArray,aao,List.length_nil,Nat.reduceAdd,Nat.reduceSub,Array.replicate_succ,Array.replicate_zero,List.push_toArray,List.append_toArray,List.nil_append,List.cons_append];obtain⟨fn,tmps,assign,body,hy,hR⟩:=hy1
  gi_wp2_with (first
   | ((try refine⟨hdd _,?_⟩);refine hR.mono ?_;clear hR;rintro e g (⟨rfl,c4,hJ2,hk2⟩| ⟨rfl,hx2⟩)))
  ·have HK:=kH hk
   have HN:=kH hn;have lh:=kH X;have fE:=kH ih;have HM:Hid (aD C<=m/\m<=1000000000/\m<=M/\D.length+1+aD C<=N):=kH ⟨by omega,by omega,by omega,by omega⟩;have HJ:=kH hJ;have HW0:=kH hw0;have HJ2:=kH hJ2;have JJ:=kH hk2;have HXT:=kH Y;clear hk hn X ih hm hmM hN hY hJ hw0 hJ2 hk2 hj hce nY hcl Y hxA Va c4;gi_loopw [14] (fun p wr=> ∃(i:Nat) (I:List (FO T B M)),p= .int .i64 (i:Int)/\i<=Z/\Hid (I.map (·.t)=dz (C.take i)/\J (D++x::I) wr/\gB B E W wr)) (fun p _=>Z - (intOf p).toNat)
   case atStart=>exact⟨0,[],rfl,Nat.zero_le _,kH ⟨by simp[dz],HJ2.out,JJ.out⟩⟩
   case round=>
    obtain⟨i,I,rfl,hi,K⟩:=hrel;by_cases hlt:i<Z
    ·obtain⟨u,hu⟩:∃u,C[i]? =some u:=⟨_,aaf (by rw[HN.out];exact hlt)⟩
     obtain⟨kv,⟨b,S,hA,O,H⟩,hT⟩:=HK.out.get i u hu;obtain⟨A',c',jF,hK'⟩:=hT.five;have hbwr:b<wr.heap.size:=by have:=K.out.2.2.size;omega
     subst hA;subst jF;have j:=HW0.out.trans K.out.2.2;have t0:wr.cell? ⟨b,S+i*5,none⟩=some (.int .i64 u.kind):=j.cell (.inl O) (by simpa using H 0 _ rfl);have t1:wr.cell? ⟨b,S+i*5+1,none⟩=some (.string u.text):=j.cell (.inl O) (by simpa using H 1 _ rfl);have t2:wr.cell? ⟨b,S+i*5+2,none⟩=some (.int .i64 u.at_):=j.cell (.inl O) (by simpa using H 2 _ rfl);have t3:wr.cell? ⟨b,S+i*5+3,none⟩=some (.int .i64 u.end_):=j.cell (.inl O) (by simpa using H 3 _ rfl);have t4:wr.cell? ⟨b,S+i*5+4,none⟩=some (.slice A' u.kids.length c'):=j.cell (.inl O) (by simpa using H 4 _ rfl);have htk:=gD C i u hu;have hle:=iZ C (i+1);have v:=Df C i u hu;have hup:=tT u;obtain⟨W4,kS⟩:∃W4,wr.alloc (.cells #[.int .i64 u.kind,.string u.text,.int .i64 u.at_,.int .i64 u.end_,.slice A' u.kids.length c'] 24)=W4:=⟨_,rfl⟩
     have V:gB B E W W4:=by rw[<- kS];exact K.out.2.2.trans (gB.of_below (ag _ _) rfl)
     have hj4:J (D++x::I) W4:=by rw[<- kS];exact HJ.out _ _ _ K.out.2.1
     have hlen:I.length=aD (C.take i):=by rw[<- Aq,<- K.out.1,List.length_map]
     have R:=fE.out u A' c' (n - 1) (D++x::I) W4 (by have:=HM.out;omega) HM.out.2.2.1 hK' (HW0.out.trans V) (by have:=V.size;omega) hj4 (by have:=HM.out;simp only[aam,aao];omega)
     have zx:=R.mono (R':=fun e W5=>(e= .returned (.bool true)/\Hid (∃zs:List (FO T B M),zs.map (·.t)=dz (C.take (i+1))/\J (D++x::zs) W5/\gB B E W W5))\/(e= .returned (.bool false)/\Hid (∃q:List (FO T B M),q.map (·.t)<+:dz C/\Jx (D++x::q) W5)))
      (fun e W5 h=>h.elim (fun⟨h1,zs,h2,f,h4⟩=>.inl ⟨h1,kH ⟨I++zs,by rw[List.map_append,h2,K.out.1,v],by simpa [List.append_assoc] using f,V.trans h4⟩⟩)
       (fun⟨h1,q,h2,f⟩=>.inr ⟨h1,kH ⟨I++q,by
        rw[List.map_append,K.out.1]
        have h5:dz (C.take i)++bT u<+:dz C:=by
         rw[<- v];conv=>rhs;rw[<- List.take_append_drop (i+1) C,Fy]
         exact List.prefix_append _ _
        exact((List.prefix_append_right_inj _).2 h2).trans h5,by simpa [List.append_assoc] using f⟩⟩))
     rw[<- kS]at zx;unfold aZ at zx;have hwrp:IntKind.i64.wrap ((i:Int)+1)=(i:Int)+1:=IntWalk.i64_in _ (by omega);obtain⟨un,hun⟩:∃q,u.kids.length=q:=⟨_,rfl⟩
     rw[hun]at t4 zx;clear H hT hK' j htk hle v hup kS V hj4 hlen R hun hu K
     gi_wp2_with (first
      | ((try refine⟨hdd _,?_⟩);gi_at_call 200;refine zx.mono ?_;clear zx;rintro e W5 (⟨rfl,y⟩| ⟨rfl,y⟩)))
     ·obtain⟨zs,hz⟩:=y.out
      exact⟨⟨i+1,zs,by simp,by omega,kH hz⟩,by simp only[intOf];omega⟩
     ·go_ret
      obtain⟨q,hq,d⟩:=y.out;exact .inr ⟨rfl,x::q,by rw[lh.out,List.map_cons,HXT.out];exact List.cons_prefix_cons.2 ⟨rfl,hq⟩,d⟩
    ·have hie:i=Z:=by omega
     subst hie;have r:C.take i=C:=by rw[<- HN.out,List.take_length]
     have H1:=K.out.1;rw[r]at H1;gi_wp2
     go_ret
     exact .inl ⟨rfl,x::I,by rw[lh.out,List.map_cons,HXT.out,H1],K.out.2.1,K.out.2.2⟩
  ·go_ret
   exact .inr ⟨rfl,[x],by rw[X];simp[Y],hx2⟩
theorem Zo(F:Fence)(O:F.depth=none)(y:F.fn 199)(j:F.fn 200)(I:F.round=none)(l V B D M:Nat)(u:B<=D)(r:M<=1000000000)(H:World)(n:Nat)(t:ae)(A:Option Addr)(c:Nat)(J K:List (FO H B M)->World->Prop)
 (X:∀s W o,J s W->J s (W.alloc o))
 (Y:∀C x W,J C W->C.length<ai t->YieldAt F (n - 1) Tryz.prog l #[aZ x.t x.A x.c] W fun e G=>
  (e= .returned (.bool true)/\J (C++[x]) G/\gB B D W G)\/(e= .returned (.bool false)/\K (C++[x]) G))
 (W:World) (hm:ai t<=M) (f:aJ H B A 0 t.kids) (U:gB B D H W) (T:D<=W.heap.size) (E:aj W V 24 #[.int .i64 t.kind,.string t.text,.int .i64 t.at_,.int .i64 t.end_,.slice A t.kids.length c]) (z:J [] W):
 CallsIn F n Tryz.prog 199 #[.func (.yield l) #[] #[],.pointer (some ⟨V,0,none⟩)] W fun e G=>(∃v,e= .returned v) /\
  ((∃Z:List (FO H B M),Z.map (·.t)=bT t/\J Z G)\/(∃C:List (FO H B M),C.map (·.t)<+:bT t/\K C G)):=by
 have R:∀k:Nat,(F.depth.isSome=true->1<=k):=fun k h=>by rw[O]at h;cases h
 have S:=visit_in F O j I l B D M (ai t) u r H J K X (fun m C x W g d=>YR O m (Y C x W g d)) M t A c (n - 1) [] W hm (aab _) f U T z (by simp);unfold aZ at S;have c0:=E.cell 0;have c1:=E.cell 1;have c2:=E.cell 2;have c3:=E.cell 3;have c4:=E.cell 4;have b:=E.lt;clear Y X E;refine callsIn_of_wp Tryz.func199 rfl y ?_ I;simp only[Tryz.ntmps199,List.size_toArray,aao,List.length_nil,Nat.reduceAdd,Nat.reduceSub,Array.replicate_succ,Array.replicate_zero,List.push_toArray,List.append_toArray,List.nil_append,List.cons_append];gi_wp2_with ((try refine⟨R _,?_⟩);gi_at_call 200;refine S.mono ?_;clear S;rintro e W1 (⟨rfl,q,L,N,h4⟩| ⟨rfl,q,L,N⟩))
 ·go_end0
  exact⟨⟨_,rfl⟩,.inl ⟨q,L,by simpa using N⟩⟩
 ·go_end0
  exact⟨⟨_,rfl⟩,.inr ⟨q,L,by simpa using N⟩⟩
theorem zb{β:Type}(B g:Nat)(t:TypeId)(f:β->Array Value):OwnFrom B (fun s W=>aj W g t (f s)):=fun s X Y G C E F=>aj.grown C E (fun e=>by
 obtain⟨_,o,A,D⟩:=F g e.symm;rw[show X.heap[g]? =_ from C]at A;cases A
 cases D)
theorem Je(F:Fence)(Z:F.depth=none)(n:Nat)(S:F.fn 199)(z:F.fn 200)(H:F.round=none)(E B C M:Nat)(T:B<=C)(V:M<=1000000000)(D w:World)(t:ae)(A:Option Addr)(c:Nat)
 (v:ai t<=M) (y:aJ D B A 0 t.kids) (K:gB B C D w) (I:C<=w.heap.size) (N:aj w E 24 #[.int .i64 t.kind,.string t.text,.int .i64 t.at_,.int .i64 t.end_,.slice A t.kids.length c]):
 SeqStopsK F n Tryz.prog 199 #[.pointer (some ⟨E,0,none⟩)] (fun x:FO D B M=> #[aZ x.t x.A x.c]) (gB B C) (fun q=>q.map (·.t)=bT t) (fun L=>L.map (·.t)<+:bT t) (ai t) w:=
 fun l J O W G U _ Y R=>
  Zo F Z S z H l E B C M T V D n t A c J O (fun s X o u=>U s X _ none u (World.grownBy_alloc X o none) (fun r e=>by cases e)) Y W v y (K.trans (gB.of_below G rfl)) (aac I G.size) (N.below G N.lt) R
theorem OD(t:ae)(A:Option Addr)(c:Nat)(w:World):
 Calls Tryz.prog 142 #[aZ t A c] w fun e w'=>e= .returned (.func (.func 199) #[] #[.pointer (some ⟨w.heap.size,0,none⟩)])/\w'=w.alloc (.cells #[.int .i64 t.kind,.string t.text,.int .i64 t.at_,.int .i64 t.end_,.slice A t.kids.length c] 24):=by
 unfold aZ;go_in
 go_wp2_with fail
 go_ret
 exact⟨rfl,rfl⟩
theorem He(t:ae)(A:Option Addr)(c:Nat)(w:World)(f:ai t<=1000000000)(r:aJ w w.heap.size A 0 t.kids):
 Calls Tryz.prog 77 #[aZ t A c] w fun e w'=>e= .returned (.int .i64 (ai t:Int))/\Below w.heap.size w w':=by
 refine(callsIn_wide (n:=6)).1 ?_;have Y:=fun w'=>OD t A c w'
 unfold aZ at Y⊢;refine callsIn_of_wp_marks Tryz.func77 rfl trivial ?_ rfl;simp only[Tryz.ntmps77,List.size_toArray,aao,List.length_nil,Nat.reduceAdd,Nat.reduceSub,Array.replicate_succ,Array.replicate_zero,List.push_toArray,List.append_toArray,List.nil_append,List.cons_append];gi_wp2_with (refine⟨trivial,?_⟩;gi_at_call 142;refine(callsIn_wide.2 (Y _)).mono ?_;rintro e w' ⟨rfl,rfl⟩)
 have u:aj (w.alloc (.cells #[.int .i64 t.kind,.string t.text,.int .i64 t.at_,.int .i64 t.end_,.slice A t.kids.length c] 24)) w.heap.size 24 #[.int .i64 t.kind,.string t.text,.int .i64 t.at_,.int .i64 t.end_,.slice A t.kids.length c]:=aj.new w _ _;generalize F:w.alloc (.cells #[.int .i64 t.kind,.string t.text,.int .i64 t.at_,.int .i64 t.end_,.slice A t.kids.length c] 24)=W1 at u
 have N:Below w.heap.size w W1:=by rw[<- F];exact ag _ _
 have L:W1.heap.size=w.heap.size+1:=by rw[<- F];simp
 have E:aj (W1.alloc (.cells #[.int .i64 0] 3)) (w.heap.size+1) 3 #[.int .i64 0]:=by rw[<- L];exact aj.new W1 _ _
 generalize G:W1.alloc (.cells #[.int .i64 0] 3)=W2 at E
 have O:Below W1.heap.size W1 W2:=by rw[<- G];exact ag _ _
 have S:W2.heap.size=w.heap.size+2:=by rw[<- G];simp[L]
 have V:aj (W2.alloc (.cells #[.int .i64 t.kind,.string t.text,.int .i64 t.at_,.int .i64 t.end_,.slice A t.kids.length c] 24)) (w.heap.size+1+1) 24 #[.int .i64 t.kind,.string t.text,.int .i64 t.at_,.int .i64 t.end_,.slice A t.kids.length c]:=by
  rw[show w.heap.size+1+1=W2.heap.size by omega];exact aj.new W2 _ _
 generalize H:W2.alloc (.cells #[.int .i64 t.kind,.string t.text,.int .i64 t.at_,.int .i64 t.end_,.slice A t.kids.length c] 24)=W3 at V⊢
 have I:Below W2.heap.size W2 W3:=by rw[<- H];exact ag _ _
 have M:W3.heap.size=w.heap.size+3:=by rw[<- H];simp[S]
 have y:=E.below I E.lt;have X:Below w.heap.size w W3:=(N.trans (O.mono (by omega))).trans (I.mono (by omega));have J:=aJ.below X (aab _) _ _ _ r;clear F G H E u N O I L S r;have j:1<=6:=by omega
 refine wpIn_rangeFunc_ownF rfl j (gf:=199) (lb:=#[.pointer (some ⟨w.heap.size+1+1,0,none⟩)]) rfl trivial (enters_of Tryz.func199 (by kernel_rfl) rfl)
  (Je Fence.wide rfl (6 - 1) trivial trivial rfl (w.heap.size+1+1) w.heap.size (w.heap.size+3) 1000000000 (by omega) (aab _) W3 W3 t A c f J (gB.refl _ _ _) (by omega) V) gB.trans (fun W l o o' _ h C _=>gB.putObj o' h C) (Below.refl _ _) (fun _=>rfl)
  (fun B W=>aj W (w.heap.size+1) 3 #[.int .i64 (B.length:Int)]/\Below w.heap.size w W)
  (fun _ _ _=>False)
  (OwnFrom.and (zb _ _ _ _) (ownFrom_below (aab _) (by omega)))
  (fun _ _ _ _ _ d _ _=>d)
  ⟨y,X⟩
  (fun x=> { tmps:=#[.agg #[.int .i64 t.kind,.string t.text,.int .i64 t.at_,.int .i64 t.end_,.slice A t.kids.length c],.pointer (some ⟨w.heap.size,0,none⟩),.int .i64 0,.pointer (some ⟨w.heap.size+1,0,none⟩),.agg #[.int .i64 t.kind,.string t.text,.int .i64 t.at_,.int .i64 t.end_,.slice A t.kids.length c],
   .func (.func 199) #[] #[.pointer (some ⟨w.heap.size+1+1,0,none⟩)],aZ x.t x.A x.c,undef,undef,undef],defers:=[] }) ?assign ?body ?done ?stop
 case assign=>
  intro l x W K U;gi_wp2
  simpa using U
 case body=>
  rintro l B x W ⟨C,R⟩ hl;have k:=C.cell 0;have f0:=C.frozen 0;have g:=C.lt;have b:IntKind.i64.wrap ((B.length:Int)+1)=(B.length:Int)+1:=IntWalk.i64_in _ (by omega);have iW:=kH M;have m:=kH C;have Z:=kH R;clear J y V X Y C R M;gi_wp2
  exact⟨KeepsOthers.setCell _ _ _,gB.setCell _ _ (by show w.heap.size<=w.heap.size+1;omega) (by show w.heap.size+1<w.heap.size+3;omega),by simpa using m.out.gu 0 (.int .i64 ((B.length:Int)+1)),Z.out.setCell (p:=⟨w.heap.size+1,0,none⟩) (by show w.heap.size<=w.heap.size+1;omega) _⟩
 case done=>
  rintro D ys W hD T ⟨C,R⟩ U;have k:=C.cell 0;have q:ys.length=ai t:=by rw[<- iY,<- T,List.length_map]
  have v:=kH U;have Z:=kH R;have z:w.heap.size<=D:=by omega
  clear J y V X Y C R M U T;gi_wp2
  refine⟨by simp,.inl ⟨_,_,rfl,run_takeDeferred v.out,?_⟩⟩;refine⟨_,results_tmp rfl _ _ _,?_⟩;exact⟨rfl,Z.out.trans (belowK_b (w:=w) (aab _) W D _ _ z v.out rfl rfl)⟩
 case stop=>
  rintro D c B W _ _ h _;exact h.elim
end Go.Proofs.YtoepemlnlpamlaaGreat
namespace Go.Proofs.YtoepemlnlpamlaaGreat
def zU:List Bool->Nat
 | []=>0
 | b::l=>(if b then 0 else 1)+zU l
theorem Tk:∀(l:List Bool) (i:Nat),l[i]? =some false->zU (l.set i true)+1=zU l
 | [],i,h=>by simp at h
 | b::l,0,h=>by
  simp at h;subst h;simp[zU];omega
 | b::l,i+1,h=>by
  have:=Tk l i (by simpa using h);simp only[sC,zU];omega
theorem Pg:∀(l:List Bool),zU l=0->∀i,i<l.length->l[i]? =some true
 | [],_,i,h=>by simp at h
 | b::l,h,0,_=>by
  cases b with
  | true=>rfl
  | false=>simp[zU]at h
 | b::l,h,i+1,hi=>by
  have:zU l=0:=by unfold zU at h;omega
  simpa using Pg l this i (by simpa using hi)
theorem cntF_rep(n:Nat):zU (List.replicate n false)=n:=by
 induction n with
 | zero=>rfl
 | succ n ih=>simp only[List.replicate_succ,zU,ih];simp;omega
section
variable {P:Program}{ops:Array Oper}{Q:Exit->Act->World->Prop}{md:Region.Mode}
theorem Yu(D:∀(i:Nat) (o:Oper),ops[i]? =some o->∀e∈o.after,e.on<i){A:Array Bool}(K:A.size=ops.size)(J:Region.ready md ops A=[]):∀i,i<ops.size->A.getD i true=true:=by
 intro i
 induction i using Nat.strongRecOn with
 | ind i ih=>
  intro H
  cases I:A.getD i true with
  | true=>rfl
  | false=>
   exfalso
   have C:ops[i]? =some ops[i]:=Array.getElem?_eq_getElem H
   have:i∈Region.ready md ops A:=mem_ready.2 ⟨I,ops[i],C,fun e G _=>by
    have E:=D i _ C e G;have B:=ih e.on E (by omega);have F:e.on<A.size:=by omega
    simp[F]at B⊢
    exact B⟩
   rw[J]at this;cases this
theorem YU(I:Array Bool->Act->World->Prop)(N:∀(i:Nat) (o:Oper),ops[i]? =some o->∀e∈o.after,e.on<i)
 (E:∀A a w i,A.size=ops.size->I A a w->i∈Region.ready md ops A->wpOp P ops Q i (I (A.setIfInBounds i true)) a w)
 (C:∀A a w,A.size=ops.size->(∀i,i<ops.size->A.getD i true=true)->I A a w->Q .normal a w):
 ∀(fuel:Nat) (A:Array Bool) (a:Act) (w:World),A.size=ops.size->zU A.toList<=fuel->I A a w->wpAny P md ops Q fuel A a w:=by
 intro fuel
 induction fuel with
 | zero=>
  intro A a w D T J
  have B:∀i,i<ops.size->A.getD i true=true:=by
   intro i H;have:=Pg A.toList (by omega) i (by simpa [D] using H);have G:i<A.size:=by omega
   simp[G]at this⊢;exact this
  refine⟨?_,C A a w D B J⟩
  cases L:Region.ready md ops A with
  | nil=>rfl
  | cons j l=>
   exfalso
   have U:j∈Region.ready md ops A:=by rw[L];simp
   obtain⟨F,o,G,-⟩:=mem_ready.1 U;have M:j<ops.size:=(aae.1 G).1;rw[B j M]at F
   cases F
 | succ fuel ih=>
  intro A a w D T J;refine⟨fun L=>C A a w D (Yu N D L) J,fun i H=>?_⟩;have F:=(mem_ready.1 H).1;obtain⟨o,G,-⟩:=(mem_ready.1 H).2;have M:i<ops.size:=(aae.1 G).1;have R:i<A.size:=by omega
  have S:A.toList[i]? =some false:=by simp[R]at F⊢;exact F
  refine wpOp_mono (fun O w' K=>ih _ O w' (by simpa using D) ?_ K) (E A a w i D J H);have:=Tk A.toList i S;rw[Array.toList_setIfInBounds];omega
theorem PK{K:Nat}{a:Act}{w:World}{l:List Oper}(I:Array Bool->Act->World->Prop)(J:P.follows .mixedOrders=true)
 (D:∀(i:Nat) (o:Oper),l.toArray[i]? =some o->∀e∈o.after,e.on<i)
 (E:I (Array.replicate l.toArray.size false) a w.drew)
 (B:∀A a w i,A.size=l.toArray.size->I A a w->i∈Region.ready .any l.toArray A->wpOp P l.toArray (NoPanic Q) i (I (A.setIfInBounds i true)) a w)
 (C:∀A a w,A.size=l.toArray.size->(∀i,i<l.toArray.size->A.getD i true=true)->I A a w->Q .normal a w):(Code.region K l.toArray true).wp P Q a w:=by
 refine wp_region_noPanic (wp_region_any J ?_);exact YU (md:=.any) I D B (fun A a w F G H=>(C A a w F G H:Q .normal a w)) l.toArray.size _ a _ (by simp) (by rw[Array.toList_replicate,cntF_rep];exact aab _) E
def Fe(ops:Array Oper)(T:Nat->World->Value->Prop)(listed:Array Bool)(a:Act)(w:World):Prop:=
 ∀(i:Nat) (o:Oper) (t:Nat),ops[i]? =some o->o.dst=some t->listed.getD i false=true->∃v,a.tmps[t]? =some v/\T t w v
theorem Fe.put{T:Nat->World->Value->Prop}{A:Array Bool}{a:Act}{w w':World}(h:Fe ops T A a w)(X:A.size=ops.size)(S:∀t v,T t w v->T t w' v)
 (E:∀(i j:Nat) (o G:Oper) (t:Nat),ops[i]? =some o->ops[j]? =some G->o.dst=some t->G.dst=some t->i=j)
 {i:Nat}{o:Oper}{t:Nat}{v:Value}(M:ops[i]? =some o) (H:o.dst=some t) (U:t<a.tmps.size) (V:T t w' v):Fe ops T (A.setIfInBounds i true) (a.put o.dst v) w':=by
 intro j G K B C L;rw[H];have F:(a.put (some t) v).tmps=a.tmps.setIfInBounds t v:=rfl;rw[F];by_cases D:j=i
 ·subst D
  rw[M]at B;cases B
  rw[H]at C;cases C
  exact⟨v,by simp[U],V⟩
 ·have I:A.getD j false=true:=by
   have R:j<A.size:=by have:=(aae.1 B).1;omega
   simp[R,Ne.symm D]at L⊢;exact L
  obtain⟨W,N,O⟩:=h j G K B C I
  have J:K≠t:=by
   rintro rfl;exact D (E j i G o K B M C H)
  exact⟨W,by rw[Array.getElem?_setIfInBounds_ne (Ne.symm J)];exact N,S _ _ O⟩
theorem Fe.skip{T:Nat->World->Value->Prop}{A:Array Bool}{a:Act}{w w':World}(h:Fe ops T A a w)(R:A.size=ops.size)(J:∀t v,T t w v->T t w' v)
 {i:Nat}{o:Oper}(L:ops[i]? =some o) (K:o.dst=none):Fe ops T (A.setIfInBounds i true) a w':=by
 intro j M N B C F;by_cases D:j=i
 ·subst D
  rw[L]at B;cases B
  rw[K]at C;cases C
 ·have E:A.getD j false=true:=by
   have I:j<A.size:=by have:=(aae.1 B).1;omega
   simp[I,Ne.symm D]at F⊢;exact F
  obtain⟨O,G,H⟩:=h j M N B C E;exact⟨O,G,J _ _ H⟩
end
open Go.RowKit
structure yx where
 text:ByteArray->Bool
 kids:List (Int->Bool)
 list:Option (Int->Bool)
 most:Int
def bS(l:List Int):Int->Bool:=fun k=>l.any fun y=>decide (k=y)
def gL(p:Int->Bool):Int->Bool:=fun k=>decide (k=0) || p k
def nL(l:List ByteArray):ByteArray->Bool:=fun s=>kJ l s
def df:ByteArray->Bool:=fun s=>rE s.data.toList
def fq:ByteArray->Bool:=fun s=>decide (s.size=0)
def DU:List ByteArray:=[⟨#[105,110,116]⟩,⟨#[98,111,111,108]⟩]
def NC:ByteArray->Bool:=fun s=>nL DU s || df s
def Fb:List ByteArray:=[⟨#[116,114,117,101]⟩,⟨#[102,97,108,115,101]⟩]
def Qz:List ByteArray:=[⟨#[45]⟩,⟨#[110,111,116]⟩]
def BU:List ByteArray:=[⟨#[111,114]⟩,⟨#[97,110,100]⟩,⟨#[61,61]⟩,⟨#[33,61]⟩,⟨#[60]⟩,⟨#[60,61]⟩,⟨#[62]⟩,⟨#[62,61]⟩,⟨#[43]⟩,⟨#[45]⟩,⟨#[42]⟩,⟨#[47]⟩,⟨#[37]⟩]
def oh:Nat->Option yx
 | 0=>some ⟨fq,[],none,0⟩
 | 2=>some ⟨fq,[],some (bS [3,5]),0⟩
 | 3=>some ⟨df,[],some (bS [4]),1⟩
 | 4=>some ⟨df,[bS [9]],none,0⟩
 | 5=>some ⟨df,[bS [6],gL dC,bS [11]],none,0⟩
 | 6=>some ⟨fq,[],some (bS [7,8]),0⟩
 | 7=>some ⟨df,[gL dC],none,0⟩
 | 8=>some ⟨df,[gL dC],none,0⟩
 | 9=>some ⟨NC,[],none,0⟩
 | 10=>some ⟨jk,[],none,0⟩
 | 11=>some ⟨fq,[],some ll,0⟩
 | 12=>some ⟨df,[gL dC,aQ],none,0⟩
 | 13=>some ⟨fq,[jv,aQ],none,0⟩
 | 14=>some ⟨fq,[aQ,bS [11],gL (bS [11,14])],none,0⟩
 | 15=>some ⟨fq,[aQ,bS [11]],none,0⟩
 | 16=>some ⟨df,[aQ,aQ,bS [11]],none,0⟩
 | 17=>some ⟨fq,[gL aQ],none,0⟩
 | 18=>some ⟨fq,[aQ],none,0⟩
 | 19=>some ⟨df,[],some aQ,0⟩
 | 20=>some ⟨df,[],none,0⟩
 | 21=>some ⟨fq,[bS [20],aQ],none,0⟩
 | 22=>some ⟨df,[bS [20]],none,0⟩
 | 23=>some ⟨fq,[bS [20]],none,0⟩
 | 24=>some ⟨jk,[],none,0⟩
 | 25=>some ⟨nL Fb,[],none,0⟩
 | 26=>some ⟨fq,[],some aQ,1⟩
 | 27=>some ⟨df,[],some aQ,0⟩
 | 28=>some ⟨nL Qz,[aQ],none,0⟩
 | 29=>some ⟨nL BU,[aQ,aQ],none,0⟩
 | _=>none
def mf:Int->Option yx
 | .ofNat n=>oh n
 | .negSucc _=>none
def IU(w:World)(A:Option Addr)(ps:List (Int->Bool)):Prop:=
 ∀i p,ps[i]? =some p->∃b off v,A=some ⟨b,off,none⟩/\w.cell? ⟨b,off+i,none⟩=some v/\jE w v p
theorem IU.kc{w w':World}{A:Option Addr}{D:List (Int->Bool)}(h:IU w A D)(C:KC w w')(I:w.heap.size<=w'.heap.size):IU w' A D:=by
 intro i p H;obtain⟨b,B,v,E,F,G⟩:=h i p H;exact⟨b,B,v,E,C.cell F,G.kc C I⟩
def ListFn(w:World)(v:Value):Option (Int->Bool)->Prop
 | none=>v= .nilFunc
 | some p=>jE w v p
def qH(w:World)(v:Value)(sh:yx):Prop:=
 ∃tv A c lv,v= .agg #[tv,.slice A sh.kids.length c,lv,.int .i64 sh.most]/\pg w tv sh.text/\IU w A sh.kids/\ListFn w lv sh.list
theorem qH.kc{w w':World}{v:Value}{E:yx}(h:qH w v E)(C:KC w w')(D:w.heap.size<=w'.heap.size):qH w' v E:=by
 obtain⟨K,A,c,J,G,H,I,B⟩:=h;refine⟨K,A,c,J,G,H.kc C D,I.kc C D,?_⟩
 cases F:E.list with
 | none=>rw[F]at B;exact B
 | some p=>rw[F]at B;exact jE.kc B C D
inductive Tg where
 | any
 | ints (l:List Int)
 | strs (l:List ByteArray)
 | kind (p:Int->Bool)
 | text (p:ByteArray->Bool)
 | qG (ps:List (Int->Bool))
 | shape (sh:yx)
def yQ(w:World)(v:Value):Tg->Prop
 | .any=>True
 | .ints l=> ∃A c,v= .slice A l.length c/\bU 1 gN w w.heap.size A l
 | .strs l=> ∃A c,v= .slice A l.length c/\bU 1 bN w w.heap.size A l
 | .kind p=>jE w v p
 | .text p=>pg w v p
 | .qG ps=> ∃A c,v= .slice A ps.length c/\IU w A ps
 | .shape sh=>qH w v sh
theorem yQ.kc{w w':World}{v:Value}(B:KC w w')(C:w.heap.size<=w'.heap.size):∀{g:Tg},yQ w v g->yQ w' v g
 | .any,h=>h
 | .ints _,h=>by
  obtain⟨A,c,D,E⟩:=h;exact⟨A,c,D,(E.kc B).mono C⟩
 | .strs _,h=>by
  obtain⟨A,c,D,E⟩:=h;exact⟨A,c,D,(E.kc B).mono C⟩
 | .kind _,h=>jE.kc h B C
 | .text _,h=>pg.kc h B C
 | .qG _,h=>by
  obtain⟨A,c,D,E⟩:=h;exact⟨A,c,D,E.kc B C⟩
 | .shape _,h=>qH.kc h B C
def Cx(id:Nat):Code->Option (List Oper)
 | .region i ops _=>if i=id then some ops.toList else none
 | .seq a b=>(Cx id a).or (Cx id b)
 | .cond _ a b=>(Cx id a).or (Cx id b)
 | .block _ a=>Cx id a
 | .loop a=>Cx id a
 | .scope a=>Cx id a
 | _=>none
def dH(f:Func)(id:Nat):List Oper:=((f.body).bind (Cx id)).getD []
theorem Ow:(dH Tryz.f141 4).length=138:=by kernel_rfl
theorem AO{ops:Array Oper}{md:Region.Mode}{A:Array Bool}{i j:Nat}(F:i∈Region.ready md ops A)(h:(ops[i]?).map (fun o=>o.after.toList.any fun e=>Region.binds md e&&(e.on==j))=some true):A.getD j false=true:=by
 obtain⟨-,o,G,B⟩:=mem_ready.1 F;rw[G]at h;simp only[Option.map_some,aag,List.any_eq_true,aad,beq_iff_eq]at h;obtain⟨e,C,D,E⟩:=h;rw[<- E];exact B e (by simpa using C) D
theorem uN{a:Act}{t:Nat}{v:Value}(h:a.tmps[t]? =some v):a.eval (.tmp t)=v:=by
 simp[Act.eval,h]
end Go.Proofs.YtoepemlnlpamlaaGreat
