/- The law NamesVisibleAt holds where what it reads is of bulk at most 1048576: it returns true, and its arguments read as before. Part 38: Rw5. -/
import Derived.Deep.CutBlock
import Derived.Test.YtoepemlnlpamlaaGreatVisa36
import Derived.Test.YtoepemlnlpamlaaGreatVisa37
set_option maxRecDepth 100000
set_option maxHeartbeats 4000000
namespace Go.Proofs.YtoepemlnlpamlaaGreat
open Go.RowKit
structure vI (E:RE) (G:List Dc) (mk:Int) (q2:RW) (s1:List Nat) (w0 w:World) (A1:Option Addr) (n1 c1:Nat):Prop where
 V:∃V,dP E G mk q2 V w
 K:KW E w0 w
 S:gP w (E.uA.map (·.block)) A1 s1
 len:s1.length=n1
 cap:n1<=c1
structure Yz (G:List Dc) (q:RW) (s:List Nat) (t:ae):Prop where
 ds:q.ds.length<=q.num
 li:q.list.length<=q.num
 us:q.num+ai t<=q.uses.length
 most:q.uses.length<=1000000
 gl:G.length<=1000000
 nodes:∀d∈G,0<=d.node/\d.node<=1000000
 QK:pq s q
 Ym:∀y∈bT t,y.kind=3\/y.kind=4\/y.kind=5->∃d,nN G (decide (y.kind=4)) y.text=some d
theorem De(t:ae):t∈bT t:=by cases t;simp[bT]
theorem EZ{G:List Dc}{a b:Int}{x:ByteArray}{n:Int}(h:gz G a b x=some n):∃d∈G,d.node=n:=by
 unfold gz at h
 cases B:nN G (decide (a=1)) x with
 | none=>rw[B]at h;cases h
 | some d=>
  rw[B]at h;obtain⟨j,-,C,-⟩:=AJ B;have A:(if d.kind=a\/d.kind=b then some d.node else none)=some n:=h;split at A
  ·exact⟨d,aan C,Option.some.inj A⟩
  ·cases A
theorem Xy(mk:Int)(q:RW)(s:List Nat):(dI mk q s).ds=q.ds/\(dI mk q s).list=q.list/\(dI mk q s).uses=q.uses/\(dI mk q s).num=q.num:=by
 unfold dI;split<;>exact⟨rfl,rfl,rfl,rfl⟩
theorem Tu(P:Program)(w:World){t A e:TypeId}(B:TypeId){i:TypeInfo}(D:P.info? e=some i)(h:P.underlying t=some (.slice e))(C:P.underlying A=some (.slice e))(v x:Value):(Builtin.append_ #[t,A] B #[v,x]).run P w=(Builtin.append_ #[t,t] B #[v,x]).run P w:=by
 unfold Builtin.append_;cases v<;>simp[run_underlying h,run_underlying C,sizeOf,typeInfo,D]
theorem Cn{P:Program}(w:World){K:Array Oper}{rest:List Oper}{o:Oper}{a:Act}{Q:Exit->Act->World->Prop}(N:o.guard=none)(s x:Operand)(t X:TypeId)
 (f:o.op= .call { callee:=.builtin .append,args:=#[s,x],argTypes:=#[t,X] })
 (base:Nat) (e:TypeId) (i:TypeInfo) (z:Value) (size C:Nat) (W:P.underlying t=some (.slice e)) (R:P.underlying X=some (.slice e)) (U:P.info? e=some i) (hz:i.zero=some z)
 (H:i.size=size) (M:i.bytes=C) (S:z.cells.size=size) (O:0<size)
 (v:Value) (n:Nat) (T:List Value) (d:a.eval s=v) (J:aK w base e size v n T)
 (A:Option Addr) (m c:Nat) (B:List Value) (b:a.eval x= .slice A m c) (g:B.length=m*size) (F:∀j u,B[j]? =some u->∃a,A=some a/\w.cell? (a.add j)=some u) (Y:∀u∈B,u.oneCell'=true)
 (L:n+m<=maxLen) (D:(n+m)*C<=140737488355328) (E:base<=w.heap.size)
 (h:∀I w',aK w' base e size I (n+m) (T++B)->w.grownBy w' v.ownBlock->(I.ownBlock=v.ownBlock\/I.ownBlock=some w.heap.size)->wpList P K Q rest (a.put o.dst I) w'):wpList P K Q (o::rest) a w:=
 wpList_plain N fun _ l=>by
  obtain⟨I,w',V,Z,y,r⟩:=Br (P:=P) w base t o.type e i z size C W U hz H M S O v n T J A m c B g F Y L D E;rw[<- Tu P w o.type U W R]at V;unfold Oper.wp execOp;simp only[f,resolve,invoke,builtin,Sem.run_bind,Sem.run_pure,Result.andThen_ok,List.map_toArray,List.map_cons,List.map_nil,d,b,V];exact l _ _ (h I w' Z y r)
section
variable {G:List Dc}{q:RW}{s:List Nat}{k:Int}{x:ByteArray}{a z:Int}{kids:List ae}{o:Int}
theorem head9(h:dM x=false):nM G q s (.node 9 x a z kids) o=sS q (.node 9 x a z kids) (gz G 0 0 x):=by
 show(if (9:Int)=9/\dM x=false then _ else _)=_;exact if_pos ⟨rfl,h⟩
theorem Su(h:¬(k=3\/k=4\/k=5\/k=20\/k=22\/k=27\/k=19\/k=7\/k=8\/k=12\/k=16))(M:k=9->dM x=true):nM G q s (.node k x a z kids) o=q:=by
 simp only[not_or]at h;obtain⟨H,I,J,D,E,F,C,K,L,A,B⟩:=h;unfold nM;show(if k=3 then _ else if k=4 then _ else if k=5 then _ else if k=20 then _ else if k=22 then _ else if k=27 then _ else if k=19 then _ else if k=9/\dM x=false then _ else if k=7\/k=8 then _ else if k=12 then _ else if k=16 then _ else q)=q;rw[if_neg H,if_neg I,if_neg J,if_neg D,if_neg E,if_neg F,if_neg C,if_neg (fun e=>by rw[M e.1]at e;exact absurd e.2 (by simp)),if_neg (fun e=>e.elim K L),if_neg A,if_neg B]
theorem after_off(h:¬(k=7\/k=8\/k=12\/k=16)):uf G q s (.node k x a z kids)=s:=if_neg h
end
def Yy(E:RE)(G:List Dc)(mk:Int)(B:Nat)(t:ae):Prop:=
 ∀(o:Int) (s:List Nat) (q:RW) (V:RQ) (w:World) (A:Option Addr) (n c:Nat) (At:Option Addr) (ct:Nat),dP E G mk q V w->gP w (E.uA.map (·.block)) A s->s.length=n->n<=c->aJ w B At 0 t.kids->t.kids.length<=ct->Yz G q s t->E.base<=w.heap.size ->
  Calls Tryz.prog 85 #[.pointer (some ⟨E.rp,0,none⟩),.slice A n c,aZ t At ct,.int .i64 o] w fun e w'=> ∃A' n' c',e= .returned (.slice A' n' c')/\(bR G mk t o s q).2.length=n'/\n'<=c'/\gP w' (E.uA.map (·.block)) A' (bR G mk t o s q).2 /\
   ∃V',dP E G mk (bR G mk t o s q).1 V' w'/\KW E w w'
structure LpAt (E:RE) (G:List Dc) (mk k:Int) (s1:List Nat) (kids:List ae) (ow:Int) (s:List Nat) (q2:RW) (w0:World) (i:Nat) (si:List Nat) (qi:RW) (A3:Option Addr) (n3 c3:Nat) (w:World):Prop where
 V:∃V,dP E G mk qi V w
 K:KW E w0 w
 S:gP w (E.uA.map (·.block)) A3 si
 len:si.length=n3
 cap:n3<=c3
 run:dW G mk k s1 (kids.drop i) i ow si qi=dW G mk k s1 kids 0 ow s q2
 ds:qi.ds.length<=qi.num+1
 li:qi.list.length<=qi.num+1
 us:qi.num+1+aD (kids.drop i)<=qi.uses.length
 most:qi.uses.length<=1000000
 ok1:pq s1 qi
 oki:pq si qi
theorem OC:∀{kids:List ae}{t y:ae},t∈kids->y∈bT t->y∈dz kids
 | c::cs,t,y,A,hy=>by
  rw[dz];rcases List.mem_cons.1 A with rfl|A
  ·exact List.mem_append_left _ hy
  ·exact List.mem_append_right _ (OC A hy)
theorem YV(E:RE)(G:List Dc)(mk:Int)(B:Nat)(hB:B<=E.lo)(k:Int)(x:ByteArray)(a z:Int)(kids:List ae)(hih:∀t∈kids,Yy E G mk B t):Yy E G mk B (.node k x a z kids):=by
 intro o s q V w A n c At ct h hs hsn r hk hct F hbase;obtain⟨i0,hi0,hz0,hz1,hz2⟩:=info_parts yJ;obtain⟨nk,hnk⟩:∃z,kids.length=z:=⟨_,rfl⟩
 obtain⟨nm,hnm⟩:∃z,q.num=z:=⟨_,rfl⟩
 have IG:aZ (.node k x a z kids) At ct= .agg #[.int .i64 k,.string x,.int .i64 a,.int .i64 z,.slice At nk ct]:=by rw[<- hnk];rfl
 rw[IG];obtain⟨Q,hQ⟩:∃Q,bR G mk (.node k x a z kids) o s q=Q:=⟨_,rfl⟩
 rw[hQ];have hnb:nm<=1000000:=by have:=F.us;have:=F.most;omega
 have xL:nk<=1000000:=by have h1:=F.us;have h2:=F.most;have h3:=jO kids;rw[ai]at h1;omega
 have NT:n<=1000000:=by have:=F.QK.1;have:=F.ds;omega
 obtain⟨T,hT⟩:∃T,ae.node k x a z kids=T:=⟨_,rfl⟩
 obtain⟨J,hq1⟩:∃J,dI mk q s=J:=⟨_,rfl⟩
 obtain⟨U,D⟩:∃U,nM G J s T o=U:=⟨_,rfl⟩
 obtain⟨s1,I⟩:∃s1,uf G J s T=s1:=⟨_,rfl⟩
 obtain⟨ow,M⟩:∃ow,(if k=3\/k=5 then(nm:Int) else o)=ow:=⟨_,rfl⟩
 have jJ:(dW G mk k s1 kids 0 ow s U).1=Q.1/\Q.2=(if k=6 then(dW G mk k s1 kids 0 ow s U).2 else if k=7\/k=8\/k=12 then s1 else s):=by
  rw[<- hQ,<- I,<- M,<- D,<- hq1,<- hT,<- hnm,bR];exact⟨rfl,rfl⟩
 have l:=Xy mk q s;rw[hq1]at l
 have N:Hid (J.ds.length<=1000000/\J.list.length<=1000000/\J.num<J.uses.length/\J.num=nm/\G.length<=1000000/\(∀i∈s,i<J.ds.length)/\J.uses.length<=1000000):=kH (by
  obtain⟨e1,e2,e3,e4⟩:=l;rw[e1,e2,e3,e4];have:=F.ds;have:=F.li;have:=F.us;have:=lN (.node k x a z kids)
  exact⟨by omega,by omega,by omega,hnm,F.gl,F.QK.2,F.most⟩)
 have Z:=ES G J s T o
 have hok1:pq s1 U:=by
  rw[<- I,<- D];refine Lb T o ⟨?_,?_⟩
  ·rw[l.1];exact F.QK.1
  ·rw[l.1];exact F.QK.2
 have hok2:pq s U:=by
  rw[D]at Z;refine pq.mono (a:=J) ⟨?_,?_⟩ Z.1
  ·rw[l.1];exact F.QK.1
  ·rw[l.1];exact F.QK.2
 rw[D]at Z
 have lI:Hid (U.ds.length<=nm+1/\U.list.length<=nm+1/\U.uses.length=q.uses.length/\U.num=nm/\pq s1 U/\pq s U):=kH (by
  obtain⟨e1,e2,e3,e4⟩:=l;have h1:=Z.1.Pe;have h2:=Z.1.li;have h3:=Z.1.us;have h4:=Z.2;rw[e1]at h1;rw[e2]at h2;rw[e3]at h3;have:=F.ds;have:=F.li
  exact⟨by omega,by omega,h3,by rw[h4,e4,hnm],hok1,hok2⟩)
 have rA:=kH hT;have ym:=kH D;have yl:=kH I;have HOW:=kH M;have H:=kH h;have HS:=kH hs;have HK:=kH hk;have vY:=kH F;have fK:=kH hnk;have rC:=kH hnm;have ng:=kH hsn;have fE:=kH hih;have HCT:Hid (nk<=ct):=kH (by rw[<- hnk];exact hct);have dG:=kH hbase;have HQ:=kH jJ;have HQM:=kH hq1;have vZ:=kH (show aZ T At ct= .agg #[.int .i64 k,.string x,.int .i64 a,.int .i64 z,.slice At nk ct] by rw[<- hT];exact IG);have r4:w.cell? ⟨E.rp,4,none⟩=some (.int .i64 (nm:Int)):=by rw[<- hnm];exact h.blk.cell 4
 have r5:w.cell? ⟨E.rp,5,none⟩=some (.int .i64 mk):=h.blk.cell 5;have lr:=h.blk.lt;clear h hs hk F hnk hnm hsn hih hct hbase hQ jJ IG hT hq1 D I M l Z hok1 hok2;go_in
 go_upto_if 24 with fail
 generalize hW1:w.alloc (.cells #[.int .i64 k,.string x,.int .i64 a,.int .i64 z,.slice At nk ct] 24)=W1
 have hb1:Below w.heap.size w W1:=by rw[<- hW1];exact ag _ _
 have hT1:aj W1 w.heap.size 24 #[.int .i64 k,.string x,.int .i64 a,.int .i64 z,.slice At nk ct]:=by rw[<- hW1];exact aj.new w _ _
 have h1:=H.out.below hb1;have HB1:=kH hb1;have HT1:=kH hT1;have H1:=kH h1;have s4:W1.cell? ⟨E.rp,4,none⟩=some (.int .i64 (nm:Int)):=by rw[<- rC.out];exact h1.blk.cell 4
 have s5:W1.cell? ⟨E.rp,5,none⟩=some (.int .i64 mk):=h1.blk.cell 5;have ls:=h1.blk.lt;have hne:E.rp≠w.heap.size:=by have:=H.out.blk.lt;omega
 have hne2:E.uA.map (·.block)≠some w.heap.size:=fun e=>by have:=(H.out.us.lt w.heap.size (by rw[DY];exact e)).2;omega
 have fH:Hid (∀W,KW E W1 W->aj W w.heap.size 24 #[.int .i64 k,.string x,.int .i64 a,.int .i64 z,.slice At nk ct]):=kH fun W hW=>hW.blk HT1.out (fun e=>hne e.symm) (by decide) (by decide) hne2
 clear hW1 hb1 hT1 h1 r4 r5 lr hne hne2;go_cut [] (fun wx=>Hid ((∃V1,dP E G mk J V1 wx)/\KW E W1 wx))
 case first=>
  by_cases hmk:(nm:Int)=mk
  ·subst hmk
   as_aux_lemma=>
    have HM:Hid ({ q with at_:=s }=J):=kH (by rw[<- HQM.out];unfold dI;rw[rC.out,if_pos rfl]);obtain⟨W7,rP⟩:∃z,W1.alloc (.cells #[] 3)=z:=⟨_,rfl⟩
    have dF:Below W1.heap.size W1 W7:=by rw[<- rP];exact ag _ _
    have Z6:aK W7 W1.heap.size 3 1 (.slice (some ⟨W1.heap.size,0,none⟩) 0 0) 0 []:=by
     rw[<- rP];exact aK.block (aab _) (aj.new W1 _ _) (Nat.zero_le _) rfl
    have gK:=kH dF;have wW:=kH Z6;clear dF Z6;go_wp2_with (first|rw[rP]|(at_builtin;refine Cn _ rfl (.tmp 26) (.tmp 27) _ _ rfl W1.heap.size 3 i0 _ 1 8 Tryz.underlying28 Tryz.underlying142 hi0 hz0 hz1 hz2 rfl (by omega) (.slice (some ⟨W1.heap.size,0,none⟩) 0 0) 0 [] rfl wW.out A n c (s.flatMap jr) rfl (by rw[zV,ng.out];omega) ((HS.out.below HB1.out).below gK.out).news Gs (by simp only[maxLen];omega) (by omega) gK.out.size ?_;intro v8 w8 hown hgrow hat;rw[Nat.zero_add,List.nil_append]at hown;obtain⟨A8,c8,ed,hnc8,-⟩:=hown.shape;subst ed;have dU:Below W1.heap.size W1 w8:=gK.out.trans (rR hgrow gK.out.size (fun k hk=>by cases hk;exact aab _));have HOWN:=kH hown;have vE:=kH dU;have HNC8:=kH hnc8;have ZN:=(H1.out.below dU).blk;have c68:=ZN.cell 6;have f68:=ZN.frozen 6;have l68:=ZN.lt;clear hown hgrow hat dU rP hnc8 ZN))
    have X:Hid ((∃V1,dP E G (nm:Int) J V1 (w8.setCell ⟨E.rp,6,none⟩ (.slice A8 n c8)))/\KW E W1 (w8.setCell ⟨E.rp,6,none⟩ (.slice A8 n c8))):=kH (by
     have h8:=H1.out.below vE.out
     have hrow:gP w8 (Value.slice E.uA q.uses.length E.uc).ownBlock A8 s:=gP.DZ (base:=W1.heap.size) (c:=c8) (n:=n) HOWN.out ng.out (fun g hg e=>by
      have h1:=(HOWN.out.lt g hg).1;have h2:=(H1.out.us.lt g e).2
      omega)
     have:=h8.mark_ hrow (c:=c8) (by rw[ng.out];exact HNC8.out);rw[ng.out,HM.out]at this
     exact⟨⟨_,this⟩,(KW.of_below vE.out).trans (Zw E w8 6 _)⟩)
    go_meet
    exact X
  ·have hmkb:((nm:Int)==mk)=false:=by simpa using hmk
   have HM:Hid (q=J):=kH (by rw[<- HQM.out];unfold dI;rw[rC.out,if_neg hmk]);clear hmk;go_wp2_with fail
   go_meet
   rw[<- HM.out];exact kH ⟨⟨V,H1.out⟩,KW.refl _ _⟩
 case rest=>
  obtain⟨L,rfl⟩:∃L:World,L=wc:=⟨_,rfl⟩
  obtain⟨⟨V1,hm1⟩,ZQ⟩:=hcut.out;have jK:=kH hm1;have JI:=kH ZQ;have hNm:=fH.out _ ZQ;obtain⟨⟨t0,t1,t2,t3,t4⟩,-⟩:=hNm.five;have lt':=hNm.lt;have hsm:gP L (E.uA.map (·.block)) A s:=(HS.out.below HB1.out).kw ZQ rfl ⟨_,H1.out.blk⟩;have qm:=kH hsm;have uI:E.base<=L.heap.size:=aac dG.out (aac HB1.out.size ZQ.size);have FV:=kH uI;have lrm:=hm1.blk.lt;clear hcut hm1 ZQ hNm hsm uI s4 s5 ls;go_upto_block 0 with fail
  go_cut [3,10] from 15 (fun s3 s10 wx=> ∃(A1:Option Addr) (n1 c1:Nat),s3= .int .i64 ow/\s10= .slice A1 n1 c1/\Hid (vI E G mk U s1 L wx A1 n1 c1))
  case first=>
   by_cases hk3:k=3
   ·subst hk3
    as_aux_lemma=>
     obtain⟨d,hd⟩:=vY.out.Ym (.node 3 x a z kids) (De _) (.inl rfl);have C:=Db E G mk J V1 L jK.out N.out.1 N.out.2.1 N.out.2.2.2.2.1 N.out.2.2.1 FV.out 0 (-1) T At ct d (by rw[<- rA.out];exact hd);rw[vZ.out]at C;have D:fJ G J T 0 (-1)=U:=by rw[<- ym.out,<- rA.out];rfl
     have I:s=s1:=by rw[<- yl.out,<- rA.out];rfl
     have M:(nm:Int)=ow:=by rw[<- HOW.out];rfl
     rw[D]at C;subst I;subst M;have HC:=kH C;clear C hd D;go_wp2_with fail
     refine HC.out.mono ?_;rintro e6 u ⟨rfl,V6,O,Y⟩;have X:Hid (vI E G mk U s L u A n c):=kH ⟨⟨V6,O⟩,Y,qm.out.kw Y rfl ⟨_,jK.out.blk⟩,ng.out,r⟩;clear O Y HC;go_wp2_with fail
     go_meet
     exact⟨A,n,c,rfl,rfl,X⟩
   by_cases hk4:k=4
   ·subst hk4
    as_aux_lemma=>
     obtain⟨d,hd⟩:=vY.out.Ym (.node 4 x a z kids) (De _) (.inr (.inl rfl));have C:=Db E G mk J V1 L jK.out N.out.1 N.out.2.1 N.out.2.2.2.2.1 N.out.2.2.1 FV.out 1 o T At ct d (by rw[<- rA.out];exact hd);rw[vZ.out]at C;have D:fJ G J T 1 o=U:=by rw[<- ym.out,<- rA.out];rfl
     have I:s=s1:=by rw[<- yl.out,<- rA.out];rfl
     have M:o=ow:=by rw[<- HOW.out];rfl
     rw[D]at C;subst I;subst M;have HC:=kH C;clear C hd D;go_wp2_with fail
     refine HC.out.mono ?_;rintro e6 u ⟨rfl,V6,O,Y⟩;have X:Hid (vI E G mk U s L u A n c):=kH ⟨⟨V6,O⟩,Y,qm.out.kw Y rfl ⟨_,jK.out.blk⟩,ng.out,r⟩;clear O Y HC;go_wp2_with fail
     go_meet
     exact⟨A,n,c,rfl,rfl,X⟩
   by_cases hk5:k=5
   ·subst hk5
    as_aux_lemma=>
     obtain⟨d,hd⟩:=vY.out.Ym (.node 5 x a z kids) (De _) (.inr (.inr rfl));have C:=Db E G mk J V1 L jK.out N.out.1 N.out.2.1 N.out.2.2.2.2.1 N.out.2.2.1 FV.out 2 (-1) T At ct d (by rw[<- rA.out];exact hd);rw[vZ.out]at C;have D:fJ G J T 2 (-1)=U:=by rw[<- ym.out,<- rA.out];rfl
     have I:s=s1:=by rw[<- yl.out,<- rA.out];rfl
     have M:(nm:Int)=ow:=by rw[<- HOW.out];rfl
     rw[D]at C;subst I;subst M;have HC:=kH C;clear C hd D;go_wp2_with fail
     refine HC.out.mono ?_;rintro e6 u ⟨rfl,V6,O,Y⟩;have X:Hid (vI E G mk U s L u A n c):=kH ⟨⟨V6,O⟩,Y,qm.out.kw Y rfl ⟨_,jK.out.blk⟩,ng.out,r⟩;clear O Y HC;go_wp2_with fail
     go_meet
     exact⟨A,n,c,rfl,rfl,X⟩
   by_cases EO:k=20
   ·subst EO
    as_aux_lemma=>
     have hlk:=I4 E G mk J V1 L jK.out (E.uA.map (·.block)) A n c s qm.out ng.out N.out.2.2.2.2.2.1 x NT;have D:y5 J s T=U:=by rw[<- ym.out,<- rA.out];rfl
     have I:s=s1:=by rw[<- yl.out,<- rA.out];rfl
     have M:o=ow:=by rw[<- HOW.out];rfl
     subst I;subst M;have hTx:T.text=x:=by rw[<- rA.out];rfl
     unfold y5 at D;rw[hTx]at D
     cases hl:pF J.ds s x with
     | some j=>
      rw[hl]at D;have hlx:yI J.ds s x=(j:Int):=by unfold yI;rw[hl]
      rw[hlx]at hlk;have Eo:=kH hlk;have HQE:=kH (show({ J with uses:=J.uses.set J.num (j:Int) }:RW)=U from D);clear hlk hl hlx D hTx;go_wp2_with fail
      refine Eo.out.mono ?_;rintro e6 u ⟨rfl,hb6⟩;have O:=jK.out.below hb6;obtain⟨bu,ou,hA,hbu,mi,hfu,hput⟩:=O.yV J.num N.out.2.2.1;obtain⟨u0,mi⟩:=mi;obtain⟨nu,hnu⟩:∃z,J.uses.length=z:=⟨_,rfl⟩
      have hnu2:nm<nu:=by have:=N.out.2.2.1;have:=N.out.2.2.2.1;omega
      have hbl:=O.blk;rw[hnu,hA]at hbl;have c1:=hbl.cell 1;have l6:=hbl.lt;rw[N.out.2.2.2.1]at mi hfu hput
      have X:Hid (vI E G mk U s L (u.setCell ⟨bu,ou+nm,none⟩ (.int .i64 (j:Int))) A n c):=kH (by
       obtain⟨h7,k7⟩:=hput (j:Int);have k8:=(KW.of_below hb6).trans k7;refine⟨⟨V1,?_⟩,k8,qm.out.kw k8 rfl ⟨_,jK.out.blk⟩,ng.out,r⟩;rw[<- HQE.out,N.out.2.2.2.1];have e:({ J with uses:=J.uses.set nm (j:Int) }:RW)= { ds:=J.ds,uses:=J.uses.set nm (j:Int),list:=J.list,num:=nm,at_:=J.at_ }:=by rw[<- N.out.2.2.2.1]
       exact h7)
      have hm0:¬((nm:Int)<0):=by omega
      have hmu:(nm:Int)<(nu:Int):=by omega
      clear hput O hbl hnu hb6 Eo;go_wp2_with fail
      go_meet
      exact⟨A,n,c,rfl,rfl,X⟩
     | none=>
      rw[hl]at D;have hlx:yI J.ds s x= -1:=by unfold yI;rw[hl]
      rw[hlx]at hlk;have hnt:=fun(W:World) (hb:Below L.heap.size L W)=>Cu E G mk J V1 W (jK.out.below hb) N.out.2.1 (aac FV.out hb.size) 8 T At ct
      rw[vZ.out,show tF J 8 T=U from D]at hnt;have JH:=kH hnt;have Eo:=kH hlk;clear hlk hl hlx D hTx hnt;go_wp2_with fail
      refine Eo.out.mono ?_;rintro e6 u ⟨rfl,hb6⟩;have HNT6:=kH (JH.out u hb6);have nI:=kH hb6;have Ad:=fH.out u (JI.out.trans (KW.of_below hb6));obtain⟨⟨v0,v1,v2,v3,v4⟩,-⟩:=Ad.five;have lv:=Ad.lt;clear hb6 JH Eo Ad;go_wp2_with fail
      refine HNT6.out.mono ?_;rintro e7 w7 ⟨rfl,V7,h7,k7⟩
      have X:Hid (vI E G mk U s L w7 A n c):=kH (by
       have k8:=(KW.of_below nI.out).trans k7
       exact⟨⟨V7,h7⟩,k8,qm.out.kw k8 rfl ⟨_,jK.out.blk⟩,ng.out,r⟩)
      clear h7 k7 HNT6;go_wp2_with fail
      go_meet
      exact⟨A,n,c,rfl,rfl,X⟩
   by_cases hk22:k=22
   ·subst hk22
    as_aux_lemma=>
     have hgn:=fun(W:World) (hb:Below L.heap.size L W)=>Am E G mk J V1 W (jK.out.below hb) N.out.2.2.2.2.1 1 1 x
     have nD:=fun(W:World) (hb:Below L.heap.size L W)=>Ey E G mk J V1 W (jK.out.below hb) N.out.2.1 N.out.2.2.1 (aac FV.out hb.size) T At ct (gz G 1 1 x) (vX (gz G 1 1 x)) (fun j hj=>by
      obtain⟨d,hd,he⟩:=EZ hj;have:=vY.out.nodes d hd;rw[hj]
      exact⟨rfl,by omega,by omega⟩) (fun hj=>by rw[hj];rfl)
     have D:sS J T (gz G 1 1 x)=U:=by rw[<- ym.out,<- rA.out];rfl
     have I:s=s1:=by rw[<- yl.out,<- rA.out];rfl
     have M:o=ow:=by rw[<- HOW.out];rfl
     rw[vZ.out,D]at nD;obtain⟨gn,BH⟩:∃z,vX (gz G 1 1 x)=z:=⟨_,rfl⟩
     rw[BH]at hgn nD;subst I;subst M;have Ep:=kH hgn;have qC:=kH nD
     have jy:∀W,Below L.heap.size L W->W.cell? ⟨w.heap.size,0,none⟩=some (.int .i64 22)/\W.cell? ⟨w.heap.size,1,none⟩=some (.string x)/\W.cell? ⟨w.heap.size,2,none⟩=some (.int .i64 a)/\W.cell? ⟨w.heap.size,3,none⟩=some (.int .i64 z)/\W.cell? ⟨w.heap.size,4,none⟩=some (.slice At nk ct):=fun W hb=>by
      obtain⟨⟨v0,v1,v2,v3,v4⟩,-⟩:=(fH.out W (JI.out.trans (KW.of_below hb))).five;exact⟨v0,v1,v2,v3,v4⟩
     have eY:=kH jy;have P:Below L.heap.size L L.drew:=(Below.refl _ _).drew;have f:=eY.out _ P;clear hgn nD D BH jy;go_wp2_with fail
     refine dD (fun W=>W.cell? ⟨w.heap.size,0,none⟩=some (.int .i64 22)/\W.cell? ⟨w.heap.size,1,none⟩=some (.string x)/\W.cell? ⟨w.heap.size,2,none⟩=some (.int .i64 a)/\W.cell? ⟨w.heap.size,3,none⟩=some (.int .i64 z)/\W.cell? ⟨w.heap.size,4,none⟩=some (.slice At nk ct)) [] [true,true,true,true,true,false,false] (by kernel_rfl) (by kernel_rfl) rfl (by kernel_rfl) ?_;iterate 5((first|(refine dB (by rfl) f ?_)|(refine bV (by rfl) f (by intro w' hSw;obtain⟨I,hs2,hs3,hs4,hs5⟩:=hSw;go_simp;rfl) ?_));simp only[Act.put,sA,sZ,sC])
     refine eH (by rfl) (by go_simp) ((Ep.out _ P).mono ?_);rintro e4 w4 ⟨rfl,hb4⟩;have cO:Below L.heap.size L w4:=P.trans (hb4.mono P.size);refine⟨_,rfl,fun _=>eY.out _ cO,?_⟩;simp only[Act.put,sA,sZ,sC];refine eH (by rfl) (by go_simp) ((qC.out _ cO).mono ?_);rintro e6 u ⟨rfl,V6,O,Y⟩;have k8:=(KW.of_below cO).trans Y;obtain⟨⟨y0,y1,y2,y3,y4⟩,-⟩:=(fH.out u (JI.out.trans k8)).five;refine⟨_,rfl,fun _=>⟨y0,y1,y2,y3,y4⟩,?_⟩;simp only[Act.put,sA,sZ,sC];refine gJ ?_;have X:Hid (vI E G mk U s L u A n c):=kH ⟨⟨V6,O⟩,k8,qm.out.kw k8 rfl ⟨_,jK.out.blk⟩,ng.out,r⟩;clear O Y k8 hb4 cO Ep qC f P y0 y1 y2 y3 y4;go_wp2_with fail
     go_meet
     exact⟨A,n,c,rfl,rfl,X⟩
   by_cases hk27:k=27
   ·subst hk27
    as_aux_lemma=>
     have hgn:=fun(W:World) (hb:Below L.heap.size L W)=>Am E G mk J V1 W (jK.out.below hb) N.out.2.2.2.2.1 0 2 x
     have nD:=fun(W:World) (hb:Below L.heap.size L W)=>Ey E G mk J V1 W (jK.out.below hb) N.out.2.1 N.out.2.2.1 (aac FV.out hb.size) T At ct (gz G 0 2 x) (vX (gz G 0 2 x)) (fun j hj=>by
      obtain⟨d,hd,he⟩:=EZ hj;have:=vY.out.nodes d hd;rw[hj]
      exact⟨rfl,by omega,by omega⟩) (fun hj=>by rw[hj];rfl)
     have D:sS J T (gz G 0 2 x)=U:=by rw[<- ym.out,<- rA.out];rfl
     have I:s=s1:=by rw[<- yl.out,<- rA.out];rfl
     have M:o=ow:=by rw[<- HOW.out];rfl
     rw[vZ.out,D]at nD;obtain⟨gn,BH⟩:∃z,vX (gz G 0 2 x)=z:=⟨_,rfl⟩
     rw[BH]at hgn nD;subst I;subst M;have Ep:=kH hgn;have qC:=kH nD
     have jy:∀W,Below L.heap.size L W->W.cell? ⟨w.heap.size,0,none⟩=some (.int .i64 27)/\W.cell? ⟨w.heap.size,1,none⟩=some (.string x)/\W.cell? ⟨w.heap.size,2,none⟩=some (.int .i64 a)/\W.cell? ⟨w.heap.size,3,none⟩=some (.int .i64 z)/\W.cell? ⟨w.heap.size,4,none⟩=some (.slice At nk ct):=fun W hb=>by
      obtain⟨⟨v0,v1,v2,v3,v4⟩,-⟩:=(fH.out W (JI.out.trans (KW.of_below hb))).five;exact⟨v0,v1,v2,v3,v4⟩
     have eY:=kH jy;have P:Below L.heap.size L L.drew:=(Below.refl _ _).drew;have f:=eY.out _ P;clear hgn nD D BH jy;go_wp2_with fail
     refine dD (fun W=>W.cell? ⟨w.heap.size,0,none⟩=some (.int .i64 27)/\W.cell? ⟨w.heap.size,1,none⟩=some (.string x)/\W.cell? ⟨w.heap.size,2,none⟩=some (.int .i64 a)/\W.cell? ⟨w.heap.size,3,none⟩=some (.int .i64 z)/\W.cell? ⟨w.heap.size,4,none⟩=some (.slice At nk ct)) [] [true,true,true,true,true,false,false] (by kernel_rfl) (by kernel_rfl) rfl (by kernel_rfl) ?_;iterate 5((first|(refine dB (by rfl) f ?_)|(refine bV (by rfl) f (by intro w' hSw;obtain⟨I,hs2,hs3,hs4,hs5⟩:=hSw;go_simp;rfl) ?_));simp only[Act.put,sA,sZ,sC])
     refine eH (by rfl) (by go_simp) ((Ep.out _ P).mono ?_);rintro e4 w4 ⟨rfl,hb4⟩;have cO:Below L.heap.size L w4:=P.trans (hb4.mono P.size);refine⟨_,rfl,fun _=>eY.out _ cO,?_⟩;simp only[Act.put,sA,sZ,sC];refine eH (by rfl) (by go_simp) ((qC.out _ cO).mono ?_);rintro e6 u ⟨rfl,V6,O,Y⟩;have k8:=(KW.of_below cO).trans Y;obtain⟨⟨y0,y1,y2,y3,y4⟩,-⟩:=(fH.out u (JI.out.trans k8)).five;refine⟨_,rfl,fun _=>⟨y0,y1,y2,y3,y4⟩,?_⟩;simp only[Act.put,sA,sZ,sC];refine gJ ?_;have X:Hid (vI E G mk U s L u A n c):=kH ⟨⟨V6,O⟩,k8,qm.out.kw k8 rfl ⟨_,jK.out.blk⟩,ng.out,r⟩;clear O Y k8 hb4 cO Ep qC f P y0 y1 y2 y3 y4;go_wp2_with fail
     go_meet
     exact⟨A,n,c,rfl,rfl,X⟩
   by_cases hk19:k=19
   ·subst hk19
    as_aux_lemma=>
     have hgn:=fun(W:World) (hb:Below L.heap.size L W)=>Am E G mk J V1 W (jK.out.below hb) N.out.2.2.2.2.1 2 2 x
     have nD:=fun(W:World) (hb:Below L.heap.size L W)=>Ey E G mk J V1 W (jK.out.below hb) N.out.2.1 N.out.2.2.1 (aac FV.out hb.size) T At ct (gz G 2 2 x) (vX (gz G 2 2 x)) (fun j hj=>by
      obtain⟨d,hd,he⟩:=EZ hj;have:=vY.out.nodes d hd;rw[hj]
      exact⟨rfl,by omega,by omega⟩) (fun hj=>by rw[hj];rfl)
     have D:sS J T (gz G 2 2 x)=U:=by rw[<- ym.out,<- rA.out];rfl
     have I:s=s1:=by rw[<- yl.out,<- rA.out];rfl
     have M:o=ow:=by rw[<- HOW.out];rfl
     rw[vZ.out,D]at nD;obtain⟨gn,BH⟩:∃z,vX (gz G 2 2 x)=z:=⟨_,rfl⟩
     rw[BH]at hgn nD;subst I;subst M;have Ep:=kH hgn;have qC:=kH nD
     have jy:∀W,Below L.heap.size L W->W.cell? ⟨w.heap.size,0,none⟩=some (.int .i64 19)/\W.cell? ⟨w.heap.size,1,none⟩=some (.string x)/\W.cell? ⟨w.heap.size,2,none⟩=some (.int .i64 a)/\W.cell? ⟨w.heap.size,3,none⟩=some (.int .i64 z)/\W.cell? ⟨w.heap.size,4,none⟩=some (.slice At nk ct):=fun W hb=>by
      obtain⟨⟨v0,v1,v2,v3,v4⟩,-⟩:=(fH.out W (JI.out.trans (KW.of_below hb))).five;exact⟨v0,v1,v2,v3,v4⟩
     have eY:=kH jy;have P:Below L.heap.size L L.drew:=(Below.refl _ _).drew;have f:=eY.out _ P;clear hgn nD D BH jy;go_wp2_with fail
     refine dD (fun W=>W.cell? ⟨w.heap.size,0,none⟩=some (.int .i64 19)/\W.cell? ⟨w.heap.size,1,none⟩=some (.string x)/\W.cell? ⟨w.heap.size,2,none⟩=some (.int .i64 a)/\W.cell? ⟨w.heap.size,3,none⟩=some (.int .i64 z)/\W.cell? ⟨w.heap.size,4,none⟩=some (.slice At nk ct)) [] [true,true,true,true,true,false,false] (by kernel_rfl) (by kernel_rfl) rfl (by kernel_rfl) ?_;iterate 5((first|(refine dB (by rfl) f ?_)|(refine bV (by rfl) f (by intro w' hSw;obtain⟨I,hs2,hs3,hs4,hs5⟩:=hSw;go_simp;rfl) ?_));simp only[Act.put,sA,sZ,sC])
     refine eH (by rfl) (by go_simp) ((Ep.out _ P).mono ?_);rintro e4 w4 ⟨rfl,hb4⟩;have cO:Below L.heap.size L w4:=P.trans (hb4.mono P.size);refine⟨_,rfl,fun _=>eY.out _ cO,?_⟩;simp only[Act.put,sA,sZ,sC];refine eH (by rfl) (by go_simp) ((qC.out _ cO).mono ?_);rintro e6 u ⟨rfl,V6,O,Y⟩;have k8:=(KW.of_below cO).trans Y;obtain⟨⟨y0,y1,y2,y3,y4⟩,-⟩:=(fH.out u (JI.out.trans k8)).five;refine⟨_,rfl,fun _=>⟨y0,y1,y2,y3,y4⟩,?_⟩;simp only[Act.put,sA,sZ,sC];refine gJ ?_;have X:Hid (vI E G mk U s L u A n c):=kH ⟨⟨V6,O⟩,k8,qm.out.kw k8 rfl ⟨_,jK.out.blk⟩,ng.out,r⟩;clear O Y k8 hb4 cO Ep qC f P y0 y1 y2 y3 y4;go_wp2_with fail
     go_meet
     exact⟨A,n,c,rfl,rfl,X⟩
   by_cases wU:k=9
   ·subst wU
    as_aux_lemma=>
     cases hsc:dM x with
     | false=>
      have hxi:¬x=⟨#[105,110,116]⟩:=fun e=>by rw[e]at hsc;exact absurd hsc (by decide)
      have hxb:¬x=⟨#[98,111,111,108]⟩:=fun e=>by rw[e]at hsc;exact absurd hsc (by decide)
      have f1:¬x.toList=[105,110,116]:=fun h=>hxi (mY (by rw[<- ByteArray.toList_eq,h]))
      have f2:¬x.toList=[98,111,111,108]:=fun h=>hxb (mY (by rw[<- ByteArray.toList_eq,h]))
      have g1:(x.toList==[105,110,116])=false:=by rw[beq_eq_false_iff_ne];exact f1
      have g2:(x.toList==[98,111,111,108])=false:=by rw[beq_eq_false_iff_ne];exact f2
      clear hxi hxb;have hgn:=fun(W:World) (hb:Below L.heap.size L W)=>Am E G mk J V1 W (jK.out.below hb) N.out.2.2.2.2.1 0 0 x
      have nD:=fun(W:World) (hb:Below L.heap.size L W)=>Ey E G mk J V1 W (jK.out.below hb) N.out.2.1 N.out.2.2.1 (aac FV.out hb.size) T At ct (gz G 0 0 x) (vX (gz G 0 0 x)) (fun j hj=>by
       obtain⟨d,hd,he⟩:=EZ hj;have:=vY.out.nodes d hd;rw[hj]
       exact⟨rfl,by omega,by omega⟩) (fun hj=>by rw[hj];rfl)
      have D:sS J T (gz G 0 0 x)=U:=by rw[<- ym.out,<- rA.out];exact(head9 hsc).symm
      have I:s=s1:=by rw[<- yl.out,<- rA.out];rfl
      have M:o=ow:=by rw[<- HOW.out];rfl
      rw[vZ.out,D]at nD;obtain⟨gn,BH⟩:∃z,vX (gz G 0 0 x)=z:=⟨_,rfl⟩
      rw[BH]at hgn nD;subst I;subst M;have Ep:=kH hgn;have qC:=kH nD
      have jy:∀W,Below L.heap.size L W->W.cell? ⟨w.heap.size,0,none⟩=some (.int .i64 9)/\W.cell? ⟨w.heap.size,1,none⟩=some (.string x)/\W.cell? ⟨w.heap.size,2,none⟩=some (.int .i64 a)/\W.cell? ⟨w.heap.size,3,none⟩=some (.int .i64 z)/\W.cell? ⟨w.heap.size,4,none⟩=some (.slice At nk ct):=fun W hb=>by
       obtain⟨⟨v0,v1,v2,v3,v4⟩,-⟩:=(fH.out W (JI.out.trans (KW.of_below hb))).five;exact⟨v0,v1,v2,v3,v4⟩
      have eY:=kH jy;have P:Below L.heap.size L L.drew:=(Below.refl _ _).drew;have f:=eY.out _ P;clear hgn nD D BH jy;go_wp2_with fail
      refine dD (fun W=>W.cell? ⟨w.heap.size,0,none⟩=some (.int .i64 9)/\W.cell? ⟨w.heap.size,1,none⟩=some (.string x)/\W.cell? ⟨w.heap.size,2,none⟩=some (.int .i64 a)/\W.cell? ⟨w.heap.size,3,none⟩=some (.int .i64 z)/\W.cell? ⟨w.heap.size,4,none⟩=some (.slice At nk ct)) [] [true,true,true,true,true,false,false] (by kernel_rfl) (by kernel_rfl) rfl (by kernel_rfl) ?_;iterate 5((first|(refine dB (by rfl) f ?_)|(refine bV (by rfl) f (by intro w' hSw;obtain⟨I,hs2,hs3,hs4,hs5⟩:=hSw;go_simp;rfl) ?_));simp only[Act.put,sA,sZ,sC])
      refine eH (by rfl) (by go_simp) ((Ep.out _ P).mono ?_);rintro e4 w4 ⟨rfl,hb4⟩;have cO:Below L.heap.size L w4:=P.trans (hb4.mono P.size);refine⟨_,rfl,fun _=>eY.out _ cO,?_⟩;simp only[Act.put,sA,sZ,sC];refine eH (by rfl) (by go_simp) ((qC.out _ cO).mono ?_);rintro e6 u ⟨rfl,V6,O,Y⟩;have k8:=(KW.of_below cO).trans Y;obtain⟨⟨y0,y1,y2,y3,y4⟩,-⟩:=(fH.out u (JI.out.trans k8)).five;refine⟨_,rfl,fun _=>⟨y0,y1,y2,y3,y4⟩,?_⟩;simp only[Act.put,sA,sZ,sC];refine gJ ?_;have X:Hid (vI E G mk U s L u A n c):=kH ⟨⟨V6,O⟩,k8,qm.out.kw k8 rfl ⟨_,jK.out.blk⟩,ng.out,r⟩;clear O Y k8 hb4 cO Ep qC f P y0 y1 y2 y3 y4;go_wp2_with fail
      go_meet
      exact⟨A,n,c,rfl,rfl,X⟩
     | true=>
      have hxx:x=⟨#[105,110,116]⟩\/x=⟨#[98,111,111,108]⟩:=by
       unfold dM at hsc;simpa using hsc
      have I:s=s1:=by rw[<- yl.out,<- rA.out];rfl
      have D:J=U:=by rw[<- ym.out,<- rA.out];exact(Su (by decide) (fun _=>hsc)).symm
      have M:o=ow:=by rw[<- HOW.out];rfl
      subst I;subst M;subst D;have X:Hid (vI E G mk J s L L A n c):=kH ⟨⟨V1,jK.out⟩,KW.refl _ _,qm.out,ng.out,r⟩;clear hsc;rcases hxx with rfl|rfl
      ·go_wp2_with fail
       go_meet
       exact⟨A,n,c,rfl,rfl,X⟩
      ·go_wp2_with fail
       go_meet
       exact⟨A,n,c,rfl,rfl,X⟩
   by_cases hk7:k=7
   ·subst hk7
    as_aux_lemma=>
     have C:=vV E G mk J V1 L jK.out N.out.1 N.out.2.1 N.out.2.2.2.2.1 N.out.2.2.1 FV.out A n c s qm.out ng.out r NT N.out.2.2.2.2.2.1 3 o T At ct;have BF:T.kind=7:=by rw[<- rA.out];rfl
     have D:(fQ G J s T 3 o).1=U:=by rw[<- ym.out];exact((sK G J s T o).2.2 (.inl BF)).symm
     have I:(fQ G J s T 3 o).2=s1:=by rw[<- yl.out];exact(oD G J s T 3 o (by rw[BF];decide)).symm
     have M:o=ow:=by rw[<- HOW.out];rfl
     rw[vZ.out,D,I]at C;subst M;have HC:=kH C;clear C D I BF;go_wp2_with fail
     refine HC.out.mono ?_;rintro e6 u ⟨A6,n6,c6,rfl,zZ,hc6,zq,V6,O,Y⟩;have X:Hid (vI E G mk U s1 L u A6 n6 c6):=kH ⟨⟨V6,O⟩,Y,zq,zZ,hc6⟩;clear zZ hc6 zq O Y HC;go_wp2_with fail
     go_meet
     exact⟨A6,n6,c6,rfl,rfl,X⟩
   by_cases BG:k=8
   ·subst BG
    as_aux_lemma=>
     have C:=vV E G mk J V1 L jK.out N.out.1 N.out.2.1 N.out.2.2.2.2.1 N.out.2.2.1 FV.out A n c s qm.out ng.out r NT N.out.2.2.2.2.2.1 3 o T At ct;have BF:T.kind=8:=by rw[<- rA.out];rfl
     have D:(fQ G J s T 3 o).1=U:=by rw[<- ym.out];exact((sK G J s T o).2.2 (.inr BF)).symm
     have I:(fQ G J s T 3 o).2=s1:=by rw[<- yl.out];exact(oD G J s T 3 o (by rw[BF];decide)).symm
     have M:o=ow:=by rw[<- HOW.out];rfl
     rw[vZ.out,D,I]at C;subst M;have HC:=kH C;clear C D I BF;go_wp2_with fail
     refine HC.out.mono ?_;rintro e6 u ⟨A6,n6,c6,rfl,zZ,hc6,zq,V6,O,Y⟩;have X:Hid (vI E G mk U s1 L u A6 n6 c6):=kH ⟨⟨V6,O⟩,Y,zq,zZ,hc6⟩;clear zZ hc6 zq O Y HC;go_wp2_with fail
     go_meet
     exact⟨A6,n6,c6,rfl,rfl,X⟩
   by_cases qg:k=12
   ·subst qg
    as_aux_lemma=>
     have C:=vV E G mk J V1 L jK.out N.out.1 N.out.2.1 N.out.2.2.2.2.1 N.out.2.2.1 FV.out A n c s qm.out ng.out r NT N.out.2.2.2.2.2.1 4 o T At ct;have BF:T.kind=12:=by rw[<- rA.out];rfl
     have D:(fQ G J s T 4 o).1=U:=by rw[<- ym.out];exact((sK G J s T o).1 BF).symm
     have I:(fQ G J s T 4 o).2=s1:=by rw[<- yl.out];exact(oD G J s T 4 o (by rw[BF];decide)).symm
     have M:o=ow:=by rw[<- HOW.out];rfl
     rw[vZ.out,D,I]at C;subst M;have HC:=kH C;clear C D I BF;go_wp2_with fail
     refine HC.out.mono ?_;rintro e6 u ⟨A6,n6,c6,rfl,zZ,hc6,zq,V6,O,Y⟩;have X:Hid (vI E G mk U s1 L u A6 n6 c6):=kH ⟨⟨V6,O⟩,Y,zq,zZ,hc6⟩;clear zZ hc6 zq O Y HC;go_wp2_with fail
     go_meet
     exact⟨A6,n6,c6,rfl,rfl,X⟩
   by_cases qf:k=16
   ·subst qf
    as_aux_lemma=>
     have C:=vV E G mk J V1 L jK.out N.out.1 N.out.2.1 N.out.2.2.2.2.1 N.out.2.2.1 FV.out A n c s qm.out ng.out r NT N.out.2.2.2.2.2.1 5 o T At ct;have BF:T.kind=16:=by rw[<- rA.out];rfl
     have D:(fQ G J s T 5 o).1=U:=by rw[<- ym.out];exact((sK G J s T o).2.1 BF).symm
     have I:(fQ G J s T 5 o).2=s1:=by rw[<- yl.out];exact(oD G J s T 5 o (by rw[BF];decide)).symm
     have M:o=ow:=by rw[<- HOW.out];rfl
     rw[vZ.out,D,I]at C;subst M;have HC:=kH C;clear C D I BF;go_wp2_with fail
     refine HC.out.mono ?_;rintro e6 u ⟨A6,n6,c6,rfl,zZ,hc6,zq,V6,O,Y⟩;have X:Hid (vI E G mk U s1 L u A6 n6 c6):=kH ⟨⟨V6,O⟩,Y,zq,zZ,hc6⟩;clear zZ hc6 zq O Y HC;go_wp2_with fail
     go_meet
     exact⟨A6,n6,c6,rfl,rfl,X⟩
   have I:s=s1:=by rw[<- yl.out,<- rA.out];exact(after_off (by omega)).symm
   have D:J=U:=by rw[<- ym.out,<- rA.out];exact(Su (by omega) (fun e=>absurd e wU)).symm
   have M:o=ow:=by rw[<- HOW.out,if_neg (by omega)]
   subst I;subst M;subst D;have X:Hid (vI E G mk J s L L A n c):=kH ⟨⟨V1,jK.out⟩,KW.refl _ _,qm.out,ng.out,r⟩;go_wp2_with fail
   go_meet
   exact⟨A,n,c,rfl,rfl,X⟩
  case rest=>
   obtain⟨A1,n1,c1,rfl,rfl,HD⟩:=hcut;obtain⟨wh,rfl⟩:∃wh:World,wh=wc:=⟨_,rfl⟩
   have hkh:KW E W1 wh:=JI.out.trans HD.out.K;have HKH:=kH hkh;have Cg:Hid (KW E w wh):=kH ((KW.of_below HB1.out).trans hkh);clear hkh t0 t1 t2 t3 t4 lt' lrm;go_wp2_with fail
   go_loopg [12,13,14] nk (fun gk s12 s13 _ wr=> ∃(i:Nat) (A3:Option Addr) (n3 c3:Nat) (si:List Nat) (qi:RW),s13= .int .i64 (i:Int)/\i+gk=nk/\s12= .slice A3 n3 c3/\Hid (LpAt E G mk k s1 kids ow s U wh i si qi A3 n3 c3 wr))
   case atStart=>
    refine⟨0,A,n,c,s,U,rfl,by omega,rfl,kH ⟨HD.out.V,KW.refl _ _,qm.out.kw HD.out.K rfl ⟨_,jK.out.blk⟩,ng.out,r,rfl,?_,?_,?_,?_,lI.out.2.2.2.2.1,lI.out.2.2.2.2.2⟩⟩
    ·rw[lI.out.2.2.2.1];exact lI.out.1
    ·rw[lI.out.2.2.2.1];exact lI.out.2.1
    ·have h1:=vY.out.us
     rw[ai,rC.out]at h1;rw[lI.out.2.2.2.1,lI.out.2.2.1,List.drop_zero];omega
    ·rw[lI.out.2.2.1];exact vY.out.most
   case round=>
    obtain⟨i,A3,n3,c3,si,qi,rfl,hin,rfl,HL⟩:=hrel;have hib:i<=nk:=by omega
    have qD:=kH hin;have hkr:KW E W1 wr:=HKH.out.trans HL.out.K;have HKR:=kH hkr;have hNr:=fH.out _ hkr;obtain⟨⟨t0,t1,t2,t3,t4⟩,-⟩:=hNr.five;have lt':=hNr.lt;clear hin hkr hNr;by_cases hlt:i<nk
    ·obtain⟨kt,hkt⟩:∃z,kids[i]? =some z:=⟨_,aaf (by rw[fK.out];exact hlt)⟩
     have hmem:=aan hkt
     have hdrop:kids.drop i=kt::kids.drop (i+1):=by
      rw[List.drop_eq_getElem_cons (by rw[fK.out];exact hlt)];rw[aaf (by rw[fK.out];exact hlt)]at hkt;rw[Option.some.inj hkt]
     obtain⟨vals,⟨b,off,hA,hbl,hcs⟩,hTz⟩:=HK.out.get i kt hkt;rw[Nat.zero_add]at hcs;obtain⟨Az,cz,jF,Vv⟩:=hTz.five;subst hA;subst jF;have hcz:=hTz.cap;obtain⟨kz,xz,az,ez,zn,hkz,hxz,haz,hez,hzn,hnz⟩:=dR kt Az cz;rw[hkz,hxz,haz,hez,hzn]at hcs;obtain⟨Vi,hi⟩:=HL.out.V;obtain⟨ni,hni⟩:∃z,qi.num=z:=⟨_,rfl⟩
     obtain⟨A4,n4,c4,s4,hs4,h4r,h4l,h4c,h4o,h4y,h4n⟩:∃(A4:Option Addr) (n4 c4:Nat) (s4:List Nat),(if k=16/\i=2 then s1 else si)=s4/\gP wr (E.uA.map (·.block)) A4 s4/\s4.length=n4/\n4<=c4/\pq s4 qi/\((decide (k=16)&&decide (i=2))=true->A4=A1/\n4=n1/\c4=c1)/\((decide (k=16)&&decide (i=2))=false->A4=A3/\n4=n3/\c4=c3):=by
      by_cases hc:k=16/\i=2
      ·refine⟨A1,n1,c1,s1,if_pos hc,HD.out.S.kw HL.out.K rfl ?_,HD.out.len,HD.out.cap,HL.out.ok1,fun _=>⟨rfl,rfl,rfl⟩,fun h=>absurd h (by simp[hc])⟩
       obtain⟨Vh,hh⟩:=HD.out.V;exact⟨_,hh.blk⟩
      ·exact⟨A3,n3,c3,si,if_neg hc,HL.out.S,HL.out.len,HL.out.cap,HL.out.oki,fun h=>absurd (by simpa using h) hc,fun _=>⟨rfl,rfl,rfl⟩⟩
     have m:=HL.out.run;rw[hdrop,dW]at m;try simp only at m
     rw[hs4]at m;have nD:=HL.out.us;rw[hdrop,aD]at nD;have h5:=hi.num_ (ni+1);rw[show((ni+1:Nat):Int)=(ni:Int)+1 by omega]at h5;obtain⟨q5,Jt⟩:∃z,({ qi with num:=ni+1 }:RW)=z:=⟨_,rfl⟩
     have R5:q5.num=ni+1:=by rw[<- Jt]
     have R6:q5.ds=qi.ds:=by rw[<- Jt]
     have hq5l:q5.list=qi.list:=by rw[<- Jt]
     have XV:q5.uses=qi.uses:=by rw[<- Jt]
     rw[hni,Jt]at m;rw[Jt]at h5;have hk5:=Zw E wr 4 (.int .i64 ((ni:Int)+1));have c4r:wr.cell? ⟨E.rp,4,none⟩=some (.int .i64 (ni:Int)):=by rw[<- hni];exact hi.blk.cell 4
     have f4r:=hi.blk.frozen 4;have lrr:=hi.blk.lt;obtain⟨W5,jD⟩:∃z,wr.setCell ⟨E.rp,4,none⟩ (.int .i64 ((ni:Int)+1))=z:=⟨_,rfl⟩
     rw[jD]at h5 hk5;have hkW5:KW E wh W5:=HL.out.K.trans hk5;have hkw5:KW E w W5:=Cg.out.trans hkW5;have hlow:Below B w W5:=(hkw5.low H.out).mono hB;have h4r5:gP W5 (E.uA.map (·.block)) A4 s4:=h4r.kw hk5 rfl ⟨_,hi.blk⟩
     have RY:Yz G q5 s4 kt:=by
      refine⟨?_,?_,?_,?_,vY.out.gl,vY.out.nodes,?_,fun y hy=>vY.out.Ym y ?_⟩
      ·rw[R5,R6,<- hni];exact HL.out.ds
      ·rw[R5,hq5l,<- hni];exact HL.out.li
      ·rw[R5,XV,<- hni];omega
      ·rw[XV];exact HL.out.most
      ·unfold pq
       rw[R6];exact h4o
      ·rw[bT]
       exact List.mem_cons_of_mem _ (OC hmem hy)
     have C:=fE.out kt hmem ow s4 q5 Vi W5 A4 n4 c4 Az cz h5 h4r5 h4l h4c (aJ.below hlow (aab _) _ _ _ Vv) hcz RY (aac dG.out hkw5.size);rw[hnz]at C;have Z:=Es G mk kt ow s4 q5;obtain⟨R,hR⟩:∃z,bR G mk kt ow s4 q5=z:=⟨_,rfl⟩
     rw[hR]at C m Z;have iN:=kH C;have HSTP:=kH Z;have wL:=kH m;have qC:=kH nD;have H4:Hid (gP W5 (E.uA.map (·.block)) A4 s4/\s4.length=n4/\n4<=c4/\pq s4 q5):=kH ⟨h4r5,h4l,h4c,RY.QK⟩;have H5:=kH h5;have yA:=kH hkW5;have HQ5:Hid (q5.num=ni+1/\q5.ds=qi.ds/\q5.list=qi.list/\q5.uses=qi.uses/\qi.num=ni/\pq s1 q5):=kH ⟨R5,R6,hq5l,XV,hni,by unfold pq;rw[R6];exact HL.out.ok1⟩;have hni0:ni<=1000000:=by have:=HL.out.most;omega
     have Sj:(i:Int)<(nk:Int):=by omega
     have hw1:IntKind.i64.wrap ((ni:Int)+1)=(ni:Int)+1:=IntWalk.i64_in _ (by omega);have hw2:IntKind.i64.wrap ((i:Int)+1)=(i:Int)+1:=IntWalk.i64_in _ (by omega);have hi0:¬((i:Int)<0):=by omega
     have Cj:Hid (∀j v,[Value.int .i64 kz,.string xz,.int .i64 az,.int .i64 ez,.slice Az zn cz][j]? =some v->W5.cell? ⟨b,off+i*5+j,none⟩=some v):=kH fun j v hj=>(hlow.cell (p:=⟨b,_,none⟩) hbl).trans (hcs j v hj)
     have CS:=kH (fH.out W5 (HKR.out.trans hk5));clear hkt hmem hdrop hcs hTz Vv hcz hkz hxz haz hez hzn hnz hi hni hs4 h4r h4l h4c h4o m nD h5 Jt R5 R6 hq5l XV hk5 hkW5 hkw5 hlow h4r5 RY C Z hR hbl;obtain⟨cb,hcb⟩:∃z,(decide (k=16)&&decide (i=2))=z:=⟨_,rfl⟩
     rw[hcb]at h4y h4n;have zJ:=kH hcb;clear hcb;go_upto_region 39 with fail
     go_cut [152] (fun s152 wx=>s152= .bool cb/\wx=wr)
     case first=>
      by_cases hc1:k=16
      ·by_cases hc2:i=2
       ·have hc:cb=true:=by rw[<- zJ.out];simp[hc1,hc2]
        subst hc;subst hc1;subst hc2;go_wp2_with fail
        go_meet
        exact⟨rfl,rfl⟩
       ·have hc:cb=false:=by rw[<- zJ.out];simp[hc2]
        have Ye:¬(i:Int)=2:=by omega
        have hc2b:((i:Int)==2)=false:=by simpa using Ye
        subst hc;subst hc1;clear hc2;go_wp2_with fail
        go_meet
        exact⟨rfl,rfl⟩
      ·have hc:cb=false:=by rw[<- zJ.out];simp[hc1]
       have hc1b:(k==16)=false:=by simpa using hc1
       subst hc;go_wp2_with fail
       go_meet
       exact⟨rfl,rfl⟩
     case rest=>
     obtain⟨rfl,rfl⟩:=hcut;go_upto_if 152 with fail
     go_cut [12] (fun s12 wx=>s12= .slice A4 n4 c4/\wx=wc)
     case first=>
      cases cb with
      | true=>
       obtain⟨rfl,rfl,rfl⟩:=h4y rfl;clear h4y h4n;go_wp2_with fail
       go_meet
       exact⟨rfl,rfl⟩
      | false=>
       obtain⟨rfl,rfl,rfl⟩:=h4n rfl;clear h4y h4n;go_wp2_with fail
       go_meet
       exact⟨rfl,rfl⟩
     case rest=>
      obtain⟨rfl,rfl⟩:=hcut;clear h4y h4n;go_upto_region 42 with(rw[jD])
      clear t0 t1 t2 t3 t4 lt' c4r f4r lrr jD;obtain⟨⟨t0,t1,t2,t3,t4⟩,-⟩:=CS.out.five;have lt':=CS.out.lt;have z0:W5.cell? ⟨b,off+i*5,none⟩=some (.int .i64 kz):=by simpa using Cj.out 0 _ rfl
      have z1:W5.cell? ⟨b,off+i*5+1,none⟩=some (.string xz):=Cj.out 1 _ rfl;have z2:W5.cell? ⟨b,off+i*5+2,none⟩=some (.int .i64 az):=Cj.out 2 _ rfl;have z3:W5.cell? ⟨b,off+i*5+3,none⟩=some (.int .i64 ez):=Cj.out 3 _ rfl;have z4:W5.cell? ⟨b,off+i*5+4,none⟩=some (.slice Az zn cz):=Cj.out 4 _ rfl;go_wp2_with fail
      refine iN.out.mono ?_;rintro e6 u ⟨A6,n6,c6,rfl,zZ,hc6,zq,V6,O,Y⟩;have ZR:KW E wh u:=yA.out.trans Y;have Ad:=fH.out u (HKH.out.trans ZR);have hrow4:=H4.out.1.kw Y rfl ⟨_,H5.out.blk⟩
      have AU:Hid (∀(A7:Option Addr) (n7 c7:Nat) (s7:List Nat),(if k=5\/k=6\/k=11 then R.2 else s4)=s7->gP u (E.uA.map (·.block)) A7 s7->s7.length=n7->n7<=c7->Hid (LpAt E G mk k s1 kids ow s U wh (i+1) s7 R.1 A7 n7 c7 u)):=kH fun A7 n7 c7 s7 e7 r7 l7 p7=>by
       obtain⟨g1,g2,g3⟩:=HSTP.out;obtain⟨e1,e2,e3,e4,e5,e6⟩:=HQ5.out;have b1:=g1.Pe;have b2:=g1.li;have b3:=g1.us;have b4:=HL.out.ds;have b5:=HL.out.li;have b6:=qC.out;rw[e2]at b1;rw[e3]at b2;rw[e4]at b3;rw[e1]at g2;refine kH ⟨⟨V6,O⟩,ZR,r7,l7,p7,?_,by omega,by omega,by rw[b3];omega,by rw[b3];exact HL.out.most,e6.mono g1,?_⟩
       ·rw[<- e7]
        exact wL.out
       ·rw[<- e7]
        split
        ·exact g3 H4.out.2.2.2
        ·exact H4.out.2.2.2.mono g1
      have HR6:Hid (gP u (E.uA.map (·.block)) A6 R.2/\R.2.length=n6/\n6<=c6):=kH ⟨zq,zZ,hc6⟩;have HR4:Hid (gP u (E.uA.map (·.block)) A4 s4/\s4.length=n4/\n4<=c4):=kH ⟨hrow4,H4.out.2.1,H4.out.2.2.1⟩;clear t0 t1 t2 t3 t4 lt' z0 z1 z2 z3 z4 zZ hc6 zq O Y ZR hrow4 iN;obtain⟨⟨t0,t1,t2,t3,t4⟩,-⟩:=Ad.five;have lt':=Ad.lt;clear Ad;by_cases EJ:k=5\/k=6\/k=11
      ·have vR:=kH (AU.out A6 n6 c6 R.2 (if_pos EJ) HR6.out.1 HR6.out.2.1 HR6.out.2.2)
       clear AU;rcases EJ with rfl|rfl|rfl
       all_goals
        go_wp2_with fail
        go_roundg (gk - 1)
        case measure=>have:=qD.out;omega
        case rel=>exact⟨i+1,A6,n6,c6,R.2,R.1,by simp,by have:=qD.out;omega,rfl,vR.out⟩
      ·have vR:=kH (AU.out A4 n4 c4 s4 (if_neg EJ) HR4.out.1 HR4.out.2.1 HR4.out.2.2)
       have b5:(k==5)=false:=by simpa using fun e=>EJ (.inl e)
       have b6:(k==6)=false:=by simpa using fun e=>EJ (.inr (.inl e))
       have b11:(k==11)=false:=by simpa using fun e=>EJ (.inr (.inr e))
       clear AU EJ;go_wp2_with fail
       go_roundg (gk - 1)
       case measure=>have:=qD.out;omega
       case rel=>exact⟨i+1,A4,n4,c4,s4,R.1,by simp,by have:=qD.out;omega,rfl,vR.out⟩
    ·have hie:i=nk:=by omega
     subst hie;have m:=HL.out.run;rw[List.drop_of_length_le (by rw[fK.out];exact aab _),dW]at m
     have X:Hid (∀(A7:Option Addr) (n7 c7:Nat),(if k=6 then A7=A3/\n7=n3/\c7=c3 else if k=7\/k=8\/k=12 then A7=A1/\n7=n1/\c7=c1 else A7=A/\n7=n/\c7=c)->Q.2.length=n7/\n7<=c7/\gP wr (E.uA.map (·.block)) A7 Q.2/\(∃V',dP E G mk Q.1 V' wr)/\KW E w wr):=kH fun A7 n7 c7 h7=>by
      obtain⟨Vi,hi⟩:=HL.out.V;obtain⟨Vh,hh⟩:=HD.out.V;rw[<- HQ.out.1,HQ.out.2,<- m];have hV:(∃V',dP E G mk qi V' wr)/\KW E w wr:=⟨⟨Vi,hi⟩,Cg.out.trans HL.out.K⟩
      split at h7
      ·rename_i O
       obtain⟨rfl,rfl,rfl⟩:=h7;rw[if_pos O];exact⟨HL.out.len,HL.out.cap,HL.out.S,hV⟩
      ·rename_i O
       rw[if_neg O];split at h7
       ·rename_i CL
        obtain⟨rfl,rfl,rfl⟩:=h7;rw[if_pos CL];exact⟨HD.out.len,HD.out.cap,HD.out.S.kw HL.out.K rfl ⟨_,hh.blk⟩,hV⟩
       ·rename_i CL
        obtain⟨rfl,rfl,rfl⟩:=h7;rw[if_neg CL];exact⟨ng.out,r,(qm.out.kw HD.out.K rfl ⟨_,jK.out.blk⟩).kw HL.out.K rfl ⟨_,hh.blk⟩,hV⟩
     clear m;by_cases O:k=6
     ·have HE:=kH (X.out A3 n3 c3 (by rw[if_pos O];exact⟨rfl,rfl,rfl⟩))
      clear X;subst O;go_wp2_with fail
      go_ret
      exact⟨A3,n3,c3,rfl,HE.out⟩
     ·have b6:(k==6)=false:=by simpa using O
      by_cases CL:k=7\/k=8\/k=12
      ·have HE:=kH (X.out A1 n1 c1 (by rw[if_neg O,if_pos CL];exact⟨rfl,rfl,rfl⟩))
       clear X O;rcases CL with rfl|rfl|rfl
       all_goals
        go_wp2_with fail
        go_ret
        exact⟨A1,n1,c1,rfl,HE.out⟩
      ·have HE:=kH (X.out A n c (by rw[if_neg O,if_neg CL];exact⟨rfl,rfl,rfl⟩))
       have b7:(k==7)=false:=by simpa using fun e=>CL (.inl e)
       have b8:(k==8)=false:=by simpa using fun e=>CL (.inr (.inl e))
       have b12:(k==12)=false:=by simpa using fun e=>CL (.inr (.inr e))
       clear X O CL;go_wp2_with fail
       go_ret
       obtain⟨e1,e2,e3,⟨V',e4⟩,e5⟩:=HE.out;exact⟨A,n,c,rfl,e1,e2,e3,V',e4,e5⟩
end Go.Proofs.YtoepemlnlpamlaaGreat
