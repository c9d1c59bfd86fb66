/- Collect agrees with the reference. Part 11: Rw5 Rw6 Rw7 ShR Shp9. -/
import Derived.Test.YtoepemlnlpamlaaGreatColl10
set_option maxRecDepth 100000
set_option maxHeartbeats 4000000
namespace Go.Proofs.YtoepemlnlpamlaaGreat
open Go.RowKit
structure uG (E:RE) (G:List Dc) (mk:Int) (q2:RW) (s1:List Nat) (w0 w:World) (A1:Option Addr) (n1 c1:Nat):Prop where
 V:∃V,dV E G mk q2 V w
 K:KW E w0 w
 S:gG w (E.uA.map (·.block)) A1 s1
 len:s1.length=n1
 cap:n1<=c1
structure WV (G:List Dc) (q:RW) (s:List Nat) (t:ae):Prop where
 ds:q.ds.length<=q.num
 li:q.list.length<=q.num
 us:q.num+aB t<=q.uses.length
 most:q.uses.length<=1000000
 gl:G.length<=1000000
 nodes:∀d∈G,0<=d.node/\d.node<=1000000
 PI:lK s q
 GZ:∀y∈aM t,y.kind=3\/y.kind=4\/y.kind=5->∃d,mD G (decide (y.kind=4)) y.text=some d
theorem CP(t:ae):t∈aM t:=by cases t;simp[aM]
theorem ES{G:List Dc}{a b:Int}{x:ByteArray}{n:Int}(h:fq G a b x=some n):∃d∈G,d.node=n:=by
 unfold fq at h
 cases B:mD G (decide (a=1)) x with
 | none=>rw[B]at h;cases h
 | some d=>
  rw[B]at h;obtain⟨j,-,C,-⟩:=Ay B;have A:(if d.kind=a\/d.kind=b then some d.node else none)=some n:=h;split at A
  ·exact⟨d,acn C,Option.some.inj A⟩
  cases A
theorem Vo(mk:Int)(q:RW)(s:List Nat):(cO mk q s).ds=q.ds/\(cO mk q s).list=q.list/\(cO mk q s).uses=q.uses/\(cO mk q s).num=q.num:=by
 unfold cO;split<;>exact⟨rfl,rfl,rfl,rfl⟩
theorem Rz(P:Program)(w:World){t A e:TypeId}(B:TypeId){i:TypeInfo}(D:P.info? e=some i)(h:P.underlying t=some (.slice e))(C:P.underlying A=some (.slice e))(v x:Value):(Builtin.append_ #[t,A] B #[v,x]).run P w=(Builtin.append_ #[t,t] B #[v,x]).run P w:=by
 unfold Builtin.append_;cases v<;>simp[run_underlying h,run_underlying C,sizeOf,typeInfo,D]
theorem Kq{P:Program}(w:World){K:Array Oper}{rest:List Oper}{o:Oper}{a:Act}{Q:Exit->Act->World->Prop}(N:o.guard=none)(s x:Operand)(t X:TypeId)
 (f:o.op= .call { callee:=.builtin .append,args:=#[s,x],argTypes:=#[t,X] })
 (base:Nat) (e:TypeId) (i:TypeInfo) (z:Value) (size C:Nat) (W:P.underlying t=some (.slice e)) (R:P.underlying X=some (.slice e)) (U:P.info? e=some i) (hz:i.zero=some z)
 (H:i.size=size) (M:i.bytes=C) (S:z.cells.size=size) (O:0<size)
 (v:Value) (n:Nat) (T:List Value) (d:a.eval s=v) (J:aG w base e size v n T)
 (A:Option Addr) (m c:Nat) (B:List Value) (b:a.eval x= .slice A m c) (g:B.length=m*size) (F:∀j u,B[j]? =some u->∃a,A=some a/\w.cell? (a.add j)=some u) (Y:∀u∈B,u.oneCell'=true)
 (L:n+m<=maxLen) (D:(n+m)*C<=140737488355328) (E:base<=w.heap.size)
 (h:∀I w',aG w' base e size I (n+m) (T++B)->w.grownBy w' v.ownBlock->(I.ownBlock=v.ownBlock\/I.ownBlock=some w.heap.size)->wpList P K Q rest (a.put o.dst I) w'):wpList P K Q (o::rest) a w:=
 wpList_plain N fun _ l=>by
  obtain⟨I,w',V,Z,y,r⟩:=Bf (P:=P) w base t o.type e i z size C W U hz H M S O v n T J A m c B g F Y L D E;rw[<- Rz P w o.type U W R]at V;unfold Oper.wp execOp;simp only[f,resolve,invoke,builtin,Sem.run_bind,Sem.run_pure,Result.andThen_ok,List.map_toArray,List.map_cons,List.map_nil,d,b,V];exact l _ _ (h I w' Z y r)
section
variable {G:List Dc}{q:RW}{s:List Nat}{k:Int}{x:ByteArray}{a z:Int}{kids:List ae}{o:Int}
theorem head9(h:ek x=false):j3 G q s (.node 9 x a z kids) o=qE q (.node 9 x a z kids) (fq G 0 0 x):=by
 show(if (9:Int)=9/\ek x=false then _ else _)=_;exact if_pos ⟨rfl,h⟩
theorem QU(h:¬(k=3\/k=4\/k=5\/k=20\/k=22\/k=27\/k=19\/k=7\/k=8\/k=12\/k=16))(M:k=9->ek x=true):j3 G q s (.node k x a z kids) o=q:=by
 simp only[not_or]at h;obtain⟨H,I,J,D,E,F,C,K,L,A,B⟩:=h;unfold j3;show(if k=3 then _ else if k=4 then _ else if k=5 then _ else if k=20 then _ else if k=22 then _ else if k=27 then _ else if k=19 then _ else if k=9/\ek x=false then _ else if k=7\/k=8 then _ else if k=12 then _ else if k=16 then _ else q)=q;rw[if_neg H,if_neg I,if_neg J,if_neg D,if_neg E,if_neg F,if_neg C,if_neg (fun e=>by rw[M e.1]at e;exact absurd e.2 (by simp)),if_neg (fun e=>e.elim K L),if_neg A,if_neg B]
theorem Zj(h:¬(k=7\/k=8\/k=12\/k=16)):qL G q s (.node k x a z kids)=s:=if_neg h
end
def WU(E:RE)(G:List Dc)(mk:Int)(B:Nat)(t:ae):Prop:=
 ∀(o:Int) (s:List Nat) (q:RW) (V:RQ) (w:World) (A:Option Addr) (n c:Nat) (At:Option Addr) (ct:Nat),dV E G mk q V w->gG w (E.uA.map (·.block)) A s->s.length=n->n<=c->aD w B At 0 t.kids->t.kids.length<=ct->WV G q s t->E.base<=w.heap.size ->
  Calls Tryz.prog 85 #[.pointer (some ⟨E.rp,0,none⟩),.slice A n c,aO t At ct,.int .i64 o] w fun e w'=> ∃A' n' c',e= .returned (.slice A' n' c')/\(bJ G mk t o s q).2.length=n'/\n'<=c'/\gG w' (E.uA.map (·.block)) A' (bJ G mk t o s q).2 /\
   ∃V',dV E G mk (bJ G mk t o s q).1 V' w'/\KW E w w'
structure LpAt (E:RE) (G:List Dc) (mk k:Int) (s1:List Nat) (kids:List ae) (ow:Int) (s:List Nat) (q2:RW) (w0:World) (i:Nat) (si:List Nat) (qi:RW) (A3:Option Addr) (n3 c3:Nat) (w:World):Prop where
 V:∃V,dV E G mk qi V w
 K:KW E w0 w
 S:gG w (E.uA.map (·.block)) A3 si
 len:si.length=n3
 cap:n3<=c3
 run:dP G mk k s1 (kids.drop i) i ow si qi=dP G mk k s1 kids 0 ow s q2
 ds:qi.ds.length<=qi.num+1
 li:qi.list.length<=qi.num+1
 us:qi.num+1+aC (kids.drop i)<=qi.uses.length
 most:qi.uses.length<=1000000
 ok1:lK s1 qi
 oki:lK si qi
theorem Nu:∀{kids:List ae}{t y:ae},t∈kids->y∈aM t->y∈bg kids
 | c::cs,t,y,A,hy=>by
  rw[bg];rcases List.mem_cons.1 A with rfl|A
  ·exact List.mem_append_left _ hy
  exact List.mem_append_right _ (Nu A hy)
theorem Xl(E:RE)(G:List Dc)(mk:Int)(B:Nat)(hB:B<=E.lo)(k:Int)(x:ByteArray)(a z:Int)(kids:List ae)(cM:∀t∈kids,WU E G mk B t):WU E G mk B (.node k x a z kids):=by
 intro o s q V w A n c At ct h hs cU r hk cG F al;obtain⟨i0,cJ,dB,dD,dH⟩:=info_parts mH;obtain⟨nk, bw⟩:=ag kids.length;obtain⟨nm, b0⟩:=ag q.num;have VT:aO (.node k x a z kids) At ct= .agg #[.int .i64 k,.string x,.int .i64 a,.int .i64 z,.slice At nk ct]:=by rw[<- bw];rfl
 rw[VT];obtain⟨Q, hQ⟩:=ag (bJ G mk (.node k x a z kids) o s q);rw[hQ];have eh:nm<=1000000:=by have:=F.us;have:=F.most;omega
 have yf:nk<=1000000:=by have h1:=F.us;have h2:=F.most;have h3:=dO kids;rw[aB]at h1;omega
 have MS:n<=1000000:=by have:=F.PI.1;have:=F.ds;omega
 obtain⟨T, hT⟩:=ag (ae.node k x a z kids);obtain⟨L, bx⟩:=ag (cO mk q s);obtain⟨U, D⟩:=ag (j3 G L s T o);obtain⟨s1, I⟩:=ag (qL G L s T);obtain⟨ow, M⟩:=ag ((if k=3\/k=5 then(nm:Int) else o))
 have jb:(dP G mk k s1 kids 0 ow s U).1=Q.1/\Q.2=(if k=6 then(dP G mk k s1 kids 0 ow s U).2 else if k=7\/k=8\/k=12 then s1 else s):=by
  rw[<- hQ,<- I,<- M,<- D,<- bx,<- hT,<- b0,bJ];exact⟨rfl,rfl⟩
 have l:=Vo mk q s;rw[bx]at l
 have N:Hid (L.ds.length<=1000000/\L.list.length<=1000000/\L.num<L.uses.length/\L.num=nm/\G.length<=1000000/\(∀i∈s,i<L.ds.length)/\L.uses.length<=1000000):=kH (by
  obtain⟨e1,e2,e3,e4⟩:=l;rw[e1,e2,e3,e4];have:=F.ds;have:=F.li;have:=F.us;have:=jk (.node k x a z kids)
  exact⟨by omega,by omega,by omega,b0,F.gl,F.PI.2,F.most⟩)
 have Z:=Br G L s T o
 have bn:lK s1 U:=by
  rw[<- I,<- D];refine Fe T o ⟨?_,?_⟩
  ·rw[l.1];exact F.PI.1
  rw[l.1];exact F.PI.2
 have bo:lK s U:=by
  rw[D]at Z;refine lK.mono (a:=L) ⟨?_,?_⟩ Z.1
  ·rw[l.1];exact F.PI.1
  rw[l.1];exact F.PI.2
 rw[D]at Z
 have eQ:Hid (U.ds.length<=nm+1/\U.list.length<=nm+1/\U.uses.length=q.uses.length/\U.num=nm/\lK s1 U/\lK s U):=kH (by
  obtain⟨e1,e2,e3,e4⟩:=l;have h1:=Z.1.Oe;have h2:=Z.1.li;have h3:=Z.1.us;have h4:=Z.2;rw[e1]at h1;rw[e2]at h2;rw[e3]at h3;have:=F.ds;have:=F.li
  exact⟨by omega,by omega,h3,by rw[h4,e4,b0],bn,bo⟩)
 have qw:=kH hT;have xC:=kH D;have xB:=kH I;have a6:=kH M;have H:=kH h;have HS:=kH hs;have HK:=kH hk;have uU:=kH F;have eT:=kH bw;have sJ:=kH b0;have jK:=kH cU;have jo:=kH cM;have e8:Hid (nk<=ct):=kH (by rw[<- bw];exact cG);have dK:=kH al;have HQ:=kH jb;have cA:=kH bx;have uV:=kH (show aO T At ct= .agg #[.int .i64 k,.string x,.int .i64 a,.int .i64 z,.slice At nk ct] by rw[<- hT];exact VT);have r4:w.cell? ⟨E.rp,4,none⟩=some (.int .i64 (nm:Int)):=by rw[<- b0];exact h.blk.cell 4
 have r5:w.cell? ⟨E.rp,5,none⟩=some (.int .i64 mk):=h.blk.cell 5;have lr:=h.blk.lt;clear h hs hk F bw b0 cU cM cG al hQ jb VT hT bx D I M l Z bn bo;go_in
 go_upto_if 24 with fail
 generalize cc:w.alloc (.cells #[.int .i64 k,.string x,.int .i64 a,.int .i64 z,.slice At nk ct] 24)=W1
 have cd:Below w.heap.size w W1:=by rw[<- cc];exact ai _ _
 have cE:ah W1 w.heap.size 24 #[.int .i64 k,.string x,.int .i64 a,.int .i64 z,.slice At nk ct]:=by rw[<- cc];exact ah.new w _ _
 have h1:=H.out.below cd;have bp:=kH cd;have dd:=kH cE;have H1:=kH h1;have s4:W1.cell? ⟨E.rp,4,none⟩=some (.int .i64 (nm:Int)):=by rw[<- sJ.out];exact h1.blk.cell 4
 have s5:W1.cell? ⟨E.rp,5,none⟩=some (.int .i64 mk):=h1.blk.cell 5;have ls:=h1.blk.lt;have cQ:E.rp≠w.heap.size:=by have:=H.out.blk.lt;omega
 have bm:E.uA.map (·.block)≠some w.heap.size:=fun e=>by have:=(H.out.us.lt w.heap.size (by rw[Il];exact e)).2;omega
 have fw:Hid (∀W,KW E W1 W->ah W w.heap.size 24 #[.int .i64 k,.string x,.int .i64 a,.int .i64 z,.slice At nk ct]):=kH fun W hW=>hW.blk dd.out (fun e=>cQ e.symm) (by decide) (by decide) bm
 clear cc cd cE h1 r4 r5 lr cQ bm;go_cut [] (fun wx=>Hid ((∃V1,dV E G mk L V1 wx)/\KW E W1 wx))
 case first=>
  by_cases bt:(nm:Int)=mk
  ·subst bt
   as_aux_lemma=>
    have HM:Hid ({ q with at_:=s }=L):=kH (by rw[<- cA.out];unfold cO;rw[sJ.out,if_pos rfl]);obtain⟨W7, rQ⟩:=ag (W1.alloc (.cells #[] 3));have jP:Below W1.heap.size W1 W7:=by rw[<- rQ];exact ai _ _
    have NW:aG W7 W1.heap.size 3 1 (.slice (some ⟨W1.heap.size,0,none⟩) 0 0) 0 []:=by
     rw[<- rQ];exact aG.block (ab9 _) (ah.new W1 _ _) (Nat.zero_le _) rfl
    have sM:=kH jP;have Sb:=kH NW;clear jP NW;go_wp2_with (first|rw[rQ]|(at_builtin;refine Kq _ rfl (.tmp 26) (.tmp 27) _ _ rfl W1.heap.size 3 i0 _ 1 8 Tryz.underlying28 Tryz.underlying142 cJ dB dD dH rfl (by omega) (.slice (some ⟨W1.heap.size,0,none⟩) 0 0) 0 [] rfl Sb.out A n c (s.flatMap gU) rfl (by rw[zW,jK.out];omega) ((HS.out.below bp.out).below sM.out).news GA (by simp only[maxLen];omega) (by omega) sM.out.size ?_;intro v8 w8 ab an dk;rw[Nat.zero_add,List.nil_append]at ab;obtain⟨A8,c8,Ce,bl,-⟩:=ab.shape;subst Ce;have lI:Below W1.heap.size W1 w8:=sM.out.trans (wY an sM.out.size (fun k hk=>by cases hk;exact ab9 _));have bd:=kH ab;have Cw:=kH lI;have bB:=kH bl;have Yr:=(H1.out.below lI).blk;have eb:=Yr.cell 6;have ec:=Yr.frozen 6;have en:=Yr.lt;clear ab an dk lI rQ bl Yr))
    have X:Hid ((∃V1,dV E G (nm:Int) L V1 (w8.setCell ⟨E.rp,6,none⟩ (.slice A8 n c8)))/\KW E W1 (w8.setCell ⟨E.rp,6,none⟩ (.slice A8 n c8))):=kH (by
     have h8:=H1.out.below Cw.out
     have cq:gG w8 (Value.slice E.uA q.uses.length E.uc).ownBlock A8 s:=gG.XV (base:=W1.heap.size) (c:=c8) (n:=n) bd.out jK.out (fun g hg e=>by
      have h1:=(bd.out.lt g hg).1;have h2:=(H1.out.us.lt g e).2
      omega)
     have:=h8.mark_ cq (c:=c8) (by rw[jK.out];exact bB.out);rw[jK.out,HM.out]at this
     exact⟨⟨_,this⟩,(KW.of_below Cw.out).trans (Ya E w8 6 _)⟩)
    go_meet
    exact X
  have dw:((nm:Int)==mk)=false:=by simpa using bt
  have HM:Hid (q=L):=kH (by rw[<- cA.out];unfold cO;rw[sJ.out,if_neg bt]);clear bt;go_wp2_with fail
  go_meet
  rw[<- HM.out];exact kH ⟨⟨V,H1.out⟩,KW.refl _ _⟩
 obtain⟨J,rfl⟩:∃J:World,J=wc:=⟨_,rfl⟩
 obtain⟨⟨V1,cn⟩,Yu⟩:=hcut.out;have nP:=kH cn;have Jq:=kH Yu;have c9:=fw.out _ Yu;obtain⟨⟨t0,t1,t2,t3,t4⟩,-⟩:=c9.five;have ba:=c9.lt;have cT:gG J (E.uA.map (·.block)) A s:=(HS.out.below bp.out).kw Yu rfl ⟨_,H1.out.blk⟩;have nO:=kH cT;have NT:E.base<=J.heap.size:=aca dK.out (aca bp.out.size Yu.size);have F8:=kH NT;have dQ:=cn.blk.lt;clear hcut cn Yu c9 cT NT s4 s5 ls;go_upto_block 0 with fail
 go_cut [3,10] from 15 (fun s3 dT wx=> ∃(A1:Option Addr) (n1 c1:Nat),s3= .int .i64 ow/\dT= .slice A1 n1 c1/\Hid (uG E G mk U s1 J wx A1 n1 c1))
 case first=>
  by_cases dr:k=3
  ·subst dr
   as_aux_lemma=>
    obtain⟨d,hd⟩:=uU.out.GZ (.node 3 x a z kids) (CP _) (.inl rfl);have C:=CL E G mk L V1 J nP.out N.out.1 N.out.2.1 N.out.2.2.2.2.1 N.out.2.2.1 F8.out 0 (-1) T At ct d (by rw[<- qw.out];exact hd);rw[uV.out]at C;have D:eO G L T 0 (-1)=U:=by rw[<- xC.out,<- qw.out];rfl
    have I:s=s1:=by rw[<- xB.out,<- qw.out];rfl
    have M:(nm:Int)=ow:=by rw[<- a6.out];rfl
    rw[D]at C;subst I;subst M;have HC:=kH C;clear C hd D;go_wp2_with fail
    refine HC.out.mono ?_;rintro e6 u ⟨rfl,V6,O,Y⟩;have X:Hid (uG E G mk U s J u A n c):=kH ⟨⟨V6,O⟩,Y,nO.out.kw Y rfl ⟨_,nP.out.blk⟩,jK.out,r⟩;clear O Y HC;go_wp2_with fail
    go_meet
    exact⟨A,n,c,rfl,rfl,X⟩
  by_cases dt:k=4
  ·subst dt
   as_aux_lemma=>
    obtain⟨d,hd⟩:=uU.out.GZ (.node 4 x a z kids) (CP _) (.inr (.inl rfl));have C:=CL E G mk L V1 J nP.out N.out.1 N.out.2.1 N.out.2.2.2.2.1 N.out.2.2.1 F8.out 1 o T At ct d (by rw[<- qw.out];exact hd);rw[uV.out]at C;have D:eO G L T 1 o=U:=by rw[<- xC.out,<- qw.out];rfl
    have I:s=s1:=by rw[<- xB.out,<- qw.out];rfl
    have M:o=ow:=by rw[<- a6.out];rfl
    rw[D]at C;subst I;subst M;have HC:=kH C;clear C hd D;go_wp2_with fail
    refine HC.out.mono ?_;rintro e6 u ⟨rfl,V6,O,Y⟩;have X:Hid (uG E G mk U s J u A n c):=kH ⟨⟨V6,O⟩,Y,nO.out.kw Y rfl ⟨_,nP.out.blk⟩,jK.out,r⟩;clear O Y HC;go_wp2_with fail
    go_meet
    exact⟨A,n,c,rfl,rfl,X⟩
  by_cases au:k=5
  ·subst au
   as_aux_lemma=>
    obtain⟨d,hd⟩:=uU.out.GZ (.node 5 x a z kids) (CP _) (.inr (.inr rfl));have C:=CL E G mk L V1 J nP.out N.out.1 N.out.2.1 N.out.2.2.2.2.1 N.out.2.2.1 F8.out 2 (-1) T At ct d (by rw[<- qw.out];exact hd);rw[uV.out]at C;have D:eO G L T 2 (-1)=U:=by rw[<- xC.out,<- qw.out];rfl
    have I:s=s1:=by rw[<- xB.out,<- qw.out];rfl
    have M:(nm:Int)=ow:=by rw[<- a6.out];rfl
    rw[D]at C;subst I;subst M;have HC:=kH C;clear C hd D;go_wp2_with fail
    refine HC.out.mono ?_;rintro e6 u ⟨rfl,V6,O,Y⟩;have X:Hid (uG E G mk U s J u A n c):=kH ⟨⟨V6,O⟩,Y,nO.out.kw Y rfl ⟨_,nP.out.blk⟩,jK.out,r⟩;clear O Y HC;go_wp2_with fail
    go_meet
    exact⟨A,n,c,rfl,rfl,X⟩
  by_cases MV:k=20
  ·subst MV
   as_aux_lemma=>
    have aE:=IV E G mk L V1 J nP.out (E.uA.map (·.block)) A n c s nO.out jK.out N.out.2.2.2.2.2.1 x MS;have D:wL L s T=U:=by rw[<- xC.out,<- qw.out];rfl
    have I:s=s1:=by rw[<- xB.out,<- qw.out];rfl
    have M:o=ow:=by rw[<- a6.out];rfl
    subst I;subst M;have ca:T.text=x:=by rw[<- qw.out];rfl
    unfold wL at D;rw[ca]at D
    cases hl:nR L.ds s x with
    | some j=>
     rw[hl]at D;have bk:xW L.ds s x=(j:Int):=by unfold xW;rw[hl]
     rw[bk]at aE;have rW:=kH aE;have db:=kH (show({ L with uses:=L.uses.set L.num (j:Int) }:RW)=U from D);clear aE hl bk D ca;go_wp2_with fail
     refine rW.out.mono ?_;rintro e6 u ⟨rfl,af⟩;have O:=nP.out.below af;obtain⟨bu,ou,hA,ed,iR,dp,ay⟩:=O.yH L.num N.out.2.2.1;obtain⟨u0,iR⟩:=iR;obtain⟨nu, cR⟩:=ag L.uses.length;have dy:nm<nu:=by have:=N.out.2.2.1;have:=N.out.2.2.2.1;omega
     have ar:=O.blk;rw[cR,hA]at ar;have c1:=ar.cell 1;have l6:=ar.lt;rw[N.out.2.2.2.1]at iR dp ay
     have X:Hid (uG E G mk U s J (u.setCell ⟨bu,ou+nm,none⟩ (.int .i64 (j:Int))) A n c):=kH (by
      obtain⟨h7,k7⟩:=ay (j:Int);have k8:=(KW.of_below af).trans k7;refine⟨⟨V1,?_⟩,k8,nO.out.kw k8 rfl ⟨_,nP.out.blk⟩,jK.out,r⟩;rw[<- db.out,N.out.2.2.2.1];have e:({ L with uses:=L.uses.set nm (j:Int) }:RW)= { ds:=L.ds,uses:=L.uses.set nm (j:Int),list:=L.list,num:=nm,at_:=L.at_ }:=by rw[<- N.out.2.2.2.1]
      exact h7)
     have ef:¬((nm:Int)<0):=by omega
     have eg:(nm:Int)<(nu:Int):=by omega
     clear ay O ar cR af rW;go_wp2_with fail
     go_meet
     exact⟨A,n,c,rfl,rfl,X⟩
    | none=>
     rw[hl]at D;have bk:xW L.ds s x= -1:=by unfold xW;rw[hl]
     rw[bk]at aE;have cp:=fun(W:World) (hb:Below J.heap.size J W)=>BS E G mk L V1 W (nP.out.below hb) N.out.2.1 (aca F8.out hb.size) 8 T At ct
     rw[uV.out,show rC L 8 T=U from D]at cp;have F6:=kH cp;have rW:=kH aE;clear aE hl bk D ca cp;go_wp2_with fail
     refine rW.out.mono ?_;rintro e6 u ⟨rfl,af⟩;have bc:=kH (F6.out u af);have zH:=kH af;have Bv:=fw.out u (Jq.out.trans (KW.of_below af));obtain⟨⟨v0,v1,v2,v3,v4⟩,-⟩:=Bv.five;have lv:=Bv.lt;clear af F6 rW Bv;go_wp2_with fail
     refine bc.out.mono ?_;rintro e7 w7 ⟨rfl,V7,h7,k7⟩
     have X:Hid (uG E G mk U s J w7 A n c):=kH (by
      have k8:=(KW.of_below zH.out).trans k7
      exact⟨⟨V7,h7⟩,k8,nO.out.kw k8 rfl ⟨_,nP.out.blk⟩,jK.out,r⟩)
     clear h7 k7 bc;go_wp2_with fail
     go_meet
     exact⟨A,n,c,rfl,rfl,X⟩
  by_cases de:k=22
  ·subst de
   as_aux_lemma=>
    have a1:=fun(W:World) (hb:Below J.heap.size J W)=>Aq E G mk L V1 W (nP.out.below hb) N.out.2.2.2.2.1 1 1 x
    have jr:=fun(W:World) (hb:Below J.heap.size J W)=>Es E G mk L V1 W (nP.out.below hb) N.out.2.1 N.out.2.2.1 (aca F8.out hb.size) T At ct (fq G 1 1 x) (uQ (fq G 1 1 x)) (fun j hj=>by
     obtain⟨d,hd,he⟩:=ES hj;have:=uU.out.nodes d hd;rw[hj]
     exact⟨rfl,by omega,by omega⟩) (fun hj=>by rw[hj];rfl)
    have D:qE L T (fq G 1 1 x)=U:=by rw[<- xC.out,<- qw.out];rfl
    have I:s=s1:=by rw[<- xB.out,<- qw.out];rfl
    have M:o=ow:=by rw[<- a6.out];rfl
    rw[uV.out,D]at jr;obtain⟨gn, Bq⟩:=ag (uQ (fq G 1 1 x));rw[Bq]at a1 jr;subst I;subst M;have Ei:=kH a1;have qP:=kH jr
    have fE:∀W,Below J.heap.size J W->W.cell? ⟨w.heap.size,0,none⟩=some (.int .i64 22)/\W.cell? ⟨w.heap.size,1,none⟩=some (.string x)/\W.cell? ⟨w.heap.size,2,none⟩=some (.int .i64 a)/\W.cell? ⟨w.heap.size,3,none⟩=some (.int .i64 z)/\W.cell? ⟨w.heap.size,4,none⟩=some (.slice At nk ct):=fun W hb=>by
     obtain⟨⟨v0,v1,v2,v3,v4⟩,-⟩:=(fw.out W (Jq.out.trans (KW.of_below hb))).five;exact⟨v0,v1,v2,v3,v4⟩
    have bP:=kH fE;have P:Below J.heap.size J J.drew:=(Below.refl _ _).drew;have f:=bP.out _ P;clear a1 jr D Bq fE;go_wp2_with fail
    refine bF (fun W=>W.cell? ⟨w.heap.size,0,none⟩=some (.int .i64 22)/\W.cell? ⟨w.heap.size,1,none⟩=some (.string x)/\W.cell? ⟨w.heap.size,2,none⟩=some (.int .i64 a)/\W.cell? ⟨w.heap.size,3,none⟩=some (.int .i64 z)/\W.cell? ⟨w.heap.size,4,none⟩=some (.slice At nk ct)) [] [true,true,true,true,true,false,false] (by kernel_rfl) (by kernel_rfl) rfl (by kernel_rfl) ?_;iterate 5((first|(refine dU (by rfl) f ?_)|(refine bC (by rfl) f (by intro w' aq;obtain⟨I,cr,cu,b9,cv⟩:=aq;go_simp;rfl) ?_));simp only[Act.put,sA,sZ,sC])
    refine dG (by rfl) (by go_simp) ((Ei.out _ P).mono ?_);rintro e4 w4 ⟨rfl,a8⟩;have gB:Below J.heap.size J w4:=P.trans (a8.mono P.size);refine⟨_,rfl,fun _=>bP.out _ gB,?_⟩;simp only[Act.put,sA,sZ,sC];refine dG (by rfl) (by go_simp) ((qP.out _ gB).mono ?_);rintro e6 u ⟨rfl,V6,O,Y⟩;have k8:=(KW.of_below gB).trans Y;obtain⟨⟨y0,y1,y2,y3,y4⟩,-⟩:=(fw.out u (Jq.out.trans k8)).five;refine⟨_,rfl,fun _=>⟨y0,y1,y2,y3,y4⟩,?_⟩;simp only[Act.put,sA,sZ,sC];refine fT ?_;have X:Hid (uG E G mk U s J u A n c):=kH ⟨⟨V6,O⟩,k8,nO.out.kw k8 rfl ⟨_,nP.out.blk⟩,jK.out,r⟩;clear O Y k8 a8 gB Ei qP f P y0 y1 y2 y3 y4;go_wp2_with fail
    go_meet
    exact⟨A,n,c,rfl,rfl,X⟩
  by_cases CU:k=27
  ·subst CU
   as_aux_lemma=>
    have a1:=fun(W:World) (hb:Below J.heap.size J W)=>Aq E G mk L V1 W (nP.out.below hb) N.out.2.2.2.2.1 0 2 x
    have jr:=fun(W:World) (hb:Below J.heap.size J W)=>Es E G mk L V1 W (nP.out.below hb) N.out.2.1 N.out.2.2.1 (aca F8.out hb.size) T At ct (fq G 0 2 x) (uQ (fq G 0 2 x)) (fun j hj=>by
     obtain⟨d,hd,he⟩:=ES hj;have:=uU.out.nodes d hd;rw[hj]
     exact⟨rfl,by omega,by omega⟩) (fun hj=>by rw[hj];rfl)
    have D:qE L T (fq G 0 2 x)=U:=by rw[<- xC.out,<- qw.out];rfl
    have I:s=s1:=by rw[<- xB.out,<- qw.out];rfl
    have M:o=ow:=by rw[<- a6.out];rfl
    rw[uV.out,D]at jr;obtain⟨gn, Bq⟩:=ag (uQ (fq G 0 2 x));rw[Bq]at a1 jr;subst I;subst M;have Ei:=kH a1;have qP:=kH jr
    have fE:∀W,Below J.heap.size J W->W.cell? ⟨w.heap.size,0,none⟩=some (.int .i64 27)/\W.cell? ⟨w.heap.size,1,none⟩=some (.string x)/\W.cell? ⟨w.heap.size,2,none⟩=some (.int .i64 a)/\W.cell? ⟨w.heap.size,3,none⟩=some (.int .i64 z)/\W.cell? ⟨w.heap.size,4,none⟩=some (.slice At nk ct):=fun W hb=>by
     obtain⟨⟨v0,v1,v2,v3,v4⟩,-⟩:=(fw.out W (Jq.out.trans (KW.of_below hb))).five;exact⟨v0,v1,v2,v3,v4⟩
    have bP:=kH fE;have P:Below J.heap.size J J.drew:=(Below.refl _ _).drew;have f:=bP.out _ P;clear a1 jr D Bq fE;go_wp2_with fail
    refine bF (fun W=>W.cell? ⟨w.heap.size,0,none⟩=some (.int .i64 27)/\W.cell? ⟨w.heap.size,1,none⟩=some (.string x)/\W.cell? ⟨w.heap.size,2,none⟩=some (.int .i64 a)/\W.cell? ⟨w.heap.size,3,none⟩=some (.int .i64 z)/\W.cell? ⟨w.heap.size,4,none⟩=some (.slice At nk ct)) [] [true,true,true,true,true,false,false] (by kernel_rfl) (by kernel_rfl) rfl (by kernel_rfl) ?_;iterate 5((first|(refine dU (by rfl) f ?_)|(refine bC (by rfl) f (by intro w' aq;obtain⟨I,cr,cu,b9,cv⟩:=aq;go_simp;rfl) ?_));simp only[Act.put,sA,sZ,sC])
    refine dG (by rfl) (by go_simp) ((Ei.out _ P).mono ?_);rintro e4 w4 ⟨rfl,a8⟩;have gB:Below J.heap.size J w4:=P.trans (a8.mono P.size);refine⟨_,rfl,fun _=>bP.out _ gB,?_⟩;simp only[Act.put,sA,sZ,sC];refine dG (by rfl) (by go_simp) ((qP.out _ gB).mono ?_);rintro e6 u ⟨rfl,V6,O,Y⟩;have k8:=(KW.of_below gB).trans Y;obtain⟨⟨y0,y1,y2,y3,y4⟩,-⟩:=(fw.out u (Jq.out.trans k8)).five;refine⟨_,rfl,fun _=>⟨y0,y1,y2,y3,y4⟩,?_⟩;simp only[Act.put,sA,sZ,sC];refine fT ?_;have X:Hid (uG E G mk U s J u A n c):=kH ⟨⟨V6,O⟩,k8,nO.out.kw k8 rfl ⟨_,nP.out.blk⟩,jK.out,r⟩;clear O Y k8 a8 gB Ei qP f P y0 y1 y2 y3 y4;go_wp2_with fail
    go_meet
    exact⟨A,n,c,rfl,rfl,X⟩
  by_cases df:k=19
  ·subst df
   as_aux_lemma=>
    have a1:=fun(W:World) (hb:Below J.heap.size J W)=>Aq E G mk L V1 W (nP.out.below hb) N.out.2.2.2.2.1 2 2 x
    have jr:=fun(W:World) (hb:Below J.heap.size J W)=>Es E G mk L V1 W (nP.out.below hb) N.out.2.1 N.out.2.2.1 (aca F8.out hb.size) T At ct (fq G 2 2 x) (uQ (fq G 2 2 x)) (fun j hj=>by
     obtain⟨d,hd,he⟩:=ES hj;have:=uU.out.nodes d hd;rw[hj]
     exact⟨rfl,by omega,by omega⟩) (fun hj=>by rw[hj];rfl)
    have D:qE L T (fq G 2 2 x)=U:=by rw[<- xC.out,<- qw.out];rfl
    have I:s=s1:=by rw[<- xB.out,<- qw.out];rfl
    have M:o=ow:=by rw[<- a6.out];rfl
    rw[uV.out,D]at jr;obtain⟨gn, Bq⟩:=ag (uQ (fq G 2 2 x));rw[Bq]at a1 jr;subst I;subst M;have Ei:=kH a1;have qP:=kH jr
    have fE:∀W,Below J.heap.size J W->W.cell? ⟨w.heap.size,0,none⟩=some (.int .i64 19)/\W.cell? ⟨w.heap.size,1,none⟩=some (.string x)/\W.cell? ⟨w.heap.size,2,none⟩=some (.int .i64 a)/\W.cell? ⟨w.heap.size,3,none⟩=some (.int .i64 z)/\W.cell? ⟨w.heap.size,4,none⟩=some (.slice At nk ct):=fun W hb=>by
     obtain⟨⟨v0,v1,v2,v3,v4⟩,-⟩:=(fw.out W (Jq.out.trans (KW.of_below hb))).five;exact⟨v0,v1,v2,v3,v4⟩
    have bP:=kH fE;have P:Below J.heap.size J J.drew:=(Below.refl _ _).drew;have f:=bP.out _ P;clear a1 jr D Bq fE;go_wp2_with fail
    refine bF (fun W=>W.cell? ⟨w.heap.size,0,none⟩=some (.int .i64 19)/\W.cell? ⟨w.heap.size,1,none⟩=some (.string x)/\W.cell? ⟨w.heap.size,2,none⟩=some (.int .i64 a)/\W.cell? ⟨w.heap.size,3,none⟩=some (.int .i64 z)/\W.cell? ⟨w.heap.size,4,none⟩=some (.slice At nk ct)) [] [true,true,true,true,true,false,false] (by kernel_rfl) (by kernel_rfl) rfl (by kernel_rfl) ?_;iterate 5((first|(refine dU (by rfl) f ?_)|(refine bC (by rfl) f (by intro w' aq;obtain⟨I,cr,cu,b9,cv⟩:=aq;go_simp;rfl) ?_));simp only[Act.put,sA,sZ,sC])
    refine dG (by rfl) (by go_simp) ((Ei.out _ P).mono ?_);rintro e4 w4 ⟨rfl,a8⟩;have gB:Below J.heap.size J w4:=P.trans (a8.mono P.size);refine⟨_,rfl,fun _=>bP.out _ gB,?_⟩;simp only[Act.put,sA,sZ,sC];refine dG (by rfl) (by go_simp) ((qP.out _ gB).mono ?_);rintro e6 u ⟨rfl,V6,O,Y⟩;have k8:=(KW.of_below gB).trans Y;obtain⟨⟨y0,y1,y2,y3,y4⟩,-⟩:=(fw.out u (Jq.out.trans k8)).five;refine⟨_,rfl,fun _=>⟨y0,y1,y2,y3,y4⟩,?_⟩;simp only[Act.put,sA,sZ,sC];refine fT ?_;have X:Hid (uG E G mk U s J u A n c):=kH ⟨⟨V6,O⟩,k8,nO.out.kw k8 rfl ⟨_,nP.out.blk⟩,jK.out,r⟩;clear O Y k8 a8 gB Ei qP f P y0 y1 y2 y3 y4;go_wp2_with fail
    go_meet
    exact⟨A,n,c,rfl,rfl,X⟩
  by_cases vN:k=9
  ·subst vN
   as_aux_lemma=>
    cases ad:ek x with
    | false=>
     have cW:¬x=⟨#[105,110,116]⟩:=fun e=>by rw[e]at ad;exact absurd ad (by decide)
     have cV:¬x=⟨#[98,111,111,108]⟩:=fun e=>by rw[e]at ad;exact absurd ad (by decide)
     have f1:¬x.toList=[105,110,116]:=fun h=>cW (rJ (by rw[<- ByteArray.toList_eq,h]))
     have f2:¬x.toList=[98,111,111,108]:=fun h=>cV (rJ (by rw[<- ByteArray.toList_eq,h]))
     have g1:(x.toList==[105,110,116])=false:=by rw[beq_eq_false_iff_ne];exact f1
     have g2:(x.toList==[98,111,111,108])=false:=by rw[beq_eq_false_iff_ne];exact f2
     clear cW cV;have a1:=fun(W:World) (hb:Below J.heap.size J W)=>Aq E G mk L V1 W (nP.out.below hb) N.out.2.2.2.2.1 0 0 x
     have jr:=fun(W:World) (hb:Below J.heap.size J W)=>Es E G mk L V1 W (nP.out.below hb) N.out.2.1 N.out.2.2.1 (aca F8.out hb.size) T At ct (fq G 0 0 x) (uQ (fq G 0 0 x)) (fun j hj=>by
      obtain⟨d,hd,he⟩:=ES hj;have:=uU.out.nodes d hd;rw[hj]
      exact⟨rfl,by omega,by omega⟩) (fun hj=>by rw[hj];rfl)
     have D:qE L T (fq G 0 0 x)=U:=by rw[<- xC.out,<- qw.out];exact(head9 ad).symm
     have I:s=s1:=by rw[<- xB.out,<- qw.out];rfl
     have M:o=ow:=by rw[<- a6.out];rfl
     rw[uV.out,D]at jr;obtain⟨gn, Bq⟩:=ag (uQ (fq G 0 0 x));rw[Bq]at a1 jr;subst I;subst M;have Ei:=kH a1;have qP:=kH jr
     have fE:∀W,Below J.heap.size J W->W.cell? ⟨w.heap.size,0,none⟩=some (.int .i64 9)/\W.cell? ⟨w.heap.size,1,none⟩=some (.string x)/\W.cell? ⟨w.heap.size,2,none⟩=some (.int .i64 a)/\W.cell? ⟨w.heap.size,3,none⟩=some (.int .i64 z)/\W.cell? ⟨w.heap.size,4,none⟩=some (.slice At nk ct):=fun W hb=>by
      obtain⟨⟨v0,v1,v2,v3,v4⟩,-⟩:=(fw.out W (Jq.out.trans (KW.of_below hb))).five;exact⟨v0,v1,v2,v3,v4⟩
     have bP:=kH fE;have P:Below J.heap.size J J.drew:=(Below.refl _ _).drew;have f:=bP.out _ P;clear a1 jr D Bq fE;go_wp2_with fail
     refine bF (fun W=>W.cell? ⟨w.heap.size,0,none⟩=some (.int .i64 9)/\W.cell? ⟨w.heap.size,1,none⟩=some (.string x)/\W.cell? ⟨w.heap.size,2,none⟩=some (.int .i64 a)/\W.cell? ⟨w.heap.size,3,none⟩=some (.int .i64 z)/\W.cell? ⟨w.heap.size,4,none⟩=some (.slice At nk ct)) [] [true,true,true,true,true,false,false] (by kernel_rfl) (by kernel_rfl) rfl (by kernel_rfl) ?_;iterate 5((first|(refine dU (by rfl) f ?_)|(refine bC (by rfl) f (by intro w' aq;obtain⟨I,cr,cu,b9,cv⟩:=aq;go_simp;rfl) ?_));simp only[Act.put,sA,sZ,sC])
     refine dG (by rfl) (by go_simp) ((Ei.out _ P).mono ?_);rintro e4 w4 ⟨rfl,a8⟩;have gB:Below J.heap.size J w4:=P.trans (a8.mono P.size);refine⟨_,rfl,fun _=>bP.out _ gB,?_⟩;simp only[Act.put,sA,sZ,sC];refine dG (by rfl) (by go_simp) ((qP.out _ gB).mono ?_);rintro e6 u ⟨rfl,V6,O,Y⟩;have k8:=(KW.of_below gB).trans Y;obtain⟨⟨y0,y1,y2,y3,y4⟩,-⟩:=(fw.out u (Jq.out.trans k8)).five;refine⟨_,rfl,fun _=>⟨y0,y1,y2,y3,y4⟩,?_⟩;simp only[Act.put,sA,sZ,sC];refine fT ?_;have X:Hid (uG E G mk U s J u A n c):=kH ⟨⟨V6,O⟩,k8,nO.out.kw k8 rfl ⟨_,nP.out.blk⟩,jK.out,r⟩;clear O Y k8 a8 gB Ei qP f P y0 y1 y2 y3 y4;go_wp2_with fail
     go_meet
     exact⟨A,n,c,rfl,rfl,X⟩
    | true=>
     have FN:x=⟨#[105,110,116]⟩\/x=⟨#[98,111,111,108]⟩:=by
      unfold ek at ad;simpa using ad
     have I:s=s1:=by rw[<- xB.out,<- qw.out];rfl
     have D:L=U:=by rw[<- xC.out,<- qw.out];exact(QU (by decide) (fun _=>ad)).symm
     have M:o=ow:=by rw[<- a6.out];rfl
     subst I;subst M;subst D;have X:Hid (uG E G mk L s J J A n c):=kH ⟨⟨V1,nP.out⟩,KW.refl _ _,nO.out,jK.out,r⟩;clear ad;rcases FN with rfl|rfl
     ·go_wp2_with fail
      go_meet
      exact⟨A,n,c,rfl,rfl,X⟩
     go_wp2_with fail
     go_meet
     exact⟨A,n,c,rfl,rfl,X⟩
  by_cases du:k=7
  ·subst du
   as_aux_lemma=>
    have C:=uO E G mk L V1 J nP.out N.out.1 N.out.2.1 N.out.2.2.2.2.1 N.out.2.2.1 F8.out A n c s nO.out jK.out r MS N.out.2.2.2.2.2.1 3 o T At ct;have oJ:T.kind=7:=by rw[<- qw.out];rfl
    have D:(fB G L s T 3 o).1=U:=by rw[<- xC.out];exact((qW G L s T o).2.2 (.inl oJ)).symm
    have I:(fB G L s T 3 o).2=s1:=by rw[<- xB.out];exact(mZ G L s T 3 o (by rw[oJ];decide)).symm
    have M:o=ow:=by rw[<- a6.out];rfl
    rw[uV.out,D,I]at C;subst M;have HC:=kH C;clear C D I oJ;go_wp2_with fail
    refine HC.out.mono ?_;rintro e6 u ⟨A6,n6,c6,rfl,zb,a7,wP,V6,O,Y⟩;have X:Hid (uG E G mk U s1 J u A6 n6 c6):=kH ⟨⟨V6,O⟩,Y,wP,zb,a7⟩;clear zb a7 wP O Y HC;go_wp2_with fail
    go_meet
    exact⟨A6,n6,c6,rfl,rfl,X⟩
  by_cases dv:k=8
  ·subst dv
   as_aux_lemma=>
    have C:=uO E G mk L V1 J nP.out N.out.1 N.out.2.1 N.out.2.2.2.2.1 N.out.2.2.1 F8.out A n c s nO.out jK.out r MS N.out.2.2.2.2.2.1 3 o T At ct;have oJ:T.kind=8:=by rw[<- qw.out];rfl
    have D:(fB G L s T 3 o).1=U:=by rw[<- xC.out];exact((qW G L s T o).2.2 (.inr oJ)).symm
    have I:(fB G L s T 3 o).2=s1:=by rw[<- xB.out];exact(mZ G L s T 3 o (by rw[oJ];decide)).symm
    have M:o=ow:=by rw[<- a6.out];rfl
    rw[uV.out,D,I]at C;subst M;have HC:=kH C;clear C D I oJ;go_wp2_with fail
    refine HC.out.mono ?_;rintro e6 u ⟨A6,n6,c6,rfl,zb,a7,wP,V6,O,Y⟩;have X:Hid (uG E G mk U s1 J u A6 n6 c6):=kH ⟨⟨V6,O⟩,Y,wP,zb,a7⟩;clear zb a7 wP O Y HC;go_wp2_with fail
    go_meet
    exact⟨A6,n6,c6,rfl,rfl,X⟩
  by_cases oL:k=12
  ·subst oL
   as_aux_lemma=>
    have C:=uO E G mk L V1 J nP.out N.out.1 N.out.2.1 N.out.2.2.2.2.1 N.out.2.2.1 F8.out A n c s nO.out jK.out r MS N.out.2.2.2.2.2.1 4 o T At ct;have oJ:T.kind=12:=by rw[<- qw.out];rfl
    have D:(fB G L s T 4 o).1=U:=by rw[<- xC.out];exact((qW G L s T o).1 oJ).symm
    have I:(fB G L s T 4 o).2=s1:=by rw[<- xB.out];exact(mZ G L s T 4 o (by rw[oJ];decide)).symm
    have M:o=ow:=by rw[<- a6.out];rfl
    rw[uV.out,D,I]at C;subst M;have HC:=kH C;clear C D I oJ;go_wp2_with fail
    refine HC.out.mono ?_;rintro e6 u ⟨A6,n6,c6,rfl,zb,a7,wP,V6,O,Y⟩;have X:Hid (uG E G mk U s1 J u A6 n6 c6):=kH ⟨⟨V6,O⟩,Y,wP,zb,a7⟩;clear zb a7 wP O Y HC;go_wp2_with fail
    go_meet
    exact⟨A6,n6,c6,rfl,rfl,X⟩
  by_cases oK:k=16
  ·subst oK
   as_aux_lemma=>
    have C:=uO E G mk L V1 J nP.out N.out.1 N.out.2.1 N.out.2.2.2.2.1 N.out.2.2.1 F8.out A n c s nO.out jK.out r MS N.out.2.2.2.2.2.1 5 o T At ct;have oJ:T.kind=16:=by rw[<- qw.out];rfl
    have D:(fB G L s T 5 o).1=U:=by rw[<- xC.out];exact((qW G L s T o).2.1 oJ).symm
    have I:(fB G L s T 5 o).2=s1:=by rw[<- xB.out];exact(mZ G L s T 5 o (by rw[oJ];decide)).symm
    have M:o=ow:=by rw[<- a6.out];rfl
    rw[uV.out,D,I]at C;subst M;have HC:=kH C;clear C D I oJ;go_wp2_with fail
    refine HC.out.mono ?_;rintro e6 u ⟨A6,n6,c6,rfl,zb,a7,wP,V6,O,Y⟩;have X:Hid (uG E G mk U s1 J u A6 n6 c6):=kH ⟨⟨V6,O⟩,Y,wP,zb,a7⟩;clear zb a7 wP O Y HC;go_wp2_with fail
    go_meet
    exact⟨A6,n6,c6,rfl,rfl,X⟩
  have I:s=s1:=by rw[<- xB.out,<- qw.out];exact(Zj (by omega)).symm
  have D:L=U:=by rw[<- xC.out,<- qw.out];exact(QU (by omega) (fun e=>absurd e vN)).symm
  have M:o=ow:=by rw[<- a6.out,if_neg (by omega)]
  subst I;subst M;subst D;have X:Hid (uG E G mk L s J J A n c):=kH ⟨⟨V1,nP.out⟩,KW.refl _ _,nO.out,jK.out,r⟩;go_wp2_with fail
  go_meet
  exact⟨A,n,c,rfl,rfl,X⟩
 obtain⟨A1,n1,c1,rfl,rfl,HD⟩:=hcut;obtain⟨wh,rfl⟩:∃wh:World,wh=wc:=⟨_,rfl⟩
 have ck:KW E W1 wh:=Jq.out.trans HD.out.K;have cy:=kH ck;have Eg:Hid (KW E w wh):=kH ((KW.of_below bp.out).trans ck);clear ck t0 t1 t2 t3 t4 ba dQ;go_wp2_with fail
 go_loopg [12,13,14] nk (fun gk cw e0 _ wr=> ∃(i:Nat) (A3:Option Addr) (n3 c3:Nat) (si:List Nat) (qi:RW),e0= .int .i64 (i:Int)/\i+gk=nk/\cw= .slice A3 n3 c3/\Hid (LpAt E G mk k s1 kids ow s U wh i si qi A3 n3 c3 wr))
 case atStart=>
  refine⟨0,A,n,c,s,U,rfl,by omega,rfl,kH ⟨HD.out.V,KW.refl _ _,nO.out.kw HD.out.K rfl ⟨_,nP.out.blk⟩,jK.out,r,rfl,?_,?_,?_,?_,eQ.out.2.2.2.2.1,eQ.out.2.2.2.2.2⟩⟩
  ·rw[eQ.out.2.2.2.1];exact eQ.out.1
  ·rw[eQ.out.2.2.2.1];exact eQ.out.2.1
  ·have h1:=uU.out.us
   rw[aB,sJ.out]at h1;rw[eQ.out.2.2.2.1,eQ.out.2.2.1,List.drop_zero];omega
  rw[eQ.out.2.2.1];exact uU.out.most
 obtain⟨i,A3,n3,c3,si,qi,rfl,cN,rfl,HL⟩:=hrel;have ee:i<=nk:=by omega
 have ry:=kH cN;have cl:KW E W1 wr:=cy.out.trans HL.out.K;have da:=kH cl;have NY:=fw.out _ cl;obtain⟨⟨t0,t1,t2,t3,t4⟩,-⟩:=NY.five;have ba:=NY.lt;clear cN cl NY;by_cases cm:i<nk
 ·obtain⟨kt,bj⟩:∃z,kids[i]? =some z:=⟨_,ace (by rw[eT.out];exact cm)⟩
  have aw:=acn bj
  have aa:kids.drop i=kt::kids.drop (i+1):=by
   rw[List.drop_eq_getElem_cons (by rw[eT.out];exact cm)];rw[ace (by rw[eT.out];exact cm)]at bj;rw[Option.some.inj bj]
  obtain⟨vals,⟨b,bb,hA,ar,bs⟩,Je⟩:=HK.out.get i kt bj;rw[Nat.zero_add]at bs;obtain⟨Az,cz,iY,FW⟩:=Je.five;subst hA;subst iY;have cH:=Je.cap;obtain⟨kz,xz,az,ez,zn,cP,cX,cF,cI,cY,cS⟩:=aW kt Az cz;rw[cP,cX,cF,cI,cY]at bs;obtain⟨Vi,hi⟩:=HL.out.V;obtain⟨ni, ax⟩:=ag qi.num
  obtain⟨A4,n4,c4,s4,b9,cD,c5,Ui,cC,YP,YQ⟩:∃(A4:Option Addr) (n4 c4:Nat) (s4:List Nat),(if k=16/\i=2 then s1 else si)=s4/\gG wr (E.uA.map (·.block)) A4 s4/\s4.length=n4/\n4<=c4/\lK s4 qi/\((decide (k=16)&&decide (i=2))=true->A4=A1/\n4=n1/\c4=c1)/\((decide (k=16)&&decide (i=2))=false->A4=A3/\n4=n3/\c4=c3):=by
   by_cases hc:k=16/\i=2
   ·refine⟨A1,n1,c1,s1,if_pos hc,HD.out.S.kw HL.out.K rfl ?_,HD.out.len,HD.out.cap,HL.out.ok1,fun _=>⟨rfl,rfl,rfl⟩,fun h=>absurd h (by simp[hc])⟩
    obtain⟨Vh,hh⟩:=HD.out.V;exact⟨_,hh.blk⟩
   exact⟨A3,n3,c3,si,if_neg hc,HL.out.S,HL.out.len,HL.out.cap,HL.out.oki,fun h=>absurd (by simpa using h) hc,fun _=>⟨rfl,rfl,rfl⟩⟩
  have m:=HL.out.run;rw[aa,dP]at m;try simp only at m
  rw[b9]at m;have jr:=HL.out.us;rw[aa,aC]at jr;have h5:=hi.num_ (ni+1);rw[show((ni+1:Nat):Int)=(ni:Int)+1 by omega]at h5;obtain⟨q5, Jc⟩:=ag (({ qi with num:=ni+1 }:RW));have QH:q5.num=ni+1:=by rw[<- Jc]
  have QI:q5.ds=qi.ds:=by rw[<- Jc]
  have bX:q5.list=qi.list:=by rw[<- Jc]
  have VR:q5.uses=qi.uses:=by rw[<- Jc]
  rw[ax,Jc]at m;rw[Jc]at h5;have au:=Ya E wr 4 (.int .i64 ((ni:Int)+1));have dg:wr.cell? ⟨E.rp,4,none⟩=some (.int .i64 (ni:Int)):=by rw[<- ax];exact hi.blk.cell 4
  have dj:=hi.blk.frozen 4;have dR:=hi.blk.lt;obtain⟨W5, ja⟩:=ag (wr.setCell ⟨E.rp,4,none⟩ (.int .i64 ((ni:Int)+1)));rw[ja]at h5 au;have c0:KW E wh W5:=HL.out.K.trans au;have bZ:KW E w W5:=Eg.out.trans c0;have av:Below B w W5:=(bZ.low H.out).mono hB;have c2:gG W5 (E.uA.map (·.block)) A4 s4:=cD.kw au rfl ⟨_,hi.blk⟩
  have QG:WV G q5 s4 kt:=by
   refine⟨?_,?_,?_,?_,uU.out.gl,uU.out.nodes,?_,fun y hy=>uU.out.GZ y ?_⟩
   ·rw[QH,QI,<- ax];exact HL.out.ds
   ·rw[QH,bX,<- ax];exact HL.out.li
   ·rw[QH,VR,<- ax];omega
   ·rw[VR];exact HL.out.most
   ·unfold lK
    rw[QI];exact cC
   rw[aM];exact List.mem_cons_of_mem _ (Nu aw hy)
  have C:=jo.out kt aw ow s4 q5 Vi W5 A4 n4 c4 Az cz h5 c2 c5 Ui (aD.below av (ab9 _) _ _ _ FW) cH QG (aca dK.out bZ.size);rw[cS]at C;have Z:=AZ G mk kt ow s4 q5;obtain⟨R, hR⟩:=ag (bJ G mk kt ow s4 q5);rw[hR]at C m Z;have qC:=kH C;have bN:=kH Z;have vG:=kH m;have qP:=kH jr;have H4:Hid (gG W5 (E.uA.map (·.block)) A4 s4/\s4.length=n4/\n4<=c4/\lK s4 q5):=kH ⟨c2,c5,Ui,QG.PI⟩;have H5:=kH h5;have ZH:=kH c0;have Oy:Hid (q5.num=ni+1/\q5.ds=qi.ds/\q5.list=qi.list/\q5.uses=qi.uses/\qi.num=ni/\lK s1 q5):=kH ⟨QH,QI,bX,VR,ax,by unfold lK;rw[QI];exact HL.out.ok1⟩;have dx:ni<=1000000:=by have:=HL.out.most;omega
  have We:(i:Int)<(nk:Int):=by omega
  have ei:IntKind.i64.wrap ((ni:Int)+1)=(ni:Int)+1:=IntWalk.i64_in _ (by omega);have ej:IntKind.i64.wrap ((i:Int)+1)=(i:Int)+1:=IntWalk.i64_in _ (by omega);have cJ:¬((i:Int)<0):=by omega
  have BL:Hid (∀j v,[Value.int .i64 kz,.string xz,.int .i64 az,.int .i64 ez,.slice Az zn cz][j]? =some v->W5.cell? ⟨b,bb+i*5+j,none⟩=some v):=kH fun j v hj=>(av.cell (p:=⟨b,_,none⟩) ar).trans (bs j v hj)
  have Oz:=kH (fw.out W5 (da.out.trans au));clear bj aw aa bs Je FW cH cP cX cF cI cY cS hi ax b9 cD c5 Ui cC m jr h5 Jc QH QI bX VR au c0 bZ av c2 QG C Z hR ar;obtain⟨cb, cg⟩:=ag ((decide (k=16)&&decide (i=2)));rw[cg]at YP YQ;have uB:=kH cg;clear cg;go_upto_region 39 with fail
  go_cut [152] (fun cx wx=>cx= .bool cb/\wx=wr)
  case first=>
   by_cases bh:k=16
   ·by_cases br:i=2
    ·have hc:cb=true:=by rw[<- uB.out];simp[bh,br]
     subst hc;subst bh;subst br;go_wp2_with fail
     go_meet
     exact⟨rfl,rfl⟩
    have hc:cb=false:=by rw[<- uB.out];simp[br]
    have cf:¬(i:Int)=2:=by omega
    have dn:((i:Int)==2)=false:=by simpa using cf
    subst hc;subst bh;clear br;go_wp2_with fail
    go_meet
    exact⟨rfl,rfl⟩
   have hc:cb=false:=by rw[<- uB.out];simp[bh]
   have dm:(k==16)=false:=by simpa using bh
   subst hc;go_wp2_with fail
   go_meet
   exact⟨rfl,rfl⟩
  case rest=>
  obtain⟨rfl,rfl⟩:=hcut;go_upto_if 152 with fail
  go_cut [12] (fun cw wx=>cw= .slice A4 n4 c4/\wx=wc)
  case first=>
   cases cb with
   | true=>
    obtain⟨rfl,rfl,rfl⟩:=YP rfl;clear YP YQ;go_wp2_with fail
    go_meet
    exact⟨rfl,rfl⟩
   | false=>
    obtain⟨rfl,rfl,rfl⟩:=YQ rfl;clear YP YQ;go_wp2_with fail
    go_meet
    exact⟨rfl,rfl⟩
  obtain⟨rfl,rfl⟩:=hcut;clear YP YQ;go_upto_region 42 with(rw[ja])
  clear t0 t1 t2 t3 t4 ba dg dj dR ja;obtain⟨⟨t0,t1,t2,t3,t4⟩,-⟩:=Oz.out.five;have ba:=Oz.out.lt;have z0:W5.cell? ⟨b,bb+i*5,none⟩=some (.int .i64 kz):=by simpa using BL.out 0 _ rfl
  have z1:W5.cell? ⟨b,bb+i*5+1,none⟩=some (.string xz):=BL.out 1 _ rfl;have z2:W5.cell? ⟨b,bb+i*5+2,none⟩=some (.int .i64 az):=BL.out 2 _ rfl;have z3:W5.cell? ⟨b,bb+i*5+3,none⟩=some (.int .i64 ez):=BL.out 3 _ rfl;have z4:W5.cell? ⟨b,bb+i*5+4,none⟩=some (.slice Az zn cz):=BL.out 4 _ rfl;go_wp2_with fail
  refine qC.out.mono ?_;rintro e6 u ⟨A6,n6,c6,rfl,zb,a7,wP,V6,O,Y⟩;have cj:KW E wh u:=ZH.out.trans Y;have Bv:=fw.out u (cy.out.trans cj);have ao:=H4.out.1.kw Y rfl ⟨_,H5.out.blk⟩
  have AR:Hid (∀(A7:Option Addr) (n7 c7:Nat) (s7:List Nat),(if k=5\/k=6\/k=11 then R.2 else s4)=s7->gG u (E.uA.map (·.block)) A7 s7->s7.length=n7->n7<=c7->Hid (LpAt E G mk k s1 kids ow s U wh (i+1) s7 R.1 A7 n7 c7 u)):=kH fun A7 n7 c7 s7 e7 r7 l7 p7=>by
   obtain⟨g1,g2,g3⟩:=bN.out;obtain⟨e1,e2,e3,e4,e5,e6⟩:=Oy.out;have b1:=g1.Oe;have b2:=g1.li;have b3:=g1.us;have b4:=HL.out.ds;have b5:=HL.out.li;have b6:=qP.out;rw[e2]at b1;rw[e3]at b2;rw[e4]at b3;rw[e1]at g2;refine kH ⟨⟨V6,O⟩,cj,r7,l7,p7,?_,by omega,by omega,by rw[b3];omega,by rw[b3];exact HL.out.most,e6.mono g1,?_⟩
   ·rw[<- e7]
    exact vG.out
   rw[<- e7];split
   ·exact g3 H4.out.2.2.2
   exact H4.out.2.2.2.mono g1
  have bI:Hid (gG u (E.uA.map (·.block)) A6 R.2/\R.2.length=n6/\n6<=c6):=kH ⟨wP,zb,a7⟩;have bG:Hid (gG u (E.uA.map (·.block)) A4 s4/\s4.length=n4/\n4<=c4):=kH ⟨ao,H4.out.2.1,H4.out.2.2.1⟩;clear t0 t1 t2 t3 t4 ba z0 z1 z2 z3 z4 zb a7 wP O Y cj ao qC;obtain⟨⟨t0,t1,t2,t3,t4⟩,-⟩:=Bv.five;have ba:=Bv.lt;clear Bv;by_cases EE:k=5\/k=6\/k=11
  ·have ZC:=kH (AR.out A6 n6 c6 R.2 (if_pos EE) bI.out.1 bI.out.2.1 bI.out.2.2)
   clear AR;rcases EE with rfl|rfl|rfl
   all_goals
    go_wp2_with fail
    go_roundg (gk - 1)
    case measure=>have:=ry.out;omega
    exact⟨i+1,A6,n6,c6,R.2,R.1,by simp,by have:=ry.out;omega,rfl,ZC.out⟩
  have ZC:=kH (AR.out A4 n4 c4 s4 (if_neg EE) bG.out.1 bG.out.2.1 bG.out.2.2);have b5:(k==5)=false:=by simpa using fun e=>EE (.inl e)
  have b6:(k==6)=false:=by simpa using fun e=>EE (.inr (.inl e))
  have e9:(k==11)=false:=by simpa using fun e=>EE (.inr (.inr e))
  clear AR EE;go_wp2_with fail
  go_roundg (gk - 1)
  case measure=>have:=ry.out;omega
  exact⟨i+1,A4,n4,c4,s4,R.1,by simp,by have:=ry.out;omega,rfl,ZC.out⟩
 have dq:i=nk:=by omega
 subst dq;have m:=HL.out.run;rw[List.drop_of_length_le (by rw[eT.out];exact ab9 _),dP]at m
 have X:Hid (∀(A7:Option Addr) (n7 c7:Nat),(if k=6 then A7=A3/\n7=n3/\c7=c3 else if k=7\/k=8\/k=12 then A7=A1/\n7=n1/\c7=c1 else A7=A/\n7=n/\c7=c)->Q.2.length=n7/\n7<=c7/\gG wr (E.uA.map (·.block)) A7 Q.2/\(∃V',dV E G mk Q.1 V' wr)/\KW E w wr):=kH fun A7 n7 c7 h7=>by
  obtain⟨Vi,hi⟩:=HL.out.V;obtain⟨Vh,hh⟩:=HD.out.V;rw[<- HQ.out.1,HQ.out.2,<- m];have hV:(∃V',dV E G mk qi V' wr)/\KW E w wr:=⟨⟨Vi,hi⟩,Eg.out.trans HL.out.K⟩
  split at h7
  ·rename_i O
   obtain⟨rfl,rfl,rfl⟩:=h7;rw[if_pos O];exact⟨HL.out.len,HL.out.cap,HL.out.S,hV⟩
  rename_i O
  rw[if_neg O];split at h7
  ·rename_i Ck
   obtain⟨rfl,rfl,rfl⟩:=h7;rw[if_pos Ck];exact⟨HD.out.len,HD.out.cap,HD.out.S.kw HL.out.K rfl ⟨_,hh.blk⟩,hV⟩
  rename_i Ck
  obtain⟨rfl,rfl,rfl⟩:=h7;rw[if_neg Ck];exact⟨jK.out,r,(nO.out.kw HD.out.K rfl ⟨_,nP.out.blk⟩).kw HL.out.K rfl ⟨_,hh.blk⟩,hV⟩
 clear m;by_cases O:k=6
 ·have HE:=kH (X.out A3 n3 c3 (by rw[if_pos O];exact⟨rfl,rfl,rfl⟩))
  clear X;subst O;go_wp2_with fail
  go_ret
  exact⟨A3,n3,c3,rfl,HE.out⟩
 have b6:(k==6)=false:=by simpa using O
 by_cases Ck:k=7\/k=8\/k=12
 ·have HE:=kH (X.out A1 n1 c1 (by rw[if_neg O,if_pos Ck];exact⟨rfl,rfl,rfl⟩))
  clear X O;rcases Ck with rfl|rfl|rfl
  all_goals
   go_wp2_with fail
   go_ret
   exact⟨A1,n1,c1,rfl,HE.out⟩
 have HE:=kH (X.out A n c (by rw[if_neg O,if_neg Ck];exact⟨rfl,rfl,rfl⟩));have b7:(k==7)=false:=by simpa using fun e=>Ck (.inl e)
 have b8:(k==8)=false:=by simpa using fun e=>Ck (.inr (.inl e))
 have ea:(k==12)=false:=by simpa using fun e=>Ck (.inr (.inr e))
 clear X O Ck;go_wp2_with fail
 go_ret
 obtain⟨e1,e2,e3,⟨V',e4⟩,e5⟩:=HE.out;exact⟨A,n,c,rfl,e1,e2,e3,V',e4,e5⟩
theorem Nc(E:RE)(G:List Dc)(mk:Int)(B:Nat)(A:B<=E.lo):∀(n:Nat) (t:ae),aB t<=n->WU E G mk B t
 | 0,t,h=>by have:=jk t;omega
 | n+1,.node k x a z kids,h=>Xl E G mk B A k x a z kids fun c C=>Nc E G mk B A n c (by
  have:=He C;rw[aB]at h
  omega)
def J8(l:List Dc)(n:Int):Int:=match l.findIdx? fun d=>decide (d.node=n) with|some k=>(k:Int)|none=> -1
theorem OU(A:Option Addr)(n c:Nat)(l:List Dc)(y:Int)(w:World)(h:aS 4 bQ w w.heap.size A l)(S:l.length=n)(t:n<=1000000):
 Calls Tryz.prog 86 #[.slice A n c,.int .i64 y] w fun e w'=>e= .returned (.int .i64 (J8 l y))/\Below w.heap.size w w':=by
 have H:=kH h;have P:=kH S;clear h S;go_in
 go_wp2_with fail
 go_loopg [5] n (fun gk s wr=> ∃k:Nat,k+gk=n/\s= .int .i64 (k:Int)/\Below w.heap.size w wr/\∀j d,j<k->l[j]? =some d->decide (d.node=y)=false)
 case atStart=>exact⟨0,by omega,rfl,Below.refl _ _,fun j d K=>by omega⟩
 obtain⟨k,R,rfl,W,T⟩:=hrel;have X:k<=n:=by omega
 have O:=kH R;have I:=kH T;clear R T;by_cases M:k<n
 ·obtain⟨d,J⟩:∃d,l[k]? =some d:=⟨_,ace (by rw[P.out];exact M)⟩
  obtain⟨b,o,V,u,Q⟩:=(H.out.below W (ab9 _)) k _ J;subst V;obtain⟨nd, C⟩:=ag d.node;have v:wr.cell? ⟨b,o+k*4+2,none⟩=some (.int .i64 nd):=by rw[<- C];exact Q 2 _ rfl
  have N:=kH J;have U:=kH C;have Y:(k:Int)<(n:Int):=by omega
  clear Q J C;by_cases F:nd=y
  ·have B:J8 l y=(k:Int):=by
    unfold J8;rw[EZ _ l k d I.out N.out (by rw[U.out];exact decide_eq_true F)]
   have D:=kH B;clear B;subst F;go_wp2_with fail
   go_ret
   rw[D.out];exact⟨rfl,by(repeat first|exact .refl _ _|assumption|refine .trans ?_ (.mono (by assumption) ?_)|refine .alloc ?_ ?_ _|refine .setCell ?_ ?_ _|refine .drew ?_|refine aL ?_ _|omega|(simp<;>omega))⟩
  have Z:(nd==y)=false:=by simpa using F
  have B:∀j d,j<k+1->l[j]? =some d->decide (d.node=y)=false:=fun j e K E=>by
   by_cases L:j=k
   ·subst L
    rw[N.out]at E;cases E
    rw[U.out];exact decide_eq_false F
   exact I.out j e (by omega) E
  have D:=kH B;clear B F;go_wp2_with fail
  go_roundg (gk - 1)
  case measure=>have:=O.out;omega
  exact⟨k+1,by have:=O.out;omega,by go_num,by(repeat first|exact .refl _ _|assumption|refine .trans ?_ (.mono (by assumption) ?_)|refine .alloc ?_ ?_ _|refine .setCell ?_ ?_ _|refine .drew ?_|refine aL ?_ _|omega|(simp<;>omega)),D.out⟩
 have B:J8 l y= -1:=by
  unfold J8;rw[LK _ l (fun j e K E=>I.out j e (by rw[P.out]at K;omega) E)]
 have D:=kH B;clear B;go_wp2_with fail
 go_ret
 rw[D.out];exact⟨rfl,by(repeat first|exact .refl _ _|assumption|refine .trans ?_ (.mono (by assumption) ?_)|refine .alloc ?_ ?_ _|refine .setCell ?_ ?_ _|refine .drew ?_|refine aL ?_ _|omega|(simp<;>omega))⟩
theorem gF.nth{w:World}{B:Nat}:∀{ts:List ae}{A:List (List Value)},gF w B ts A->∀(i:Nat) (t:ae),ts[i]? =some t->∃v,A[i]? =some v/\jH w B t v
 | [],_,_,i,t,h=>by simp at h
 | t::ts,_,h,0,u,hu=>by
  obtain⟨v,A,rfl,C,D⟩:=h;simp at hu;subst hu;exact⟨v,rfl,C⟩
 | t::ts,_,h,i+1,u,hu=>by
  obtain⟨v,A,rfl,C,D⟩:=h;obtain⟨H,E,F⟩:=gF.nth D i u (by simpa using hu);exact⟨H,by simpa using E,F⟩
theorem gF.lens5{w:World}{B:Nat}:∀{ts:List ae}{D:List (List Value)},gF w B ts D->∀v∈D,v.length=5
 | [],D,h,v,C=>by
  have:D=[]:=h;subst this
  cases C
 | t::ts,_,h,v,C=>by
  obtain⟨H,D,rfl,E,F⟩:=h;rcases List.mem_cons.1 C with rfl|C
  ·obtain⟨A,c,rfl,-⟩:=E.five
   rfl
  exact gF.lens5 F v C
theorem IY{w L:World}{base B N c:Nat}{A:Option Addr}{ts:List ae}{vals:List (List Value)}(O:aG w base 24 5 (.slice A N c) N (List.flatten vals))(J:gF L B ts vals)(V:ts.length=N)(i:Nat)(t:ae)(K:ts[i]? =some t):
 ∃b C E F,A=some ⟨b,C,none⟩/\b<w.heap.size/\base<=b/\(∀j v,[Value.int .i64 t.kind,.string t.text,.int .i64 t.at_,.int .i64 t.end_,.slice E t.kids.length F][j]? =some v->w.cell? ⟨b,C+i*5+j,none⟩=some v)/\aD L B E 0 t.kids:=by
 obtain⟨v,U,P⟩:=J.nth i t K;obtain⟨E,F,rfl,S⟩:=P.five;have T:=(acg.1 K).1;obtain⟨g,C,M,I,-,-,H,D,Q⟩:=O.form (by omega);cases I
 refine⟨g,C,E,F,rfl,D,H,fun j u R=>?_,S⟩;rw[Nat.add_assoc];exact Q _ _ (Jj vals (J.lens5) i j _ u U R)
theorem WH(t:ae)(ts:List ae)(i:Nat)(o:Int)(out:List Dc):∃A C E:Int,(A= -1\/A=0\/A=1\/A=2)/\(t.kind=3->A=0/\C= -1/\E=(i:Int))/\(t.kind=5->A=2/\C= -1/\E=o)/\(t.kind=4->A=1/\C=o/\E=o) /\
 (¬(t.kind=3\/t.kind=5\/t.kind=4)->A= -1/\C= -1/\E=o)/\gm (t::ts) i o out=gm ts (i+1) E (if A= -1 then out else vD out ⟨A,t.text,(i:Int),C⟩):=by
 rw[gm];by_cases B:t.kind=3
 ·exact⟨0,-1,i,by omega,fun _=>⟨rfl,rfl,rfl⟩,fun h=>by omega,fun h=>by omega,fun h=>absurd (.inl B) h,by rw[if_pos B,if_pos B,if_neg (by omega)]⟩
 by_cases D:t.kind=5
 ·exact⟨2,-1,o,by omega,fun h=>by omega,fun _=>⟨rfl,rfl,rfl⟩,fun h=>by omega,fun h=>absurd (.inr (.inl D)) h,by rw[if_neg B,if_neg B,if_pos D,if_neg (by omega)]⟩
 by_cases F:t.kind=4
 ·exact⟨1,o,o,by omega,fun h=>by omega,fun h=>by omega,fun _=>⟨rfl,rfl,rfl⟩,fun h=>absurd (.inr (.inr F)) h,by rw[if_neg B,if_neg B,if_neg D,if_pos F,if_neg (by omega)]⟩
 exact⟨-1,-1,o,by omega,fun h=>absurd h B,fun h=>absurd h D,fun h=>absurd h F,fun _=>⟨rfl,rfl,rfl⟩,by rw[if_neg B,if_neg B,if_neg D,if_neg F,if_pos rfl]⟩
theorem Qb(t:ae)(A:Option Addr)(c:Nat)(w:World)(hN:aB t<=1000000)(a7:t.kids.length<=c)(hk:aD w w.heap.size A 0 t.kids):
 Calls Tryz.prog 84 #[aO t A c] w fun e w'=> ∃A' c',e= .returned (.slice A' (gm (aM t) 0 (-1) []).length c')/\aG w' w.heap.size 49 4 (.slice A' (gm (aM t) 0 (-1) []).length c') (gm (aM t) 0 (-1) []).length ((gm (aM t) 0 (-1) []).flatMap bQ)/\Below w.heap.size w w':=by
 obtain⟨i0,bo,bt,bu,bw⟩:=info_parts Ha;obtain⟨k0,x0,a0,z0,n0,-,-,-,-,-,dH⟩:=aW t A c;obtain⟨X, T⟩:=ag ((w.alloc (.cells #[.int .i64 k0,.string x0,.int .i64 a0,.int .i64 z0,.slice A n0 c] 24)).alloc (.cells #[] 49));have r:Below w.heap.size w X:=by rw[<- T];exact((Below.refl _ w).alloc (ab9 _) _).alloc (by simp) _
 have an:ah X w.heap.size 24 #[.int .i64 k0,.string x0,.int .i64 a0,.int .i64 z0,.slice A n0 c]:=by rw[<- T];exact(ah.new w _ _).alloc _
 have b0:ah X (w.heap.size+1) 49 #[]:=by
  rw[<- T];have:=ah.new (w.alloc (.cells #[.int .i64 k0,.string x0,.int .i64 a0,.int .i64 z0,.slice A n0 c] 24)) 49 #[];simpa using this
 have jv:aG X w.heap.size 49 4 (.slice (some ⟨w.heap.size+1,0,none⟩) 0 0) 0 []:=aG.block (Nat.le_succ _) b0 (Nat.zero_le _) rfl;have m:=Ex (aB t) t A c X X.heap.size (ab9 _) (ab9 _) (by omega) a7 (aD.mono r.size _ _ _ (aD.below r (ab9 _) _ _ _ hk));have a8:=eZ t;obtain⟨ts, bc⟩:=ag (aM t);rw[bc]at m a8⊢;rw[dH]at m⊢;obtain⟨N, Ab⟩:=ag ts.length;have bB:N<=1000000:=by omega
 obtain⟨R, hR⟩:=ag (gm ts 0 (-1) []);rw[hR];have qQ:=kH m;have HR:=kH hR;have rV:=kH Ab;have aw:=kH r;have qx:=kH jv;obtain⟨⟨t0,t1,t2,t3,t4⟩,-⟩:=an.five;have bx:=an.lt;clear r an b0 jv m a8 bc dH a7 hk Ab hR hN;go_in
 go_wp2_with (rw[T])
 clear t0 t1 t2 t3 t4 bx T;refine qQ.out.mono ?_;rintro e2 w2 ⟨v2,L,vals,rfl,bb,af,b8,n⟩;rw[rV.out]at bb;subst bb;obtain⟨A2,c2,rfl,-,-⟩:=af.shape;have a6:aG w2 w.heap.size 49 4 (.slice (some ⟨w.heap.size+1,0,none⟩) 0 0) 0 []:=qx.out.below n (fun g H=>(qx.out.lt g H).2);have bh:Hid (Below w.heap.size w w2):=kH (aw.out.trans (n.mono aw.out.size));have ab:=kH a6;have BH:=kH af;have RY:=kH b8;have bd:=kH n;clear af b8 n a6 qQ;go_wp2_with fail
 go_loopg [3,5,6,7] L (fun gk s3 s5 s6 _ wr=> ∃(i:Nat) (o:Int) (A3:Option Addr) (C c3:Nat) (out:List Dc),s6= .int .i64 (i:Int)/\i+gk=L/\s5= .int .i64 o/\s3= .slice A3 C c3/\Hid (out.length=C/\C<=i/\aG wr w.heap.size 49 4 (.slice A3 C c3) C (out.flatMap bQ)/\aG wr X.heap.size 24 5 (.slice A2 L c2) L (List.flatten vals)/\Below w.heap.size w wr/\gm (ts.drop i) i o out=R))
 case atStart=>exact⟨0,-1,some ⟨w.heap.size+1,0,none⟩,0,0,[],rfl,by omega,rfl,rfl,kH ⟨rfl,ab9 _,ab.out,BH.out,bh.out,HR.out⟩⟩
 obtain⟨i,o,A3,C,c3,out,rfl,b9,rfl,rfl,HI⟩:=hrel;have bM:i<=L:=by omega
 have ry:=kH b9;clear b9;by_cases au:i<L
 ·obtain⟨tn,d⟩:∃z,ts[i]? =some z:=⟨_,ace (by rw[rV.out];exact au)⟩
  have U:ts.drop i=tn::ts.drop (i+1):=by
   rw[List.drop_eq_getElem_cons (by rw[rV.out];exact au)];rw[ace (by rw[rV.out];exact au)]at d;rw[Option.some.inj d]
  obtain⟨ba,vM,b2,al,az,B⟩:=HI.out;obtain⟨b,M,Ak,ck,hA,bn,-,aq,-⟩:=IY al RY.out rV.out i tn d;subst hA;obtain⟨O,y,o',P,v,u,h4,K,H⟩:=WH tn (ts.drop (i+1)) i o out;rw[U,H]at B;obtain⟨kd, ar⟩:=ag tn.kind;obtain⟨x, hx⟩:=ag tn.text;rw[ar]at v u h4 K;rw[hx]at B;have z0:wr.cell? ⟨b,M+i*5,none⟩=some (.int .i64 kd):=by rw[<- ar];simpa using aq 0 _ rfl
  have z1:wr.cell? ⟨b,M+i*5+1,none⟩=some (.string x):=by rw[<- hx];exact aq 1 _ rfl
  have OB:Hid (out.length=C/\C<=i):=kH ⟨ba,vM⟩;have Sc:=kH b2;have Jp:=kH al;have ax:=kH az;have OC:=kH B;have av:C<=1000000:=by omega
  have We:(i:Int)<(L:Int):=by omega
  have bp:¬((i:Int)<0):=by omega
  have bP:IntKind.i64.wrap ((i:Int)+1)=(i:Int)+1:=IntWalk.i64_in _ (by omega);clear d U ba vM b2 al az B aq H ar hx HI;go_upto_region 8 with fail
  obtain⟨Y, ja⟩:=ag (wr.alloc (.cells #[.int .i64 (-1),.string x,.int .i64 (i:Int),.int .i64 (-1)] 49));have I:ah Y wr.heap.size 49 #[.int .i64 (-1),.string x,.int .i64 (i:Int),.int .i64 (-1)]:=by rw[<- ja];exact ah.new wr _ _
  have ao:Below wr.heap.size wr Y:=by rw[<- ja];exact ai _ _
  rw[ja];have y0:=(ao.cell (p:=⟨b,M+i*5,none⟩) bn).trans z0;have f5:=I.frozen 0;have bl:=I.frozen 3;have bj:=I.cell 0;have bk:=I.cell 3;have l5:=I.lt;have S:=kH I;have kF:=kH ao;clear ja z0 z1 I ao;go_upto_block 2 with fail
  go_cut [5] (fun s5 wx=>s5= .int .i64 o'/\Hid (ah wx wr.heap.size 49 #[.int .i64 O,.string x,.int .i64 (i:Int),.int .i64 y]/\Below wr.heap.size wr wx))
  case first=>
   by_cases k3:kd=3
   ·obtain⟨rfl,rfl,rfl⟩:=v k3
    have E:Hid (ah (Y.setCell ⟨wr.heap.size,0,none⟩ (.int .i64 0)) wr.heap.size 49 #[.int .i64 0,.string x,.int .i64 (i:Int),.int .i64 (-1)]/\Below wr.heap.size wr (Y.setCell ⟨wr.heap.size,0,none⟩ (.int .i64 0))):=kH ⟨by simpa using S.out.dB 0 (.int .i64 0),kF.out.setCell (p:=⟨wr.heap.size,0,none⟩) (ab9 _) _⟩;subst k3;clear v h4 u K P;go_wp2_with fail
    go_meet
    exact⟨rfl,E⟩
   by_cases k5:kd=5
   ·obtain⟨rfl,rfl,rfl⟩:=u k5
    have E:Hid (ah (Y.setCell ⟨wr.heap.size,0,none⟩ (.int .i64 2)) wr.heap.size 49 #[.int .i64 2,.string x,.int .i64 (i:Int),.int .i64 (-1)]/\Below wr.heap.size wr (Y.setCell ⟨wr.heap.size,0,none⟩ (.int .i64 2))):=kH ⟨by simpa using S.out.dB 0 (.int .i64 2),kF.out.setCell (p:=⟨wr.heap.size,0,none⟩) (ab9 _) _⟩;subst k5;clear v h4 u K P k3;go_wp2_with fail
    go_meet
    exact⟨rfl,E⟩
   by_cases k4:kd=4
   ·obtain⟨rfl,e2,e3⟩:=h4 k4
    have E:Hid (ah ((Y.setCell ⟨wr.heap.size,0,none⟩ (.int .i64 1)).setCell ⟨wr.heap.size,3,none⟩ (.int .i64 o)) wr.heap.size 49 #[.int .i64 1,.string x,.int .i64 (i:Int),.int .i64 o]/\Below wr.heap.size wr ((Y.setCell ⟨wr.heap.size,0,none⟩ (.int .i64 1)).setCell ⟨wr.heap.size,3,none⟩ (.int .i64 o))):=kH ⟨by simpa using(S.out.dB 0 (.int .i64 1)).dB 3 (.int .i64 o),(kF.out.setCell (p:=⟨wr.heap.size,0,none⟩) (ab9 _) _).setCell (p:=⟨wr.heap.size,3,none⟩) (ab9 _) _⟩;subst k4;clear v h4 u K P k3 k5;go_wp2_with fail
    go_meet
    exact⟨by rw[e3],by rw[e2];exact E⟩
   obtain⟨rfl,rfl,rfl⟩:=K (fun e=>e.elim k3 (fun e=>e.elim k5 k4));have E:Hid (ah Y wr.heap.size 49 #[.int .i64 (-1),.string x,.int .i64 (i:Int),.int .i64 (-1)]/\Below wr.heap.size wr Y):=kH ⟨S.out,kF.out⟩;have b3:(kd==3)=false:=by simpa using k3
   have b5:(kd==5)=false:=by simpa using k5
   have b4:(kd==4)=false:=by simpa using k4
   clear v h4 u K P k3 k5 k4;go_wp2_with fail
   go_meet
   exact⟨rfl,E⟩
  obtain⟨rfl,E⟩:=hcut;obtain⟨wd,rfl⟩:∃wd:World,wd=wc:=⟨_,rfl⟩
  have b6:=Sc.out.below E.out.2 (fun g H=>(Sc.out.lt g H).2);have b7:=Jp.out.below E.out.2 (fun g H=>(Jp.out.lt g H).2);have aE:Below w.heap.size w wd:=ax.out.trans (E.out.2.mono ax.out.size);have UA:=kH b6;have Sa:=kH b7;have Aj:=kH aE;have e0:=E.out.1.cell 0;have e1:=E.out.1.cell 1;have e2:=E.out.1.cell 2;have e3:=E.out.1.cell 3;have le:=E.out.1.lt;clear b6 b7 aE y0 f5 bl bj bk l5 v h4 u K kF S;by_cases F:O= -1
  ·have HN:Hid (out.length=C/\C<=i+1/\aG wd w.heap.size 49 4 (.slice A3 C c3) C (out.flatMap bQ)/\aG wd X.heap.size 24 5 (.slice (some ⟨b,M,none⟩) L c2) L (List.flatten vals)/\Below w.heap.size w wd/\gm (ts.drop (i+1)) (i+1) o' out=R):=kH ⟨OB.out.1,by have:=OB.out.2;omega,UA.out,Sa.out,Aj.out,by have:=OC.out;rw[if_pos F]at this;exact this⟩
   subst F;go_wp2_with fail
   go_roundg (gk - 1)
   case measure=>have:=ry.out;omega
   exact⟨i+1,o',A3,C,c3,out,by simp,by have:=ry.out;omega,rfl,rfl,HN⟩
  have bI:(0:Int)<=O:=by omega
  obtain⟨f, hf⟩:=ag (decide (O=1));have bG:(O==1)=f:=by rw[<- hf,Bool.eq_iff_iff];simp
  have iF:=BU A3 C c3 out f x wd (UA.out.rowAt (cells:=bQ) (l:=out) rfl rfl (fun _ _=>rfl) OB.out.1) OB.out.1 av;have B:=OC.out;rw[if_neg F]at B;unfold vD at B;rw[show decide ((⟨O,x,(i:Int),y⟩:Dc).kind=1)=f from hf,show(⟨O,x,(i:Int),y⟩:Dc).name=x from rfl]at B
  cases Q:nS out f x with
  | some j=>
   rw[Q,if_pos (show(some j).isSome=true from rfl)]at B;have V:uF out f x=(j:Int):=by unfold uF;rw[Q]
   rw[V]at iF;have bN:¬((j:Int)<0):=by omega
   have zF:=kH iF;have ad:=kH B;clear iF B Q V hf F P;go_wp2_with fail
   refine zF.out.mono ?_;rintro e6 w6 ⟨rfl,D⟩;have HN:Hid (out.length=C/\C<=i+1/\aG w6 w.heap.size 49 4 (.slice A3 C c3) C (out.flatMap bQ)/\aG w6 X.heap.size 24 5 (.slice (some ⟨b,M,none⟩) L c2) L (List.flatten vals)/\Below w.heap.size w w6/\gm (ts.drop (i+1)) (i+1) o' out=R):=kH ⟨OB.out.1,by have:=OB.out.2;omega,UA.out.below D (fun g H=>(UA.out.lt g H).2),Sa.out.below D (fun g H=>(Sa.out.lt g H).2),Aj.out.trans (D.mono Aj.out.size),ad.out⟩;clear D zF;go_wp2_with fail
   go_roundg (gk - 1)
   case measure=>have:=ry.out;omega
   exact⟨i+1,o',A3,C,c3,out,by simp,by have:=ry.out;omega,rfl,rfl,HN⟩
  | none=>
   rw[Q,if_neg (show ¬(none:Option Nat).isSome=true by simp)]at B;have V:uF out f x= -1:=by unfold uF;rw[Q]
   rw[V]at iF;have zF:=kH iF;have ad:=kH B;clear iF B Q V hf F P;go_wp2_with fail
   refine zF.out.mono ?_;rintro e6 w6 ⟨rfl,D⟩;have Uh:=E.out.1.below D E.out.1.lt;have YE:=UA.out.below D (fun g H=>(UA.out.lt g H).2);have Bv:=Sa.out.below D (fun g H=>(Sa.out.lt g H).2);have Cj:Below w.heap.size w w6:=Aj.out.trans (D.mono Aj.out.size);have g0:=Uh.cell 0;have g1:=Uh.cell 1;have g2:=Uh.cell 2;have g3:=Uh.cell 3;have lg:=Uh.lt;have Z:=kH YE;have aa:=kH Bv;have zH:=kH Cj;clear D Uh YE Bv Cj zF e0 e1 e2 e3 le;go_wp2_with (at_builtin;refine dW _ rfl (.tmp 54) (.tmp 56) _ rfl w.heap.size 49 i0 _ 4 40 Tryz.underlying27 bo bt bu bw rfl (.slice A3 C c3) C (out.flatMap bQ) rfl (Z.out.alloc _) ⟨w6.heap.size,0,none⟩ 1 1 (bQ ⟨O,x,(i:Int),y⟩) rfl rfl (y5 _ _ _ _ _ _ (by go_simp) (by go_simp) (by go_simp) (by go_simp)) (by simp[bQ,Value.oneCell']) (by simp only[maxLen];omega) (by omega) (by have:=zH.out.size;simp;omega) ?_;intro v9 w9 W J bm;obtain⟨A9,c9,bs,-,-⟩:=W.shape;subst bs;have b1:=(aa.out.alloc (.cells #[.int .i64 O,.string x,.int .i64 (i:Int),.int .i64 y] 49)).kept J (by cases hv:Value.ownBlock (.slice (some ⟨b,M,none⟩) L c2) with|none=>exact .inl rfl|some g=>exact .inr (fun e=>aa.out.apart Z.out (by decide) g hv e.symm));have nZ:Below w.heap.size w w9:=(zH.out.trans ((ai w6 _).mono zH.out.size)).trans (wY J (by have:=zH.out.size;simp;omega) (fun k hk=>(Z.out.lt k hk).1));have a1:=kH W;have ay:=kH b1;have F9:=kH nZ;clear W J bm b1 nZ)
   have HN:Hid ((out++[(⟨O,x,(i:Int),y⟩:Dc)]).length=C+1/\C+1<=i+1/\aG w9 w.heap.size 49 4 (.slice A9 (C+1) c9) (C+1) ((out++[(⟨O,x,(i:Int),y⟩:Dc)]).flatMap bQ)/\aG w9 X.heap.size 24 5 (.slice (some ⟨b,M,none⟩) L c2) L (List.flatten vals)/\Below w.heap.size w w9/\gm (ts.drop (i+1)) (i+1) o' (out++[(⟨O,x,(i:Int),y⟩:Dc)])=R):=kH ⟨by rw[acm,OB.out.1];rfl,by have:=OB.out.2;omega,by rw[List.flatMap_append];simpa using a1.out,ay.out,F9.out,ad.out⟩;clear g0 g1 g2 g3 lg Z aa zH a1 ay F9;go_roundg (gk - 1)
   case measure=>have:=ry.out;omega
   exact⟨i+1,o',A9,C+1,c9,out++[⟨O,x,(i:Int),y⟩],by simp,by have:=ry.out;omega,rfl,rfl,HN⟩
 have br:i=L:=by omega
 subst br
 have bT:Hid (∃A' c',Value.slice A3 C c3= .slice A' R.length c'/\aG wr w.heap.size 49 4 (.slice A' R.length c') R.length (R.flatMap bQ)/\Below w.heap.size w wr):=kH (by
  obtain⟨h1,h2,v,h4,u,h6⟩:=HI.out;rw[List.drop_of_length_le (by rw[rV.out];exact ab9 _),gm]at h6;subst h6;rw[h1]
  exact⟨A3,c3,rfl,v,u⟩)
 clear HI;go_wp2_with fail
 go_ret
 obtain⟨A',c',h1,h2⟩:=bT.out;exact⟨A',c',by rw[h1];rfl,h2⟩
theorem OT(n:Nat)(H:n<=1000000)(w:World):
 (Instr.makeSlice 28 (.int .i64 (n:Int)) (.int .i64 (n:Int))).run Tryz.prog w= .ok (.slice (some ⟨w.heap.size,0,none⟩) n n) (w.alloc (.cells (bL (List.replicate n (0:Int))).toArray 3)):=by
 obtain⟨F,A,B,C,D⟩:=info_parts mH;have h:=run_make (P:=Tryz.prog) w 28 3 F _ Tryz.underlying28 A B .i64 .i64 n n (by omega) (by omega) (by rw[D];omega) (by omega);rw[h];simp only[Int.toNat_natCast,C,Nat.mul_one]
 have E:madeCells (Value.int .i64 0).cells n=(bL (List.replicate n (0:Int))).toArray:=by
  apply Array.ext'
  show(madeCells #[Value.int .i64 0] n).toList=_;rw[toList_madeCells_one];simp[bL]
 rw[E]
def MB(t:ae)(mk:Int):RW:=(bJ (gm (aM t) 0 (-1) []) mk t (-1) [] ⟨[],List.replicate (aB t) (-1),[],0,[]⟩).1
def E5(t:ae)(mk:Int):RW:={ MB t mk with uses:=(MB t mk).uses.map (iP (MB t mk).ds) }
theorem rep_set(N i:Nat)(h:i<N)(a b:Int):(List.replicate i a++List.replicate (N - i) b).set i a=List.replicate (i+1) a++List.replicate (N - (i+1)) b:=by
 rw[List.set_append_right _ _ (by simp),List.length_replicate,Nat.sub_self,show N - i=(N - (i+1))+1 by omega,List.replicate_succ,sZ,List.replicate_succ'];simp
theorem Px{A:Type}(f:A->A)(l:List A)(i:Nat)(x:A)(h:l[i]? =some x):((l.take i).map f++l.drop i).set i (f x)=(l.take (i+1)).map f++l.drop (i+1):=by
 have B:=(acg.1 h).1;have D:=(acg.1 h).2;have C:((l.take i).map f).length=i:=by simp;omega
 rw[List.set_append_right _ _ (by omega),C,Nat.sub_self,List.drop_eq_getElem_cons B,sZ,List.take_add_one,h,List.map_append];simp
theorem Py{A:Type}(f:A->A)(l:List A)(i:Nat)(x:A)(h:l[i]? =some x):((l.take i).map f++l.drop i)[i]? =some x:=by
 have C:=(acg.1 h).1;have B:((l.take i).map f).length=i:=by simp;omega
 rw[ack (by omega),B,Nat.sub_self,List.getElem?_drop];exact h
theorem Pd{P:Program}{A:Array Oper}{Q:Exit->Act->World->Prop}{S:World->Prop}{ex:List Nat}{k:Nat}{B:List Bool}{o:Oper}{rest:List Oper}{a:Act}{w w':World}{v:Value}(D:Region.wanted o (yielded A a.tmps)=true)
 (E:(execOp a.eval o).run P w= .ok (.value v) w') (C:ex.contains k=false->S w') (h:qa P A Q S ex (k+1) B rest (a.put o.dst v) w'):qa P A Q S ex k (false::B) (o::rest) a w:=
 JA D (by unfold Oper.wp;rw[E];exact⟨C,h⟩)
theorem Na{P:Program}{A:Array Oper}{Q:Exit->Act->World->Prop}{S:World->Prop}{ex:List Nat}{k:Nat}{B:List Bool}{o:Oper}{rest:List Oper}{a:Act}{w w':World}(D:Region.wanted o (yielded A a.tmps)=true)
 (E:(execOp a.eval o).run P w= .ok .skip w') (C:ex.contains k=false->S w') (h:qa P A Q S ex (k+1) B rest (a.put o.dst undef) w'):qa P A Q S ex k (false::B) (o::rest) a w:=
 JA D (by unfold Oper.wp;rw[E];exact⟨C,h⟩)
structure L1 (w:World) (rp ub N lg c2:Nat) (A2:Option Addr) (mk:Int) (G:List Dc) (nc:Array Value) (i:Nat) (wr:World):Prop where
 B:ah wr rp 84 #[.slice none 0 0,.slice (some ⟨ub,0,none⟩) N N,.slice none 0 0,.slice A2 lg c2,.int .i64 0,.int .i64 mk,.slice none 0 0]
 U:aG wr w.heap.size 3 1 (.slice (some ⟨ub,0,none⟩) N N) N (bL (List.replicate i (-1)++List.replicate (N - i) 0))
 G:aG wr w.heap.size 49 4 (.slice A2 lg c2) lg (G.flatMap bQ)
 Nd:ah wr w.heap.size 24 nc
 Bl:Below w.heap.size w wr
theorem P6(t:ae)(A:Option Addr)(c:Nat)(mk:Int)(w:World)(hN:aB t<=1000000)(r:t.kids.length<=c)(hk:aD w w.heap.size A 0 t.kids):
 Calls Tryz.prog 43 #[aO t A c,.int .i64 mk] w fun e w'=> ∃(E:RE) (V:RQ),e= .returned (.pointer (some ⟨E.rp,0,none⟩))/\E.lo=w.heap.size/\dV E (gm (aM t) 0 (-1) []) mk (E5 t mk) V w'/\Below w.heap.size w w':=by
 have f:=OT (aB t) hN;obtain⟨k0,x0,a0,z0,n0,-,-,-,-,-,dH⟩:=aW t A c;obtain⟨W1, aE⟩:=ag (w.alloc (.cells #[.int .i64 k0,.string x0,.int .i64 a0,.int .i64 z0,.slice A n0 c] 24));have bd:Below w.heap.size w W1:=by rw[<- aE];exact ai _ _
 have az:ah W1 w.heap.size 24 #[.int .i64 k0,.string x0,.int .i64 a0,.int .i64 z0,.slice A n0 c]:=by rw[<- aE];exact ah.new w _ _
 have b2:∀W,Below w.heap.size w W->aD W W.heap.size A 0 t.kids:=fun W R=>aD.mono R.size _ _ _ (aD.below R (ab9 _) _ _ _ hk)
 have QR:=Qb t A c W1 hN r (b2 W1 bd);have P:=fun(W:World) (R:Below w.heap.size w W)=>LZ (aB t) t A c W (ab9 _) (by omega) (b2 W R)
 obtain⟨G, hG⟩:=ag (gm (aM t) 0 (-1) []);obtain⟨N, Ab⟩:=ag (aB t)
 have Ug:G.length<=N:=by
  rw[<- hG,<- Ab,<- eZ];have:=Ob (aM t) 0 (-1) [];simpa using this
 have ba:∀d∈G,0<=d.node/\d.node<=1000000:=fun d hd=>by
  rw[<- hG]at hd;rcases Jh _ _ _ _ d hd with h|h
  ·cases h
  rw[eZ]at h;omega
 have bl:∀y∈aM t,y.kind=3\/y.kind=4\/y.kind=5->∃d,mD G (decide (y.kind=4)) y.text=some d:=fun y hy h=>by rw[<- hG];exact abq hy h
 obtain⟨W, hW⟩:=ag (MB t mk);have Z:=hW;unfold MB at Z;rw[hG,Ab]at Z;have b3:=AZ G mk t (-1) [] ⟨[],List.replicate N (-1),[],0,[]⟩
 have b4:=Tz (M:=1000002) (fun d hd=>by have:=ba d hd;omega) mk t (-1) [] ⟨[],List.replicate N (-1),[],0,[]⟩ ⟨ab9 _,by simp⟩ (fun v hv=>by
  have:=List.eq_of_mem_replicate hv
  omega) (by show((0:Nat):Int)+(aB t:Int)<=1000002;omega)
 rw[Z]at b3 b4
 have nY:W.uses.length=N:=by
  have:=b3.1.us;rw[this];exact List.length_replicate
 have br:W.ds.length<=1000000:=by
  have this:W.ds.length<=0+aB t:=b3.1.Oe;omega
 have ad:E5 t mk= { W with uses:=W.uses.map (iP W.ds) }:=by unfold E5;rw[hW]
 rw[hG]at QR⊢;rw[ad];rw[Ab]at f P hN;obtain⟨ca, vP⟩:=ag ((bL (List.replicate N (0:Int))).toArray);rw[vP]at f;have zG:=kH vP;clear vP;rw[dH]at QR P⊢;obtain⟨lg, wR⟩:=ag G.length;rw[wR]at QR Ug;have a7:=kH QR;have Fq:=kH P;have Eg:=kH b2;have HG:Hid (G.length=lg/\lg<=N):=kH ⟨wR,Ug⟩;have Ei:=kH ba;have bM:=kH bl;have HW:=kH Z;have c0:=kH b4;have RZ:Hid (W.uses.length=N/\W.ds.length<=1000000):=kH ⟨nY,br⟩;have av:=kH bd;have b7:=kH az;have rV:=kH Ab;have Hy:=kH dH;have b6:=kH r;have HK:=kH hk;obtain⟨⟨t0,t1,t2,t3,t4⟩,-⟩:=az.five;have I:=az.lt;clear bd az b2 QR P hG Ab Ug ba bl hW Z b3 b4 nY br ad dH wR r hk;go_in
 go_wp2_with (rw[aE])
 clear t0 t1 t2 t3 t4 I aE;refine a7.out.mono ?_;rintro e2 w2 ⟨A2,c2,rfl,bb,b1⟩;obtain⟨W3, b0⟩:=ag (w2.alloc (.cells #[.slice none 0 0,.slice none 0 0,.slice none 0 0,.slice A2 lg c2,.int .i64 0,.int .i64 mk,.slice none 0 0] 84));have bh:Below w2.heap.size w2 W3:=by rw[<- b0];exact ai _ _
 have uL:ah W3 w2.heap.size 84 #[.slice none 0 0,.slice none 0 0,.slice none 0 0,.slice A2 lg c2,.int .i64 0,.int .i64 mk,.slice none 0 0]:=by rw[<- b0];exact ah.new _ _ _
 obtain⟨J, Lh⟩:=ag w2.heap.size;have vB:Below W1.heap.size W1 W3:=b1.trans (bh.mono b1.size);have MW:Below w.heap.size w W3:=av.out.trans (vB.mono av.out.size);have aq:w.heap.size<=J:=by rw[<- Lh];exact aca av.out.size b1.size
 rw[Lh]at uL;have kE:=kH (b7.out.below vB b7.out.lt);have Sc:=kH ((bb.below bh (fun g H=>(bb.lt g H).2)).mono av.out.size);have b5:=kH MW;have T:=kH uL;have a8:=kH aq;obtain⟨⟨t0,t1,t2,t3,t4⟩,-⟩:=kE.out.five;have I:=kE.out.lt;have bX:=kH Lh;have c4:=kH b0;clear bh uL vB MW bb b1 aq a7 b7 Lh b0 t0 t1 t2 t3 t4 I;obtain⟨⟨t0,t1,t2,t3,t4⟩,-⟩:=(kE.out).five;have I:=kE.out.lt;go_upto_region 2 with fail
 rw[c4.out,bX.out];go_wp2_with fail
 refine(Fq.out W3 b5.out).mono ?_;rintro e4 w4 ⟨rfl,S⟩;obtain⟨D, VG⟩:=ag w4.heap.size;obtain⟨W5, ja⟩:=ag ((w4.setCell ⟨J,1,none⟩ (.slice (some ⟨D,0,none⟩) N N)).alloc (.cells ca 3))
 have bm:L1 w J D N lg c2 A2 mk G #[.int .i64 k0,.string x0,.int .i64 a0,.int .i64 z0,.slice A n0 c] 0 W5:=by
  have hs:ak (fun g=>g=J) w4 W5:=by
   rw[<- ja];exact((ak.refl (fun g=>g=J) w4).setCell (.inl rfl) _).alloc _
  have DY:=T.out.below S T.out.lt;have bn:=Sc.out.below S (fun g H=>(Sc.out.lt g H).2);have DZ:=kE.out.below S kE.out.lt;have b9:Below w.heap.size w w4:=b5.out.trans (S.mono b5.out.size);have cf:(w4.setCell ⟨J,1,none⟩ (.slice (some ⟨D,0,none⟩) N N)).heap.size=D:=by rw[<- VG];simp[World.setCell]
  have hU:aG W5 w.heap.size 3 1 (.slice (some ⟨D,0,none⟩) N N) N (bL (List.replicate N (0:Int))):=by
   have bp:=ah.new (w4.setCell ⟨J,1,none⟩ (.slice (some ⟨D,0,none⟩) N N)) 3 ca;rw[cf,ja]at bp;have:=aG.block (base:=w.heap.size) (size:=1) (n:=N) (by rw[<- VG];exact b9.size) bp (by simp only[maxLen];omega) (by rw[<- zG.out];simp[bL]);rw[<- zG.out]at this;simpa using this
  refine⟨?_,?_,bn.since hs (fun g H e=>bn.bB DY (by decide) (by rw[H,e])),DZ.since hs (fun e=>?_),hs.toBelow ?_ (fun g H=>?_) |> b9.trans⟩
  ·rw[<- ja]
   have:=(DY.dB 1 (.slice (some ⟨D,0,none⟩) N N)).alloc (.cells ca 3);simpa using this
  ·simpa using hU
  ·have:=kE.out.lt
   have h2:=T.out;rw[<- e]at h2;have h3:=kE.out;unfold ah at h2 h3;rw[h2]at h3;simp at h3
  ·exact b9.size
  rw[H];exact a8.out
 have lX:=kH bm;have DY:=T.out.below S T.out.lt;have c5:=DY.cell 1;have c6:=DY.frozen 1;have l4:=DY.lt;have Ov:=kH ja;have b8:=kH VG;clear bm DY S Fq t0 t1 t2 t3 t4 I ja VG;go_upto_region 3 with fail
 rw[b8.out,Ov.out];clear c5 c6 l4;go_wp2_with fail
 go_loopg [6] N (fun gk s6 wr=> ∃i:Nat,s6= .int .i64 (i:Int)/\i+gk=N/\Hid (L1 w J D N lg c2 A2 mk G #[.int .i64 k0,.string x0,.int .i64 a0,.int .i64 z0,.slice A n0 c] i wr))
 case atStart=>exact⟨0,rfl,by omega,lX⟩
 obtain⟨i,rfl,bs,C⟩:=hrel;have cn:i<=N:=by omega
 have ry:=kH bs;have c1:=C.out.B.cell 1;have l1:=C.out.B.lt;clear bs;by_cases F:i<N
 ·obtain⟨g,bI,bk,hv,-,-,-,cm,O⟩:=C.out.U.form (by omega)
  cases hv
  have an:(List.replicate i (-1:Int)++List.replicate (N - i) 0).length=N:=by simp;omega
  obtain⟨u,hu⟩:∃z,(List.replicate i (-1:Int)++List.replicate (N - i) 0)[i]? =some z:=⟨_,ace (by rw[an];exact F)⟩
  have iR:wr.cell? ⟨D,i,none⟩=some (.int .i64 u):=by
   have:=O i (.int .i64 u) (by show(List.map _ _)[i]? =_;rw[List.getElem?_map,hu];rfl);simpa using this
  obtain⟨cur,ab⟩:=C.out.U.typed (g:=D) rfl;have ck:wr.frozen? ⟨D,i,none⟩=false:=by simp[World.frozen?,ab]
  have au:ak (fun x=>x=D) wr (wr.setCell ⟨D,i,none⟩ (.int .i64 (-1))):=(ak.refl (fun x=>x=D) wr).setCell (.inl rfl) _
  have bx:∀{g:Nat}{t:TypeId}{cs:Array Value},ah wr g t cs->t≠3->g≠D:=fun R ht e=>by
   subst e;exact C.out.U.bB R (fun e=>ht e.symm) rfl
  have c7:Hid (L1 w J D N lg c2 A2 mk G #[.int .i64 k0,.string x0,.int .i64 a0,.int .i64 z0,.slice A n0 c] (i+1) (wr.setCell ⟨D,i,none⟩ (.int .i64 (-1)))):=kH (by
   have hU:=C.out.U.set1 i F (.int .i64 (-1));rw[Nat.zero_add]at hU;refine⟨C.out.B.since au (bx C.out.B (by decide)),?_,C.out.G.since au (fun g H e=>C.out.G.apart C.out.U (by decide) g H (by rw[e];rfl)),C.out.Nd.since au (bx C.out.Nd (by decide)),C.out.Bl.trans (au.toBelow C.out.Bl.size (fun g H=>by rw[H];exact(C.out.U.lt D rfl).1))⟩;rw[<- rep_set N i F (-1) 0];show aG _ _ _ _ _ _ (List.map _ _);rw[List.map_set]
   exact hU)
  have We:(i:Int)<(N:Int):=by omega
  have cb:¬((i:Int)<0):=by omega
  have cg:IntKind.i64.wrap ((i:Int)+1)=(i:Int)+1:=IntWalk.i64_in _ (by omega);clear an hu O ab au C;go_wp2_with fail
  go_roundg (gk - 1)
  case measure=>have:=ry.out;omega
  exact⟨i+1,by simp,by have:=ry.out;omega,c7⟩
 have cc:i=N:=by omega
 subst cc;obtain⟨⟨t0,t1,t2,t3,t4⟩,-⟩:=C.out.Nd.five;have I:=C.out.Nd.lt;obtain⟨W8, tF⟩:=ag (wr.alloc (.cells #[] 3));have lI:Below wr.heap.size wr W8:=by rw[<- tF];exact ai _ _
 obtain⟨E,hE⟩:∃E:RE,E=⟨w.heap.size,W8.heap.size,J,some ⟨D,0,none⟩,i,A2,c2⟩:=⟨_,rfl⟩
 have Wu:Below w.heap.size w W8:=C.out.Bl.trans (lI.mono C.out.Bl.size)
 have wX:dV E G mk ⟨[],List.replicate i (-1),[],0,[]⟩ ⟨none,0,none,0,none,0⟩ W8:=by
  rw[hE];refine⟨?_,aG.nil _ _ _ _,?_,aG.nil _ _ _ _,?_,fun g H=>?_,gG.nil _ _ _,⟨Wu.size,a8.out⟩,ab9 _⟩
  ·have:=C.out.B.below lI C.out.B.lt
   show ah W8 J _ #[.slice none 0 0,.slice (some ⟨D,0,none⟩) (List.replicate i (-1:Int)).length i,.slice none 0 0,.slice A2 G.length c2,.int .i64 0,.int .i64 mk,.slice none 0 0];rw[List.length_replicate,HG.out.1];exact this
  ·have:=C.out.U.below lI (fun g H=>(C.out.U.lt g H).2)
   rw[Nat.sub_self,List.replicate_zero,List.append_nil]at this;show aG W8 w.heap.size _ 1 (.slice (some ⟨D,0,none⟩) (List.replicate i (-1:Int)).length i) (List.replicate i (-1:Int)).length _;rw[List.length_replicate];exact this
  ·have:=C.out.G.below lI (fun g H=>(C.out.G.lt g H).2)
   show aG W8 w.heap.size _ 4 (.slice A2 G.length c2) G.length _;rw[HG.out.1];exact this
  have h1:=H;rw[show G.length=lg from HG.out.1]at h1;exact Nat.lt_of_lt_of_le (C.out.G.lt g h1).2 lI.size
 have bG:gG W8 (E.uA.map (·.block)) (some ⟨wr.heap.size,0,none⟩) []:=gG.nil _ _ _;have a1:WV G ⟨[],List.replicate i (-1),[],0,[]⟩ [] t:=⟨ab9 _,ab9 _,by show 0+aB t<=(List.replicate i (-1:Int)).length;rw[List.length_replicate,rV.out];omega,by show(List.replicate i (-1:Int)).length<=_;rw[List.length_replicate];exact hN,by have:=HG.out;omega,Ei.out,⟨ab9 _,by simp⟩,bM.out⟩
 have L:=Nc E G mk w.heap.size (by rw[hE];exact ab9 _) (aB t) t (ab9 _) (-1) [] ⟨[],List.replicate i (-1),[],0,[]⟩ _ W8 (some ⟨wr.heap.size,0,none⟩) 0 0 A c wX bG rfl (ab9 _) (aD.below Wu (ab9 _) _ _ _ HK.out) b6.out a1 (by rw[hE];exact ab9 _);rw[Hy.out,HW.out]at L;have qC:=kH L;have Km:=kH Wu;have bZ:=kH wX;have Js:Hid (E.rp=J/\E.lo=w.heap.size/\E.uA=some ⟨D,0,none⟩/\E.uc=i):=kH (by rw[hE];exact⟨rfl,rfl,rfl,rfl⟩);rw[Js.out.1]at qC;obtain⟨⟨v0,v1,v2,v3,v4⟩,-⟩:=(C.out.Nd.below lI C.out.Nd.lt).five;have lv:=Nat.lt_of_lt_of_le I lI.size;clear L Wu wX bG a1 lI hE C;go_wp2_with (rw[tF])
 clear t0 t1 t2 t3 t4 I v0 v1 v2 v3 v4 lv tF c1 l1;refine qC.out.mono ?_;rintro e9 w9 ⟨A9,n9,c9,rfl,-,-,-,Y,h9,k9⟩;obtain⟨nd, bw⟩:=ag W.ds.length;have qQ:=kH bw;have H9:=kH h9;have K9:=kH k9;have bj:nd<=1000000:=by have:=RZ.out.2;omega
 clear h9 k9 bw qC;go_wp2_with fail
 go_loopg [7] i (fun gk s7 wr=> ∃j:Nat,s7= .int .i64 (j:Int)/\j+gk=i/\Hid (dV E G mk { W with uses:=(W.uses.take j).map (iP W.ds)++W.uses.drop j } Y wr/\KW E w9 wr))
 case atStart=>exact⟨0,rfl,by omega,kH ⟨H9.out,KW.refl _ _⟩⟩
 obtain⟨j,rfl,bt,HJ⟩:=hrel;have cq:j<=i:=by omega
 have ax:=kH bt;have EI:((W.uses.take j).map (iP W.ds)++W.uses.drop j).length=i:=by have:=RZ.out.1;simp;omega
 have K:=HJ.out.1.blk;rw[Js.out.1,Js.out.2.2.1,Js.out.2.2.2,show({ W with uses:=(W.uses.take j).map (iP W.ds)++W.uses.drop j }:RW).uses.length=i from EI,show({ W with uses:=(W.uses.take j).map (iP W.ds)++W.uses.drop j }:RW).ds.length=nd from qQ.out]at K;have r0:=K.cell 0;have r1:=K.cell 1;have lr:=K.lt;clear bt;by_cases F:j<i
 ·obtain⟨u,hu⟩:∃z,W.uses[j]? =some z:=⟨_,ace (by rw[RZ.out.1];exact F)⟩
  have b4:=c0.out u (acn hu);have al:=Py (iP W.ds) W.uses j u hu;have ar:=Px (iP W.ds) W.uses j u hu;have jr:=HJ.out.1.us;rw[Js.out.2.2.1]at jr;obtain⟨g,bI,bk,hv,-,-,-,-,O⟩:=jr.form (by rw[show({ W with uses:=(W.uses.take j).map (iP W.ds)++W.uses.drop j }:RW).uses.length=i from EI];omega);cases hv
  have iR:wr.cell? ⟨D,j,none⟩=some (.int .i64 u):=by
   have:=O j (.int .i64 u) (by show(List.map _ _)[j]? =_;rw[List.getElem?_map,al];rfl);simpa using this
  have vF:=kH ar;have cr:(j:Int)<(i:Int):=by omega
  have cp:¬((j:Int)<0):=by omega
  have cg:IntKind.i64.wrap ((j:Int)+1)=(j:Int)+1:=IntWalk.i64_in _ (by omega);have aw:=kH K;clear O jr al ar hu K;by_cases b:u< -1
  ·have cw:IntKind.i64.wrap (-2 - u)= -2 - u:=IntWalk.i64_in _ (by omega)
   have Lu:iP W.ds u=J8 W.ds (-2 - u):=by
    unfold iP J8;rw[if_pos b];rfl
   have m:Below wr.heap.size wr wr.drew:=(Below.refl _ _).drew;have Q:=fun(X:World) (R:Below wr.heap.size wr X)=>OU Y.dA nd Y.dc W.ds (-2 - u) X (((HJ.out.1.ds.rowAt (cells:=bQ) (l:=W.ds) rfl rfl (fun _ _=>rfl) rfl).below R (ab9 _)).mono R.size) qQ.out bj
   rw[<- Lu]at Q;obtain⟨y, hy⟩:=ag (iP W.ds u);rw[hy]at Q;have Ic:=kH Q;have HY:=kH hy;have bP:Hid (∀X,Below wr.heap.size wr X->X.cell? ⟨J,0,none⟩=some (.slice Y.dA nd Y.dc)/\X.cell? ⟨J,1,none⟩=some (.slice (some ⟨D,0,none⟩) i i)/\X.cell? ⟨D,j,none⟩=some (.int .i64 u)):=kH fun X R=>⟨(aw.out.below R aw.out.lt).cell 0,(aw.out.below R aw.out.lt).cell 1,(R.cell (p:=⟨D,j,none⟩) (World.block_lt_of_cell? wr _ iR)).trans iR⟩
   have bc:=bP.out _ m;clear Q hy Lu;go_wp2_with fail
   refine bF (fun X=>X.cell? ⟨J,0,none⟩=some (.slice Y.dA nd Y.dc)/\X.cell? ⟨J,1,none⟩=some (.slice (some ⟨D,0,none⟩) i i)/\X.cell? ⟨D,j,none⟩=some (.int .i64 u)) [16] [true,true,true,true,true,true,true,true,true,true,true,true,true,true,false,false,false] (by kernel_rfl) (by kernel_rfl) rfl (by kernel_rfl) ?_;iterate 14((first|(refine dU (by rfl) bc ?_)|(refine bC (by rfl) bc (by intro w' c8;obtain⟨ct,cu,cv⟩:=c8;go_simp;rfl) ?_));simp only[Act.put,sA,sZ,sC])
   refine dG (by rfl) (by go_simp) ((Ic.out _ m).mono ?_);rintro e5 w5 ⟨rfl,bo⟩;have tC:Below wr.heap.size wr w5:=m.trans (bo.mono m.size);have ay:=bP.out _ tC;have h5:=HJ.out.1.below tC;obtain⟨bu,ou,hA,cj,aa,af,a6⟩:=h5.yH j (by rw[show({ W with uses:=(W.uses.take j).map (iP W.ds)++W.uses.drop j }:RW).uses.length=i from EI];exact F);rw[Js.out.2.2.1]at hA;cases hA
   rw[Nat.zero_add]at aa af a6;refine⟨_,rfl,fun _=>ay,?_⟩;simp only[Act.put,sA,sZ,sC];have cd:=ay.2.1;refine Pd (w':=w5) (by rfl) (by go_simp;rfl) (fun _=>ay) ?_;simp only[Act.put,sA,sZ,sC];refine Na (w':=w5.setCell ⟨D,j,none⟩ (.int .i64 y)) (by rfl) (by go_simp) (by simp) ?_;refine fT ?_;simp only[Act.put]
   have bN:Hid (dV E G mk { W with uses:=(W.uses.take (j+1)).map (iP W.ds)++W.uses.drop (j+1) } Y (w5.setCell ⟨D,j,none⟩ (.int .i64 y))/\KW E w9 (w5.setCell ⟨D,j,none⟩ (.int .i64 y))):=kH (by
    obtain⟨g1,g2⟩:=a6 y;refine⟨?_,(HJ.out.2.trans (KW.of_below tC)).trans g2⟩;rw[<- vF.out,HY.out]
    exact g1)
   clear a6 h5 bo tC ay bc m aa af cd Ic;go_wp2_with fail
   go_roundg (gk - 1)
   case measure=>have:=ax.out;omega
   exact⟨j+1,by simp,by have:=ax.out;omega,bN⟩
  have cl:¬u< -1:=b
  have Lu:iP W.ds u=u:=by
   unfold iP;rw[if_neg b]
  have bN:Hid (dV E G mk { W with uses:=(W.uses.take (j+1)).map (iP W.ds)++W.uses.drop (j+1) } Y wr/\KW E w9 wr):=kH (by
   refine⟨?_,HJ.out.2⟩;have h1:=vF.out;rw[Lu]at h1;rw[<- h1]
   have h2:((W.uses.take j).map (iP W.ds)++W.uses.drop j).set j u=(W.uses.take j).map (iP W.ds)++W.uses.drop j:=by
    refine List.ext_getElem? fun q=>?_
    rw[List.getElem?_set];split
    ·rename_i hq
     subst hq;rw[if_pos (by rw[EI];exact F)];have jr:=HJ.out.1.us;rw[Js.out.2.2.1]at jr;obtain⟨g,bI,bk,hv,-,-,-,-,O⟩:=jr.form (by rw[show({ W with uses:=(W.uses.take j).map (iP W.ds)++W.uses.drop j }:RW).uses.length=i from EI];omega);cases hv
     have h5:=ace (l:=(W.uses.take j).map (iP W.ds)++W.uses.drop j) (i:=j) (by rw[EI];exact F);have h3:=O j (.int .i64 (((W.uses.take j).map (iP W.ds)++W.uses.drop j)[j]'(by rw[EI];exact F))) (by show(List.map _ _)[j]? =_;rw[List.getElem?_map,h5];rfl);rw[Nat.zero_add,iR]at h3;simp only[acf,Value.int.injEq,true_and]at h3;rw[h5,<- h3]
    rfl
   rw[h2]
   exact HJ.out.1)
  clear Lu;go_wp2_with fail
  go_roundg (gk - 1)
  case measure=>have:=ax.out;omega
  exact⟨j+1,by simp,by have:=ax.out;omega,bN⟩
 have sW:j=i:=by omega
 subst sW
 have bT:Hid (dV E G mk { W with uses:=W.uses.map (iP W.ds) } Y wr/\Below w.heap.size w wr):=kH (by
  obtain⟨g1,g2⟩:=HJ.out;rw[List.take_of_length_le (by rw[RZ.out.1];exact ab9 _),List.drop_of_length_le (by rw[RZ.out.1];exact ab9 _),List.append_nil]at g1;have ao:=(K9.out.trans g2).low bZ.out;rw[Js.out.2.1]at ao
  exact⟨g1,Km.out.trans ao⟩)
 clear K HJ;go_wp2_with fail
 go_ret
 exact⟨E,by rw[Js.out.1];rfl,Js.out.2.1,⟨Y,bT.out.1⟩,bT.out.2⟩
def uf:List Int:=[3,4,5,7,8,12,16,19,20,22,27]
def lQ(k:Int)(x:ByteArray):Bool:=
 if uf.any (fun y=>decide (k=y)) then bO x
 else if k=9 then decide (x=⟨#[105,110,116]⟩) || decide (x=⟨#[98,111,111,108]⟩) || bO x
 else if k=10\/k=24 then iL x
 else if k=25 then decide (x=⟨#[116,114,117,101]⟩) || decide (x=⟨#[102,97,108,115,101]⟩)
 else if k=28 then decide (x=⟨#[45]⟩) || decide (x=⟨#[110,111,116]⟩)
 else if k=29 then fH sj x
 else decide (x=⟨#[]⟩)
def jV(kind:Int)(i:Nat)(k:Int)(x:ByteArray):Bool:=
 if kind=2 then decide (k=3) || decide (k=5)
 else if kind=3 then decide (k=4)
 else if kind=4 then decide (k=9)&&ek x
 else if kind=5 then decide (i=0)&&decide (k=6) || decide (i=1)&&(bU k || decide (k=0)) || decide (i=2)&&decide (k=11)
 else if kind=6 then decide (k=7) || decide (k=8)
 else if kind=7\/kind=8 then bU k || decide (k=0)
 else if kind=11 then kg k
 else if kind=12 then decide (i=0)&&(bU k || decide (k=0)) || decide (i=1)&&aN k
 else if kind=13 then decide (i=0)&&iC k || decide (i=1)&&aN k
 else if kind=14 then decide (i=0)&&aN k || decide (i=1)&&decide (k=11) || decide (i=2)&&(decide (k=11) || decide (k=14) || decide (k=0))
 else if kind=15 then decide (i=0)&&aN k || decide (i=1)&&decide (k=11)
 else if kind=16 then decide (i<2)&&aN k || decide (i=2)&&decide (k=11)
 else if kind=17 then aN k || decide (k=0)
 else if kind=21 then decide (i=0)&&decide (k=20) || decide (i=1)&&aN k
 else if kind=22\/kind=23 then decide (k=20)
 else aN k
def ug(k:Int):Nat×Nat:=
 if k=2\/k=6\/k=11\/k=19\/k=27 then(0,4096)
 else if k=3\/k=26 then(1,4096)
 else if k=5\/k=14\/k=16 then(3,3)
 else if k=12\/k=13\/k=15\/k=21\/k=29 then(2,2)
 else if k=4\/k=7\/k=8\/k=17\/k=18\/k=22\/k=23\/k=28 then(1,1)
 else(0,0)
def qB(k:Int)(x:ByteArray)(n:Nat):Bool:=decide (0<=k)&& !decide (k=1)&&decide (k<=29)&&lQ k x&&decide ((ug k).1<=n)&&decide (n<=(ug k).2)
mutual
def sO:ae->Bool
 | .node k x _ _ kids=>qB k x kids.length&&nz k 0 kids
def nz(k:Int):Nat->List ae->Bool
 | _,[]=>true
 | i,t::ts=>jV k i t.kind t.text&&sO t&&nz k (i+1) ts
end
def jy(k:Int):Nat->List ae->Bool
 | _,[]=>true
 | i,t::ts=>jV k i t.kind t.text&&jy k (i+1) ts
theorem Fy(k:Int):∀(ts:List ae) (i:Nat),nz k i ts=(jy k i ts&&ts.all sO)
 | [],_=>rfl
 | t::ts,i=>by
  rw[nz,jy,Fy k ts (i+1),List.all_cons];cases jV k i t.kind t.text<;>cases sO t<;>cases jy k (i+1) ts<;>rfl
theorem IZ(p:ae->Bool):∀ts:List ae,(bg ts).all p=ts.all fun t=>(aM t).all p
 | []=>rfl
 | t::ts=>by rw[bg,List.all_append,IZ p ts,List.all_cons]
theorem PM(k:Int)(x:ByteArray)(a e:Int)(ts:List ae):eX (.node k x a e ts)=(dJ (.node k x a e ts)&&ts.all eX):=by
 unfold eX;rw[aM,List.all_cons,IZ]
theorem GI{sh:uM}{p:Int->Bool}(h:sh.list=some p):∀(ts:List ae) (i:Nat),dh sh i ts=ts.all fun t=>p t.kind
 | [],_=>rfl
 | t::ts,i=>by
  rw[dh,GI h ts (i+1),List.all_cons];unfold jO;rw[h]
theorem NG{k:Int}{p:Int->ByteArray->Bool}(h:∀i j x,jV k i j x=p j x):∀(ts:List ae) (i:Nat),jy k i ts=ts.all fun t=>p t.kind t.text
 | [],_=>rfl
 | t::ts,i=>by rw[jy,NG h ts (i+1),List.all_cons,h]
theorem WJ(x:ByteArray):decide (x.size=0)=decide (x=⟨#[]⟩):=by
 have:(x.size=0)↔(x=⟨#[]⟩):=by
  constructor
  ·intro h
   cases x with
   | mk d=>
    have:d.size=0:=h;rw[Array.eq_empty_of_size_eq_zero this]
  rintro rfl;rfl
 exact decide_eq_decide.2 this
theorem UX(b x:ByteArray):(b.toList==x.toList)=decide (x=b):=by
 have:(b.toList=x.toList)↔x=b:=by
  rw[ByteArray.toList_eq,ByteArray.toList_eq];constructor
  ·intro h
   cases b with
   | mk lb=>
    cases x with
    | mk lx=>
     have A:lb.toList=lx.toList:=h;rw[Array.toList_inj.1 A]
  rintro rfl;rfl
 rw[Bool.eq_iff_iff,beq_iff_eq,this,decide_eq_true_iff]
theorem JY(a b x:ByteArray):fH [a,b] x=(decide (x=a) || decide (x=b)):=by
 unfold fH;simp only[List.any_cons,List.any_nil,Bool.or_false,UX]
theorem CF{t:ae}(h:jB t.kind=none):dJ t=false:=by
 unfold dJ;rw[h]
theorem QV{k:Int}(x:ByteArray)(n:Nat)(A:0<=k)(B:k≠1)(C:k<=29):qB k x n=(lQ k x&&(decide ((ug k).1<=n)&&decide (n<=(ug k).2))):=by
 unfold qB;rw[decide_eq_true A,decide_eq_false B,decide_eq_true C];cases lQ k x<;>simp
theorem dec_two(n p:Nat):(decide (p<=n)&&decide (n<=p))=decide (n=p):=by
 rw[Bool.eq_iff_iff];simp only[acb,decide_eq_true_eq];omega
theorem kG{k:Int}{x:ByteArray}(h:lQ k x=decide (x=⟨#[]⟩)):lQ k x=dM x:=h.trans (WJ x).symm
theorem XZ:∀t:ae,t.kids.length<=4096->(qB t.kind t.text t.kids.length&&jy t.kind 0 t.kids)=dJ t:=by
 rintro⟨k,x,a,e,ts⟩ Q;show(qB k x ts.length&&jy k 0 ts)=_;have P:ts.length<=4096:=Q;by_cases H:0<=k
 case neg=>
  have:dJ (.node k x a e ts)=false:=CF (by
   show jB k=none
   cases k with
   | ofNat m=>exact absurd (Int.natCast_nonneg m) H
   | negSucc m=>rfl)
  rw[this];unfold qB;rw[decide_eq_false H];rfl
 obtain⟨m,rfl⟩:∃m:Nat,k=(m:Int):=⟨k.toNat,by omega⟩
 by_cases R:m<=29
 case neg=>
  have:dJ (.node (m:Int) x a e ts)=false:=CF (by
   show lT m=none;unfold lT
   split<;>first|omega|rfl)
  rw[this];unfold qB;rw[decide_eq_false (p:=((m:Int)<=29)) (by omega)];cases decide (0<=(m:Int))<;>cases decide ((m:Int)=1)<;>rfl
 have D:m=0\/m=1\/m=2\/m=3\/m=4\/m=5\/m=6\/m=7\/m=8\/m=9\/m=10\/m=11\/m=12\/m=13\/m=14\/m=15\/m=16\/m=17\/m=18\/m=19\/m=20\/m=21\/m=22\/m=23\/m=24\/m=25\/m=26\/m=27\/m=28\/m=29:=by omega
 have B:∀(C:ByteArray->Bool) (p:Int->Bool) (F:Nat),m≠1->lT m=some ⟨C,[],some p,(F:Int)⟩->m≠4->(∀i j y,jV (m:Int) i j y=p j)->lQ (m:Int) x=C x->ug (m:Int)=(F,4096)->(qB (m:Int) x ts.length&&jy (m:Int) 0 ts)=dJ (.node (m:Int) x a e ts):=by
  intro C p F O J S K L M
  have I:dJ (.node (m:Int) x a e ts)=nD ⟨C,[],some p,(F:Int)⟩ (.node (m:Int) x a e ts):=by
   unfold dJ;show(match lT m with|none=>false|some sh=>nD sh _&&(if (m:Int)=4 then Cy _ else true))=_;rw[J];show(nD _ _&&(if (m:Int)=4 then Cy _ else true))=_;rw[if_neg (by omega),Bool.and_true]
  rw[I,QV x ts.length H (by omega) (by omega),L,M,decide_eq_true (show ts.length<=(F,4096).2 from P),Bool.and_true,NG (p:=fun j _=>p j) K];unfold nD oP;rw[GI (p:=p) rfl];show _=(C x&&decide ((F:Int)<=(ts.length:Int))&&_);rw[show decide ((F:Int)<=(ts.length:Int))=decide (F<=ts.length) from decide_eq_decide.2 (by omega)];rfl
 have A:∀(C:ByteArray->Bool) (E:List (Int->Bool)),m≠1->lT m=some ⟨C,E,none,0⟩->lQ (m:Int) x=C x->ug (m:Int)=(E.length,E.length)->(ts.length=E.length->(jy (m:Int) 0 ts)=(dh ⟨C,E,none,0⟩ 0 ts&&(if (m:Int)=4 then Cy (.node (m:Int) x a e ts) else true)))->(qB (m:Int) x ts.length&&jy (m:Int) 0 ts)=dJ (.node (m:Int) x a e ts):=by
  intro C E O J K M L
  have I:dJ (.node (m:Int) x a e ts)=(nD ⟨C,E,none,0⟩ (.node (m:Int) x a e ts)&&(if (m:Int)=4 then Cy (.node (m:Int) x a e ts) else true)):=by
   unfold dJ;show(match lT m with|none=>false|some sh=>nD sh _&&(if (m:Int)=4 then Cy _ else true))=_;rw[J]
  rw[I,QV x ts.length H (by omega) (by omega),K,M,dec_two];show _=(C x&&decide (ts.length=E.length)&&dh _ 0 ts&&_);by_cases N:ts.length=E.length
  ·rw[L N,decide_eq_true N,Bool.and_true,Bool.and_assoc]
  rw[decide_eq_false N,Bool.and_false,Bool.false_and,Bool.false_and,Bool.false_and]
 clear Q R;rcases D with rfl|rfl|rfl|rfl|rfl|rfl|rfl|rfl|rfl|rfl|rfl|rfl|rfl|rfl|rfl|rfl|rfl|rfl|rfl|rfl|rfl|rfl|rfl|rfl|rfl|rfl|rfl|rfl|rfl|rfl
 ·exact A dM [] (by decide) rfl (kG rfl) rfl (fun h=>by cases ts with|nil=>rfl|cons _ _=>cases h)
 ·have:dJ (.node ((1:Nat):Int) x a e ts)=false:=CF rfl
  rw[this];rfl
 ·exact B dM (bA [3,5]) 0 (by decide) rfl (by decide) (fun i j y=>by simp[jV,bA]) (kG rfl) rfl
 ·exact B bO (bA [4]) 1 (by decide) rfl (by decide) (fun i j y=>by simp[jV,bA]) rfl rfl
 ·refine A bO [bA [9]] (by decide) rfl rfl rfl (fun h=>?_)
  match ts,h with
  | [t1],_=>simp[jy,jV,dh,jO,bA,Cy,ae.kids]
 ·refine A bO [bA [6],eU bU,bA [11]] (by decide) rfl rfl rfl (fun h=>?_)
  match ts,h with
  | [t1,t2,t3],_=>simp[jy,jV,dh,jO,bA,eU,Bool.or_comm]
 ·exact B dM (bA [7,8]) 0 (by decide) rfl (by decide) (fun i j y=>by simp[jV,bA]) (kG rfl) rfl
 ·refine A bO [eU bU] (by decide) rfl rfl rfl (fun h=>?_)
  match ts,h with
  | [t1],_=>simp[jy,jV,dh,jO,eU,Bool.or_comm]
 ·refine A bO [eU bU] (by decide) rfl rfl rfl (fun h=>?_)
  match ts,h with
  | [t1],_=>simp[jy,jV,dh,jO,eU,Bool.or_comm]
 ·exact A Mq [] (by decide) rfl (by show _=Mq x;simp[lQ,uf,Mq,jw,Dv,JY]) rfl (fun h=>by cases ts with|nil=>rfl|cons _ _=>cases h)
 ·exact A iL [] (by decide) rfl rfl rfl (fun h=>by cases ts with|nil=>rfl|cons _ _=>cases h)
 ·exact B dM kg 0 (by decide) rfl (by decide) (fun i j y=>by simp[jV]) (kG rfl) rfl
 ·refine A bO [eU bU,aN] (by decide) rfl rfl rfl (fun h=>?_)
  match ts,h with
  | [t1,t2],_=>simp[jy,jV,dh,jO,eU,Bool.or_comm]
 ·refine A dM [iC,aN] (by decide) rfl (kG rfl) rfl (fun h=>?_)
  match ts,h with
  | [t1,t2],_=>simp[jy,jV,dh,jO,Bool.or_comm]
 ·refine A dM [aN,bA [11],eU (bA [11,14])] (by decide) rfl (kG rfl) rfl (fun h=>?_)
  match ts,h with
  | [t1,t2,t3],_=>(simp[jy,jV,dh,jO,bA,eU];cases decide (t3.kind=0)<;>cases decide (t3.kind=11)<;>cases decide (t3.kind=14)<;>simp)
 ·refine A dM [aN,bA [11]] (by decide) rfl (kG rfl) rfl (fun h=>?_)
  match ts,h with
  | [t1,t2],_=>simp[jy,jV,dh,jO,bA,Bool.or_comm]
 ·refine A bO [aN,aN,bA [11]] (by decide) rfl rfl rfl (fun h=>?_)
  match ts,h with
  | [t1,t2,t3],_=>simp[jy,jV,dh,jO,bA,Bool.or_comm]
 ·refine A dM [eU aN] (by decide) rfl (kG rfl) rfl (fun h=>?_)
  match ts,h with
  | [t1],_=>simp[jy,jV,dh,jO,eU,Bool.or_comm]
 ·refine A dM [aN] (by decide) rfl (kG rfl) rfl (fun h=>?_)
  match ts,h with
  | [t1],_=>simp[jy,jV,dh,jO]
 ·exact B bO aN 0 (by decide) rfl (by decide) (fun i j y=>by simp[jV]) rfl rfl
 ·exact A bO [] (by decide) rfl rfl rfl (fun h=>by cases ts with|nil=>rfl|cons _ _=>cases h)
 ·refine A dM [bA [20],aN] (by decide) rfl (kG rfl) rfl (fun h=>?_)
  match ts,h with
  | [t1,t2],_=>simp[jy,jV,dh,jO,bA,Bool.or_comm]
 ·refine A bO [bA [20]] (by decide) rfl rfl rfl (fun h=>?_)
  match ts,h with
  | [t1],_=>simp[jy,jV,dh,jO,bA,Bool.or_comm]
 ·refine A dM [bA [20]] (by decide) rfl (kG rfl) rfl (fun h=>?_)
  match ts,h with
  | [t1],_=>simp[jy,jV,dh,jO,bA,Bool.or_comm]
 ·exact A iL [] (by decide) rfl rfl rfl (fun h=>by cases ts with|nil=>rfl|cons _ _=>cases h)
 ·exact A (jw Fa) [] (by decide) rfl (by show _=jw Fa x;simp[lQ,uf,jw,Fa,JY]) rfl (fun h=>by cases ts with|nil=>rfl|cons _ _=>cases h)
 ·exact B dM aN 1 (by decide) rfl (by decide) (fun i j y=>by simp[jV]) (kG rfl) rfl
 ·exact B bO aN 0 (by decide) rfl (by decide) (fun i j y=>by simp[jV]) rfl rfl
 ·refine A (jw Ng) [aN] (by decide) rfl (by show _=jw Ng x;simp[lQ,uf,jw,Ng,JY]) rfl (fun h=>?_)
  match ts,h with
  | [t1],_=>simp[jy,jV,dh,jO]
 refine A (jw sj) [aN,aN] (by decide) rfl (by show _=jw sj x;simp[lQ,uf,jw]) rfl (fun h=>?_)
 match ts,h with
 | [t1,t2],_=>simp[jy,jV,dh,jO]
mutual
theorem IM:∀t:ae,aB t<=4096->sO t=eX t
 | .node k x a e ts,h=>by
  have A:aB (.node k x a e ts)=1+aC ts:=rfl
  rw[sO,Fy,PM,<- XZ (.node k x a e ts) (by
   show ts.length<=4096;have:=dO ts
   omega),Gp ts (by omega)]
  show _=(qB k x ts.length&&jy k 0 ts&&_);rw[Bool.and_assoc]
theorem Gp:∀ts:List ae,aC ts<=4096->ts.all sO=ts.all eX
 | [],_=>rfl
 | t::ts,h=>by
  rw[aC]at h;rw[List.all_cons,List.all_cons,IM t (by omega),Gp ts (by omega)]
end
theorem Zp(k:Int)(w:World):Calls Tryz.prog 206 #[.int .i64 k] w fun e w'=>e= .returned (.bool (bU k))/\w=w':=by
 by_cases h:k=9
 ·subst h
  go_in
  go_wp2_with fail
  go_ret
  exact⟨rfl,rfl⟩
 have B:(k==9)=false:=by simpa using h
 have A:Hid (bU k=(k==10)):=kH (by unfold bU;rw[decide_eq_false h,Bool.false_or,Bool.eq_iff_iff];simp);clear h;go_in
 go_wp2_with fail
 go_ret
 rw[A.out];exact⟨rfl,rfl⟩
theorem Zr(k:Int)(w:World):Calls Tryz.prog 207 #[.int .i64 k] w fun e w'=>e= .returned (.bool (aN k))/\w=w':=by
 by_cases h:20<=k
 ·have A:Hid (aN k=decide (k<=29)):=kH (by unfold aN;rw[decide_eq_true h,Bool.true_and])
  go_in
  go_wp2_with fail
  go_ret
  rw[A.out];exact⟨rfl,rfl⟩
 have A:Hid (aN k=false):=kH (by unfold aN;rw[decide_eq_false h];rfl);go_in
 go_wp2_with fail
 go_ret
 rw[A.out];exact⟨rfl,rfl⟩
theorem Zq(k:Int)(w:World):Calls Tryz.prog 26 #[.int .i64 k] w fun e w'=>e= .returned (.bool (kg k))/\w=w':=by
 by_cases h:12<=k
 ·have A:Hid (kg k=decide (k<=19)):=kH (by unfold kg;rw[decide_eq_true h,Bool.true_and])
  go_in
  go_wp2_with fail
  go_ret
  rw[A.out];exact⟨rfl,rfl⟩
 have A:Hid (kg k=false):=kH (by unfold kg;rw[decide_eq_false h];rfl);go_in
 go_wp2_with fail
 go_ret
 rw[A.out];exact⟨rfl,rfl⟩
theorem WW(k:Int)(w:World):Calls Tryz.prog 208 #[.int .i64 k] w fun e w'=>e= .returned (.bool (iC k))/\w=w':=by
 by_cases h:k=20
 ·subst h
  go_in
  go_wp2_with fail
  go_ret
  exact⟨rfl,rfl⟩
 have C:(k==20)=false:=by simpa using h
 by_cases A:k=21
 ·subst A
  go_in
  go_wp2_with fail
  go_ret
  exact⟨rfl,rfl⟩
 have D:(k==21)=false:=by simpa using A
 have B:Hid (iC k=(k==22)):=kH (by unfold iC;rw[decide_eq_false h,decide_eq_false A,Bool.false_or,Bool.false_or,Bool.eq_iff_iff];simp);clear h A;go_in
 go_wp2_with fail
 go_ret
 rw[B.out];exact⟨rfl,rfl⟩
theorem aay(k:Int)(B:0<=k)(A:k<=29)(w:World):Calls Tryz.prog 153 #[.int .i64 k] w fun e w'=>e= .returned (.tuple #[.int .i64 ((ug k).1:Int),.int .i64 ((ug k).2:Int)])/\w=w':=by
 have C:k=0\/k=1\/k=2\/k=3\/k=4\/k=5\/k=6\/k=7\/k=8\/k=9\/k=10\/k=11\/k=12\/k=13\/k=14\/k=15\/k=16\/k=17\/k=18\/k=19\/k=20\/k=21\/k=22\/k=23\/k=24\/k=25\/k=26\/k=27\/k=28\/k=29:=by omega
 clear B A;rcases C with rfl|rfl|rfl|rfl|rfl|rfl|rfl|rfl|rfl|rfl|rfl|rfl|rfl|rfl|rfl|rfl|rfl|rfl|rfl|rfl|rfl|rfl|rfl|rfl|rfl|rfl|rfl|rfl|rfl|rfl
 all_goals
  go_in
  go_wp2_with fail
  go_ret2
  try exact⟨rfl,rfl⟩
end Go.Proofs.YtoepemlnlpamlaaGreat
