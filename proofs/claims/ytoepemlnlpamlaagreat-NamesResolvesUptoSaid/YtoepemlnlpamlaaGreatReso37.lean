/- The law NamesResolves holds where what it reads is of bulk at most 1048576: it returns true, and its argument reads as before. Part 37: Rw5. -/
import Derived.Deep.CutBlock
import Derived.Test.YtoepemlnlpamlaaGreatReso35
import Derived.Test.YtoepemlnlpamlaaGreatReso36
set_option maxRecDepth 100000
set_option maxHeartbeats 4000000
namespace Go.Proofs.YtoepemlnlpamlaaGreat
open Go.RowKit
structure uT (E:RE) (G:List Dc) (mk:Int) (q2:RW) (s1:List Nat) (w0 w:World) (A1:Option Addr) (n1 c1:Nat):Prop where
 V:∃V,dL E G mk q2 V w
 K:KW E w0 w
 S:gK w (E.uA.map (·.block)) A1 s1
 len:s1.length=n1
 cap:n1<=c1
structure Xe (G:List Dc) (q:RW) (s:List Nat) (t:ae):Prop where
 ds:q.ds.length<=q.num
 li:q.list.length<=q.num
 us:q.num+au t<=q.uses.length
 most:q.uses.length<=1000000
 gl:G.length<=1000000
 nodes:∀d∈G,0<=d.node/\d.node<=1000000
 PD:oJ s q
 WR:∀y∈bY t,y.kind=3\/y.kind=4\/y.kind=5->∃d,mW G (decide (y.kind=4)) y.text=some d
theorem Ci(t:ae):t∈bY t:=by cases t;simp[bY]
theorem Ej{G:List Dc}{a b:Int}{x:ByteArray}{n:Int}(h:gu G a b x=some n):∃d∈G,d.node=n:=by
 unfold gu at h
 cases hg:mW G (decide (a=1)) x with
 | none=>rw[hg]at h;cases h
 | some d=>
  rw[hg]at h;obtain⟨j,-,hj,-⟩:=zL hg;have h2:(if d.kind=a\/d.kind=b then some d.node else none)=some n:=h;split at h2
  ·exact⟨d,abQ hj,Option.some.inj h2⟩
  ·cases h2
theorem VO(mk:Int)(q:RW)(s:List Nat):(dE mk q s).ds=q.ds/\(dE mk q s).list=q.list/\(dE mk q s).uses=q.uses/\(dE mk q s).num=q.num:=by
 unfold dE;split<;>exact⟨rfl,rfl,rfl,rfl⟩
theorem RN(P:Program)(w:World){t t2 e:TypeId}(ty:TypeId){i:TypeInfo}(hi:P.info? e=some i)(h:P.underlying t=some (.slice e))(h2:P.underlying t2=some (.slice e))(v x:Value):(Builtin.append_ #[t,t2] ty #[v,x]).run P w=(Builtin.append_ #[t,t] ty #[v,x]).run P w:=by
 unfold Builtin.append_;cases v<;>simp[run_underlying h,run_underlying h2,sizeOf,typeInfo,hi]
theorem Kt{P:Program}(w:World){ops:Array Oper}{rest:List Oper}{o:Oper}{a:Act}{Q:Exit->Act->World->Prop}(hgd:o.guard=none)(s x:Operand)(t t2:TypeId)
 (ho:o.op= .call { callee:=.builtin .append,args:=#[s,x],argTypes:=#[t,t2] })
 (base:Nat) (e:TypeId) (i:TypeInfo) (z:Value) (size bytes:Nat) (ht:P.underlying t=some (.slice e)) (ht2:P.underlying t2=some (.slice e)) (hi:P.info? e=some i) (hz:i.zero=some z)
 (hsize:i.size=size) (hby:i.bytes=bytes) (hzs:z.cells.size=size) (hs0:0<size)
 (v:Value) (n:Nat) (xs:List Value) (hs:a.eval s=v) (hown:aL w base e size v n xs)
 (A:Option Addr) (m c:Nat) (news:List Value) (hx:a.eval x= .slice A m c) (hl:news.length=m*size) (hnews:∀j u,news[j]? =some u->∃a,A=some a/\w.cell? (a.add j)=some u) (h1:∀u∈news,u.oneCell'=true)
 (h63:n+m<=maxLen) (hbytes:(n+m)*bytes<=140737488355328) (hbase:base<=w.heap.size)
 (h:∀v' w',aL w' base e size v' (n+m) (xs++news)->w.grownBy w' v.ownBlock->(v'.ownBlock=v.ownBlock\/v'.ownBlock=some w.heap.size)->wpList P ops Q rest (a.put o.dst v') w'):wpList P ops Q (o::rest) a w:=
 wpList_plain hgd fun _ hK=>by
  obtain⟨v',w',hr,h2,h3,h4⟩:=Fs (P:=P) w base t o.type e i z size bytes ht hi hz hsize hby hzs hs0 v n xs hown A m c news hl hnews h1 h63 hbytes hbase;rw[<- RN P w o.type hi ht ht2]at hr;unfold Oper.wp execOp;simp only[ho,resolve,invoke,builtin,Sem.run_bind,Sem.run_pure,Result.andThen_ok,List.map_toArray,List.map_cons,List.map_nil,hs,hx,hr];exact hK _ _ (h v' w' h2 h3 h4)
section
variable {G:List Dc}{q:RW}{s:List Nat}{k:Int}{x:ByteArray}{a z:Int}{kids:List ae}{o:Int}
theorem head9(h:dJ x=false):mV G q s (.node 9 x a z kids) o=su q (.node 9 x a z kids) (gu G 0 0 x):=by
 show(if (9:Int)=9/\dJ x=false then _ else _)=_;exact if_pos ⟨rfl,h⟩
theorem Q9(h:¬(k=3\/k=4\/k=5\/k=20\/k=22\/k=27\/k=19\/k=7\/k=8\/k=12\/k=16))(h9:k=9->dJ x=true):mV G q s (.node k x a z kids) o=q:=by
 simp only[not_or]at h;obtain⟨h3,h4,h5,h20,h22,h27,h19,h7,h8,h12,h16⟩:=h;unfold mV;show(if k=3 then _ else if k=4 then _ else if k=5 then _ else if k=20 then _ else if k=22 then _ else if k=27 then _ else if k=19 then _ else if k=9/\dJ x=false then _ else if k=7\/k=8 then _ else if k=12 then _ else if k=16 then _ else q)=q;rw[if_neg h3,if_neg h4,if_neg h5,if_neg h20,if_neg h22,if_neg h27,if_neg h19,if_neg (fun e=>by rw[h9 e.1]at e;exact absurd e.2 (by simp)),if_neg (fun e=>e.elim h7 h8),if_neg h12,if_neg h16]
theorem Zc(h:¬(k=7\/k=8\/k=12\/k=16)):sU G q s (.node k x a z kids)=s:=if_neg h
end
def Xd(E:RE)(G:List Dc)(mk:Int)(B:Nat)(t:ae):Prop:=
 ∀(o:Int) (s:List Nat) (q:RW) (V:RQ) (w:World) (A:Option Addr) (n c:Nat) (At:Option Addr) (ct:Nat),dL E G mk q V w->gK w (E.uA.map (·.block)) A s->s.length=n->n<=c->aK w B At 0 t.kids->t.kids.length<=ct->Xe G q s t->E.base<=w.heap.size ->
  Calls Tryz.prog 85 #[.pointer (some ⟨E.rp,0,none⟩),.slice A n c,bD t At ct,.int .i64 o] w fun e w'=> ∃A' n' c',e= .returned (.slice A' n' c')/\(bQ G mk t o s q).2.length=n'/\n'<=c'/\gK w' (E.uA.map (·.block)) A' (bQ G mk t o s q).2 /\
   ∃V',dL E G mk (bQ G mk t o s q).1 V' w'/\KW E w w'
structure LpAt (E:RE) (G:List Dc) (mk k:Int) (s1:List Nat) (kids:List ae) (ow:Int) (s:List Nat) (q2:RW) (w0:World) (i:Nat) (si:List Nat) (qi:RW) (A3:Option Addr) (n3 c3:Nat) (w:World):Prop where
 V:∃V,dL E G mk qi V w
 K:KW E w0 w
 S:gK w (E.uA.map (·.block)) A3 si
 len:si.length=n3
 cap:n3<=c3
 run:dQ G mk k s1 (kids.drop i) i ow si qi=dQ G mk k s1 kids 0 ow s q2
 ds:qi.ds.length<=qi.num+1
 li:qi.list.length<=qi.num+1
 us:qi.num+1+aG (kids.drop i)<=qi.uses.length
 most:qi.uses.length<=1000000
 ok1:oJ s1 qi
 oki:oJ si qi
theorem NA:∀{kids:List ae}{t y:ae},t∈kids->y∈bY t->y∈dN kids
 | c::cs,t,y,ht,hy=>by
  rw[dN];rcases List.mem_cons.1 ht with rfl|ht
  ·exact List.mem_append_left _ hy
  ·exact List.mem_append_right _ (NA ht hy)
theorem XA(E:RE)(G:List Dc)(mk:Int)(B:Nat)(hB:B<=E.lo)(k:Int)(x:ByteArray)(a z:Int)(kids:List ae)(hih:∀t∈kids,Xd E G mk B t):Xd E G mk B (.node k x a z kids):=by
 intro o s q V w A n c At ct h hs hsn hnc hk hct hroom hbase;obtain⟨i0,hi0,hz0,hz1,hz2⟩:=info_parts Au;obtain⟨nk,hnk⟩:∃z,kids.length=z:=⟨_,rfl⟩
 obtain⟨nm,hnm⟩:∃z,q.num=z:=⟨_,rfl⟩
 have Wt:bD (.node k x a z kids) At ct= .agg #[.int .i64 k,.string x,.int .i64 a,.int .i64 z,.slice At nk ct]:=by rw[<- hnk];rfl
 rw[Wt];obtain⟨Q,hQ⟩:∃Q,bQ G mk (.node k x a z kids) o s q=Q:=⟨_,rfl⟩
 rw[hQ];have hnb:nm<=1000000:=by have:=hroom.us;have:=hroom.most;omega
 have xW:nk<=1000000:=by have h1:=hroom.us;have h2:=hroom.most;have h3:=kV kids;rw[au]at h1;omega
 have M0:n<=1000000:=by have:=hroom.PD.1;have:=hroom.ds;omega
 obtain⟨T,hT⟩:∃T,ae.node k x a z kids=T:=⟨_,rfl⟩
 obtain⟨q1,hq1⟩:∃q1,dE mk q s=q1:=⟨_,rfl⟩
 obtain⟨q2,hq2⟩:∃q2,mV G q1 s T o=q2:=⟨_,rfl⟩
 obtain⟨s1,hs1⟩:∃s1,sU G q1 s T=s1:=⟨_,rfl⟩
 obtain⟨ow,how⟩:∃ow,(if k=3\/k=5 then(nm:Int) else o)=ow:=⟨_,rfl⟩
 have jr:(dQ G mk k s1 kids 0 ow s q2).1=Q.1/\Q.2=(if k=6 then(dQ G mk k s1 kids 0 ow s q2).2 else if k=7\/k=8\/k=12 then s1 else s):=by
  rw[<- hQ,<- hs1,<- how,<- hq2,<- hq1,<- hT,<- hnm,bQ];exact⟨rfl,rfl⟩
 have hsame:=VO mk q s;rw[hq1]at hsame
 have iC:Hid (q1.ds.length<=1000000/\q1.list.length<=1000000/\q1.num<q1.uses.length/\q1.num=nm/\G.length<=1000000/\(∀i∈s,i<q1.ds.length)/\q1.uses.length<=1000000):=kH (by
  obtain⟨e1,e2,e3,e4⟩:=hsame;rw[e1,e2,e3,e4];have:=hroom.ds;have:=hroom.li;have:=hroom.us;have:=nJ (.node k x a z kids)
  exact⟨by omega,by omega,by omega,hnm,hroom.gl,hroom.PD.2,hroom.most⟩)
 have hstp:=Ec G q1 s T o
 have hok1:oJ s1 q2:=by
  rw[<- hs1,<- hq2];refine J7 T o ⟨?_,?_⟩
  ·rw[hsame.1];exact hroom.PD.1
  ·rw[hsame.1];exact hroom.PD.2
 have hok2:oJ s q2:=by
  rw[hq2]at hstp;refine oJ.mono (a:=q1) ⟨?_,?_⟩ hstp.1
  ·rw[hsame.1];exact hroom.PD.1
  ·rw[hsame.1];exact hroom.PD.2
 rw[hq2]at hstp
 have kR:Hid (q2.ds.length<=nm+1/\q2.list.length<=nm+1/\q2.uses.length=q.uses.length/\q2.num=nm/\oJ s1 q2/\oJ s q2):=kH (by
  obtain⟨e1,e2,e3,e4⟩:=hsame;have h1:=hstp.1.Og;have h2:=hstp.1.li;have h3:=hstp.1.us;have h4:=hstp.2;rw[e1]at h1;rw[e2]at h2;rw[e3]at h3;have:=hroom.ds;have:=hroom.li
  exact⟨by omega,by omega,h3,by rw[h4,e4,hnm],hok1,hok2⟩)
 have qO:=kH hT;have xD:=kH hq2;have xC:=kH hs1;have HOW:=kH how;have H:=kH h;have HS:=kH hs;have HK:=kH hk;have vw:=kH hroom;have fQ:=kH hnk;have qP:=kH hnm;have mF:=kH hsn;have fD:=kH hih;have HCT:Hid (nk<=ct):=kH (by rw[<- hnk];exact hct);have dC:=kH hbase;have HQ:=kH jr;have HQM:=kH hq1;have vB:=kH (show bD T At ct= .agg #[.int .i64 k,.string x,.int .i64 a,.int .i64 z,.slice At nk ct] by rw[<- hT];exact Wt);have r4:w.cell? ⟨E.rp,4,none⟩=some (.int .i64 (nm:Int)):=by rw[<- hnm];exact h.blk.cell 4
 have r5:w.cell? ⟨E.rp,5,none⟩=some (.int .i64 mk):=h.blk.cell 5;have lr:=h.blk.lt;clear h hs hk hroom hnk hnm hsn hih hct hbase hQ jr Wt hT hq1 hq2 hs1 how hsame hstp hok1 hok2;go_enter Tryz.func85,Tryz.ntmps85
 go_upto_if 24 with fail
 generalize hW1:w.alloc (.cells #[.int .i64 k,.string x,.int .i64 a,.int .i64 z,.slice At nk ct] 24)=W1
 have hb1:Below w.heap.size w W1:=by rw[<- hW1];exact ag _ _
 have hT1:ai W1 w.heap.size 24 #[.int .i64 k,.string x,.int .i64 a,.int .i64 z,.slice At nk ct]:=by rw[<- hW1];exact ai.new w _ _
 have h1:=H.out.below hb1;have HB1:=kH hb1;have HT1:=kH hT1;have H1:=kH h1;have s4:W1.cell? ⟨E.rp,4,none⟩=some (.int .i64 (nm:Int)):=by rw[<- qP.out];exact h1.blk.cell 4
 have s5:W1.cell? ⟨E.rp,5,none⟩=some (.int .i64 mk):=h1.blk.cell 5;have ls:=h1.blk.lt;have hne:E.rp≠w.heap.size:=by have:=H.out.blk.lt;omega
 have hne2:E.uA.map (·.block)≠some w.heap.size:=fun e=>by have:=(H.out.us.lt w.heap.size (by rw[GU];exact e)).2;omega
 have fC:Hid (∀W,KW E W1 W->ai W w.heap.size 24 #[.int .i64 k,.string x,.int .i64 a,.int .i64 z,.slice At nk ct]):=kH fun W hW=>hW.blk HT1.out (fun e=>hne e.symm) (by decide) (by decide) hne2
 clear hW1 hb1 hT1 h1 r4 r5 lr hne hne2;go_cut [] (fun wx=>Hid ((∃V1,dL E G mk q1 V1 wx)/\KW E W1 wx))
 case first=>
  by_cases hmk:(nm:Int)=mk
  ·subst hmk
   as_aux_lemma=>
    have HM:Hid ({ q with at_:=s }=q1):=kH (by rw[<- HQM.out];unfold dE;rw[qP.out,if_pos rfl]);obtain⟨W7,uM⟩:∃z,W1.alloc (.cells #[] 3)=z:=⟨_,rfl⟩
    have dB:Below W1.heap.size W1 W7:=by rw[<- uM];exact ag _ _
    have YL:aL W7 W1.heap.size 3 1 (.slice (some ⟨W1.heap.size,0,none⟩) 0 0) 0 []:=by
     rw[<- uM];exact aL.block (abE _) (ai.new W1 _ _) (Nat.zero_le _) rfl
    have gN:=kH dB;have xK:=kH YL;clear dB YL;go_wp2_with (first|rw[uM]|(at_builtin;refine Kt _ rfl (.tmp 26) (.tmp 27) _ _ rfl W1.heap.size 3 i0 _ 1 8 Tryz.underlying28 Tryz.underlying142 hi0 hz0 hz1 hz2 rfl (by omega) (.slice (some ⟨W1.heap.size,0,none⟩) 0 0) 0 [] rfl xK.out A n c (s.flatMap jN) rfl (by rw[zi,mF.out];omega) ((HS.out.below HB1.out).below gN.out).news Fz (by simp only[maxLen];omega) (by omega) gN.out.size ?_;intro v8 w8 hown hgrow hat;rw[Nat.zero_add,List.nil_append]at hown;obtain⟨A8,c8,dV,hnc8,-⟩:=hown.shape;subst dV;have dW:Below W1.heap.size W1 w8:=gN.out.trans (xm hgrow gN.out.size (fun k hk=>by cases hk;exact abE _));have HOWN:=kH hown;have uP:=kH dW;have HNC8:=kH hnc8;have Yz:=(H1.out.below dW).blk;have c68:=Yz.cell 6;have f68:=Yz.frozen 6;have l68:=Yz.lt;clear hown hgrow hat dW uM hnc8 Yz))
    have aO:Hid ((∃V1,dL E G (nm:Int) q1 V1 (w8.setCell ⟨E.rp,6,none⟩ (.slice A8 n c8)))/\KW E W1 (w8.setCell ⟨E.rp,6,none⟩ (.slice A8 n c8))):=kH (by
     have h8:=H1.out.below uP.out
     have hrow:gK w8 (Value.slice E.uA q.uses.length E.uc).ownBlock A8 s:=gK.X6 (base:=W1.heap.size) (c:=c8) (n:=n) HOWN.out mF.out (fun g hg e=>by
      have h1:=(HOWN.out.lt g hg).1;have h2:=(H1.out.us.lt g e).2
      omega)
     have:=h8.mark_ hrow (c:=c8) (by rw[mF.out];exact HNC8.out);rw[mF.out,HM.out]at this
     exact⟨⟨_,this⟩,(KW.of_below uP.out).trans (Yi E w8 6 _)⟩)
    go_meet
    exact aO
  ·have hmkb:((nm:Int)==mk)=false:=by simpa using hmk
   have HM:Hid (q=q1):=kH (by rw[<- HQM.out];unfold dE;rw[qP.out,if_neg hmk]);clear hmk;go_wp2_with fail
   go_meet
   rw[<- HM.out];exact kH ⟨⟨V,H1.out⟩,KW.refl _ _⟩
 case rest=>
  obtain⟨wm,rfl⟩:∃wm:World,wm=wc:=⟨_,rfl⟩
  obtain⟨⟨V1,hm1⟩,YC⟩:=hcut.out;have jv:=kH hm1;have IZ:=kH YC;have hNm:=fC.out _ YC;obtain⟨⟨t0,t1,t2,t3,t4⟩,-⟩:=hNm.five;have lt':=hNm.lt;have hsm:gK wm (E.uA.map (·.block)) A s:=(HS.out.below HB1.out).kw YC rfl ⟨_,H1.out.blk⟩;have pV:=kH hsm;have tZ:E.base<=wm.heap.size:=abF dC.out (abF HB1.out.size YC.size);have EY:=kH tZ;have lrm:=hm1.blk.lt;clear hcut hm1 YC hNm hsm tZ s4 s5 ls;go_upto_block 0 with fail
  go_cut [3,10] from 15 (fun s3 s10 wx=> ∃(A1:Option Addr) (n1 c1:Nat),s3= .int .i64 ow/\s10= .slice A1 n1 c1/\Hid (uT E G mk q2 s1 wm wx A1 n1 c1))
  case first=>
   by_cases hk3:k=3
   ·subst hk3
    as_aux_lemma=>
     obtain⟨d,hd⟩:=vw.out.WR (.node 3 x a z kids) (Ci _) (.inl rfl);have hcall:=Ch E G mk q1 V1 wm jv.out iC.out.1 iC.out.2.1 iC.out.2.2.2.2.1 iC.out.2.2.1 EY.out 0 (-1) T At ct d (by rw[<- qO.out];exact hd);rw[vB.out]at hcall;have hq2:fG G q1 T 0 (-1)=q2:=by rw[<- xD.out,<- qO.out];rfl
     have hs1:s=s1:=by rw[<- xC.out,<- qO.out];rfl
     have how:(nm:Int)=ow:=by rw[<- HOW.out];rfl
     rw[hq2]at hcall;subst hs1;subst how;have HC:=kH hcall;clear hcall hd hq2;go_wp2_with fail
     refine HC.out.mono ?_;rintro e6 w6 ⟨rfl,V6,h6,k6⟩;have aO:Hid (uT E G mk q2 s wm w6 A n c):=kH ⟨⟨V6,h6⟩,k6,pV.out.kw k6 rfl ⟨_,jv.out.blk⟩,mF.out,hnc⟩;clear h6 k6 HC;go_wp2_with fail
     go_meet
     exact⟨A,n,c,rfl,rfl,aO⟩
   by_cases hk4:k=4
   ·subst hk4
    as_aux_lemma=>
     obtain⟨d,hd⟩:=vw.out.WR (.node 4 x a z kids) (Ci _) (.inr (.inl rfl));have hcall:=Ch E G mk q1 V1 wm jv.out iC.out.1 iC.out.2.1 iC.out.2.2.2.2.1 iC.out.2.2.1 EY.out 1 o T At ct d (by rw[<- qO.out];exact hd);rw[vB.out]at hcall;have hq2:fG G q1 T 1 o=q2:=by rw[<- xD.out,<- qO.out];rfl
     have hs1:s=s1:=by rw[<- xC.out,<- qO.out];rfl
     have how:o=ow:=by rw[<- HOW.out];rfl
     rw[hq2]at hcall;subst hs1;subst how;have HC:=kH hcall;clear hcall hd hq2;go_wp2_with fail
     refine HC.out.mono ?_;rintro e6 w6 ⟨rfl,V6,h6,k6⟩;have aO:Hid (uT E G mk q2 s wm w6 A n c):=kH ⟨⟨V6,h6⟩,k6,pV.out.kw k6 rfl ⟨_,jv.out.blk⟩,mF.out,hnc⟩;clear h6 k6 HC;go_wp2_with fail
     go_meet
     exact⟨A,n,c,rfl,rfl,aO⟩
   by_cases hk5:k=5
   ·subst hk5
    as_aux_lemma=>
     obtain⟨d,hd⟩:=vw.out.WR (.node 5 x a z kids) (Ci _) (.inr (.inr rfl));have hcall:=Ch E G mk q1 V1 wm jv.out iC.out.1 iC.out.2.1 iC.out.2.2.2.2.1 iC.out.2.2.1 EY.out 2 (-1) T At ct d (by rw[<- qO.out];exact hd);rw[vB.out]at hcall;have hq2:fG G q1 T 2 (-1)=q2:=by rw[<- xD.out,<- qO.out];rfl
     have hs1:s=s1:=by rw[<- xC.out,<- qO.out];rfl
     have how:(nm:Int)=ow:=by rw[<- HOW.out];rfl
     rw[hq2]at hcall;subst hs1;subst how;have HC:=kH hcall;clear hcall hd hq2;go_wp2_with fail
     refine HC.out.mono ?_;rintro e6 w6 ⟨rfl,V6,h6,k6⟩;have aO:Hid (uT E G mk q2 s wm w6 A n c):=kH ⟨⟨V6,h6⟩,k6,pV.out.kw k6 rfl ⟨_,jv.out.blk⟩,mF.out,hnc⟩;clear h6 k6 HC;go_wp2_with fail
     go_meet
     exact⟨A,n,c,rfl,rfl,aO⟩
   by_cases FR:k=20
   ·subst FR
    as_aux_lemma=>
     have hlk:=Ht E G mk q1 V1 wm jv.out (E.uA.map (·.block)) A n c s pV.out mF.out iC.out.2.2.2.2.2.1 x M0;have hq2:yx q1 s T=q2:=by rw[<- xD.out,<- qO.out];rfl
     have hs1:s=s1:=by rw[<- xC.out,<- qO.out];rfl
     have how:o=ow:=by rw[<- HOW.out];rfl
     subst hs1;subst how;have hTx:T.text=x:=by rw[<- qO.out];rfl
     unfold yx at hq2;rw[hTx]at hq2
     cases hl:oN q1.ds s x with
     | some j=>
      rw[hl]at hq2;have hlx:xU q1.ds s x=(j:Int):=by unfold xU;rw[hl]
      rw[hlx]at hlk;have Dr:=kH hlk;have HQE:=kH (show({ q1 with uses:=q1.uses.set q1.num (j:Int) }:RW)=q2 from hq2);clear hlk hl hlx hq2 hTx;go_wp2_with fail
      refine Dr.out.mono ?_;rintro e6 w6 ⟨rfl,hb6⟩;have h6:=jv.out.below hb6;obtain⟨bu,ou,hA,hbu,mY,hfu,hput⟩:=h6.yo q1.num iC.out.2.2.1;obtain⟨u0,mY⟩:=mY;obtain⟨nu,hnu⟩:∃z,q1.uses.length=z:=⟨_,rfl⟩
      have hnu2:nm<nu:=by have:=iC.out.2.2.1;have:=iC.out.2.2.2.1;omega
      have hbl:=h6.blk;rw[hnu,hA]at hbl;have c1:=hbl.cell 1;have l6:=hbl.lt;rw[iC.out.2.2.2.1]at mY hfu hput
      have aO:Hid (uT E G mk q2 s wm (w6.setCell ⟨bu,ou+nm,none⟩ (.int .i64 (j:Int))) A n c):=kH (by
       obtain⟨h7,k7⟩:=hput (j:Int);have k8:=(KW.of_below hb6).trans k7;refine⟨⟨V1,?_⟩,k8,pV.out.kw k8 rfl ⟨_,jv.out.blk⟩,mF.out,hnc⟩;rw[<- HQE.out,iC.out.2.2.2.1];have e:({ q1 with uses:=q1.uses.set nm (j:Int) }:RW)= { ds:=q1.ds,uses:=q1.uses.set nm (j:Int),list:=q1.list,num:=nm,at_:=q1.at_ }:=by rw[<- iC.out.2.2.2.1]
       exact h7)
      have hm0:¬((nm:Int)<0):=by omega
      have hmu:(nm:Int)<(nu:Int):=by omega
      clear hput h6 hbl hnu hb6 Dr;go_wp2_with fail
      go_meet
      exact⟨A,n,c,rfl,rfl,aO⟩
     | none=>
      rw[hl]at hq2;have hlx:xU q1.ds s x= -1:=by unfold xU;rw[hl]
      rw[hlx]at hlk;have hnt:=fun(W:World) (hb:Below wm.heap.size wm W)=>Bz E G mk q1 V1 W (jv.out.below hb) iC.out.2.1 (abF EY.out hb.size) 8 T At ct
      rw[vB.out,show sG q1 8 T=q2 from hq2]at hnt;have IW:=kH hnt;have Dr:=kH hlk;clear hlk hl hlx hq2 hTx hnt;go_wp2_with fail
      refine Dr.out.mono ?_;rintro e6 w6 ⟨rfl,hb6⟩;have HNT6:=kH (IW.out w6 hb6);have mP:=kH hb6;have IC:=fC.out w6 (IZ.out.trans (KW.of_below hb6));obtain⟨⟨v0,v1,v2,v3,v4⟩,-⟩:=IC.five;have lv:=IC.lt;clear hb6 IW Dr IC;go_wp2_with fail
      refine HNT6.out.mono ?_;rintro e7 w7 ⟨rfl,V7,h7,k7⟩
      have aO:Hid (uT E G mk q2 s wm w7 A n c):=kH (by
       have k8:=(KW.of_below mP.out).trans k7
       exact⟨⟨V7,h7⟩,k8,pV.out.kw k8 rfl ⟨_,jv.out.blk⟩,mF.out,hnc⟩)
      clear h7 k7 HNT6;go_wp2_with fail
      go_meet
      exact⟨A,n,c,rfl,rfl,aO⟩
   by_cases aaF:k=22
   ·subst aaF
    as_aux_lemma=>
     have hgn:=fun(W:World) (hb:Below wm.heap.size wm W)=>zD E G mk q1 V1 W (jv.out.below hb) iC.out.2.2.2.2.1 1 1 x
     have mK:=fun(W:World) (hb:Below wm.heap.size wm W)=>DI E G mk q1 V1 W (jv.out.below hb) iC.out.2.1 iC.out.2.2.1 (abF EY.out hb.size) T At ct (gu G 1 1 x) (vo (gu G 1 1 x)) (fun j hj=>by
      obtain⟨d,hd,he⟩:=Ej hj;have:=vw.out.nodes d hd;rw[hj]
      exact⟨rfl,by omega,by omega⟩) (fun hj=>by rw[hj];rfl)
     have hq2:su q1 T (gu G 1 1 x)=q2:=by rw[<- xD.out,<- qO.out];rfl
     have hs1:s=s1:=by rw[<- xC.out,<- qO.out];rfl
     have how:o=ow:=by rw[<- HOW.out];rfl
     rw[vB.out,hq2]at mK;obtain⟨gn,AL⟩:∃z,vo (gu G 1 1 x)=z:=⟨_,rfl⟩
     rw[AL]at hgn mK;subst hs1;subst how;have Du:=kH hgn;have qd:=kH mK
     have kF:∀W,Below wm.heap.size wm W->W.cell? ⟨w.heap.size,0,none⟩=some (.int .i64 22)/\W.cell? ⟨w.heap.size,1,none⟩=some (.string x)/\W.cell? ⟨w.heap.size,2,none⟩=some (.int .i64 a)/\W.cell? ⟨w.heap.size,3,none⟩=some (.int .i64 z)/\W.cell? ⟨w.heap.size,4,none⟩=some (.slice At nk ct):=fun W hb=>by
      obtain⟨⟨v0,v1,v2,v3,v4⟩,-⟩:=(fC.out W (IZ.out.trans (KW.of_below hb))).five;exact⟨v0,v1,v2,v3,v4⟩
     have dU:=kH kF;have hd1:Below wm.heap.size wm wm.drew:=(Below.refl _ _).drew;have hS0:=dU.out _ hd1;clear hgn mK hq2 AL kF;go_wp2_with fail
     refine dZ (fun W=>W.cell? ⟨w.heap.size,0,none⟩=some (.int .i64 22)/\W.cell? ⟨w.heap.size,1,none⟩=some (.string x)/\W.cell? ⟨w.heap.size,2,none⟩=some (.int .i64 a)/\W.cell? ⟨w.heap.size,3,none⟩=some (.int .i64 z)/\W.cell? ⟨w.heap.size,4,none⟩=some (.slice At nk ct)) [] [true,true,true,true,true,false,false] (by kernel_rfl) (by kernel_rfl) rfl (by kernel_rfl) ?_;iterate 5((first|(refine eG (by rfl) hS0 ?_)|(refine dz (by rfl) hS0 (by intro w' hSw;obtain⟨hs1,hs2,hs3,hs4,hs5⟩:=hSw;go_simp;rfl) ?_));simp only[Act.put,sA,sZ,sC])
     refine gm (by rfl) (by go_simp) ((Du.out _ hd1).mono ?_);rintro e4 w4 ⟨rfl,hb4⟩;have dO:Below wm.heap.size wm w4:=hd1.trans (hb4.mono hd1.size);refine⟨_,rfl,fun _=>dU.out _ dO,?_⟩;simp only[Act.put,sA,sZ,sC];refine gm (by rfl) (by go_simp) ((qd.out _ dO).mono ?_);rintro e6 w6 ⟨rfl,V6,h6,k6⟩;have k8:=(KW.of_below dO).trans k6;obtain⟨⟨y0,y1,y2,y3,y4⟩,-⟩:=(fC.out w6 (IZ.out.trans k8)).five;refine⟨_,rfl,fun _=>⟨y0,y1,y2,y3,y4⟩,?_⟩;simp only[Act.put,sA,sZ,sC];refine iU ?_;have aO:Hid (uT E G mk q2 s wm w6 A n c):=kH ⟨⟨V6,h6⟩,k8,pV.out.kw k8 rfl ⟨_,jv.out.blk⟩,mF.out,hnc⟩;clear h6 k6 k8 hb4 dO Du qd hS0 hd1 y0 y1 y2 y3 y4;go_wp2_with fail
     go_meet
     exact⟨A,n,c,rfl,rfl,aO⟩
   by_cases aaE:k=27
   ·subst aaE
    as_aux_lemma=>
     have hgn:=fun(W:World) (hb:Below wm.heap.size wm W)=>zD E G mk q1 V1 W (jv.out.below hb) iC.out.2.2.2.2.1 0 2 x
     have mK:=fun(W:World) (hb:Below wm.heap.size wm W)=>DI E G mk q1 V1 W (jv.out.below hb) iC.out.2.1 iC.out.2.2.1 (abF EY.out hb.size) T At ct (gu G 0 2 x) (vo (gu G 0 2 x)) (fun j hj=>by
      obtain⟨d,hd,he⟩:=Ej hj;have:=vw.out.nodes d hd;rw[hj]
      exact⟨rfl,by omega,by omega⟩) (fun hj=>by rw[hj];rfl)
     have hq2:su q1 T (gu G 0 2 x)=q2:=by rw[<- xD.out,<- qO.out];rfl
     have hs1:s=s1:=by rw[<- xC.out,<- qO.out];rfl
     have how:o=ow:=by rw[<- HOW.out];rfl
     rw[vB.out,hq2]at mK;obtain⟨gn,AL⟩:∃z,vo (gu G 0 2 x)=z:=⟨_,rfl⟩
     rw[AL]at hgn mK;subst hs1;subst how;have Du:=kH hgn;have qd:=kH mK
     have kF:∀W,Below wm.heap.size wm W->W.cell? ⟨w.heap.size,0,none⟩=some (.int .i64 27)/\W.cell? ⟨w.heap.size,1,none⟩=some (.string x)/\W.cell? ⟨w.heap.size,2,none⟩=some (.int .i64 a)/\W.cell? ⟨w.heap.size,3,none⟩=some (.int .i64 z)/\W.cell? ⟨w.heap.size,4,none⟩=some (.slice At nk ct):=fun W hb=>by
      obtain⟨⟨v0,v1,v2,v3,v4⟩,-⟩:=(fC.out W (IZ.out.trans (KW.of_below hb))).five;exact⟨v0,v1,v2,v3,v4⟩
     have dU:=kH kF;have hd1:Below wm.heap.size wm wm.drew:=(Below.refl _ _).drew;have hS0:=dU.out _ hd1;clear hgn mK hq2 AL kF;go_wp2_with fail
     refine dZ (fun W=>W.cell? ⟨w.heap.size,0,none⟩=some (.int .i64 27)/\W.cell? ⟨w.heap.size,1,none⟩=some (.string x)/\W.cell? ⟨w.heap.size,2,none⟩=some (.int .i64 a)/\W.cell? ⟨w.heap.size,3,none⟩=some (.int .i64 z)/\W.cell? ⟨w.heap.size,4,none⟩=some (.slice At nk ct)) [] [true,true,true,true,true,false,false] (by kernel_rfl) (by kernel_rfl) rfl (by kernel_rfl) ?_;iterate 5((first|(refine eG (by rfl) hS0 ?_)|(refine dz (by rfl) hS0 (by intro w' hSw;obtain⟨hs1,hs2,hs3,hs4,hs5⟩:=hSw;go_simp;rfl) ?_));simp only[Act.put,sA,sZ,sC])
     refine gm (by rfl) (by go_simp) ((Du.out _ hd1).mono ?_);rintro e4 w4 ⟨rfl,hb4⟩;have dO:Below wm.heap.size wm w4:=hd1.trans (hb4.mono hd1.size);refine⟨_,rfl,fun _=>dU.out _ dO,?_⟩;simp only[Act.put,sA,sZ,sC];refine gm (by rfl) (by go_simp) ((qd.out _ dO).mono ?_);rintro e6 w6 ⟨rfl,V6,h6,k6⟩;have k8:=(KW.of_below dO).trans k6;obtain⟨⟨y0,y1,y2,y3,y4⟩,-⟩:=(fC.out w6 (IZ.out.trans k8)).five;refine⟨_,rfl,fun _=>⟨y0,y1,y2,y3,y4⟩,?_⟩;simp only[Act.put,sA,sZ,sC];refine iU ?_;have aO:Hid (uT E G mk q2 s wm w6 A n c):=kH ⟨⟨V6,h6⟩,k8,pV.out.kw k8 rfl ⟨_,jv.out.blk⟩,mF.out,hnc⟩;clear h6 k6 k8 hb4 dO Du qd hS0 hd1 y0 y1 y2 y3 y4;go_wp2_with fail
     go_meet
     exact⟨A,n,c,rfl,rfl,aO⟩
   by_cases aaG:k=19
   ·subst aaG
    as_aux_lemma=>
     have hgn:=fun(W:World) (hb:Below wm.heap.size wm W)=>zD E G mk q1 V1 W (jv.out.below hb) iC.out.2.2.2.2.1 2 2 x
     have mK:=fun(W:World) (hb:Below wm.heap.size wm W)=>DI E G mk q1 V1 W (jv.out.below hb) iC.out.2.1 iC.out.2.2.1 (abF EY.out hb.size) T At ct (gu G 2 2 x) (vo (gu G 2 2 x)) (fun j hj=>by
      obtain⟨d,hd,he⟩:=Ej hj;have:=vw.out.nodes d hd;rw[hj]
      exact⟨rfl,by omega,by omega⟩) (fun hj=>by rw[hj];rfl)
     have hq2:su q1 T (gu G 2 2 x)=q2:=by rw[<- xD.out,<- qO.out];rfl
     have hs1:s=s1:=by rw[<- xC.out,<- qO.out];rfl
     have how:o=ow:=by rw[<- HOW.out];rfl
     rw[vB.out,hq2]at mK;obtain⟨gn,AL⟩:∃z,vo (gu G 2 2 x)=z:=⟨_,rfl⟩
     rw[AL]at hgn mK;subst hs1;subst how;have Du:=kH hgn;have qd:=kH mK
     have kF:∀W,Below wm.heap.size wm W->W.cell? ⟨w.heap.size,0,none⟩=some (.int .i64 19)/\W.cell? ⟨w.heap.size,1,none⟩=some (.string x)/\W.cell? ⟨w.heap.size,2,none⟩=some (.int .i64 a)/\W.cell? ⟨w.heap.size,3,none⟩=some (.int .i64 z)/\W.cell? ⟨w.heap.size,4,none⟩=some (.slice At nk ct):=fun W hb=>by
      obtain⟨⟨v0,v1,v2,v3,v4⟩,-⟩:=(fC.out W (IZ.out.trans (KW.of_below hb))).five;exact⟨v0,v1,v2,v3,v4⟩
     have dU:=kH kF;have hd1:Below wm.heap.size wm wm.drew:=(Below.refl _ _).drew;have hS0:=dU.out _ hd1;clear hgn mK hq2 AL kF;go_wp2_with fail
     refine dZ (fun W=>W.cell? ⟨w.heap.size,0,none⟩=some (.int .i64 19)/\W.cell? ⟨w.heap.size,1,none⟩=some (.string x)/\W.cell? ⟨w.heap.size,2,none⟩=some (.int .i64 a)/\W.cell? ⟨w.heap.size,3,none⟩=some (.int .i64 z)/\W.cell? ⟨w.heap.size,4,none⟩=some (.slice At nk ct)) [] [true,true,true,true,true,false,false] (by kernel_rfl) (by kernel_rfl) rfl (by kernel_rfl) ?_;iterate 5((first|(refine eG (by rfl) hS0 ?_)|(refine dz (by rfl) hS0 (by intro w' hSw;obtain⟨hs1,hs2,hs3,hs4,hs5⟩:=hSw;go_simp;rfl) ?_));simp only[Act.put,sA,sZ,sC])
     refine gm (by rfl) (by go_simp) ((Du.out _ hd1).mono ?_);rintro e4 w4 ⟨rfl,hb4⟩;have dO:Below wm.heap.size wm w4:=hd1.trans (hb4.mono hd1.size);refine⟨_,rfl,fun _=>dU.out _ dO,?_⟩;simp only[Act.put,sA,sZ,sC];refine gm (by rfl) (by go_simp) ((qd.out _ dO).mono ?_);rintro e6 w6 ⟨rfl,V6,h6,k6⟩;have k8:=(KW.of_below dO).trans k6;obtain⟨⟨y0,y1,y2,y3,y4⟩,-⟩:=(fC.out w6 (IZ.out.trans k8)).five;refine⟨_,rfl,fun _=>⟨y0,y1,y2,y3,y4⟩,?_⟩;simp only[Act.put,sA,sZ,sC];refine iU ?_;have aO:Hid (uT E G mk q2 s wm w6 A n c):=kH ⟨⟨V6,h6⟩,k8,pV.out.kw k8 rfl ⟨_,jv.out.blk⟩,mF.out,hnc⟩;clear h6 k6 k8 hb4 dO Du qd hS0 hd1 y0 y1 y2 y3 y4;go_wp2_with fail
     go_meet
     exact⟨A,n,c,rfl,rfl,aO⟩
   by_cases vU:k=9
   ·subst vU
    as_aux_lemma=>
     cases hsc:dJ x with
     | false=>
      have hxi:¬x=⟨#[105,110,116]⟩:=fun e=>by rw[e]at hsc;exact absurd hsc (by decide)
      have hxb:¬x=⟨#[98,111,111,108]⟩:=fun e=>by rw[e]at hsc;exact absurd hsc (by decide)
      have f1:¬x.toList=[105,110,116]:=fun h=>hxi (mE (by rw[<- ByteArray.toList_eq,h]))
      have f2:¬x.toList=[98,111,111,108]:=fun h=>hxb (mE (by rw[<- ByteArray.toList_eq,h]))
      have g1:(x.toList==[105,110,116])=false:=by rw[beq_eq_false_iff_ne];exact f1
      have g2:(x.toList==[98,111,111,108])=false:=by rw[beq_eq_false_iff_ne];exact f2
      clear hxi hxb;have hgn:=fun(W:World) (hb:Below wm.heap.size wm W)=>zD E G mk q1 V1 W (jv.out.below hb) iC.out.2.2.2.2.1 0 0 x
      have mK:=fun(W:World) (hb:Below wm.heap.size wm W)=>DI E G mk q1 V1 W (jv.out.below hb) iC.out.2.1 iC.out.2.2.1 (abF EY.out hb.size) T At ct (gu G 0 0 x) (vo (gu G 0 0 x)) (fun j hj=>by
       obtain⟨d,hd,he⟩:=Ej hj;have:=vw.out.nodes d hd;rw[hj]
       exact⟨rfl,by omega,by omega⟩) (fun hj=>by rw[hj];rfl)
      have hq2:su q1 T (gu G 0 0 x)=q2:=by rw[<- xD.out,<- qO.out];exact(head9 hsc).symm
      have hs1:s=s1:=by rw[<- xC.out,<- qO.out];rfl
      have how:o=ow:=by rw[<- HOW.out];rfl
      rw[vB.out,hq2]at mK;obtain⟨gn,AL⟩:∃z,vo (gu G 0 0 x)=z:=⟨_,rfl⟩
      rw[AL]at hgn mK;subst hs1;subst how;have Du:=kH hgn;have qd:=kH mK
      have kF:∀W,Below wm.heap.size wm W->W.cell? ⟨w.heap.size,0,none⟩=some (.int .i64 9)/\W.cell? ⟨w.heap.size,1,none⟩=some (.string x)/\W.cell? ⟨w.heap.size,2,none⟩=some (.int .i64 a)/\W.cell? ⟨w.heap.size,3,none⟩=some (.int .i64 z)/\W.cell? ⟨w.heap.size,4,none⟩=some (.slice At nk ct):=fun W hb=>by
       obtain⟨⟨v0,v1,v2,v3,v4⟩,-⟩:=(fC.out W (IZ.out.trans (KW.of_below hb))).five;exact⟨v0,v1,v2,v3,v4⟩
      have dU:=kH kF;have hd1:Below wm.heap.size wm wm.drew:=(Below.refl _ _).drew;have hS0:=dU.out _ hd1;clear hgn mK hq2 AL kF;go_wp2_with fail
      refine dZ (fun W=>W.cell? ⟨w.heap.size,0,none⟩=some (.int .i64 9)/\W.cell? ⟨w.heap.size,1,none⟩=some (.string x)/\W.cell? ⟨w.heap.size,2,none⟩=some (.int .i64 a)/\W.cell? ⟨w.heap.size,3,none⟩=some (.int .i64 z)/\W.cell? ⟨w.heap.size,4,none⟩=some (.slice At nk ct)) [] [true,true,true,true,true,false,false] (by kernel_rfl) (by kernel_rfl) rfl (by kernel_rfl) ?_;iterate 5((first|(refine eG (by rfl) hS0 ?_)|(refine dz (by rfl) hS0 (by intro w' hSw;obtain⟨hs1,hs2,hs3,hs4,hs5⟩:=hSw;go_simp;rfl) ?_));simp only[Act.put,sA,sZ,sC])
      refine gm (by rfl) (by go_simp) ((Du.out _ hd1).mono ?_);rintro e4 w4 ⟨rfl,hb4⟩;have dO:Below wm.heap.size wm w4:=hd1.trans (hb4.mono hd1.size);refine⟨_,rfl,fun _=>dU.out _ dO,?_⟩;simp only[Act.put,sA,sZ,sC];refine gm (by rfl) (by go_simp) ((qd.out _ dO).mono ?_);rintro e6 w6 ⟨rfl,V6,h6,k6⟩;have k8:=(KW.of_below dO).trans k6;obtain⟨⟨y0,y1,y2,y3,y4⟩,-⟩:=(fC.out w6 (IZ.out.trans k8)).five;refine⟨_,rfl,fun _=>⟨y0,y1,y2,y3,y4⟩,?_⟩;simp only[Act.put,sA,sZ,sC];refine iU ?_;have aO:Hid (uT E G mk q2 s wm w6 A n c):=kH ⟨⟨V6,h6⟩,k8,pV.out.kw k8 rfl ⟨_,jv.out.blk⟩,mF.out,hnc⟩;clear h6 k6 k8 hb4 dO Du qd hS0 hd1 y0 y1 y2 y3 y4;go_wp2_with fail
      go_meet
      exact⟨A,n,c,rfl,rfl,aO⟩
     | true=>
      have hxx:x=⟨#[105,110,116]⟩\/x=⟨#[98,111,111,108]⟩:=by
       unfold dJ at hsc;simpa using hsc
      have hs1:s=s1:=by rw[<- xC.out,<- qO.out];rfl
      have hq2:q1=q2:=by rw[<- xD.out,<- qO.out];exact(Q9 (by decide) (fun _=>hsc)).symm
      have how:o=ow:=by rw[<- HOW.out];rfl
      subst hs1;subst how;subst hq2;have aO:Hid (uT E G mk q1 s wm wm A n c):=kH ⟨⟨V1,jv.out⟩,KW.refl _ _,pV.out,mF.out,hnc⟩;clear hsc;rcases hxx with rfl|rfl
      ·go_wp2_with fail
       go_meet
       exact⟨A,n,c,rfl,rfl,aO⟩
      ·go_wp2_with fail
       go_meet
       exact⟨A,n,c,rfl,rfl,aO⟩
   by_cases hk7:k=7
   ·subst hk7
    as_aux_lemma=>
     have hcall:=ve E G mk q1 V1 wm jv.out iC.out.1 iC.out.2.1 iC.out.2.2.2.2.1 iC.out.2.2.1 EY.out A n c s pV.out mF.out hnc M0 iC.out.2.2.2.2.2.1 3 o T At ct;have AB:T.kind=7:=by rw[<- qO.out];rfl
     have hq2:(fK G q1 s T 3 o).1=q2:=by rw[<- xD.out];exact((rW G q1 s T o).2.2 (.inl AB)).symm
     have hs1:(fK G q1 s T 3 o).2=s1:=by rw[<- xC.out];exact(nS G q1 s T 3 o (by rw[AB];decide)).symm
     have how:o=ow:=by rw[<- HOW.out];rfl
     rw[vB.out,hq2,hs1]at hcall;subst how;have HC:=kH hcall;clear hcall hq2 hs1 AB;go_wp2_with fail
     refine HC.out.mono ?_;rintro e6 w6 ⟨A6,n6,c6,rfl,zl,hc6,BJ,V6,h6,k6⟩;have aO:Hid (uT E G mk q2 s1 wm w6 A6 n6 c6):=kH ⟨⟨V6,h6⟩,k6,BJ,zl,hc6⟩;clear zl hc6 BJ h6 k6 HC;go_wp2_with fail
     go_meet
     exact⟨A6,n6,c6,rfl,rfl,aO⟩
   by_cases AJ:k=8
   ·subst AJ
    as_aux_lemma=>
     have hcall:=ve E G mk q1 V1 wm jv.out iC.out.1 iC.out.2.1 iC.out.2.2.2.2.1 iC.out.2.2.1 EY.out A n c s pV.out mF.out hnc M0 iC.out.2.2.2.2.2.1 3 o T At ct;have AB:T.kind=8:=by rw[<- qO.out];rfl
     have hq2:(fK G q1 s T 3 o).1=q2:=by rw[<- xD.out];exact((rW G q1 s T o).2.2 (.inr AB)).symm
     have hs1:(fK G q1 s T 3 o).2=s1:=by rw[<- xC.out];exact(nS G q1 s T 3 o (by rw[AB];decide)).symm
     have how:o=ow:=by rw[<- HOW.out];rfl
     rw[vB.out,hq2,hs1]at hcall;subst how;have HC:=kH hcall;clear hcall hq2 hs1 AB;go_wp2_with fail
     refine HC.out.mono ?_;rintro e6 w6 ⟨A6,n6,c6,rfl,zl,hc6,BJ,V6,h6,k6⟩;have aO:Hid (uT E G mk q2 s1 wm w6 A6 n6 c6):=kH ⟨⟨V6,h6⟩,k6,BJ,zl,hc6⟩;clear zl hc6 BJ h6 k6 HC;go_wp2_with fail
     go_meet
     exact⟨A6,n6,c6,rfl,rfl,aO⟩
   by_cases pO:k=12
   ·subst pO
    as_aux_lemma=>
     have hcall:=ve E G mk q1 V1 wm jv.out iC.out.1 iC.out.2.1 iC.out.2.2.2.2.1 iC.out.2.2.1 EY.out A n c s pV.out mF.out hnc M0 iC.out.2.2.2.2.2.1 4 o T At ct;have AB:T.kind=12:=by rw[<- qO.out];rfl
     have hq2:(fK G q1 s T 4 o).1=q2:=by rw[<- xD.out];exact((rW G q1 s T o).1 AB).symm
     have hs1:(fK G q1 s T 4 o).2=s1:=by rw[<- xC.out];exact(nS G q1 s T 4 o (by rw[AB];decide)).symm
     have how:o=ow:=by rw[<- HOW.out];rfl
     rw[vB.out,hq2,hs1]at hcall;subst how;have HC:=kH hcall;clear hcall hq2 hs1 AB;go_wp2_with fail
     refine HC.out.mono ?_;rintro e6 w6 ⟨A6,n6,c6,rfl,zl,hc6,BJ,V6,h6,k6⟩;have aO:Hid (uT E G mk q2 s1 wm w6 A6 n6 c6):=kH ⟨⟨V6,h6⟩,k6,BJ,zl,hc6⟩;clear zl hc6 BJ h6 k6 HC;go_wp2_with fail
     go_meet
     exact⟨A6,n6,c6,rfl,rfl,aO⟩
   by_cases pM:k=16
   ·subst pM
    as_aux_lemma=>
     have hcall:=ve E G mk q1 V1 wm jv.out iC.out.1 iC.out.2.1 iC.out.2.2.2.2.1 iC.out.2.2.1 EY.out A n c s pV.out mF.out hnc M0 iC.out.2.2.2.2.2.1 5 o T At ct;have AB:T.kind=16:=by rw[<- qO.out];rfl
     have hq2:(fK G q1 s T 5 o).1=q2:=by rw[<- xD.out];exact((rW G q1 s T o).2.1 AB).symm
     have hs1:(fK G q1 s T 5 o).2=s1:=by rw[<- xC.out];exact(nS G q1 s T 5 o (by rw[AB];decide)).symm
     have how:o=ow:=by rw[<- HOW.out];rfl
     rw[vB.out,hq2,hs1]at hcall;subst how;have HC:=kH hcall;clear hcall hq2 hs1 AB;go_wp2_with fail
     refine HC.out.mono ?_;rintro e6 w6 ⟨A6,n6,c6,rfl,zl,hc6,BJ,V6,h6,k6⟩;have aO:Hid (uT E G mk q2 s1 wm w6 A6 n6 c6):=kH ⟨⟨V6,h6⟩,k6,BJ,zl,hc6⟩;clear zl hc6 BJ h6 k6 HC;go_wp2_with fail
     go_meet
     exact⟨A6,n6,c6,rfl,rfl,aO⟩
   have hs1:s=s1:=by rw[<- xC.out,<- qO.out];exact(Zc (by omega)).symm
   have hq2:q1=q2:=by rw[<- xD.out,<- qO.out];exact(Q9 (by omega) (fun e=>absurd e vU)).symm
   have how:o=ow:=by rw[<- HOW.out,if_neg (by omega)]
   subst hs1;subst how;subst hq2;have aO:Hid (uT E G mk q1 s wm wm A n c):=kH ⟨⟨V1,jv.out⟩,KW.refl _ _,pV.out,mF.out,hnc⟩;go_wp2_with fail
   go_meet
   exact⟨A,n,c,rfl,rfl,aO⟩
  case rest=>
   obtain⟨A1,n1,c1,rfl,rfl,HD⟩:=hcut;obtain⟨wh,rfl⟩:∃wh:World,wh=wc:=⟨_,rfl⟩
   have hkh:KW E W1 wh:=IZ.out.trans HD.out.K;have HKH:=kH hkh;have Dt:Hid (KW E w wh):=kH ((KW.of_below HB1.out).trans hkh);clear hkh t0 t1 t2 t3 t4 lt' lrm;go_wp2_with fail
   go_loopg [12,13,14] nk (fun gk s12 s13 _ wr=> ∃(i:Nat) (A3:Option Addr) (n3 c3:Nat) (si:List Nat) (qi:RW),s13= .int .i64 (i:Int)/\i+gk=nk/\s12= .slice A3 n3 c3/\Hid (LpAt E G mk k s1 kids ow s q2 wh i si qi A3 n3 c3 wr))
   case atStart=>
    refine⟨0,A,n,c,s,q2,rfl,by omega,rfl,kH ⟨HD.out.V,KW.refl _ _,pV.out.kw HD.out.K rfl ⟨_,jv.out.blk⟩,mF.out,hnc,rfl,?_,?_,?_,?_,kR.out.2.2.2.2.1,kR.out.2.2.2.2.2⟩⟩
    ·rw[kR.out.2.2.2.1];exact kR.out.1
    ·rw[kR.out.2.2.2.1];exact kR.out.2.1
    ·have h1:=vw.out.us
     rw[au,qP.out]at h1;rw[kR.out.2.2.2.1,kR.out.2.2.1,List.drop_zero];omega
    ·rw[kR.out.2.2.1];exact vw.out.most
   case round=>
    obtain⟨i,A3,n3,c3,si,qi,rfl,hin,rfl,HL⟩:=hrel;have hib:i<=nk:=by omega
    have rH:=kH hin;have hkr:KW E W1 wr:=HKH.out.trans HL.out.K;have HKR:=kH hkr;have hNr:=fC.out _ hkr;obtain⟨⟨t0,t1,t2,t3,t4⟩,-⟩:=hNr.five;have lt':=hNr.lt;clear hin hkr hNr;by_cases hlt:i<nk
    ·obtain⟨kt,hkt⟩:∃z,kids[i]? =some z:=⟨_,abI (by rw[fQ.out];exact hlt)⟩
     have hmem:=abQ hkt
     have hdrop:kids.drop i=kt::kids.drop (i+1):=by
      rw[List.drop_eq_getElem_cons (by rw[fQ.out];exact hlt)];rw[abI (by rw[fQ.out];exact hlt)]at hkt;rw[Option.some.inj hkt]
     obtain⟨vals,⟨b,off,hA,hbl,hcs⟩,hTz⟩:=HK.out.get i kt hkt;rw[Nat.zero_add]at hcs;obtain⟨Az,cz,lQ,hKz⟩:=hTz.five;subst hA;subst lQ;have hcz:=hTz.cap;obtain⟨kz,xz,az,ez,zn,hkz,hxz,haz,hez,hzn,hnz⟩:=fq kt Az cz;rw[hkz,hxz,haz,hez,hzn]at hcs;obtain⟨Vi,hi⟩:=HL.out.V;obtain⟨ni,hni⟩:∃z,qi.num=z:=⟨_,rfl⟩
     obtain⟨A4,n4,c4,s4,hs4,h4r,h4l,h4c,h4o,YQ,YR⟩:∃(A4:Option Addr) (n4 c4:Nat) (s4:List Nat),(if k=16/\i=2 then s1 else si)=s4/\gK wr (E.uA.map (·.block)) A4 s4/\s4.length=n4/\n4<=c4/\oJ s4 qi/\((decide (k=16)&&decide (i=2))=true->A4=A1/\n4=n1/\c4=c1)/\((decide (k=16)&&decide (i=2))=false->A4=A3/\n4=n3/\c4=c3):=by
      by_cases hc:k=16/\i=2
      ·refine⟨A1,n1,c1,s1,if_pos hc,HD.out.S.kw HL.out.K rfl ?_,HD.out.len,HD.out.cap,HL.out.ok1,fun _=>⟨rfl,rfl,rfl⟩,fun h=>absurd h (by simp[hc])⟩
       obtain⟨Vh,hh⟩:=HD.out.V;exact⟨_,hh.blk⟩
      ·exact⟨A3,n3,c3,si,if_neg hc,HL.out.S,HL.out.len,HL.out.cap,HL.out.oki,fun h=>absurd (by simpa using h) hc,fun _=>⟨rfl,rfl,rfl⟩⟩
     have hrun:=HL.out.run;rw[hdrop,dQ]at hrun;try simp only at hrun
     rw[hs4]at hrun;have mK:=HL.out.us;rw[hdrop,aG]at mK;have h5:=hi.num_ (ni+1);rw[show((ni+1:Nat):Int)=(ni:Int)+1 by omega]at h5;obtain⟨q5,QT⟩:∃z,({ qi with num:=ni+1 }:RW)=z:=⟨_,rfl⟩
     have QR:q5.num=ni+1:=by rw[<- QT]
     have QS:q5.ds=qi.ds:=by rw[<- QT]
     have aau:q5.list=qi.list:=by rw[<- QT]
     have Ws:q5.uses=qi.uses:=by rw[<- QT]
     rw[hni,QT]at hrun;rw[QT]at h5;have hk5:=Yi E wr 4 (.int .i64 ((ni:Int)+1));have c4r:wr.cell? ⟨E.rp,4,none⟩=some (.int .i64 (ni:Int)):=by rw[<- hni];exact hi.blk.cell 4
     have f4r:=hi.blk.frozen 4;have lrr:=hi.blk.lt;obtain⟨W5,jk⟩:∃z,wr.setCell ⟨E.rp,4,none⟩ (.int .i64 ((ni:Int)+1))=z:=⟨_,rfl⟩
     rw[jk]at h5 hk5;have aaD:KW E wh W5:=HL.out.K.trans hk5;have aaC:KW E w W5:=Dt.out.trans aaD;have hlow:Below B w W5:=(aaC.low H.out).mono hB;have aa2:gK W5 (E.uA.map (·.block)) A4 s4:=h4r.kw hk5 rfl ⟨_,hi.blk⟩
     have QQ:Xe G q5 s4 kt:=by
      refine⟨?_,?_,?_,?_,vw.out.gl,vw.out.nodes,?_,fun y hy=>vw.out.WR y ?_⟩
      ·rw[QR,QS,<- hni];exact HL.out.ds
      ·rw[QR,aau,<- hni];exact HL.out.li
      ·rw[QR,Ws,<- hni];omega
      ·rw[Ws];exact HL.out.most
      ·unfold oJ
       rw[QS];exact h4o
      ·rw[bY]
       exact List.mem_cons_of_mem _ (NA hmem hy)
     have hcall:=fD.out kt hmem ow s4 q5 Vi W5 A4 n4 c4 Az cz h5 aa2 h4l h4c (aK.below hlow (abE _) _ _ _ hKz) hcz QQ (abF dC.out aaC.size);rw[hnz]at hcall;have hstp:=Dx G mk kt ow s4 q5;obtain⟨R,hR⟩:∃z,bQ G mk kt ow s4 q5=z:=⟨_,rfl⟩
     rw[hR]at hcall hrun hstp;have jo:=kH hcall;have HSTP:=kH hstp;have vM:=kH hrun;have qd:=kH mK;have H4:Hid (gK W5 (E.uA.map (·.block)) A4 s4/\s4.length=n4/\n4<=c4/\oJ s4 q5):=kH ⟨aa2,h4l,h4c,QQ.PD⟩;have H5:=kH h5;have xL:=kH aaD;have HQ5:Hid (q5.num=ni+1/\q5.ds=qi.ds/\q5.list=qi.list/\q5.uses=qi.uses/\qi.num=ni/\oJ s1 q5):=kH ⟨QR,QS,aau,Ws,hni,by unfold oJ;rw[QS];exact HL.out.ok1⟩;have hni0:ni<=1000000:=by have:=HL.out.most;omega
     have aaH:(i:Int)<(nk:Int):=by omega
     have hw1:IntKind.i64.wrap ((ni:Int)+1)=(ni:Int)+1:=IntWalk.i64_in _ (by omega);have hw2:IntKind.i64.wrap ((i:Int)+1)=(i:Int)+1:=IntWalk.i64_in _ (by omega);have hi0:¬((i:Int)<0):=by omega
     have Bo:Hid (∀j v,[Value.int .i64 kz,.string xz,.int .i64 az,.int .i64 ez,.slice Az zn cz][j]? =some v->W5.cell? ⟨b,off+i*5+j,none⟩=some v):=kH fun j v hj=>(hlow.cell (p:=⟨b,_,none⟩) hbl).trans (hcs j v hj)
     have IX:=kH (fC.out W5 (HKR.out.trans hk5));clear hkt hmem hdrop hcs hTz hKz hcz hkz hxz haz hez hzn hnz hi hni hs4 h4r h4l h4c h4o hrun mK h5 QT QR QS aau Ws hk5 aaD aaC hlow aa2 QQ hcall hstp hR hbl;obtain⟨cb,hcb⟩:∃z,(decide (k=16)&&decide (i=2))=z:=⟨_,rfl⟩
     rw[hcb]at YQ YR;have Dv:=kH hcb;clear hcb;go_upto_region 39 with fail
     go_cut [152] (fun s152 wx=>s152= .bool cb/\wx=wr)
     case first=>
      by_cases hc1:k=16
      ·by_cases hc2:i=2
       ·have hc:cb=true:=by rw[<- Dv.out];simp[hc1,hc2]
        subst hc;subst hc1;subst hc2;go_wp2_with fail
        go_meet
        exact⟨rfl,rfl⟩
       ·have hc:cb=false:=by rw[<- Dv.out];simp[hc2]
        have hc2i:¬(i:Int)=2:=by omega
        have hc2b:((i:Int)==2)=false:=by simpa using hc2i
        subst hc;subst hc1;clear hc2;go_wp2_with fail
        go_meet
        exact⟨rfl,rfl⟩
      ·have hc:cb=false:=by rw[<- Dv.out];simp[hc1]
       have hc1b:(k==16)=false:=by simpa using hc1
       subst hc;go_wp2_with fail
       go_meet
       exact⟨rfl,rfl⟩
     case rest=>
     obtain⟨rfl,rfl⟩:=hcut;go_upto_if 152 with fail
     go_cut [12] (fun s12 wx=>s12= .slice A4 n4 c4/\wx=wc)
     case first=>
      cases cb with
      | true=>
       obtain⟨rfl,rfl,rfl⟩:=YQ rfl;clear YQ YR;go_wp2_with fail
       go_meet
       exact⟨rfl,rfl⟩
      | false=>
       obtain⟨rfl,rfl,rfl⟩:=YR rfl;clear YQ YR;go_wp2_with fail
       go_meet
       exact⟨rfl,rfl⟩
     case rest=>
      obtain⟨rfl,rfl⟩:=hcut;clear YQ YR;go_upto_region 42 with(rw[jk])
      clear t0 t1 t2 t3 t4 lt' c4r f4r lrr jk;obtain⟨⟨t0,t1,t2,t3,t4⟩,-⟩:=IX.out.five;have lt':=IX.out.lt;have z0:W5.cell? ⟨b,off+i*5,none⟩=some (.int .i64 kz):=by simpa using Bo.out 0 _ rfl
      have z1:W5.cell? ⟨b,off+i*5+1,none⟩=some (.string xz):=Bo.out 1 _ rfl;have z2:W5.cell? ⟨b,off+i*5+2,none⟩=some (.int .i64 az):=Bo.out 2 _ rfl;have z3:W5.cell? ⟨b,off+i*5+3,none⟩=some (.int .i64 ez):=Bo.out 3 _ rfl;have z4:W5.cell? ⟨b,off+i*5+4,none⟩=some (.slice Az zn cz):=Bo.out 4 _ rfl;go_wp2_with fail
      refine jo.out.mono ?_;rintro e6 w6 ⟨A6,n6,c6,rfl,zl,hc6,BJ,V6,h6,k6⟩;have YD:KW E wh w6:=xL.out.trans k6;have IC:=fC.out w6 (HKH.out.trans YD);have hrow4:=H4.out.1.kw k6 rfl ⟨_,H5.out.blk⟩
      have zO:Hid (∀(A7:Option Addr) (n7 c7:Nat) (s7:List Nat),(if k=5\/k=6\/k=11 then R.2 else s4)=s7->gK w6 (E.uA.map (·.block)) A7 s7->s7.length=n7->n7<=c7->Hid (LpAt E G mk k s1 kids ow s q2 wh (i+1) s7 R.1 A7 n7 c7 w6)):=kH fun A7 n7 c7 s7 e7 r7 l7 p7=>by
       obtain⟨g1,g2,g3⟩:=HSTP.out;obtain⟨e1,e2,e3,e4,e5,e6⟩:=HQ5.out;have b1:=g1.Og;have b2:=g1.li;have b3:=g1.us;have b4:=HL.out.ds;have b5:=HL.out.li;have b6:=qd.out;rw[e2]at b1;rw[e3]at b2;rw[e4]at b3;rw[e1]at g2;refine kH ⟨⟨V6,h6⟩,YD,r7,l7,p7,?_,by omega,by omega,by rw[b3];omega,by rw[b3];exact HL.out.most,e6.mono g1,?_⟩
       ·rw[<- e7]
        exact vM.out
       ·rw[<- e7]
        split
        ·exact g3 H4.out.2.2.2
        ·exact H4.out.2.2.2.mono g1
      have HR6:Hid (gK w6 (E.uA.map (·.block)) A6 R.2/\R.2.length=n6/\n6<=c6):=kH ⟨BJ,zl,hc6⟩;have HR4:Hid (gK w6 (E.uA.map (·.block)) A4 s4/\s4.length=n4/\n4<=c4):=kH ⟨hrow4,H4.out.2.1,H4.out.2.2.1⟩;clear t0 t1 t2 t3 t4 lt' z0 z1 z2 z3 z4 zl hc6 BJ h6 k6 YD hrow4 jo;obtain⟨⟨t0,t1,t2,t3,t4⟩,-⟩:=IC.five;have lt':=IC.lt;clear IC;by_cases DY:k=5\/k=6\/k=11
      ·have xE:=kH (zO.out A6 n6 c6 R.2 (if_pos DY) HR6.out.1 HR6.out.2.1 HR6.out.2.2)
       clear zO;rcases DY with rfl|rfl|rfl
       all_goals
        go_wp2_with fail
        go_roundg (gk - 1)
        case measure=>have:=rH.out;omega
        case rel=>exact⟨i+1,A6,n6,c6,R.2,R.1,by simp,by have:=rH.out;omega,rfl,xE.out⟩
      ·have xE:=kH (zO.out A4 n4 c4 s4 (if_neg DY) HR4.out.1 HR4.out.2.1 HR4.out.2.2)
       have b5:(k==5)=false:=by simpa using fun e=>DY (.inl e)
       have b6:(k==6)=false:=by simpa using fun e=>DY (.inr (.inl e))
       have b11:(k==11)=false:=by simpa using fun e=>DY (.inr (.inr e))
       clear zO DY;go_wp2_with fail
       go_roundg (gk - 1)
       case measure=>have:=rH.out;omega
       case rel=>exact⟨i+1,A4,n4,c4,s4,R.1,by simp,by have:=rH.out;omega,rfl,xE.out⟩
    ·have hie:i=nk:=by omega
     subst hie;have hrun:=HL.out.run;rw[List.drop_of_length_le (by rw[fQ.out];exact abE _),dQ]at hrun
     have aO:Hid (∀(A7:Option Addr) (n7 c7:Nat),(if k=6 then A7=A3/\n7=n3/\c7=c3 else if k=7\/k=8\/k=12 then A7=A1/\n7=n1/\c7=c1 else A7=A/\n7=n/\c7=c)->Q.2.length=n7/\n7<=c7/\gK wr (E.uA.map (·.block)) A7 Q.2/\(∃V',dL E G mk Q.1 V' wr)/\KW E w wr):=kH fun A7 n7 c7 h7=>by
      obtain⟨Vi,hi⟩:=HL.out.V;obtain⟨Vh,hh⟩:=HD.out.V;rw[<- HQ.out.1,HQ.out.2,<- hrun];have hV:(∃V',dL E G mk qi V' wr)/\KW E w wr:=⟨⟨Vi,hi⟩,Dt.out.trans HL.out.K⟩
      split at h7
      ·rename_i h6
       obtain⟨rfl,rfl,rfl⟩:=h7;rw[if_pos h6];exact⟨HL.out.len,HL.out.cap,HL.out.S,hV⟩
      ·rename_i h6
       rw[if_neg h6];split at h7
       ·rename_i BP
        obtain⟨rfl,rfl,rfl⟩:=h7;rw[if_pos BP];exact⟨HD.out.len,HD.out.cap,HD.out.S.kw HL.out.K rfl ⟨_,hh.blk⟩,hV⟩
       ·rename_i BP
        obtain⟨rfl,rfl,rfl⟩:=h7;rw[if_neg BP];exact⟨mF.out,hnc,(pV.out.kw HD.out.K rfl ⟨_,jv.out.blk⟩).kw HL.out.K rfl ⟨_,hh.blk⟩,hV⟩
     clear hrun;by_cases h6:k=6
     ·have HE:=kH (aO.out A3 n3 c3 (by rw[if_pos h6];exact⟨rfl,rfl,rfl⟩))
      clear aO;subst h6;go_wp2_with fail
      go_ret
      exact⟨A3,n3,c3,rfl,HE.out⟩
     ·have b6:(k==6)=false:=by simpa using h6
      by_cases BP:k=7\/k=8\/k=12
      ·have HE:=kH (aO.out A1 n1 c1 (by rw[if_neg h6,if_pos BP];exact⟨rfl,rfl,rfl⟩))
       clear aO h6;rcases BP with rfl|rfl|rfl
       all_goals
        go_wp2_with fail
        go_ret
        exact⟨A1,n1,c1,rfl,HE.out⟩
      ·have HE:=kH (aO.out A n c (by rw[if_neg h6,if_neg BP];exact⟨rfl,rfl,rfl⟩))
       have b7:(k==7)=false:=by simpa using fun e=>BP (.inl e)
       have b8:(k==8)=false:=by simpa using fun e=>BP (.inr (.inl e))
       have b12:(k==12)=false:=by simpa using fun e=>BP (.inr (.inr e))
       clear aO h6 BP;go_wp2_with fail
       go_ret
       obtain⟨e1,e2,e3,⟨V',e4⟩,e5⟩:=HE.out;exact⟨A,n,c,rfl,e1,e2,e3,V',e4,e5⟩
end Go.Proofs.YtoepemlnlpamlaaGreat
