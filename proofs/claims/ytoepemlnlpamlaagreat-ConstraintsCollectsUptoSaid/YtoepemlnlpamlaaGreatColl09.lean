/- Collect agrees with the reference. Part 9: Col6 Wlk1 RwW Wlk2 Wlk3 Wlk4. -/
import Derived.Test.YtoepemlnlpamlaaGreatColl08
set_option maxRecDepth 100000
set_option maxHeartbeats 4000000
namespace Go.Proofs.YtoepemlnlpamlaaGreat
open Go.RowKit
def fV(v:Int)(tk tl:Int)(tr:ByteArray)(z:ae):bD:=⟨0,v,0,tk,tl,tr,z.at_,z.end_⟩
def j4(v u:Int)(z:ae):bD:=⟨1,v,u,0,0,⟨#[]⟩,z.at_,z.end_⟩
theorem abF(E:CE)(out:List bD)(nx rs:Int)(w:World)(h:PC E out nx rs w)(hN:out.length+2<=1000000)(S:E.base<=w.heap.size)(p4 p7 p5:Nat)(V:Option Addr)(P vc:Nat)(k:Int)(x:ByteArray)(a z:Int)(A:Option Addr)(n c:Nat)(h4:ah w p4 113 #[.pointer (some ⟨E.cb,0,none⟩)])(h7:ah w p7 28 #[.slice V P vc])(h5:ah w p5 24 #[.int .i64 k,.string x,.int .i64 a,.int .i64 z,.slice A n c])
 (B:Nat) (hB:B<=w.heap.size) (YK:B<=E.cb) (ay:B<=E.base) (L:List ae) (hk:aD w B A 0 L) (bl:L.length=n) (l:List Int) (lo:Nat) (hO:aG w lo 3 1 (.slice V P vc) P (bL l)) (Y u:Int) (b6:l[0]? =some Y) (al:l[1]? =some u) (u0 u1:ae) (ba:L[0]? =some u0) (au:L[1]? =some u1) (M N:Int) (O:ByteArray):
 Calls Tryz.prog 177 #[.agg #[.int .i64 M,.int .i64 N,.string O],.pointer (some ⟨p4,0,none⟩),.pointer (some ⟨p7,0,none⟩),.pointer (some ⟨p5,0,none⟩)] w fun e w'=>e= .returned (.tuple #[])/\PC E (out++[fV Y M N O u0,fV u M N O u1]) nx rs w'/\CX E.base E.cb w w':=by
 obtain⟨bh,⟨C,D,ax,U,j⟩,b2⟩:=hk.get 0 u0 ba;obtain⟨A0,c0,bX,-⟩:=b2.five;subst bX;obtain⟨k0,x0,a0,z0,n0,b4,r,a8,av,b7,-⟩:=aW u0 A0 c0;rw[b4,r,a8,av,b7]at j;obtain⟨bj,⟨b1,o1,f,ab,H⟩,I⟩:=hk.get 1 u1 au;obtain⟨A1,c1,bZ,-⟩:=I.five;subst bZ;obtain⟨k1,x1,a1,z1,n1,b5,m,aa,aw,b8,-⟩:=aW u1 A1 c1;rw[b5,m,aa,aw,b8]at H;have a6:C=b1/\D=o1:=by rw[ax]at f;simpa using f
 obtain⟨rfl,rfl⟩:=a6;have c4:l.length=P:=by have:=hO.1;rw[Nat.mul_one]at this;unfold bL at this;rw[List.length_map]at this;exact this
 have c2:2<=P:=by have:=(acg.1 al).1;omega
 have bm:2<=n:=by have:=(acg.1 au).1;omega
 obtain⟨K,R,vq,bb,-,-,-,MM,Lf⟩:=hO.form (by omega);simp only[Value.slice.injEq,true_and]at bb;obtain⟨rfl,rfl⟩:=bb;have bc:w.cell? ⟨K,R,none⟩=some (.int .i64 Y):=by simpa using Lf 0 (.int .i64 Y) (by unfold bL;rw[List.getElem?_map,b6];rfl)
 have bd:w.cell? ⟨K,R+1,none⟩=some (.int .i64 u):=Lf 1 (.int .i64 u) (by unfold bL;rw[List.getElem?_map,al];rfl);have EO:E.cb<w.heap.size:=by obtain⟨oA,oc,Z,-⟩:=h;exact Z.lt
 have b9:p4≠E.cb:=by obtain⟨oA,oc,Z,-⟩:=h;exact h4.ne_of Z (by decide)
 have FP:p7≠E.cb:=by obtain⟨oA,oc,Z,-⟩:=h;exact h7.ne_of Z (by decide)
 have sV:p5≠E.cb:=by obtain⟨oA,oc,Z,-⟩:=h;exact h5.ne_of Z (by decide)
 have dH:(Value.slice (some (⟨K,R,none⟩:Addr)) P vc).ownBlock≠some E.cb:=by obtain⟨oA,oc,Z,-⟩:=h;exact hO.bB Z (by decide)
 subst ax;obtain⟨T, bN⟩:=ag w.heap.size;obtain⟨X, a7⟩:=ag (w.alloc (.cells #[.int .i64 M,.int .i64 N,.string O] 108));have F:Below w.heap.size w X:=by rw[<- a7];exact ai _ _
 have I:ah X T 108 #[.int .i64 M,.int .i64 N,.string O]:=by rw[<- a7,<- bN];exact ah.new _ _ _
 have y:T≠E.cb:=by omega
 have fE:∀W,CX E.base E.cb X W->W.cell? ⟨p4,0,none⟩=some (.pointer (some ⟨E.cb,0,none⟩))/\W.cell? ⟨p7,0,none⟩=some (.slice (some ⟨K,R,none⟩) P vc)/\W.cell? ⟨p5,4,none⟩=some (.slice (some ⟨C,D,none⟩) n c)/\W.cell? ⟨T,0,none⟩=some (.int .i64 M)/\W.cell? ⟨T,1,none⟩=some (.int .i64 N)/\W.cell? ⟨T,2,none⟩=some (.string O)/\W.cell? ⟨K,R,none⟩=some (.int .i64 Y)/\W.cell? ⟨K,R+1,none⟩=some (.int .i64 u)/\W.cell? ⟨C,D,none⟩=some (.int .i64 k0)/\W.cell? ⟨C,D+1,none⟩=some (.string x0)/\W.cell? ⟨C,D+2,none⟩=some (.int .i64 a0)/\W.cell? ⟨C,D+3,none⟩=some (.int .i64 z0)/\W.cell? ⟨C,D+4,none⟩=some (.slice A0 n0 c0)/\W.cell? ⟨C,D+5,none⟩=some (.int .i64 k1)/\W.cell? ⟨C,D+5+1,none⟩=some (.string x1)/\W.cell? ⟨C,D+5+2,none⟩=some (.int .i64 a1)/\W.cell? ⟨C,D+5+3,none⟩=some (.int .i64 z1)/\W.cell? ⟨C,D+5+4,none⟩=some (.slice A1 n1 c1):=fun W t=>by
  have Q:∀(g o:Nat) (v:Value),g<B->w.cell? ⟨g,o,none⟩=some v->W.cell? ⟨g,o,none⟩=some v:=fun g o v hg hc=>((t.low (aca hB F.size) YK ay).cell (p:=⟨g,o,none⟩) hg).trans ((F.cell (p:=⟨g,o,none⟩) (by show g<w.heap.size;omega)).trans hc)
  have q4:=h4.below F h4.lt;have q7:=h7.below F h7.lt;have q5:=h5.below F h5.lt;have qO:=hO.below F (fun g hg=>(hO.lt g hg).2);have ev:∀o v,w.cell? ⟨K,o,none⟩=some v->W.cell? ⟨K,o,none⟩=some v:=fun o v hc=>(t.Ev qO (by decide) dH o).trans ((F.cell (p:=⟨K,o,none⟩) MM).trans hc)
  exact⟨(t.cell q4 (by decide) b9 0).trans (q4.cell 0),(t.cell q7 (by decide) FP 0).trans (q7.cell 0),(t.cell q5 (by decide) sV 4).trans (q5.cell 4),(t.cell I (by decide) y 0).trans (I.cell 0),(t.cell I (by decide) y 1).trans (I.cell 1),(t.cell I (by decide) y 2).trans (I.cell 2),ev _ _ bc,ev _ _ bd,Q _ _ _ U (by simpa using j 0 _ rfl),Q _ _ _ U (by simpa using j 1 _ rfl),Q _ _ _ U (by simpa using j 2 _ rfl),Q _ _ _ U (by simpa using j 3 _ rfl),Q _ _ _ U (by simpa using j 4 _ rfl),Q _ _ _ U (by simpa using H 0 _ rfl),Q _ _ _ U (by simpa using H 1 _ rfl),Q _ _ _ U (by simpa using H 2 _ rfl),Q _ _ _ U (by simpa using H 3 _ rfl),Q _ _ _ U (by simpa using H 4 _ rfl)⟩
 have bP:=kH fE;have HP:=kH (h.below F);have bk:=kH F;have HL:Hid (out.length+2<=1000000/\E.base<=X.heap.size/\u0.at_=a0/\u0.end_=z0/\u1.at_=a1/\u1.end_=z1):=kH ⟨hN,aca S F.size,a8,av,aa,aw⟩;have c5:(0:Int)<(P:Int):=by omega
 have c6:(1:Int)<(P:Int):=by omega
 have bn:(0:Int)<(n:Int):=by omega
 have bo:(1:Int)<(n:Int):=by omega
 have c7:0<P:=by omega
 have c8:1<P:=by omega
 have bp:0<n:=by omega
 have br:1<n:=by omega
 clear h hN S h4 h7 h5 hB YK ay hk bl hO b6 al ba au f U ab j H b2 I bc bd EO b9 FP sV dH c4 c2 bm MM Lf F y fE b4 r a8 av b7 b5 m aa aw b8;go_in
 go_wp2_with fail
 clear a7;have ad:CX E.base E.cb X X.drew:=CX.of_below ((Below.refl _ _).drew);have J:=bP.out _ ad;refine bF (fun W=>W.cell? ⟨p4,0,none⟩=some (.pointer (some ⟨E.cb,0,none⟩))/\W.cell? ⟨p7,0,none⟩=some (.slice (some ⟨K,R,none⟩) P vc)/\W.cell? ⟨p5,4,none⟩=some (.slice (some ⟨C,D,none⟩) n c)/\W.cell? ⟨T,0,none⟩=some (.int .i64 M)/\W.cell? ⟨T,1,none⟩=some (.int .i64 N)/\W.cell? ⟨T,2,none⟩=some (.string O)/\W.cell? ⟨K,R,none⟩=some (.int .i64 Y)/\W.cell? ⟨K,R+1,none⟩=some (.int .i64 u)/\W.cell? ⟨C,D,none⟩=some (.int .i64 k0)/\W.cell? ⟨C,D+1,none⟩=some (.string x0)/\W.cell? ⟨C,D+2,none⟩=some (.int .i64 a0)/\W.cell? ⟨C,D+3,none⟩=some (.int .i64 z0)/\W.cell? ⟨C,D+4,none⟩=some (.slice A0 n0 c0)/\W.cell? ⟨C,D+5,none⟩=some (.int .i64 k1)/\W.cell? ⟨C,D+5+1,none⟩=some (.string x1)/\W.cell? ⟨C,D+5+2,none⟩=some (.int .i64 a1)/\W.cell? ⟨C,D+5+3,none⟩=some (.int .i64 z1)/\W.cell? ⟨C,D+5+4,none⟩=some (.slice A1 n1 c1)) [] [true,true,true,true,true,true,true,true,true,false] (by kernel_rfl) (by kernel_rfl) rfl (by kernel_rfl) ?_;iterate 9((first|(refine dU (by rfl) J ?_)|(refine bC (by rfl) J (by intro w' b;obtain⟨bs,bt,bu,bw,bx,bG,bI,bM,uK,I8,xZ,JQ,QF,MR,an,ao,aq,ar⟩:=b;go_simp;rfl) ?_));simp only[Act.put,sA,sZ,sC])
 refine dG (by rfl) (by go_simp) ((oh E out nx rs X.drew (HP.out.below ((Below.refl _ _).drew)) (by have:=HL.out;omega) HL.out.2.1 Y M N O k0 x0 a0 z0 A0 n0 c0).mono ?_);rintro e2 w2 ⟨rfl,az,b3⟩;have J2:CX E.base E.cb X w2:=ad.trans b3;have aE:=bP.out _ J2;refine⟨_,rfl,fun _=>aE,?_⟩;simp only[Act.put,sA,sZ,sC];refine fT ?_;have zC:=kH az;have gP:=kH J2;clear J ad az b3 J2 aE;go_wp2_with fail
 have af:CX E.base E.cb X w2.drew:=gP.out.trans (CX.of_below ((Below.refl _ _).drew));have J:=bP.out _ af;refine bF (fun W=>W.cell? ⟨p4,0,none⟩=some (.pointer (some ⟨E.cb,0,none⟩))/\W.cell? ⟨p7,0,none⟩=some (.slice (some ⟨K,R,none⟩) P vc)/\W.cell? ⟨p5,4,none⟩=some (.slice (some ⟨C,D,none⟩) n c)/\W.cell? ⟨T,0,none⟩=some (.int .i64 M)/\W.cell? ⟨T,1,none⟩=some (.int .i64 N)/\W.cell? ⟨T,2,none⟩=some (.string O)/\W.cell? ⟨K,R,none⟩=some (.int .i64 Y)/\W.cell? ⟨K,R+1,none⟩=some (.int .i64 u)/\W.cell? ⟨C,D,none⟩=some (.int .i64 k0)/\W.cell? ⟨C,D+1,none⟩=some (.string x0)/\W.cell? ⟨C,D+2,none⟩=some (.int .i64 a0)/\W.cell? ⟨C,D+3,none⟩=some (.int .i64 z0)/\W.cell? ⟨C,D+4,none⟩=some (.slice A0 n0 c0)/\W.cell? ⟨C,D+5,none⟩=some (.int .i64 k1)/\W.cell? ⟨C,D+5+1,none⟩=some (.string x1)/\W.cell? ⟨C,D+5+2,none⟩=some (.int .i64 a1)/\W.cell? ⟨C,D+5+3,none⟩=some (.int .i64 z1)/\W.cell? ⟨C,D+5+4,none⟩=some (.slice A1 n1 c1)) [] [true,true,true,true,true,true,true,true,true,false] (by kernel_rfl) (by kernel_rfl) rfl (by kernel_rfl) ?_;iterate 9((first|(refine dU (by rfl) J ?_)|(refine bC (by rfl) J (by intro w' b;obtain⟨bs,bt,bu,bw,bx,bG,bI,bM,uK,I8,xZ,JQ,QF,MR,an,ao,aq,ar⟩:=b;go_simp;rfl) ?_));simp only[Act.put,sA,sZ,sC])
 refine dG (by rfl) (by go_simp) ((oh E (out++[⟨0,Y,0,M,N,O,a0,z0⟩]) nx rs w2.drew (zC.out.below ((Below.refl _ _).drew)) (by have:=HL.out;rw[acm];simp;omega) (aca HL.out.2.1 gP.out.size) u M N O k1 x1 a1 z1 A1 n1 c1).mono ?_);rintro e3 w3 ⟨rfl,d,Jd⟩;have JZ:CX E.base E.cb X w3:=af.trans Jd;have dQ:=bP.out _ JZ;refine⟨_,rfl,fun _=>dQ,?_⟩;simp only[Act.put,sA,sZ,sC];refine fT ?_
 have bT:Hid (PC E (out++[fV Y M N O u0,fV u M N O u1]) nx rs w3/\CX E.base E.cb w w3):=kH ⟨by
  obtain⟨-,-,Q,e2,e3,e4⟩:=HL.out;unfold fV;rw[Q,e2,e3,e4];rw[List.append_assoc]at d
  exact d,(CX.of_below bk.out).trans JZ⟩
 clear J af d Jd JZ dQ;go_wp2_with fail
 go_end0
 exact⟨rfl,bT.out⟩
end Go.Proofs.YtoepemlnlpamlaaGreat
namespace Go.Proofs.YtoepemlnlpamlaaGreat
structure RW where
 ds:List Dc
 uses:List Int
 list:List Dg
 num:Nat
 at_:List Nat
def nS(l:List Dc)(f:Bool)(x:ByteArray):Option Nat:=l.findIdx? fun d=>(decide (d.kind=1)==f)&&decide (d.name=x)
def vD(out:List Dc)(d:Dc):List Dc:=if (nS out (decide (d.kind=1)) d.name).isSome then out else out++[d]
def gm:List ae->Nat->Int->List Dc->List Dc
 | [],_,_,out=>out
 | t::ts,i,o,out=>gm ts (i+1) (if t.kind=3 then(i:Int) else o)
  (if t.kind=3 then vD out ⟨0,t.text,i,-1⟩ else if t.kind=5 then vD out ⟨2,t.text,i,-1⟩ else if t.kind=4 then vD out ⟨1,t.text,i,o⟩ else out)
def rC(r:RW)(c:Int)(t:ae):RW:={ r with list:=r.list++[⟨c,t.at_,t.end_,t.text⟩] }
def qJ(r:RW)(c:Int)(t:ae)(o:Int):RW:={ r with ds:=r.ds++[⟨c,t.text,r.num,o⟩],uses:=r.uses.set r.num (r.ds.length:Int) }
def nR(ds:List Dc)(s:List Nat)(x:ByteArray):Option Nat:=s.find? fun i=>decide ((ds[i]?).map Dc.name=some x)
def fB(G:List Dc)(r:RW)(s:List Nat)(t:ae)(c o:Int):RW×List Nat:=if (nR r.ds s t.text).isSome || (nS G false t.text).isSome then(rC r 9 t,s) else(qJ r c t o,s++[r.ds.length])
def mD(G:List Dc)(f:Bool)(x:ByteArray):Option Dc:=(nS G f x).bind fun k=>G[k]?
def eO(G:List Dc)(r:RW)(t:ae)(c o:Int):RW:=if (mD G (decide (c=1)) t.text).map Dc.node=some (r.num:Int) then qJ r c t o else rC r 9 t
def qE(r:RW)(t:ae)(o:Option Int):RW:=match o with|none=>rC r 8 t|some n=> { r with uses:=r.uses.set r.num (-2 - n) }
def fq(G:List Dc)(a b:Int)(x:ByteArray):Option Int:=(mD G (decide (a=1)) x).bind fun d=>if d.kind=a\/d.kind=b then some d.node else none
def wL(r:RW)(s:List Nat)(t:ae):RW:=match nR r.ds s t.text with|some k=> { r with uses:=r.uses.set r.num (k:Int) } |none=>rC r 8 t
def j3(G:List Dc)(r:RW)(s:List Nat)(t:ae)(o:Int):RW:=
 if t.kind=3 then eO G r t 0 (-1)
 else if t.kind=4 then eO G r t 1 o
 else if t.kind=5 then eO G r t 2 (-1)
 else if t.kind=20 then wL r s t
 else if t.kind=22 then qE r t (fq G 1 1 t.text)
 else if t.kind=27 then qE r t (fq G 0 2 t.text)
 else if t.kind=19 then qE r t (fq G 2 2 t.text)
 else if t.kind=9/\ek t.text=false then qE r t (fq G 0 0 t.text)
 else if t.kind=7\/t.kind=8 then(fB G r s t 3 o).1
 else if t.kind=12 then(fB G r s t 4 o).1
 else if t.kind=16 then(fB G r s t 5 o).1
 else r
def qL(G:List Dc)(r:RW)(s:List Nat)(t:ae):List Nat:=if t.kind=7\/t.kind=8\/t.kind=12\/t.kind=16 then(fB G r s t 0 0).2 else s
def cO(mk:Int)(r:RW)(s:List Nat):RW:=if (r.num:Int)=mk then { r with at_:=s } else r
mutual
def bJ(G:List Dc)(mk:Int):ae->Int->List Nat->RW->RW×List Nat
 | .node k x a e kids,o,s,r0=>
  let q:=dP G mk k (qL G (cO mk r0 s) s (.node k x a e kids)) kids 0 (if k=3\/k=5 then(r0.num:Int) else o) s (j3 G (cO mk r0 s) s (.node k x a e kids) o)
  (q.1,if k=6 then q.2 else if k=7\/k=8\/k=12 then qL G (cO mk r0 s) s (.node k x a e kids) else s)
def dP(G:List Dc)(mk k:Int)(after:List Nat):List ae->Nat->Int->List Nat->RW->RW×List Nat
 | [],_,_,s,r=>(r,s)
 | t::ts,i,o,s,r=>
  let q:=bJ G mk t o (if k=16/\i=2 then after else s) { r with num:=r.num+1 }
  dP G mk k after ts (i+1) o (if k=5\/k=6\/k=11 then q.2 else if k=16/\i=2 then after else s) q.1
end
def qy(ds:List Dc)(i:Nat):ByteArray×Int:=match ds[i]? with|some d=>(d.name,d.node)|none=>(⟨#[]⟩,0)
structure oq (ds:List Dc) (s:aR) (sq:List Nat):Prop where
 perm:s.flatten.Perm (sq.map (qy ds))
 lt:∀i∈sq,i<ds.length
 inc:sq.Pairwise (· < ·)
 nodup:(s.flatten.map (·.1)).Nodup
theorem Qj(ds l:List Dc){i:Nat}(h:i<ds.length):qy (ds++l) i=qy ds i:=by
 unfold qy;rw[List.getElem?_append_left h]
theorem oq.mono{ds:List Dc}{s:aR}{sq:List Nat}(h:oq ds s sq){ds':List Dc}(B:∃l,ds'=ds++l):oq ds' s sq:=by
 obtain⟨l,rfl⟩:=B;refine⟨?_,fun i A=>by have:=h.lt i A;simp;omega,h.inc,h.nodup⟩;have:sq.map (qy (ds++l))=sq.map (qy ds):=List.map_congr_left fun i A=>Qj ds l (h.lt i A)
 rw[this];exact h.perm
theorem oq.push{ds:List Dc}{s:aR}{sq:List Nat}(h:oq ds s sq):oq ds ([]::s) sq:=⟨by simpa using h.perm,h.lt,h.inc,by simpa using h.nodup⟩
theorem oq.nil(ds:List Dc):oq ds [[]] []:=⟨by simp,by simp,List.Pairwise.nil,by simp⟩
theorem K3{ds:List Dc}{s:aR}{sq:List Nat}(h:oq ds s sq)(x:ByteArray):fF s x=(nR ds sq x).bind fun i=>(ds[i]?).map Dc.node:=by
 cases B:nR ds sq x with
 | some i=>
  have D:=List.mem_of_find?_eq_some B;have F:=List.find?_some B;have C:=h.lt i D;simp only[decide_eq_true_eq]at F;obtain⟨d,A⟩:∃d,ds[i]? =some d:=⟨_,ace C⟩
  rw[A]at F;simp only[Option.map_some,acf]at F;show fF s x=(ds[i]?).map Dc.node;rw[A];refine G6 h.nodup ((h.perm.mem_iff).2 (List.mem_map.2 ⟨i,D,?_⟩));unfold qy;rw[A,<- F]
 | none=>
  show fF s x=none
  cases J:fF s x with
  | none=>rfl
  | some n=>
   have D:=(h.perm.mem_iff).1 (G7 J);obtain⟨i,C,H⟩:=List.mem_map.1 D;have I:=h.lt i C;obtain⟨d,A⟩:∃d,ds[i]? =some d:=⟨_,ace I⟩
   unfold qy at H;rw[A]at H;unfold nR at B;rw[List.find?_eq_none]at B;have:=B i C;rw[A]at this;simp only[Option.map_some,acf,decide_eq_true_eq]at this;exact absurd (congrArg (·.1) H) this
theorem MK{ds:List Dc}{s:aR}{sq:List Nat}(h:oq ds s sq)(x:ByteArray):(fF s x).isSome=(nR ds sq x).isSome:=by
 rw[K3 h x]
 cases B:nR ds sq x with
 | none=>rfl
 | some i=>
  have A:=h.lt i (List.mem_of_find?_eq_some B);show((ds[i]?).map Dc.node).isSome=true;rw[ace A];rfl
def Dj(ds:List Dc)(Gn:Int->Prop)(u v:Int):Prop:=(u= -1/\v= -1)\/(∃(j:Nat) (d:Dc),ds[j]? =some d/\d.node=u/\v=(j:Int))\/(0<=u/\v= -2 - u/\Gn u)
theorem Dj.mono{ds:List Dc}{Gn:Int->Prop}{u v:Int}(h:Dj ds Gn u v)(l:List Dc):Dj (ds++l) Gn u v:=by
 rcases h with h| ⟨j,d,A,B,C⟩|h
 ·exact .inl h
 ·exact .inr (.inl ⟨j,d,by rw[List.getElem?_append_left (acg.1 A).1];exact A,B,C⟩)
 exact .inr (.inr h)
structure lJ (Gn:Int->Prop) (r:RS) (q:RW):Prop where
 ds:q.ds=r.ds
 list:q.list=r.aU.map (·.2)
 qF:q.uses.length=r.uses.length
 uses:∀(i:Nat) (u v:Int),r.uses[i]? =some u->q.uses[i]? =some v->Dj r.ds Gn u v
theorem lJ.of_same{Gn:Int->Prop}{r r':RS}{q A:RW}(h:lJ Gn r q)(B:r'.ds=r.ds)(F:r'.aU=r.aU)(C:r'.uses=r.uses)(H:A.ds=q.ds)(I:A.list=q.list)(D:A.uses=q.uses):lJ Gn r' A:=
 ⟨by rw[H,B,h.ds],by rw[I,F,h.list],by rw[D,C,h.qF],by rw[D,C,B];exact h.uses⟩
theorem TI{ds:List Dc}{Gn:Int->Prop}{a b:List Int}(H:b.length=a.length)(h:∀(i:Nat) (u v:Int),a[i]? =some u->b[i]? =some v->Dj ds Gn u v)(n:Nat){x y:Int}(F:Dj ds Gn x y):
 ∀(i:Nat) (u v:Int),(a.set n x)[i]? =some u->(b.set n y)[i]? =some v->Dj ds Gn u v:=by
 intro i u v A B;rw[List.getElem?_set]at A B;by_cases D:n=i
 ·rw[if_pos D]at A B
  by_cases C:n<a.length
  ·rw[if_pos C]at A
   rw[if_pos (by omega)]at B;cases A
   cases B
   exact F
  rw[if_neg C]at A;cases A
 rw[if_neg D]at A B;exact h i u v A B
theorem lJ.say{Gn:Int->Prop}{r:RS}{q:RW}(h:lJ Gn r q)(c:Int)(n:Nat)(t:ae):lJ Gn (pE r c n t) (rC q c t):=
 ⟨h.ds,by show q.list++_=(r.aU++_).map _;rw[h.list,List.map_append];rfl,h.qF,h.uses⟩
theorem lJ.decl{Gn:Int->Prop}{r:RS}{q:RW}(h:lJ Gn r q)(c:Int){n:Nat}(t:ae){o:Int}(B:q.num=n)(C:(if c=0\/c=2 then -1 else r.owner)=o):lJ Gn (kK r c n t) (qJ q c t o):=by
 have A:(qJ q c t o).ds=(kK r c n t).ds:=by
  unfold qJ kK;simp only;rw[h.ds,B,C]
 refine⟨A,h.list,by show(q.uses.set _ _).length=(r.uses.set _ _).length;rw[List.length_set,List.length_set,h.qF],?_⟩;show ∀(i:Nat) (u v:Int),(r.uses.set n (n:Int))[i]? =some u->(q.uses.set q.num (q.ds.length:Int))[i]? =some v->Dj (r.ds++_) Gn u v;rw[B];refine TI h.qF (fun i u v D F=>(h.uses i u v D F).mono _) n (.inr (.inl ⟨r.ds.length,_,by rw[ack (ab9 _),Nat.sub_self];rfl,rfl,by rw[h.ds]⟩))
theorem lJ.dB{Gn:Int->Prop}{r:RS}{q:RW}(h:lJ Gn r q){n:Nat}(B:q.num=n){k v:Int}(A:Dj r.ds Gn k v):lJ Gn { r with uses:=r.uses.set n k } { q with uses:=q.uses.set q.num v }:=
 ⟨h.ds,h.list,by simp[h.qF],by rw[B];exact TI h.qF h.uses n A⟩
structure yC (G:bf) (GW:List Dc) (Gn:Int->Prop):Prop where
 gl:∀x,fq GW 0 2 x=aV G.globals x
 fl:∀x,fq GW 1 1 x=aV G.fields x
 pr:∀x,fq GW 2 2 x=(aV G.globals x).filter fun j=>decide (jN G j=5)
 rc:∀x,fq GW 0 0 x=(aV G.globals x).filter fun j=>decide (jN G j=3)
 non:∀x,(nS GW false x).isSome=(aV G.globals x).isSome
 nodeg:∀x,(mD GW false x).map Dc.node=aV G.globals x
 nodef:∀x,(mD GW true x).map Dc.node=aV G.fields x
 aas:∀x n,aV G.globals x=some n->0<=n/\Gn n
 posf:∀x n,aV G.fields x=some n->0<=n/\Gn n
structure ll (mk:Int) (i:Bool) (r u:RS) (q v:RW):Prop where
 out:(∀m:Nat,mk=(m:Int)->¬(r.next<=m/\m<u.next))->v.at_=q.at_
 DN:i=true->∀m:Nat,r.next<=m->m<u.next->∃s' sq',bK u.aP (m:Int)=some (aF (aH s'))/\oq u.ds s' sq'/\(mk=(m:Int)->v.at_=sq')
theorem pz.grow{a b:RS}(h:pz a b):∃l,b.ds=a.ds++l:=by
 obtain⟨l,e,-⟩:=h.ds;exact⟨l,e⟩
theorem ll.refl(mk:Int)(i:Bool){r u:RS}{q v:RW}(D:u.next=r.next)(A:v.at_=q.at_):ll mk i r u q v:=⟨fun _=>A,fun _ m B C=>by omega⟩
theorem ll.trans{mk:Int}{i:Bool}{r u w:RS}{q v z:RW}(h:ll mk i r u q v)(k:ll mk i u w v z)(O:pz r u)(F:pz u w):ll mk i r w q z:=by
 have P:=O.next;have Q:=F.next;refine⟨fun J=>?_,fun I m C D=>?_⟩
 ·rw[k.out fun m e B=>J m e ⟨by omega,B.2⟩,h.out fun m e B=>J m e ⟨B.1,by omega⟩]
 by_cases A:m<u.next
 ·obtain⟨S,H,K,L,M⟩:=h.DN I m C A
  refine⟨S,H,by rw[F.aP m (.inl A)];exact K,L.mono F.grow,fun e=>?_⟩;rw[k.out fun R N B=>by rw[e]at N;have:m=R:=(by omega);omega];exact M e
 exact k.DN I m (by omega) D
theorem ll.head{mk:Int}{i:Bool}{r u:RS}{q v:RW}{s:aR}{sq:List Nat}(M:u.next=r.next+1)(L:u.aP=(aI r i (aF (aH s))).aP)(D:∃l,u.ds=r.ds++l)(J:q.num=r.next)(B:v.at_=(cO mk q sq).at_)(K:i=true->oq r.ds s sq):ll mk i r u q v:=by
 refine⟨fun F=>?_,fun C m H I=>?_⟩
 ·rw[B]
  unfold cO;rw[if_neg fun e=>F q.num e.symm ⟨by omega,by omega⟩]
 have A:m=r.next:=by omega
 subst A;refine⟨s,sq,?_,(K C).mono D,fun e=>?_⟩
 ·rw[L]
  subst C;show bK (dZ r.aP (r.next:Int) _) (r.next:Int)=_;rw[pU,if_pos rfl]
 rw[B];unfold cO;rw[if_pos (by rw[J,e])]
structure Jn (Gn:Int->Prop) (mk:Int) (i:Bool) (r u:RS) (q v:RW):Prop where
 pO:lJ Gn u v
 aP:ll mk i r u q v
 num:v.num+1=u.next
theorem qU{Gn:Int->Prop}{r:RS}{q:RW}(h:lJ Gn r q)(mk:Int)(sq:List Nat):lJ Gn r (cO mk q sq):=by
 unfold cO;split
 ·exact⟨h.ds,h.list,h.qF,h.uses⟩
 exact h
theorem mV(mk:Int)(q:RW)(sq:List Nat):(cO mk q sq).num=q.num:=by
 unfold cO;split<;>rfl
theorem Iw{Gn:Int->Prop}{r:RS}{q:RW}(h:lJ Gn r q)(i:Bool)(v:List Int):lJ Gn (aI r i v) q:=⟨h.ds,h.list,h.qF,h.uses⟩
theorem aaa{s:aR}(h:s≠[]):∃l A,s=l::A:=by
 cases s with
 | nil=>exact absurd rfl h
 | cons l s=>exact⟨l,s,rfl⟩
theorem oq.var{ds:List Dc}{s:aR}{sq:List Nat}(h:oq ds s sq){d:Dc}(O:fF s d.name=none):oq (ds++[d]) ([(d.name,d.node)]::s) (sq++[ds.length])/\(s≠[]->oq (ds++[d]) (lh s [(d.name,d.node)]) (sq++[ds.length])):=by
 have C:=LH O
 have I:qy (ds++[d]) ds.length=(d.name,d.node):=by
  unfold qy;rw[ack (ab9 _),Nat.sub_self];rfl
 have M:=h.mono (ds':=ds++[d]) ⟨[d],rfl⟩
 have A:oq (ds++[d]) ([(d.name,d.node)]::s) (sq++[ds.length]):=by
  refine⟨?_,fun i B=>?_,?_,?_⟩
  ·rw[List.flatten_cons,List.map_append,List.map_cons,List.map_nil,I]
   exact(List.perm_append_comm).trans (M.perm.append_right _)
  ·rcases List.mem_append.1 B with B|B
   ·have:=h.lt i B
    simp;omega
   rw[List.mem_singleton]at B;simp;omega
  ·refine List.pairwise_append.2 ⟨h.inc,List.pairwise_singleton _ _,fun a K b F=>?_⟩
   rw[List.mem_singleton]at F;rw[F];exact h.lt a K
  rw[List.flatten_cons,List.map_append];exact List.nodup_cons.2 ⟨C,h.nodup⟩
 refine⟨A,fun N=>?_⟩;obtain⟨l,D,rfl⟩:=aaa N;have L:d.name ∉ l.map (·.1):=fun J=>C (by rw[List.flatten_cons,List.map_append];exact List.mem_append_left _ J)
 have e:lh (l::D) [(d.name,d.node)]=(l++[(d.name,d.node)])::D:=by
  show(dZ l d.name d.node)::D=_;rw[PS _ L]
 have H:((l++[(d.name,d.node)])::D).flatten.Perm ([(d.name,d.node)]::l::D).flatten:=by
  rw[List.flatten_cons,List.flatten_cons,List.flatten_cons,<- List.append_assoc];exact(List.perm_append_comm).append_right _
 rw[e];exact⟨H.trans A.perm,A.lt,A.inc,((H.map _).nodup_iff).2 A.nodup⟩
theorem JB{G:bf}{GW:List Dc}{Gn:Int->Prop}(K:yC G GW Gn){r:RS}{q:RW}(h:lJ Gn r q){s:aR}{sq:List Nat}(D:oq r.ds s sq)(i:Bool)(v:List Int){c:Int}(J:¬(c=0\/c=2))(t:ae){o:Int}(M:q.num=r.next)(N:r.owner=o):
 lJ Gn (aJ G (aI r i v) c r.next t s).1 (fB GW q sq t c o).1/\(aJ G (aI r i v) c r.next t s).1.owner=r.owner/\(aJ G (aI r i v) c r.next t s).1.next=r.next+1/\(aJ G (aI r i v) c r.next t s).1.aP=(aI r i v).aP /\
 (fB GW q sq t c o).1.num=q.num/\(fB GW q sq t c o).1.at_=q.at_/\oq (aJ G (aI r i v) c r.next t s).1.ds (wD G t s r.next::s) (fB GW q sq t c o).2/\(s≠[]->oq (aJ G (aI r i v) c r.next t s).1.ds (lh s (wD G t s r.next)) (fB GW q sq t c o).2) /\
 (s≠[]->oq (aJ G (aI r i v) c r.next t s).1.ds (aJ G (aI r i v) c r.next t s).2 (fB GW q sq t c o).2):=by
 have A:((nR q.ds sq t.text).isSome || (nS GW false t.text).isSome)=((fF s t.text).isSome || (aV G.globals t.text).isSome):=by
  rw[h.ds,MK D,K.non]
 unfold aJ fB wD;rw[A]
 cases I:((fF s t.text).isSome || (aV G.globals t.text).isSome) with
 | true=>
  rw[if_pos rfl,if_pos rfl,if_pos rfl];have C:oq r.ds ([]::s) sq:=D.push;exact⟨(Iw h i v).say 9 r.next t,rfl,rfl,rfl,rfl,rfl,C,fun _=>by rw[WS];exact D,fun _=>D⟩
 | false=>
  rw[if_neg (by simp),if_neg (by simp),if_neg (by simp)];rw[Bool.or_eq_false_iff]at I;have L:fF s t.text=none:=by simpa using I.1
  have B:(kK (aI r i v) c r.next t).ds=r.ds++[⟨c,t.text,r.next,r.owner⟩]:=by
   unfold kK aI;simp only;rw[if_neg J]
  have F:=D.var (d:=⟨c,t.text,r.next,r.owner⟩) L;rw[<- h.ds]at F;refine⟨(Iw h i v).decl c t M (by rw[if_neg J];exact N),rfl,rfl,rfl,rfl,rfl,?_,fun H=>?_,fun H=>?_⟩
  ·rw[B,<- h.ds]
   exact F.1
  ·rw[B,<- h.ds]
   exact F.2 H
  rw[B,<- h.ds];exact F.2 H
theorem ZY(GW:List Dc)(q:RW)(sq:List Nat)(t:ae)(c o A B:Int):(fB GW q sq t c o).2=(fB GW q sq t A B).2:=by
 unfold fB;split<;>rfl
theorem Em{Gn:Int->Prop}{r:RS}{q:RW}(h:lJ Gn r q)(t:ae){n:Nat}(C:q.num=n)(o:Option Int)(D:∀j,o=some j->0<=j/\Gn j):lJ Gn (iw r n t o) (qE q t o):=by
 cases o with
 | none=>exact h.say 8 n t
 | some j=>
  obtain⟨A,B⟩:=D j rfl;exact h.dB C (.inr (.inr ⟨A,rfl,B⟩))
theorem LP{o:Option Int}{p:Int->Bool}{Q:Int->Prop}(h:∀j,o=some j->Q j):∀j,o.filter p=some j->Q j:=by
 intro j A
 cases o with
 | none=>cases A
 | some k=>
  rw[Option.filter_some]at A;split at A
  ·exact h j A
  cases A
theorem Kv(G:bf)(s:aR)(r u:RS)(t:ae)(h:¬(t.kind=20\/t.kind=22\/t.kind=27\/t.kind=19\/t.kind=9)):ik G s r u t=u:=by
 simp only[not_or]at h;unfold ik;rw[if_neg h.1,if_neg h.2.1,if_neg h.2.2.1,if_neg h.2.2.2.1,if_neg (fun A=>h.2.2.2.2 A.1)]
theorem Cg{G:bf}{GW:List Dc}{Gn:Int->Prop}(I:yC G GW Gn){r:RS}{q:RW}(h:lJ Gn r q){s:aR}{sq:List Nat}(i:Bool)(v:List Int)(t:ae)(o:Int)(K:q.num=r.next)(M:t.kind=20->oq r.ds s sq)
 (Q:¬(t.kind=3\/t.kind=4\/t.kind=5\/t.kind=7\/t.kind=8\/t.kind=12\/t.kind=16)):
 lJ Gn (ik G s r (aI r i v) t) (j3 GW q sq t o)/\(ik G s r (aI r i v) t).owner=r.owner/\(ik G s r (aI r i v) t).aP=(aI r i v).aP/\(j3 GW q sq t o).num=q.num/\(j3 GW q sq t o).at_=q.at_:=by
 simp only[not_or]at Q;obtain⟨U,W,X,Y,Z,N,O⟩:=Q;have J:=Iw h i v;have A:∀o,(iw (aI r i v) r.next t o).owner=r.owner/\(iw (aI r i v) r.next t o).aP=(aI r i v).aP:=fun o=>by cases o<;>exact⟨rfl,rfl⟩
 have B:∀o,(qE q t o).num=q.num/\(qE q t o).at_=q.at_:=fun o=>by cases o<;>exact⟨rfl,rfl⟩
 unfold ik j3;rw[if_neg U,if_neg W,if_neg X];by_cases C:t.kind=20
 ·rw[if_pos C,if_pos C]
  have R:=M C;rw[K3 R];unfold wL;rw[show nR q.ds sq t.text=nR r.ds sq t.text by rw[h.ds]]
  cases T:nR r.ds sq t.text with
  | none=>exact⟨J.say 8 r.next t,rfl,rfl,rfl,rfl⟩
  | some j=>
   have S:=R.lt j (List.mem_of_find?_eq_some T);obtain⟨d,P⟩:∃d,r.ds[j]? =some d:=⟨_,ace S⟩
   have e:((some j).bind fun i=>(r.ds[i]?).map Dc.node)=some d.node:=by
    show(r.ds[j]?).map Dc.node=_;rw[P];rfl
   rw[e];exact⟨J.dB K (.inr (.inl ⟨j,d,P,rfl,rfl⟩)),rfl,rfl,rfl,rfl⟩
 rw[if_neg C,if_neg C];by_cases F:t.kind=22
 ·rw[if_pos F,if_pos F,I.fl]
  exact⟨Em J t K _ (I.posf _),(A _).1,(A _).2,(B _).1,(B _).2⟩
 rw[if_neg F,if_neg F];by_cases H:t.kind=27
 ·rw[if_pos H,if_pos H,I.gl]
  exact⟨Em J t K _ (I.aas _),(A _).1,(A _).2,(B _).1,(B _).2⟩
 rw[if_neg H,if_neg H];by_cases D:t.kind=19
 ·rw[if_pos D,if_pos D,I.pr]
  exact⟨Em J t K _ (LP (I.aas _)),(A _).1,(A _).2,(B _).1,(B _).2⟩
 rw[if_neg D,if_neg D];by_cases L:t.kind=9/\ek t.text=false
 ·rw[if_pos L,if_pos L,I.rc]
  exact⟨Em J t K _ (LP (I.aas _)),(A _).1,(A _).2,(B _).1,(B _).2⟩
 rw[if_neg L,if_neg L,if_neg (fun h=>h.elim Y Z),if_neg N,if_neg O];exact⟨J,rfl,rfl,rfl,rfl⟩
open Go.RowKit
structure RE where
 lo:Nat
 base:Nat
 rp:Nat
 uA:Option Addr
 uc:Nat
 gA:Option Addr
 gc:Nat
structure RQ where
 dA:Option Addr
 dc:Nat
 lA:Option Addr
 lc:Nat
 aA:Option Addr
 ac:Nat
def Tw(E:RE)(w:World)(g:Nat):Prop:=g=E.rp\/E.uA.map (·.block)=some g\/(E.base<=g/\∃cs t fr,w.heap[g]? =some (.cells cs t fr)/\(t=49\/t=78))
def KW(E:RE)(w w':World):Prop:=ak (Tw E w) w w'
def gG(w:World)(ub:Option Nat)(A:Option Addr)(s:List Nat):Prop:=
 ∀(i x:Nat),s[i]? =some x->∃b off cs,A=some ⟨b,off,none⟩/\ub≠some b/\w.heap[b]? =some (.cells cs 3 (0,0))/\w.cell? ⟨b,off+i,none⟩=some (.int .i64 (x:Int))
structure dV (E:RE) (G:List Dc) (mk:Int) (q:RW) (V:RQ) (w:World):Prop where
 blk:ah w E.rp 84 #[.slice V.dA q.ds.length V.dc,.slice E.uA q.uses.length E.uc,.slice V.lA q.list.length V.lc,.slice E.gA G.length E.gc,.int .i64 (q.num:Int),.int .i64 mk,.slice V.aA q.at_.length V.ac]
 ds:aG w E.base 49 4 (.slice V.dA q.ds.length V.dc) q.ds.length (q.ds.flatMap bQ)
 us:aG w E.lo 3 1 (.slice E.uA q.uses.length E.uc) q.uses.length (bL q.uses)
 ls:aG w E.base 78 5 (.slice V.lA q.list.length V.lc) q.list.length (q.list.flatMap iN)
 gl:aG w E.lo 49 4 (.slice E.gA G.length E.gc) G.length (G.flatMap bQ)
 gb:∀g,(Value.slice E.gA G.length E.gc).ownBlock=some g->g<E.base
 at_:gG w (Value.slice E.uA q.uses.length E.uc).ownBlock V.aA q.at_
 low:E.lo<=E.base/\E.lo<=E.rp
 cap:q.at_.length<=V.ac
theorem Il(A:Option Addr)(n c:Nat):(Value.slice A n c).ownBlock=A.map (·.block):=by
 cases A<;>rfl
section
variable {E:RE}{w w1 w':World}
theorem KW.refl(E:RE)(w:World):KW E w w:=ak.refl _ _
theorem KW.trans(h:KW E w w1)(k:KW E w1 w'):KW E w w':=by
 refine h.step k fun g H=>?_
 by_cases B:g<w.heap.size
 ·left
  by_cases D:Tw E w g
  ·exact D
  have F:=h.block g B D;rcases H with A|A| ⟨A,C⟩
  ·exact .inl A
  ·exact .inr (.inl A)
  rw[F]at C;exact .inr (.inr ⟨A,C⟩)
 right
 omega
theorem KW.of_below(A:Below w.heap.size w w'):KW E w w':=(ak.refl _ _).below A
theorem KW.low{G:List Dc}{mk:Int}{q:RW}{V:RQ}(h:KW E w w')(A:dV E G mk q V w):Below E.lo w w':=by
 refine ak.toBelow h (by have:=A.blk.lt;have:=A.low.2;omega) fun k B=>?_
 rcases B with B|B| ⟨B,-⟩
 ·have:=A.low.2
  omega
 ·exact(A.us.lt k (by rw[Il];exact B)).1
 have:=A.low.1;omega
theorem KW.blk(h:KW E w w'){g:Nat}{t:TypeId}{C:Array Value}(H:ah w g t C)(K:g≠E.rp)(L:t≠49)(M:t≠78)(N:E.uA.map (·.block)≠some g):ah w' g t C:=by
 refine ah.since H h fun A=>?_
 rcases A with A|A| ⟨-,I,O,J,D,B⟩
 ·exact K A
 ·exact N A
 have F:w.heap[g]? =some (.cells C t (0,0)):=H;rw[F]at D;simp at D;obtain⟨_,rfl,_⟩:=D;rcases B with B|B
 ·exact L B
 exact M B
theorem gG.kw{J:Option Nat}{A:Option Addr}{s:List Nat}(R:gG w J A s)(h:KW E w w')(S:J=E.uA.map (·.block))(Q:∃C,ah w E.rp 84 C):gG w' J A s:=by
 intro i x P;obtain⟨b,I,C,O,K,L,M⟩:=R i x P;have N:ah w b 3 C:=L;obtain⟨T,H⟩:=Q
 have F:b≠E.rp:=by
  rintro rfl;have D:w.heap[E.rp]? =some (.cells T 84 (0,0)):=H;rw[L]at D;simp only[acf,Obj.cells.injEq]at D;exact absurd D.2.1 (by decide)
 have B:=h.blk N F (by decide) (by decide) (by rw[<- S];exact K);exact⟨b,I,C,O,K,B,by rw[B.cell];rw[N.cell]at M;exact M⟩
end
theorem gG.nil(w:World)(B:Option Nat)(A:Option Addr):gG w B A []:=fun i x h=>by simp at h
theorem gG.below{w w':World}{I:Option Nat}{A:Option Addr}{s:List Nat}(O:gG w I A s)(M:Below w.heap.size w w'):gG w' I A s:=by
 intro i x N;obtain⟨b,D,F,J,K,L,H⟩:=O i x N;have C:ah w b 3 F:=L;have B:=C.below M C.lt;exact⟨b,D,F,J,K,B,by rw[B.cell];rw[C.cell]at H;exact H⟩
theorem gG.rowAt{w:World}{M:Option Nat}{A:Option Addr}{s:List Nat}(L:gG w M A s):aS 1 gU w w.heap.size A s:=by
 intro k x K;obtain⟨b,C,D,F,N,H,I⟩:=L k x K;have J:ah w b 3 D:=H;refine⟨b,C,F,J.lt,fun j v B=>?_⟩
 match j,B with
 | 0,B=>
  have:v= .int .i64 (x:Int):=by simpa [gU] using B.symm
  rw[this,Nat.mul_one,Nat.add_zero];exact I
 | j+1,B=>simp[gU]at B
theorem gG.XV{w:World}{base n c:Nat}{A:Option Addr}{s:List Nat}{K:Option Nat}(h:aG w base 3 1 (.slice A n c) n (s.flatMap gU))(J:s.length=n)(D:∀g,(Value.slice A n c).ownBlock=some g->K≠some g):gG w K A s:=by
 intro i x C;have F:i<n:=by rw[<- J];exact(acg.1 C).1
 obtain⟨g,H,L,N,-,-,-,-,I⟩:=h.form (by omega);cases N
 obtain⟨M,B⟩:=h.typed (g:=g) rfl;refine⟨g,H,M,rfl,D g rfl,B,I i _ ?_⟩;clear h I B D J F
 induction s generalizing i with
 | nil=>simp at C
 | cons y s ih=>
  rw[List.flatMap_cons]
  cases i with
  | zero=>
   simp at C;subst C;rfl
  | succ i=>
   rw[ack (by simp[gU])];exact ih i (by simpa using C)
section
variable {E:RE}{G:List Dc}{mk:Int}{q:RW}{V:RQ}{w w':World}
theorem dV.below(h:dV E G mk q V w)(B:Below w.heap.size w w'):dV E G mk q V w':=
 ⟨h.blk.below B h.blk.lt,h.ds.below B fun g A=>(h.ds.lt g A).2,h.us.below B fun g A=>(h.us.lt g A).2,h.ls.below B fun g A=>(h.ls.lt g A).2,h.gl.below B fun g A=>(h.gl.lt g A).2,h.gb,h.at_.below B,h.low,h.cap⟩
theorem dV.Vm(h:dV E G mk q V w):(Value.slice V.dA q.ds.length V.dc).ownBlock≠some E.rp:=h.ds.bB h.blk (by decide)
theorem dV.ne_us(h:dV E G mk q V w):(Value.slice E.uA q.uses.length E.uc).ownBlock≠some E.rp:=h.us.bB h.blk (by decide)
theorem dV.Vl(h:dV E G mk q V w):(Value.slice V.lA q.list.length V.lc).ownBlock≠some E.rp:=h.ls.bB h.blk (by decide)
theorem dV.ne_gl(h:dV E G mk q V w):(Value.slice E.gA G.length E.gc).ownBlock≠some E.rp:=h.gl.bB h.blk (by decide)
theorem gG.setCell{H:Option Nat}{A:Option Addr}{s:List Nat}(P:gG w H A s){g:Nat}(N:∀B,w.heap[g]? =some (.cells B 3 (0,0))->H=some g)(o:Nat)(u:Value):gG (w.setCell ⟨g,o,none⟩ u) H A s:=by
 intro i x O;obtain⟨b,F,B,M,I,J,K⟩:=P i x O
 have D:b≠g:=by
  rintro rfl;exact I (N B J)
 have L:ah w b 3 B:=J;have C:=L.far (p:=⟨g,o,none⟩) D u;exact⟨b,F,B,M,I,C,by rw[C.cell];rw[L.cell]at K;exact K⟩
theorem gG.grown{H:Option Nat}{A:Option Addr}{s:List Nat}{D:Option Nat}(Q:gG w H A s)(N:w.grownBy w' D)(P:∀g B,D=some g->w.heap[g]? =some (.cells B 3 (0,0))->H=some g):gG w' H A s:=by
 intro i x O;obtain⟨b,F,B,M,I,J,K⟩:=Q i x O;have L:ah w b 3 B:=J;have C:=L.grown N (fun e=>I (P b B e.symm J));exact⟨b,F,B,M,I,C,by rw[C.cell];rw[L.cell]at K;exact K⟩
theorem dV.X0(h:dV E G mk q V w){D:Option Nat}:∀B,w.heap[E.rp]? =some (.cells B 3 (0,0))->D=some E.rp:=by
 intro B C;have A:w.heap[E.rp]? =some (Obj.cells _ _ (0,0)):=h.blk;rw[C]at A;simp only[acf,Obj.cells.injEq]at A;exact absurd A.2.1 (by decide)
theorem dV.num_(h:dV E G mk q V w)(m:Nat):dV E G mk { q with num:=m } V (w.setCell ⟨E.rp,4,none⟩ (.int .i64 (m:Int))):=
 ⟨by have:=h.blk.dB 4 (.int .i64 (m:Int));simpa using this,h.ds.setCell (p:=⟨E.rp,4,none⟩) h.Vm _,h.us.setCell (p:=⟨E.rp,4,none⟩) h.ne_us _,h.ls.setCell (p:=⟨E.rp,4,none⟩) h.Vl _,h.gl.setCell (p:=⟨E.rp,4,none⟩) h.ne_gl _,h.gb,h.at_.setCell h.X0 4 _,h.low,h.cap⟩
theorem dV.mark_(h:dV E G mk q V w){A:Option Addr}{c:Nat}{s:List Nat}(C:gG w (Value.slice E.uA q.uses.length E.uc).ownBlock A s)(B:s.length<=c):dV E G mk { q with at_:=s } { V with aA:=A,ac:=c } (w.setCell ⟨E.rp,6,none⟩ (.slice A s.length c)):=
 ⟨by have:=h.blk.dB 6 (.slice A s.length c);simpa using this,h.ds.setCell (p:=⟨E.rp,6,none⟩) h.Vm _,h.us.setCell (p:=⟨E.rp,6,none⟩) h.ne_us _,h.ls.setCell (p:=⟨E.rp,6,none⟩) h.Vl _,h.gl.setCell (p:=⟨E.rp,6,none⟩) h.ne_gl _,h.gb,C.setCell h.X0 6 _,h.low,B⟩
theorem DD{w:World}{g D:Nat}{H A:Array Value}{t F:TypeId}{I B:Nat×Nat}(h:w.heap[g]? =some (.cells H t I))(C:w.heap[D]? =some (.cells A F B))(J:t≠F):g≠D:=by
 rintro rfl;rw[h]at C;simp only[acf,Obj.cells.injEq]at C;exact J C.2.1
theorem dV.JD(h:dV E G mk q V w){g B:Nat}(F:E.uA=some ⟨g,B,none⟩)(i:Nat)(O:i<q.uses.length)(k:Int):dV E G mk { q with uses:=q.uses.set i k } V (w.setCell ⟨g,B+i,none⟩ (.int .i64 k)):=by
 have J:=h.us;rw[F]at J;obtain⟨P,D⟩:=J.typed (g:=g) rfl
 have C:∀{b e size v n xs},aG w b e size v n xs->e≠3->aG (w.setCell ⟨g,B+i,none⟩ (.int .i64 k)) b e size v n xs:=fun K I=>K.setCell (p:=⟨g,B+i,none⟩) (fun N=>by
  obtain⟨M,H⟩:=K.typed N
  exact DD H D I rfl) _
 have L:E.rp≠g:=DD h.blk D (by decide);have A:(q.uses.set i k).length=q.uses.length:=by simp
 refine⟨?_,C h.ds (by decide),?_,C h.ls (by decide),C h.gl (by decide),h.gb,?_,h.low,h.cap⟩
 ·show ah _ _ _ #[_,.slice E.uA (q.uses.set i k).length E.uc,_,_,_,_,_]
  rw[A];exact h.blk.far (p:=⟨g,B+i,none⟩) L _
 ·show aG _ _ _ _ (.slice E.uA (q.uses.set i k).length E.uc) (q.uses.set i k).length (bL (q.uses.set i k))
  rw[A,F,show bL (q.uses.set i k)=(bL q.uses).set i (.int .i64 k) from List.map_set];exact J.set1 i O _
 show gG _ (Value.slice E.uA (q.uses.set i k).length E.uc).ownBlock _ _;rw[A];exact h.at_.setCell (fun _ _=>by rw[Il,F];rfl) _ _
theorem dV.note_(h:dV E G mk q V w){A:Option Addr}{c:Nat}(d:Dg)(N:aG w' E.base 78 5 (.slice A (q.list.length+1) c) (q.list.length+1) ((q.list++[d]).flatMap iN))(K:w.grownBy w' (Value.slice V.lA q.list.length V.lc).ownBlock):dV E G mk { q with list:=q.list++[d] } { V with lA:=A,lc:=c } (w'.setCell ⟨E.rp,2,none⟩ (.slice A (q.list.length+1) c)):=by
 have B:(q.list++[d]).length=q.list.length+1:=by simp
 have C:∀{b e size v n xs},aG w b e size v n xs->e≠78->e≠84->aG (w'.setCell ⟨E.rp,2,none⟩ (.slice A (q.list.length+1) c)) b e size v n xs:=fun M L D=>(M.kept K (by
  cases Q:Value.ownBlock _ with
  | none=>exact .inl rfl
  | some g=>
   refine .inr fun F=>?_
   exact M.apart h.ls L g Q F.symm)).setCell (p:=⟨E.rp,2,none⟩) (M.bB h.blk D ) _
 have H:=h.blk.grown K (fun e=>h.Vl e.symm);refine⟨?_,C h.ds (by decide) (by decide),C h.us (by decide) (by decide),?_,C h.gl (by decide) (by decide),h.gb,?_,h.low,h.cap⟩
 ·show ah _ _ _ #[_,_,.slice A (q.list++[d]).length c,_,_,_,_]
  rw[B];have:=H.dB 2 (.slice A (q.list.length+1) c);simpa using this
 ·show aG _ _ _ _ (.slice A (q.list++[d]).length c) (q.list++[d]).length _
  rw[B];exact N.setCell (p:=⟨E.rp,2,none⟩) (N.bB H (by decide)) _
 refine(h.at_.grown K fun g O F I=>?_).setCell (fun O I=>?_) _ _
 ·obtain⟨P,J⟩:=h.ls.typed F
  exact absurd rfl (DD I J (by decide))
 exact absurd rfl (DD H I (by decide))
theorem dV.decl_(h:dV E G mk q V w){A:Option Addr}{c:Nat}(d:Dc)(M:aG w' E.base 49 4 (.slice A (q.ds.length+1) c) (q.ds.length+1) ((q.ds++[d]).flatMap bQ))(K:w.grownBy w' (Value.slice V.dA q.ds.length V.dc).ownBlock):dV E G mk { q with ds:=q.ds++[d] } { V with dA:=A,dc:=c } (w'.setCell ⟨E.rp,0,none⟩ (.slice A (q.ds.length+1) c)):=by
 have B:(q.ds++[d]).length=q.ds.length+1:=by simp
 have C:∀{b e size v n xs},aG w b e size v n xs->(∀g,v.ownBlock=some g->(Value.slice V.dA q.ds.length V.dc).ownBlock≠some g)->e≠84->aG (w'.setCell ⟨E.rp,0,none⟩ (.slice A (q.ds.length+1) c)) b e size v n xs:=fun N L D=>(N.kept K (by
  cases S:Value.ownBlock _ with
  | none=>exact .inl rfl
  | some g=>
   refine .inr fun F=>?_
   exact L g S F.symm)).setCell (p:=⟨E.rp,0,none⟩) (N.bB h.blk D) _
 have H:=h.blk.grown K (fun e=>h.Vm e.symm);refine⟨?_,?_,C h.us (h.us.apart h.ds (by decide)) (by decide),C h.ls (h.ls.apart h.ds (by decide)) (by decide),C h.gl (fun g Q R=>?_) (by decide),h.gb,?_,h.low,h.cap⟩
 ·show ah _ _ _ #[.slice A (q.ds++[d]).length c,_,_,_,_,_,_]
  rw[B];have:=H.dB 0 (.slice A (q.ds.length+1) c);simpa using this
 ·show aG _ _ _ _ (.slice A (q.ds++[d]).length c) (q.ds++[d]).length _
  rw[B];exact M.setCell (p:=⟨E.rp,0,none⟩) (M.bB H (by decide)) _
 ·have:=h.gb g Q
  have:=(h.ds.lt g R).1;omega
 refine(h.at_.grown K fun g O F I=>?_).setCell (fun O I=>?_) _ _
 ·obtain⟨P,J⟩:=h.ds.typed F
  exact absurd rfl (DD I J (by decide))
 exact absurd rfl (DD H I (by decide))
theorem TV{A:Option Addr}{n c:Nat}{e:TypeId}{size:Nat}{J:List Value}(B:aG w E.base e size (.slice A n c) n J)(H:e=49\/e=78)(I:w.grownBy w' (Value.slice A n c).ownBlock)(i:Nat)(u:Value):KW E w (w'.setCell ⟨E.rp,i,none⟩ u):=
 ((ak.refl (Tw E w) w).grown I fun k C=>.inl (.inr (.inr ⟨(B.lt k C).1,by
  obtain⟨D,F⟩:=B.typed C
  exact⟨D,e,(0,0),F,H⟩⟩))).setCell (p:=⟨E.rp,i,none⟩) (.inl (.inl rfl)) u
theorem Ya(E:RE)(w:World)(i:Nat)(u:Value):KW E w (w.setCell ⟨E.rp,i,none⟩ u):=(ak.refl _ w).setCell (p:=⟨E.rp,i,none⟩) (.inl (.inl rfl)) u
theorem kw_use{g A:Nat}(B:E.uA=some ⟨g,A,none⟩)(w:World)(i:Nat)(u:Value):KW E w (w.setCell ⟨g,A+i,none⟩ u):=(ak.refl _ w).setCell (p:=⟨g,A+i,none⟩) (.inl (.inr (.inl (by rw[B];rfl)))) u
end
end Go.Proofs.YtoepemlnlpamlaaGreat
namespace Go.Proofs.YtoepemlnlpamlaaGreat
def RG(G:bf)(GW:List Dc)(Gn:Int->Prop)(mk:Int)(i:Bool)(t:ae):Prop:=
 ∀(s:aR) (sq:List Nat) (r:RS) (q:RW) (o:Int),s≠[]->q.num=r.next->r.owner=o->lJ Gn r q->oq r.ds s sq ->
  Jn Gn mk i r (aK G i t s r).1 q (bJ GW mk t o sq q).1/\(aK G i t s r).1.owner=o/\oq (aK G i t s r).1.ds (aK G i t s r).2 (bJ GW mk t o sq q).2
theorem Qr{s A:aR}(h:A.length=s.length)(B:s≠[]):A≠[]:=fun e=>B (List.length_eq_zero_iff.1 (by rw[<- h,e];rfl))
theorem He:∀{ts:List ae}{c:ae},c∈ts->aB c<=aC ts
 | [],c,h=>by cases h
 | t::ts,c,h=>by
  rw[aC];rcases List.mem_cons.1 h with rfl|h
  ·omega
  have:=He h;omega
section
variable {G:bf}{GW:List Dc}{Gn:Int->Prop}{mk:Int}
theorem UJ{k:Int}(x:ByteArray)(a e:Int)(A:List ae)(o:Int)(s:List Nat)(q:RW)(h:k≠6/\k≠7/\k≠8/\k≠12):(bJ GW mk (.node k x a e A) o s q).2=s:=by
 rw[bJ];try simp only
 rw[if_neg h.1,if_neg (fun B=>B.elim h.2.1 (fun C=>C.elim h.2.2.1 h.2.2.2))]
theorem Bd(i:Bool)(k:Int)(A:List Nat)(H:k≠16):∀(ts:List ae),(∀t∈ts,RG G GW Gn mk i t)->((k=5\/k=6\/k=11)\/∀t∈ts,∀o s q,(bJ GW mk t o s q).2=s) ->
 ∀(j:Nat) (s:aR) (sq:List Nat) (r:RS) (q:RW) (o:Int),s≠[]->q.num+1=r.next->r.owner=o->lJ Gn r q->oq r.ds s sq ->
 Jn Gn mk i r (aj G i ts 0 ts.length s r).1 q (dP GW mk k A ts j o sq q).1/\(aj G i ts 0 ts.length s r).1.owner=o/\oq (aj G i ts 0 ts.length s r).1.ds (aj G i ts 0 ts.length s r).2 (dP GW mk k A ts j o sq q).2
 | [],_,_,j,s,sq,r,q,o,hs,hn,ho,kC,hsc=>by
  rw[aj,dP];exact⟨⟨kC,ll.refl mk i rfl rfl,hn⟩,ho,hsc⟩
 | t::ts,hT,hth,j,s,sq,r,q,o,hs,hn,ho,kC,hsc=>by
  rw[aco,aj,dP];try simp only
  rw[if_neg (show ¬(k=16/\j=2) from fun h=>H h.1)];obtain⟨D,J,K⟩:=hT t (by simp) s sq r { q with num:=q.num+1 } o hs hn ho (kC.of_same rfl rfl rfl rfl rfl rfl) hsc
  have I:(if k=5\/k=6\/k=11 then(bJ GW mk t o sq { q with num:=q.num+1 }).2 else sq)=(bJ GW mk t o sq { q with num:=q.num+1 }).2:=by
   rcases hth with h|h
   ·rw[if_pos h]
   split
   ·rfl
   rw[h t (by simp)]
  rw[I];have B:(k=5\/k=6\/k=11)\/∀t∈ts,∀o s q,(bJ GW mk t o s q).2=s:=hth.imp_right fun h c F=>h c (by simp[F])
  have C:=Bd i k A H ts (fun c F=>hT c (by simp[F])) B (j+1) _ _ _ _ o (Qr (vK G t i s r) hs) D.num J D.pO K;refine⟨⟨C.1.pO,?_,C.1.num⟩,C.2.1,C.2.2⟩;have L:ll mk i r (aK G i t s r).1 q (bJ GW mk t o sq { q with num:=q.num+1 }).1:=⟨D.aP.out,D.aP.DN⟩
  exact L.trans C.1.aP (mQ _ _ _ _ _) (eF _ _ _ _ _ _ _)
theorem qW(GW:List Dc)(q:RW)(s:List Nat)(t:ae)(o:Int):
 (t.kind=12->j3 GW q s t o=(fB GW q s t 4 o).1)/\(t.kind=16->j3 GW q s t o=(fB GW q s t 5 o).1)/\((t.kind=7\/t.kind=8)->j3 GW q s t o=(fB GW q s t 3 o).1):=by
 refine⟨fun h=>?_,fun h=>?_,fun h=>?_⟩
 all_goals
  unfold j3;rw[if_neg (by omega),if_neg (by omega),if_neg (by omega),if_neg (by omega),if_neg (by omega),if_neg (by omega),if_neg (by omega),if_neg (fun A=>by have:=A.1;omega)]
 ·rw[if_neg (by omega),if_pos h]
 ·rw[if_neg (by omega),if_neg (by omega),if_pos h]
 rw[if_pos h]
theorem mZ(GW:List Dc)(q:RW)(s:List Nat)(t:ae)(c o:Int)(h:t.kind=7\/t.kind=8\/t.kind=12\/t.kind=16):qL GW q s t=(fB GW q s t c o).2:=by
 unfold qL;rw[if_pos h];exact ZY _ _ _ _ _ _ _ _
theorem Pp(G:bf)(r:RS)(c:Int)(n:Nat)(t:ae)(s:aR):(aJ G r c n t ([]::s)).1=(aJ G r c n t s).1:=by
 unfold aJ;have:fF ([]::s) t.text=fF s t.text:=rfl;rw[this];split<;>rfl
theorem PK(z:yC G GW Gn)(i:Bool):∀(m:Nat) (t:ae),aB t<=m->F3 t=true->RG G GW Gn mk i t
 | 0,t,h,_=>by have:=jk t;omega
 | m+1,.node k x a e kids,h,hin=>by
  obtain⟨hk,ad,a7,aa,n⟩:=Cb hin;have a8:aB (.node k x a e kids)=1+aC kids:=rfl;have M:∀c∈kids,RG G GW Gn mk i c:=fun c y=>PK z i m c (by have:=He y;omega) (RO n c y)
  have K:k≠11->∀c∈kids,∀o s q,(bJ GW mk c o s q).2=s:=fun D c y o s q=>by
   have v:=aa D c y;have u:=RO n c y;obtain⟨kc,xc,ac,ec,a6⟩:=c;have:=(Cb u).1;exact UJ _ _ _ _ _ _ _ ⟨by omega,by omega,by omega,v⟩
  intro s sq r q o j l Q kC A;rw[visit_B G k x a e kids i s r hin,bJ];try simp only
  rw[if_neg (show ¬(k=3\/k=5) by omega),if_neg (show k≠6 by omega)];have F:(cO mk q sq).num=r.next:=by rw[mV];exact l
  have Io:=qU kC mk sq;have L:=MF r i (aF (aH s));by_cases D:k=11
  ·rw[if_pos D,if_neg (by omega)]
   have hu:ik G s r (aI r i (aF (aH s))) (.node k x a e kids)=aI r i (aF (aH s)):=Kv _ _ _ _ _ (by show ¬(k=20\/k=22\/k=27\/k=19\/k=9);omega);obtain⟨a1,a2,a3,a4,a5⟩:=Cg z Io i (aF (aH s)) (.node k x a e kids) o F (fun _=>A) (by show ¬(k=3\/k=4\/k=5\/k=7\/k=8\/k=12\/k=16);omega);rw[hu]at a1 a2 a3;obtain⟨L1,Y,L3⟩:=Bd (G:=G) (GW:=GW) (Gn:=Gn) (mk:=mk) i k (qL GW (cO mk q sq) sq (.node k x a e kids)) (by omega) kids M (.inl (.inr (.inr D))) 0 ([]::s) sq (aI r i (aF (aH s))) (j3 GW (cO mk q sq) sq (.node k x a e kids) o) o (by simp) (by rw[a4,F];rfl) (a2.trans Q) a1 A.push;exact⟨⟨L1.pO,ll.trans (ll.head rfl rfl ⟨[],by simp[aI]⟩ l a5 (fun _=>A)) L1.aP L (eF _ _ _ _ _ _ _),L1.num⟩,Y,A.mono (L.trans (eF _ _ _ _ _ _ _)).grow⟩
  rw[if_neg D];by_cases oL:k=12
  ·rw[if_pos oL,if_pos (by omega),Pp,(qW GW _ sq (.node k x a e kids) o).1 oL,mZ GW _ sq (.node k x a e kids) 4 o (.inr (.inr (.inl oL)))]
   obtain⟨b1,b2,P,b4,b5,b6,b7,b8,b9⟩:=JB z Io A i (aF (aH s)) (c:=4) (by decide) (.node k x a e kids) F Q;have I:=ME G r i (aF (aH s)) 4 (.node k x a e kids) s;obtain⟨L1,Y,L3⟩:=Bd (G:=G) (GW:=GW) (Gn:=Gn) (mk:=mk) i k (fB GW (cO mk q sq) sq (.node k x a e kids) 4 o).2 (by omega) kids M (.inr (K D)) 0 s sq _ _ o j (by rw[b5,P,F]) (b2.trans Q) b1 (A.mono I.grow);exact⟨⟨L1.pO,ll.trans (ll.head P b4 I.grow l b6 (fun _=>A)) L1.aP I (eF _ _ _ _ _ _ _),L1.num⟩,Y,(b8 j).mono (eF _ _ _ _ _ _ _).grow⟩
  rw[if_neg oL,if_neg (show ¬(k=7\/k=8\/k=12) by omega)];by_cases O:k=16
  ·rw[if_pos O,Pp,(qW GW _ sq (.node k x a e kids) o).2.1 O,mZ GW _ sq (.node k x a e kids) 5 o (.inr (.inr (.inr O)))]
   obtain⟨b1,b2,P,b4,b5,b6,b7,b8,b9⟩:=JB z Io A i (aF (aH s)) (c:=5) (by decide) (.node k x a e kids) F Q;have I:=ME G r i (aF (aH s)) 5 (.node k x a e kids) s;have hl:=a7 O;obtain⟨U, hU⟩:=ag ((aJ G (aI r i (aF (aH s))) 5 r.next (.node k x a e kids) s).1);obtain⟨Z, hZ⟩:=ag (fB GW (cO mk q sq) sq (.node k x a e kids) 5 o);obtain⟨V, hV⟩:=ag (wD G (.node k x a e kids) s r.next);have N:=K D;rw[hU,hZ]at b1 b7;rw[hZ]at b5 b6;rw[hU]at b2 P b4 I;rw[hV]at b7;rw[hU,hZ,hV];clear hU hZ hV b8 b9 K
   match kids,hl,M,N with
   | [b,c,d],_,M,N=>
    have hA:aj G i [b,c,d] 0 2 s U=aK G i c (aK G i b s U).2 (aK G i b s U).1:=by simp only[aj]
    have hB:∀S R,aj G i [b,c,d] 2 1 S R=aK G i d S R:=fun S R=>by simp only[aj]
    obtain⟨g,x2,x3⟩:=M b (by simp) s sq U { Z.1 with num:=Z.1.num+1 } o j (by show Z.1.num+1=_;rw[b5,P,F]) (b2.trans Q) (b1.of_same rfl rfl rfl rfl rfl rfl) (A.mono I.grow);rw[N b (by simp)]at x3
    have hW:dP GW mk k Z.2 [b,c,d] 0 o sq Z.1=((bJ GW mk d o Z.2 { (bJ GW mk c o sq { (bJ GW mk b o sq { Z.1 with num:=Z.1.num+1 }).1 with num:=(bJ GW mk b o sq { Z.1 with num:=Z.1.num+1 }).1.num+1 }).1 with num:=(bJ GW mk c o sq { (bJ GW mk b o sq { Z.1 with num:=Z.1.num+1 }).1 with num:=(bJ GW mk b o sq { Z.1 with num:=Z.1.num+1 }).1.num+1 }).1.num+1 }).1,Z.2):=by
     rw[dP,dP,dP,dP];simp only[O];simp
    rw[hA,hB,hW];obtain⟨B, H⟩:=ag (aK G i b s U);obtain⟨T, Yn⟩:=ag (bJ GW mk b o sq { Z.1 with num:=Z.1.num+1 });have ab:B.2≠[]:=by rw[<- H];exact Qr (vK G b i s U) j
    have X:pz U B.1:=by rw[<- H];exact mQ _ _ _ _ _
    rw[H,Yn]at g;rw[H]at x2 x3;rw[H,Yn];obtain⟨f,y2,y3⟩:=M c (by simp) B.2 sq B.1 { T.1 with num:=T.1.num+1 } o ab g.num x2 (g.pO.of_same rfl rfl rfl rfl rfl rfl) x3;obtain⟨C, jQ⟩:=ag (aK G i c B.2 B.1);obtain⟨W, Ym⟩:=ag (bJ GW mk c o sq { T.1 with num:=T.1.num+1 });have NN:pz B.1 C.1:=by rw[<- jQ];exact mQ _ _ _ _ _
    rw[jQ,Ym]at f;rw[jQ]at y2;rw[jQ,Ym];obtain⟨z1,z2,z3⟩:=M d (by simp) (V::s) Z.2 C.1 { W.1 with num:=W.1.num+1 } o (by simp) f.num y2 (f.pO.of_same rfl rfl rfl rfl rfl rfl) (b7.mono (X.trans NN).grow);have I9:=mQ G d i (V::s) C.1;have v0:ll mk i r U q Z.1:=ll.head P b4 I.grow l b6 (fun _=>A);have v1:ll mk i U B.1 Z.1 T.1:=⟨g.aP.out,g.aP.DN⟩
    have v2:ll mk i B.1 C.1 T.1 W.1:=⟨f.aP.out,f.aP.DN⟩
    have v3:ll mk i C.1 (aK G i d (V::s) C.1).1 W.1 (bJ GW mk d o Z.2 { W.1 with num:=W.1.num+1 }).1:=⟨z1.aP.out,z1.aP.DN⟩
    exact⟨⟨z1.pO,((v0.trans v1 I X).trans v2 (I.trans X) NN).trans v3 ((I.trans X).trans NN) I9,z1.num⟩,z2,A.mono (((I.trans X).trans NN).trans I9).grow⟩
  rw[if_neg O];obtain⟨a1,a2,a3,a4,a5⟩:=Cg z Io i (aF (aH s)) (.node k x a e kids) o F (fun _=>A) (by show ¬(k=3\/k=4\/k=5\/k=7\/k=8\/k=12\/k=16);omega);have J:=Qa G s r i (aF (aH s)) (.node k x a e kids);obtain⟨L1,Y,L3⟩:=Bd (G:=G) (GW:=GW) (Gn:=Gn) (mk:=mk) i k (qL GW (cO mk q sq) sq (.node k x a e kids)) O kids M (.inr (K D)) 0 s sq _ _ o j (by rw[a4,F,BO]) (a2.trans Q) a1 (A.mono J.grow);exact⟨⟨L1.pO,ll.trans (ll.head (BO _ _ _ _ _ _) a3 J.grow l a5 (fun _=>A)) L1.aP J (eF _ _ _ _ _ _ _),L1.num⟩,Y,A.mono (J.trans (eF _ _ _ _ _ _ _)).grow⟩
theorem aaC(Q:yC G GW Gn){t:ae}(R:vE t)(s:aR)(sq:List Nat)(r:RS)(q:RW)(o:Int)(F:q.num=r.next)(U:lJ Gn r q):
 Jn Gn mk false r (aK G false t s r).1 q (bJ GW mk t o sq q).1/\(aK G false t s r).1.owner=r.owner/\(aK G false t s r).1.aP=r.aP:=by
 obtain⟨L,M,O⟩:=R;obtain⟨k,x,a,e,B⟩:=t;have C:B=[]:=L;have N:k<2\/8<k:=M;have P:k<11:=O;subst C;have A:(cO mk q sq).num=r.next:=by rw[mV];exact F
 obtain⟨H,I,D,J,K⟩:=Cg (s:=s) (sq:=sq) Q (qU U mk sq) false (aF (aH s)) (.node k x a e []) o A (fun h=>by have:k=20:=h;omega) (by show ¬(k=3\/k=4\/k=5\/k=7\/k=8\/k=12\/k=16);omega)
 have S:aK G false (.node k x a e []) s r=(ik G s r (aI r false (aF (aH s))) (.node k x a e []),s):=by
  rw[dz,if_neg (by omega),if_neg (by omega),if_neg (by omega),if_neg (by omega),if_neg (by omega),if_neg (by omega),if_neg (by omega),aj]
 have T:(bJ GW mk (.node k x a e []) o sq q).1=j3 GW (cO mk q sq) sq (.node k x a e []) o:=by
  rw[bJ,dP]
 rw[S,T];refine⟨⟨H,ll.head (s:=s) (sq:=sq) (BO _ _ _ _ _ _) D (Qa _ _ _ _ _ _).grow F K (fun h=>by cases h),by rw[J,A,BO]⟩,I,D⟩
theorem Ez(D:yC G GW Gn)(k:Int)(A:List Nat):∀(ts:List ae),(∀t∈ts,vE t)->∀(j:Nat) (s:aR) (sq:List Nat) (r:RS) (q:RW) (o:Int),q.num+1=r.next->lJ Gn r q ->
 Jn Gn mk false r (aj G false ts 0 ts.length s r).1 q (dP GW mk k A ts j o sq q).1/\(aj G false ts 0 ts.length s r).1.owner=r.owner/\(aj G false ts 0 ts.length s r).1.aP=r.aP
 | [],_,j,s,sq,r,q,o,hn,kC=>by
  rw[aj,dP];exact⟨⟨kC,ll.refl mk false rfl rfl,hn⟩,rfl,rfl⟩
 | t::ts,hT,j,s,sq,r,q,o,hn,kC=>by
  rw[aco,aj,dP];try simp only
  obtain⟨B,F,H⟩:=aaC (mk:=mk) D (hT t (by simp)) s (if k=16/\j=2 then A else sq) r { q with num:=q.num+1 } o hn (kC.of_same rfl rfl rfl rfl rfl rfl);obtain⟨C,K,L⟩:=Ez D k A ts (fun c I=>hT c (by simp[I])) (j+1) (aK G false t s r).2 (if k=5\/k=6\/k=11 then(bJ GW mk t o (if k=16/\j=2 then A else sq) { q with num:=q.num+1 }).2 else if k=16/\j=2 then A else sq) _ _ o B.num B.pO;refine⟨⟨C.pO,?_,C.num⟩,K.trans F,L.trans H⟩;have J:ll mk false r (aK G false t s r).1 q (bJ GW mk t o (if k=16/\j=2 then A else sq) { q with num:=q.num+1 }).1:=⟨B.aP.out,B.aP.DN⟩
  exact J.trans C.aP (mQ _ _ _ _ _) (eF _ _ _ _ _ _ _)
theorem prm_sim(J:yC G GW Gn){p:ae}(W:p.kind=7\/p.kind=8)(X:∀c∈p.kids,vE c):RG G GW Gn mk false p:=by
 intro s sq r q o Y K L Z H;obtain⟨k,x,a,e,A⟩:=p;have B:k=7\/k=8:=W;have F:∀c∈A,vE c:=X;have D:(cO mk q sq).num=r.next:=by rw[mV];exact K
 have N:=qU Z mk sq;rw[dz,if_neg (by omega),if_neg (by omega),if_neg (by omega),if_pos B,bJ];try simp only
 rw[if_neg (show ¬(k=3\/k=5) by omega),if_neg (show k≠6 by omega),if_pos (show k=7\/k=8\/k=12 by omega),(qW GW _ sq (.node k x a e A) o).2.2 B,mZ GW _ sq (.node k x a e A) 3 o (B.imp_right .inl)];obtain⟨P,Q,I,R,S,T,z,y,U⟩:=JB J N H false (aF (aH s)) (c:=3) (by decide) (.node k x a e A) D L;have M:=ME G r false (aF (aH s)) 3 (.node k x a e A) s;obtain⟨L1,O,L3⟩:=Ez (mk:=mk) J k (fB GW (cO mk q sq) sq (.node k x a e A) 3 o).2 A F 0 (aJ G (aI r false (aF (aH s))) 3 r.next (.node k x a e A) s).2 sq _ _ o (by rw[S,I,D]) P;have C:=K7 F;refine⟨⟨L1.pO,ll.trans (ll.head (s:=s) (sq:=sq) I R M.grow K T (fun h=>by cases h)) L1.aP M (eF _ _ _ _ _ _ _),L1.num⟩,(O.trans Q).trans L,?_⟩;rw[jC G A false 0 A.length _ _ C.1 C.2];exact(U Y).mono (eF _ _ _ _ _ _ _).grow
end
theorem Ca{k:Int}{x:ByteArray}{a e:Int}{A:List ae}(h:Ed (.node k x a e A)=true):(k≠2/\k≠3/\k≠4/\k≠5)/\lH A=true:=by
 rw[Ed]at h;simp only[acb,decide_eq_true_eq]at h;exact⟨h.1.1.1,h.2⟩
mutual
theorem Gg(G:bf):∀(t:ae) (s:aR) (r:RS),Ed t=true->(aK G false t s r).1.aP=r.aP
 | .node k x a e kids,s,r,h=>by
  obtain⟨⟨K,F,H,I⟩,A⟩:=Ca h
  have C:∀c D,(aJ G (aI r false (aF (aH s))) c r.next (.node k x a e kids) D).1.aP=r.aP:=fun c D=>by
   unfold aJ;split<;>rfl
  have J:(ik G s r (aI r false (aF (aH s))) (.node k x a e kids)).aP=r.aP:=by
   have B:∀o,(iw (aI r false (aF (aH s))) r.next (.node k x a e kids) o).aP=r.aP:=fun o=>by cases o<;>rfl
   unfold ik;split
   ·exact B _
   split
   ·exact B _
   split
   ·exact B _
   split
   ·exact B _
   split
   ·exact B _
   rfl
  rw[dz,if_neg F,if_neg H,if_neg I];split
  ·exact(pK G kids 0 _ _ _ A).trans (C _ _)
  split
  ·exact pK G kids 0 _ _ _ A
  split
  ·exact(pK G kids 0 _ _ _ A).trans (C _ _)
  split
  ·exact(pK G kids 2 _ _ _ A).trans ((pK G kids 0 _ _ _ A).trans (C _ _))
  exact(pK G kids 0 _ _ _ A).trans J
theorem pK(G:bf):∀(ts:List ae) (f n:Nat) (s:aR) (r:RS),lH ts=true->(aj G false ts f n s r).1.aP=r.aP
 | [],_,_,_,r,_=>by rw[aj]
 | t::ts,f+1,n,s,r,h=>by
  rw[lH,acb]at h;rw[aj];exact pK G ts f n s r h.2
 | t::ts,0,0,s,r,_=>by rw[aj]
 | t::ts,0,n+1,s,r,h=>by
  rw[lH,acb]at h;rw[aj];exact(pK G ts 0 n _ _ h.2).trans (Gg G t s r h.1)
end
theorem JL(G:bf)(t:ae)(i:Bool)(s:aR)(r:RS)(h:Ed t=true):(aK G i t s r).1.next=r.next+aB t:=by
 obtain⟨⟨p,d,A⟩,-⟩:=N9 (xE.refl G) t i s s r r h rfl;exact A.n1
section
variable {G:bf}{GW:List Dc}{Gn:Int->Prop}{mk:Int}
theorem GY(D:yC G GW Gn){r:RS}{q:RW}(L:lJ Gn r q){c:Int}(J:c=0\/c=1\/c=2)(i:Bool)(v:List Int)(t:ae)(C:q.num=r.next)(M:1<=r.next){o:Int}(K:(if c=0\/c=2 then -1 else r.owner)=o):
 lJ Gn (aX (aI r i v) c r.next t (decide ((aV (if c=1 then G.fields else G.globals) t.text).getD 0≠(r.next:Int)))) (eO GW q t c o)/\(eO GW q t c o).num=q.num/\(eO GW q t c o).at_=q.at_:=by
 have B:(mD GW (decide (c=1)) t.text).map Dc.node=aV (if c=1 then G.fields else G.globals) t.text:=by
  rcases J with rfl|rfl|rfl
  ·exact D.nodeg _
  ·exact D.nodef _
  exact D.nodeg _
 have H:=Iw L i v;unfold eO;rw[B,C];by_cases A:aV (if c=1 then G.fields else G.globals) t.text=some (r.next:Int)
 ·rw[if_pos A,A]
  have F:decide ((some (r.next:Int)).getD 0≠(r.next:Int))=false:=by simp
  rw[F];exact⟨H.decl c t C (by exact K),C,rfl⟩
 rw[if_neg A]
 have F:decide ((aV (if c=1 then G.fields else G.globals) t.text).getD 0≠(r.next:Int))=true:=by
  rw[decide_eq_true_eq];intro h
  cases I:aV (if c=1 then G.fields else G.globals) t.text with
  | none=>
   rw[I]at h;have:(0:Int)=(r.next:Int):=h;omega
  | some j=>
   rw[I]at h A;have:j=(r.next:Int):=h;rw[this]at A;exact A rfl
 rw[F];exact⟨H.say 9 r.next t,C,rfl⟩
theorem De(r:RS)(c:Int)(n:Nat)(t:ae)(b:Bool):(aX r c n t b).aP=r.aP/\(aX r c n t b).owner=r.owner:=by cases b<;>exact⟨rfl,rfl⟩
theorem Df(r:RS)(i:Bool)(v:List Int)(c:Int)(t:ae)(b:Bool):pz r (aX (aI r i v) c r.next t b):=qR.declare r i v c t b
theorem LQ(P:yC G GW Gn)(B:List Nat):∀(C:List ae),(∀f∈C,f.kind=4/\∀c∈f.kids,vE c)->∀(j:Nat) (s:aR) (sq:List Nat) (r:RS) (q:RW) (o:Int),1<=r.next->q.num+1=r.next->r.owner=o->lJ Gn r q ->
 Jn Gn mk false r (aj G false C 0 C.length s r).1 q (dP GW mk 3 B C j o sq q).1/\(aj G false C 0 C.length s r).1.aP=r.aP
 | [],_,j,s,sq,r,q,o,_,hn,_,kC=>by
  rw[aj,dP];exact⟨⟨kC,ll.refl mk false rfl rfl,hn⟩,rfl⟩
 | f::C,hf,j,s,sq,r,q,o,h1,hn,ho,kC=>by
  rw[aco,aj,dP];try simp only
  rw[if_neg (show ¬((3:Int)=16/\j=2) from fun h=>absurd h.1 (by decide)),if_neg (show ¬((3:Int)=5\/(3:Int)=6\/(3:Int)=11) by decide)];obtain⟨u,t⟩:=hf f (by simp);obtain⟨k,x,a,e,A⟩:=f;have Q:k=4:=u;subst Q;have R:∀c∈A,vE c:=t;have X:lJ Gn r { q with num:=q.num+1 }:=kC.of_same rfl rfl rfl rfl rfl rfl;have I:(cO mk { q with num:=q.num+1 } sq).num=r.next:=by rw[mV];exact hn
  have n:(bJ GW mk (.node 4 x a e A) o sq { q with num:=q.num+1 }).1=(dP GW mk 4 sq A 0 o sq (eO GW (cO mk { q with num:=q.num+1 } sq) (.node 4 x a e A) 1 o)).1:=by
   rw[bJ];rfl
  obtain⟨Z,z,y⟩:=GY P (qU X mk sq) (c:=1) (.inr (.inl rfl)) false (aF (aH s)) (.node 4 x a e A) I h1 (o:=o) (by rw[if_neg (by decide)];exact ho)
  have M:aK G false (.node 4 x a e A) s r=aj G false A 0 A.length s (aX (aI r false (aF (aH s))) 1 r.next (.node 4 x a e A) (decide ((aV G.fields x).getD 0≠(r.next:Int)))):=by
   rw[dz,if_neg (by decide),if_pos rfl]
  have N:=Df r false (aF (aH s)) 1 (.node 4 x a e A) (decide ((aV G.fields x).getD 0≠(r.next:Int)));have F:(aX (aI r false (aF (aH s))) 1 r.next (.node 4 x a e A) (decide ((aV G.fields x).getD 0≠(r.next:Int)))).next=r.next+1:=by rw[oO];rfl
  have L:=De (aI r false (aF (aH s))) 1 r.next (.node 4 x a e A) (decide ((aV G.fields x).getD 0≠(r.next:Int)));obtain⟨D, T⟩:=ag (aX (aI r false (aF (aH s))) 1 r.next (.node 4 x a e A) (decide ((aV G.fields x).getD 0≠(r.next:Int))));have O:lJ Gn D (eO GW (cO mk { q with num:=q.num+1 } sq) (.node 4 x a e A) 1 o):=by rw[<- T];exact Z
  rw[T]at M N F L;obtain⟨L1,W,L3⟩:=Ez (mk:=mk) P 4 sq A R 0 s sq D _ o (by rw[z,I,F]) O;have Y:=eF G A false 0 A.length s D
  have H:Jn Gn mk false r (aK G false (.node 4 x a e A) s r).1 q (bJ GW mk (.node 4 x a e A) o sq { q with num:=q.num+1 }).1:=by
   rw[M,n];have U:ll mk false r D { q with num:=q.num+1 } (eO GW (cO mk { q with num:=q.num+1 } sq) (.node 4 x a e A) 1 o):=ll.head (s:=s) (sq:=sq) F L.1 N.grow hn y (fun h=>by cases h);have l:ll mk false r D q (eO GW (cO mk { q with num:=q.num+1 } sq) (.node 4 x a e A) 1 o):=⟨U.out,U.DN⟩
   exact⟨L1.pO,l.trans L1.aP N Y,L1.num⟩
  have J:(aK G false (.node 4 x a e A) s r).1.owner=o:=by rw[M,W,L.2];exact ho
  have g:(aK G false (.node 4 x a e A) s r).1.aP=r.aP:=by rw[M,L3,L.1];rfl
  have K:=mQ G (.node 4 x a e A) false s r;obtain⟨S,m⟩:=LQ P B C (fun c v=>hf c (by simp[v])) (j+1) (aK G false (.node 4 x a e A) s r).2 sq _ _ o (aca h1 K.next) H.num J H.pO;exact⟨⟨S.pO,H.aP.trans S.aP K (eF _ _ _ _ _ _ _),S.num⟩,m.trans g⟩
theorem rec_res(M:yC G GW Gn){x:ByteArray}{a e:Int}{A:List ae}(T:∀f∈A,f.kind=4/\∀c∈f.kids,vE c)(s:aR)(sq:List Nat)(r:RS)(q:RW)(o:Int)(S:1<=r.next)(I:q.num=r.next)(W:lJ Gn r q):
 Jn Gn mk false r (aK G false (.node 3 x a e A) s r).1 q (bJ GW mk (.node 3 x a e A) o sq q).1/\(aK G false (.node 3 x a e A) s r).1.aP=r.aP:=by
 have C:(cO mk q sq).num=r.next:=by rw[mV];exact I
 have U:(bJ GW mk (.node 3 x a e A) o sq q).1=(dP GW mk 3 sq A 0 (q.num:Int) sq (eO GW (cO mk q sq) (.node 3 x a e A) 0 (-1))).1:=by
  rw[bJ];rfl
 obtain⟨P,Q,R⟩:=GY M (qU W mk sq) (c:=0) (.inl rfl) false (aF (aH s)) (.node 3 x a e A) C S (o:=-1) (by rw[if_pos (.inl rfl)]);have K:=Df r false (aF (aH s)) 0 (.node 3 x a e A) (decide ((aV G.globals x).getD 0≠(r.next:Int)));have B:(aX (aI r false (aF (aH s))) 0 r.next (.node 3 x a e A) (decide ((aV G.globals x).getD 0≠(r.next:Int)))).next=r.next+1:=by rw[oO];rfl
 have F:=De (aI r false (aF (aH s))) 0 r.next (.node 3 x a e A) (decide ((aV G.globals x).getD 0≠(r.next:Int)))
 have N:aK G false (.node 3 x a e A) s r=aj G false A 0 A.length s { aX (aI r false (aF (aH s))) 0 r.next (.node 3 x a e A) (decide ((aV G.globals x).getD 0≠(r.next:Int))) with owner:=(r.next:Int) }:=by
  rw[dz,if_pos rfl]
 obtain⟨D, L⟩:=ag (aX (aI r false (aF (aH s))) 0 r.next (.node 3 x a e A) (decide ((aV G.globals x).getD 0≠(r.next:Int))));have H:lJ Gn D (eO GW (cO mk q sq) (.node 3 x a e A) 0 (-1)):=by rw[<- L];exact P
 rw[L]at N K B F;have J:pz r ({ D with owner:=(r.next:Int) }:RS):=K.trans (qR.owner _ _);obtain⟨L1,O⟩:=LQ (mk:=mk) M sq A T 0 s sq ({ D with owner:=(r.next:Int) }:RS) _ (q.num:Int) (by show 1<=D.next;omega) (by show _=D.next;rw[Q,C,B]) (by show(r.next:Int)=_;rw[I]) (H.of_same (r':={ D with owner:=(r.next:Int) }) rfl rfl rfl rfl rfl rfl);rw[N,U];refine⟨⟨L1.pO,ll.trans (ll.head (s:=s) (sq:=sq) (u:={ D with owner:=(r.next:Int) }) B F.1 J.grow I R (fun h=>by cases h)) L1.aP J (eF _ _ _ _ _ _ _),L1.num⟩,?_⟩;rw[O];show D.aP=r.aP;rw[F.1];rfl
theorem aar(J:yC G GW Gn){b:ae}(R:b.kind=6)(L:∀p∈b.kids,(p.kind=7\/p.kind=8)/\∀q∈p.kids,vE q):RG G GW Gn mk false b:=by
 intro s sq r q o U K T W F;obtain⟨k,x,a,e,A⟩:=b;have S:k=6:=R;subst S;have C:(cO mk q sq).num=r.next:=by rw[mV];exact K
 have M:ik G s r (aI r false (aF (aH s))) (.node 6 x a e A)=aI r false (aF (aH s)):=Kv _ _ _ _ _ (by show ¬((6:Int)=20\/(6:Int)=22\/(6:Int)=27\/(6:Int)=19\/(6:Int)=9);decide);obtain⟨H,I,O,P,Q⟩:=Cg J (qU W mk sq) false (aF (aH s)) (.node 6 x a e A) o C (fun _=>F) (by show ¬((6:Int)=3\/(6:Int)=4\/(6:Int)=5\/(6:Int)=7\/(6:Int)=8\/(6:Int)=12\/(6:Int)=16);decide);rw[dz,if_neg (by decide),if_neg (by decide),if_neg (by decide),if_neg (by decide),if_neg (by decide),if_neg (by decide),if_neg (by decide),bJ];try simp only
 rw[if_neg (show ¬((6:Int)=3\/(6:Int)=5) by decide),if_pos trivial];rw[M]at H I O;rw[M];obtain⟨L1,N,L3⟩:=Bd (G:=G) (GW:=GW) (Gn:=Gn) (mk:=mk) false 6 (qL GW (cO mk q sq) sq (.node 6 x a e A)) (by decide) A (fun p D=>prm_sim J (L p D).1 (L p D).2) (.inl (.inr (.inl rfl))) 0 s sq (aI r false (aF (aH s))) _ o U (by rw[P,C];rfl) (I.trans T) H F;have B:=MF r false (aF (aH s));exact⟨⟨L1.pO,ll.trans (ll.head (s:=s) (sq:=sq) rfl rfl ⟨[],by simp[aI]⟩ K Q (fun h=>by cases h)) L1.aP B (eF _ _ _ _ _ _ _),L1.num⟩,N,L3⟩
theorem aaq(l:yC G GW Gn){x:ByteArray}{a e:Int}{b c d:ae}(al:eX (.node 5 x a e [b,c,d])=true)(X:lH [b,c,d]=true)(s:aR)(r:RS)(q:RW)(o:Int)(h1:1<=r.next)(hn:q.num=r.next)(kC:lJ Gn r q):
 Jn Gn mk false r (aK G false (.node 5 x a e [b,c,d]) s r).1 q (bJ GW mk (.node 5 x a e [b,c,d]) o [] q).1 /\
 ∀m:Nat,r.next<=m->m<(aK G false (.node 5 x a e [b,c,d]) s r).1.next->(r.next+1+aB b+aB c<=m->∃s' y,bK (aK G false (.node 5 x a e [b,c,d]) s r).1.aP (m:Int)=some (aF (aH s'))/\oq (aK G false (.node 5 x a e [b,c,d]) s r).1.ds s' y/\(mk=(m:Int)->(bJ GW mk (.node 5 x a e [b,c,d]) o [] q).1.at_=y)) /\
  (m<r.next+1+aB b+aB c->bK (aK G false (.node 5 x a e [b,c,d]) s r).1.aP (m:Int)=bK r.aP (m:Int)):=by
 obtain⟨b',c',d',hl,a6,af,ab,aa,Y⟩:=KN al;simp only[List.cons.injEq,and_true]at hl;obtain⟨rfl,rfl,rfl⟩:=hl;simp only[lH,acb,and_true]at X;obtain⟨U,W,ao⟩:=X;have Z:(cO mk q []).num=r.next:=by rw[mV];exact hn
 obtain⟨a1,a2,a3⟩:=GY l (qU kC mk []) (c:=2) (.inr (.inr rfl)) false (aF (aH s)) (.node 5 x a e [b,c,d]) Z h1 (o:=-1) (by rw[if_pos (.inr rfl)]);have LD:=Df r false (aF (aH s)) 2 (.node 5 x a e [b,c,d]) (decide ((aV G.globals x).getD 0≠(r.next:Int)));have O:(aX (aI r false (aF (aH s))) 2 r.next (.node 5 x a e [b,c,d]) (decide ((aV G.globals x).getD 0≠(r.next:Int)))).next=r.next+1:=by rw[oO];rfl
 have GX:=De (aI r false (aF (aH s))) 2 r.next (.node 5 x a e [b,c,d]) (decide ((aV G.globals x).getD 0≠(r.next:Int)));rw[dz,if_neg (by decide),if_neg (by decide),if_pos rfl];obtain⟨D0, N⟩:=ag (aX (aI r false (aF (aH s))) 2 r.next (.node 5 x a e [b,c,d]) (decide ((aV G.globals x).getD 0≠(r.next:Int))));have M:lJ Gn D0 (eO GW (cO mk q []) (.node 5 x a e [b,c,d]) 2 (-1)):=by rw[<- N];exact a1
 rw[N]at LD O GX⊢;obtain⟨D,L⟩:∃D:RS,({ D0 with owner:=(r.next:Int) }:RS)=D:=⟨_,rfl⟩
 have t:pz r D:=by rw[<- L];exact LD.trans (qR.owner _ _)
 have A:D.next=r.next+1:=by rw[<- L];exact O
 have F:D.aP=r.aP:=by rw[<- L];exact GX.1
 have f:D.owner=(q.num:Int):=by rw[<- L,hn]
 obtain⟨H, hH⟩:=ag (eO GW (cO mk q []) (.node 5 x a e [b,c,d]) 2 (-1));rw[hH]at M a2 a3;have g:lJ Gn D H:=by rw[<- L];exact M.of_same rfl rfl rfl rfl rfl rfl
 rw[L]
 have hw:(bJ GW mk (.node 5 x a e [b,c,d]) o [] q).1=(bJ GW mk d (q.num:Int) (bJ GW mk c (q.num:Int) (bJ GW mk b (q.num:Int) [] { H with num:=H.num+1 }).2 { (bJ GW mk b (q.num:Int) [] { H with num:=H.num+1 }).1 with num:=(bJ GW mk b (q.num:Int) [] { H with num:=H.num+1 }).1.num+1 }).2
  { (bJ GW mk c (q.num:Int) (bJ GW mk b (q.num:Int) [] { H with num:=H.num+1 }).2 { (bJ GW mk b (q.num:Int) [] { H with num:=H.num+1 }).1 with num:=(bJ GW mk b (q.num:Int) [] { H with num:=H.num+1 }).1.num+1 }).1 with num:=(bJ GW mk c (q.num:Int) (bJ GW mk b (q.num:Int) [] { H with num:=H.num+1 }).2 { (bJ GW mk b (q.num:Int) [] { H with num:=H.num+1 }).1 with num:=(bJ GW mk b (q.num:Int) [] { H with num:=H.num+1 }).1.num+1 }).1.num+1 }).1:=by
  rw[bJ,<- hH];simp only[dP];rfl
 rw[hw];have hA:aj G false [b,c,d] 0 2 [[]] D=aK G false c (aK G false b [[]] D).2 (aK G false b [[]] D).1:=by simp only[aj]
 have hB:∀S R,aj G true [b,c,d] 2 1 S R=aK G true d S R:=fun S R=>by simp only[aj]
 rw[hA,hB];obtain⟨v,x2,x3⟩:=aar (mk:=mk) l a6 af [[]] [] D { H with num:=H.num+1 } (q.num:Int) (by simp) (by show H.num+1=_;rw[a2,Z,A]) f (g.of_same rfl rfl rfl rfl rfl rfl) (oq.nil _);have a7:=JL G b false [[]] D U;have Q:=Gg G b [[]] D U;have P:=Qr (vK G b false [[]] D) (by simp);have n:pz D (aK G false b [[]] D).1:=mQ _ _ _ _ _;obtain⟨B, K⟩:=ag (aK G false b [[]] D);obtain⟨I, Yn⟩:=ag (bJ GW mk b (q.num:Int) [] { H with num:=H.num+1 });rw[K,Yn]at v x3;rw[K]at x2 a7 Q P n;rw[K,Yn];obtain⟨u,y2,y3⟩:=PK (mk:=mk) l false _ c (ab9 _) (Qt ab) B.2 I.2 B.1 { I.1 with num:=I.1.num+1 } (q.num:Int) P v.num x2 (v.pO.of_same rfl rfl rfl rfl rfl rfl) x3;have a8:=JL G c false B.2 B.1 W;have T:=Gg G c B.2 B.1 W;have j:pz B.1 (aK G false c B.2 B.1).1:=mQ _ _ _ _ _;obtain⟨C, jQ⟩:=ag (aK G false c B.2 B.1);obtain⟨J, Ym⟩:=ag (bJ GW mk c (q.num:Int) I.2 { I.1 with num:=I.1.num+1 });rw[jQ,Ym]at u y3;rw[jQ]at y2 a8 T j;rw[jQ,Ym];obtain⟨k,z2,z3⟩:=PK (mk:=mk) l true _ d (ab9 _) Y ([]::C.2) J.2 C.1 { J.1 with num:=J.1.num+1 } (q.num:Int) (by simp) u.num y2 (u.pO.of_same rfl rfl rfl rfl rfl rfl) y3.push;have z:=mQ G d true ([]::C.2) C.1;have v0:ll mk false r D q H:=ll.head (s:=s) (sq:=[]) A (by rw[F];rfl) t.grow hn a3 (fun h=>by cases h);have v1:ll mk false D B.1 H I.1:=⟨v.aP.out,v.aP.DN⟩
 have v2:ll mk false B.1 C.1 I.1 J.1:=⟨u.aP.out,u.aP.DN⟩
 have v3:ll mk false C.1 (aK G true d ([]::C.2) C.1).1 J.1 (bJ GW mk d (q.num:Int) J.2 { J.1 with num:=J.1.num+1 }).1:=⟨k.aP.out,fun h=>by cases h⟩
 refine⟨⟨k.pO,((v0.trans v1 t n).trans v2 (t.trans n) j).trans v3 ((t.trans n).trans j) z,k.num⟩,fun m ar ad=>⟨fun an=>?_,fun aq=>?_⟩⟩
 ·exact k.aP.DN rfl m (by omega) ad
 have:(aK G true d ([]::C.2) C.1).1.next=(aK G true d ([]::C.2) C.1).1.next:=rfl;show bK (aK G true d ([]::C.2) C.1).1.aP (m:Int)=_;rw[z.aP m (.inl (by omega)),T,Q,F]
def nV:List ae->Nat->Nat->Bool
 | [],_,_=>false
 | k::ks,n,m=>if m<n+aB k then decide (k.kind=5)&&(match k.kids with| [b,c,_]=>decide (n+1+aB b+aB c<=m)|_=>false) else nV ks (n+aB k) m
theorem TE(u:yC G GW Gn)(A:List Nat):∀(ks:List ae),(∀k∈ks,eX k=true/\qd k=true)->∀(j:Nat) (r:RS) (q:RW) (o:Int),1<=r.next->q.num+1=r.next->lJ Gn r q ->
 Jn Gn mk false r (aj G false ks 0 ks.length [] r).1 q (dP GW mk 2 A ks j o [] q).1/\(aj G false ks 0 ks.length [] r).1.next=r.next+aC ks /\
 ∀m:Nat,r.next<=m->m<(aj G false ks 0 ks.length [] r).1.next ->
  if nV ks r.next m=true then ∃O B,bK (aj G false ks 0 ks.length [] r).1.aP (m:Int)=some (aF (aH O))/\oq (aj G false ks 0 ks.length [] r).1.ds O B/\(mk=(m:Int)->(dP GW mk 2 A ks j o [] q).1.at_=B)
  else bK (aj G false ks 0 ks.length [] r).1.aP (m:Int)=bK r.aP (m:Int)
 | [],_,j,r,q,o,_,hn,kC=>by
  rw[aj,dP];exact⟨⟨kC,ll.refl mk false rfl rfl,hn⟩,by simp[aC],fun m X h2=>by have a1:m<r.next:=h2;omega⟩
 | k::ks,hk,j,r,q,o,X,hn,kC=>by
  rw[aco,aj,dP];try simp only
  rw[if_neg (show ¬((2:Int)=16/\j=2) from fun h=>absurd h.1 (by decide)),if_neg (show ¬((2:Int)=5\/(2:Int)=6\/(2:Int)=11) by decide)];obtain⟨N,ht⟩:=hk k (by simp);have z:=mQ G k false [] r;have n:(aK G false k [] r).2=[]:=List.length_eq_zero_iff.1 (by rw[vK];rfl);have L:(aK G false k [] r).1.next=r.next+aB k:=(TF (xE.refl G) k ht [] r rfl).2.2.1
  have T:Jn Gn mk false r (aK G false k [] r).1 q (bJ GW mk k o [] { q with num:=q.num+1 }).1/\∀m:Nat,r.next<=m->m<r.next+aB k ->
   if nV (k::ks) r.next m=true then ∃O B,bK (aK G false k [] r).1.aP (m:Int)=some (aF (aH O))/\oq (aK G false k [] r).1.ds O B/\(mk=(m:Int)->(bJ GW mk k o [] { q with num:=q.num+1 }).1.at_=B)
   else bK (aK G false k [] r).1.aP (m:Int)=bK r.aP (m:Int):=by
   have g:lJ Gn r { q with num:=q.num+1 }:=kC.of_same rfl rfl rfl rfl rfl rfl;have l:=fU N;obtain⟨kk,x,a,e,D⟩:=k;have U:=ht;rw[qd,Bool.or_eq_true,acb,acb,acb,decide_eq_true_eq,decide_eq_true_eq,decide_eq_true_eq]at U;rcases U with⟨rfl,hf⟩| ⟨⟨rfl,-⟩,t⟩
   ·have wS:∀f∈D,f.kind=4/\∀c∈f.kids,vE c:=fun f R=>by
     have y:=List.all_eq_true.1 hf f R;rw[acb,decide_eq_true_eq]at y;have h4:=l f R;have v:=LV h4 y.1;exact⟨y.1,fun c P=>⟨JK (fU h4 c P) (v c P),.inr (by rw[v c P];decide),by rw[v c P];decide⟩⟩
    obtain⟨F,Z⟩:=rec_res (mk:=mk) u (x:=x) (a:=a) (e:=e) wS [] [] r { q with num:=q.num+1 } o X hn g;refine⟨⟨F.pO,⟨F.aP.out,F.aP.DN⟩,F.num⟩,fun m I C=>?_⟩
    have J:nV (.node 3 x a e D::ks) r.next m=false:=by
     rw[nV,if_pos C];have:decide ((ae.node 3 x a e D).kind=5)=false:=rfl;rw[this];rfl
    rw[J,if_neg (by simp),Z]
   obtain⟨b,c,d,rfl,-⟩:=KN N;obtain⟨F,Z⟩:=aaq (mk:=mk) u N t [] r { q with num:=q.num+1 } o X hn g;refine⟨⟨F.pO,⟨F.aP.out,F.aP.DN⟩,F.num⟩,fun m I C=>?_⟩;obtain⟨R3,R4⟩:=Z m I (by rw[L];exact C)
   have J:nV (.node 5 x a e [b,c,d]::ks) r.next m=decide (r.next+1+aB b+aB c<=m):=by
    rw[nV,if_pos C];have:decide ((ae.node 5 x a e [b,c,d]).kind=5)=true:=rfl;rw[this,Bool.true_and];rfl
   rw[J];by_cases K:r.next+1+aB b+aB c<=m
   ·rw[if_pos (decide_eq_true K)]
    exact R3 K
   rw[if_neg (by simpa using K)];exact R4 (by omega)
  obtain⟨Y,K2⟩:=T;rw[n];obtain⟨W,T2,T3⟩:=TE u A ks (fun c P=>hk c (by simp[P])) (j+1) (aK G false k [] r).1 (bJ GW mk k o [] { q with num:=q.num+1 }).1 o (aca X z.next) Y.num Y.pO;have M:=eF G ks false 0 ks.length [] (aK G false k [] r).1;refine⟨⟨W.pO,Y.aP.trans W.aP z M,W.num⟩,by rw[T2,L,aC];omega,fun m I C=>?_⟩;by_cases S:m<r.next+aB k
  ·have H:=K2 m I S
   rw[M.aP m (.inl (by omega))];by_cases J:nV (k::ks) r.next m=true
   ·rw[if_pos J]at H⊢
    obtain⟨O,B,c1,c2,c3⟩:=H;refine⟨O,B,c1,c2.mono M.grow,fun hm=>?_⟩;rw[W.aP.out fun m' e' hh=>by rw[hm]at e';have:m=m':=(by omega);omega];exact c3 hm
   rw[if_neg J]at H⊢;exact H
  have J:nV (k::ks) r.next m=nV ks (aK G false k [] r).1.next m:=by rw[nV,if_neg S,L]
  rw[J];have:=T3 m (by omega) C;by_cases Q:nV ks (aK G false k [] r).1.next m=true
  ·rw[if_pos Q]at this⊢
   exact this
  rw[if_neg Q]at this⊢;rw[this,z.aP m (.inr (by omega))]
end
def pD(f:Bool)(x:ByteArray):Dc->Bool:=fun d=>(decide (d.kind=1)==f)&&decide (d.name=x)
theorem C9{A:Type}(p:A->Bool):∀(l:List A),((l.findIdx? p).bind fun k=>l[k]?)=l.find? p
 | []=>rfl
 | a::l=>by
  rw[List.findIdx?_cons,List.find?_cons]
  cases B:p a with
  | true=>rfl
  | false=>
   rw[if_neg (by simp),<- C9 p l];cases l.findIdx? p<;>rfl
theorem EU(l:List Dc)(f:Bool)(x:ByteArray):mD l f x=l.find? (pD f x):=C9 _ l
theorem LM(l:List Dc)(f:Bool)(x:ByteArray):(nS l f x).isSome=(l.find? (pD f x)).isSome:=by
 unfold nS;rw[<- C9 (pD f x) l];show(l.findIdx? (pD f x)).isSome=_
 cases h:l.findIdx? (pD f x) with
 | none=>rfl
 | some j=>
  have:=List.findIdx?_eq_some_iff_getElem.1 h;obtain⟨A,-⟩:=this;show true=(l[j]?).isSome;rw[ace A];rfl
theorem YW(out:List Dc)(d:Dc)(f:Bool)(x:ByteArray):(vD out d).find? (pD f x)=(out.find? (pD f x)).or (if pD f x d then some d else none):=by
 unfold vD;rw[LM];by_cases C:(out.find? (pD (decide (d.kind=1)) d.name)).isSome=true
 ·rw[if_pos C]
  by_cases A:pD f x d=true
  ·rw[if_pos A]
   have B:pD f x=pD (decide (d.kind=1)) d.name:=by
    unfold pD at A;rw[acb,beq_iff_eq,decide_eq_true_eq]at A;rw[<- A.1,<- A.2]
   rw[B];obtain⟨z,D⟩:=Option.isSome_iff_exists.1 C;rw[D];rfl
  rw[if_neg A,Option.or_none]
 rw[if_neg C,List.find?_append];congr 1
 rw[List.find?_cons];cases pD f x d<;>rfl
def iG:List ae->Nat->Int->List Dc
 | [],_,_=>[]
 | t::ts,i,o=>(if t.kind=3 then [⟨0,t.text,i,-1⟩] else if t.kind=5 then [⟨2,t.text,i,-1⟩] else if t.kind=4 then [⟨1,t.text,i,o⟩] else [])++iG ts (i+1) (if t.kind=3 then(i:Int) else o)
def u6:List ae->Nat->Int->Int
 | [],_,o=>o
 | t::ts,i,o=>u6 ts (i+1) (if t.kind=3 then(i:Int) else o)
theorem ET:∀(ts:List ae) (i:Nat) (o:Int) (out:List Dc),gm ts i o out=(iG ts i o).foldl vD out
 | [],_,_,_=>rfl
 | t::ts,i,o,out=>by
  rw[gm,iG,ET ts,List.foldl_append];congr 1
  by_cases A:t.kind=3
  ·rw[if_pos A,if_pos A];rfl
  rw[if_neg A,if_neg A];by_cases C:t.kind=5
  ·rw[if_pos C,if_pos C];rfl
  rw[if_neg C,if_neg C];by_cases B:t.kind=4
  ·rw[if_pos B,if_pos B];rfl
  rw[if_neg B,if_neg B];rfl
theorem G5(f:Bool)(x:ByteArray):∀(L out:List Dc),(L.foldl vD out).find? (pD f x)=(out.find? (pD f x)).or (L.find? (pD f x))
 | [],out=>by simp
 | d::L,out=>by
  rw[List.foldl_cons,G5 f x L,YW,List.find?_cons,Option.or_assoc];congr 1
  cases pD f x d<;>rfl
theorem xm:∀(a b:List ae) (i:Nat) (o:Int),iG (a++b) i o=iG a i o++iG b (i+a.length) (u6 a i o)
 | [],b,i,o=>rfl
 | t::a,b,i,o=>by
  rw[List.cons_append,iG,xm a b,iG,List.append_assoc,u6,aco,show i+1+a.length=i+(a.length+1) by omega]
theorem E9:∀{ts:List ae}{i:Nat}{o:Int},(∀t∈ts,t.kind≠3/\t.kind≠4/\t.kind≠5)->iG ts i o=[]/\u6 ts i o=o
 | [],_,_,_=>⟨rfl,rfl⟩
 | t::ts,i,o,h=>by
  obtain⟨A,D,F⟩:=h t (by simp);obtain⟨B,C⟩:=E9 (ts:=ts) (i:=i+1) (o:=o) fun c H=>h c (by simp[H])
  rw[iG,u6,if_neg A,if_neg F,if_neg D,if_neg A,B,C];exact⟨rfl,rfl⟩
mutual
theorem Yl:∀(t:ae),Ed t=true->∀y∈aM t,y.kind≠3/\y.kind≠4/\y.kind≠5
 | .node k x a e kids,h,y,A=>by
  obtain⟨B,C⟩:=Ca h;rw[aM,List.mem_cons]at A;rcases A with rfl|A
  ·exact⟨B.2.1,B.2.2.1,B.2.2.2⟩
  exact Av kids C y A
theorem Av:∀(ts:List ae),lH ts=true->∀y∈bg ts,y.kind≠3/\y.kind≠4/\y.kind≠5
 | [],_,y,A=>by cases A
 | t::ts,h,y,A=>by
  rw[lH,acb]at h;rw[bg,List.mem_append]at A;rcases A with A|A
  ·exact Yl t h.1 y A
  exact Av ts h.2 y A
end
theorem Hf(o:Int):∀(A:List ae) (n:Nat),(∀f∈A,f.kind=4/\lH f.kids=true)->iG (bg A) n o=(fD A n).map (fun y=>⟨1,y.1.text,y.2,o⟩)/\u6 (bg A) n o=o
 | [],n,_=>⟨rfl,rfl⟩
 | f::A,n,h=>by
  obtain⟨C,F⟩:=h f (by simp);have B:=E9 (i:=n+1) (o:=o) (Av f.kids F)
  have e:iG (aM f) n o=[⟨1,f.text,n,o⟩]/\u6 (aM f) n o=o:=by
   rw[iK,iG,u6,if_neg (by omega),if_neg (by omega),if_pos C,if_neg (by omega),B.1,B.2];exact⟨rfl,rfl⟩
  obtain⟨I,J⟩:=Hf o A (n+aB f) fun c D=>h c (by simp[D])
  have H:∀(a b:List ae) (i:Nat) (o:Int),u6 (a++b) i o=u6 b (i+a.length) (u6 a i o):=by
   intro a
   induction a with
   | nil=>intro b i o;rfl
   | cons t a ih=>intro b i o;rw[List.cons_append,u6,ih,u6,aco,show i+1+a.length=i+(a.length+1) by omega]
  rw[bg,xm,H,e.1,e.2,eZ,I,J,fD];exact⟨rfl,rfl⟩
def zi(y:ae×Nat):Dc:=⟨if y.1.kind=3 then 0 else 2,y.1.text,y.2,-1⟩
theorem Oj(x:ByteArray):∀(ks:List ae) (n:Nat) (o:Int),(∀k∈ks,qd k=true) ->
 (iG (bg ks) n o).find? (pD false x)=((fD ks n).find? fun y=>decide (x=y.1.text)).map zi /\
 ((iG (bg ks) n o).find? (pD true x)).map (fun d=>(d.kind,d.node))=((o6 (wK ks n)).find? fun y=>decide (x=y.1)).map fun y=>((1:Int),(y.2:Int))
 | [],n,o,_=>⟨rfl,rfl⟩
 | k::ks,n,o,h=>by
  have U:=h k (by simp);rw[bg,xm,eZ,List.find?_append,List.find?_append,fD,wK];obtain⟨W,P⟩:=Oj x ks (n+aB k) (u6 (aM k) n o) fun c D=>h c (by simp[D])
  rw[W];obtain⟨u,y,a,e,A⟩:=k;have H:=U;rw[qd,Bool.or_eq_true,acb,acb,acb,decide_eq_true_eq,decide_eq_true_eq,decide_eq_true_eq]at H;rcases H with⟨rfl,K⟩| ⟨⟨rfl,-⟩,F⟩
  ·have Q:∀f∈A,f.kind=4/\lH f.kids=true:=fun f L=>by
    have O:=List.all_eq_true.1 K f L;rw[acb,decide_eq_true_eq]at O;exact O
   have D:iG (aM (.node 3 y a e A)) n o=⟨0,y,n,-1⟩::(fD A (n+1)).map (fun z=>⟨1,z.1.text,z.2,(n:Int)⟩):=by
    rw[aM,iG,if_pos (show(ae.node 3 y a e A).kind=3 from rfl),if_pos (show(ae.node 3 y a e A).kind=3 from rfl),(Hf (n:Int) A (n+1) Q).1];rfl
   rw[D];constructor
   ·rw[List.find?_cons,List.find?_cons]
    have C:pD false x ⟨0,y,n,-1⟩=decide (x=y):=by
     show(true&&decide (y=x))=_;rw[Bool.true_and];exact decide_eq_decide.2 ⟨Eq.symm,Eq.symm⟩
    have M:((fD A (n+1)).map (fun z=>(⟨1,z.1.text,z.2,(n:Int)⟩:Dc))).find? (pD false x)=none:=by
     rw[List.find?_eq_none];intro d I;obtain⟨z,-,rfl⟩:=List.mem_map.1 I;unfold pD;simp
    rw[C,M];show(match decide (x=y) with|true=>some _|false=>none).or _=((match decide (x=y) with|true=>some _|false=>_):Option (ae×Nat)).map zi;cases decide (x=y)<;>rfl
   have B:(fD A (n+1)).filter (fun z=>decide (z.1.kind=4))=fD A (n+1):=by
    rw[List.filter_eq_self];intro z N;have:z.1∈(fD A (n+1)).map (·.1):=List.mem_map.2 ⟨z,N,rfl⟩;rw[Bi]at this;exact decide_eq_true (Q z.1 this).1
   show((((_::_:List Dc)).find? (pD true x)).or ((iG (bg ks) (n+aB (.node 3 y a e A)) _).find? (pD true x))).map _=_;rw[show(ae.node 3 y a e A).kids=A from rfl,B]
   have C:pD true x ⟨0,y,n,-1⟩=false:=by
    unfold pD;simp
   have R:(((⟨0,y,n,-1⟩:Dc)::(fD A (n+1)).map (fun z=>(⟨1,z.1.text,z.2,(n:Int)⟩:Dc))).find? (pD true x)).map (fun d=>(d.kind,d.node))=((o6 (fD A (n+1))).find? fun y=>decide (x=y.1)).map fun y=>((1:Int),(y.2:Int)):=by
    rw[List.find?_cons,C];unfold o6;show(((fD A (n+1)).map (fun z=>(⟨1,z.1.text,z.2,(n:Int)⟩:Dc))).find? (pD true x)).map (fun d=>(d.kind,d.node))=_;rw[List.find?_map,List.find?_map,Option.map_map,Option.map_map]
    have K:(pD true x ∘ fun z:ae×Nat=>(⟨1,z.1.text,z.2,(n:Int)⟩:Dc))=((fun y:ByteArray×Nat=>decide (x=y.1)) ∘ fun y:ae×Nat=>(y.1.text,y.2)):=by
     funext z
     show(true&&decide (z.1.text=x))=decide (x=z.1.text);rw[Bool.true_and];exact decide_eq_decide.2 ⟨Eq.symm,Eq.symm⟩
    rw[K];rfl
   have J:o6 (fD A (n+1)++wK ks (n+aB (.node 3 y a e A)))=o6 (fD A (n+1))++o6 (wK ks (n+aB (.node 3 y a e A))):=by
    unfold o6;rw[List.map_append]
   rw[J,List.find?_append,Option.map_or,Option.map_or,R,P]
  have D:iG (aM (.node 5 y a e A)) n o=[⟨2,y,n,-1⟩]:=by
   have T:=E9 (i:=n+1) (o:=o) (Av A F);rw[aM,iG,if_neg (show ¬(ae.node 5 y a e A).kind=3 from by show ¬(5:Int)=3;decide),if_pos (show(ae.node 5 y a e A).kind=5 from rfl),if_neg (show ¬(ae.node 5 y a e A).kind=3 from by show ¬(5:Int)=3;decide),T.1];rfl
  rw[D];constructor
  ·rw[List.find?_cons,List.find?_cons]
   have C:pD false x ⟨2,y,n,-1⟩=decide (x=y):=by
    show(true&&decide (y=x))=_;rw[Bool.true_and];exact decide_eq_decide.2 ⟨Eq.symm,Eq.symm⟩
   rw[C];show(match decide (x=y) with|true=>some _|false=>none).or _=((match decide (x=y) with|true=>some _|false=>_):Option (ae×Nat)).map zi;cases decide (x=y)<;>rfl
  have B:(fD A (n+1)).filter (fun z=>decide (z.1.kind=4))=[]:=by
   rw[List.filter_eq_nil_iff];intro z N;have:z.1∈(fD A (n+1)).map (·.1):=List.mem_map.2 ⟨z,N,rfl⟩;rw[Bi]at this;have S:=RN F z.1 this;obtain⟨Y,m⟩:=z;obtain⟨t,r,Z,v,X⟩:=Y;have:=(Ca S).1.2.2.1;simp only[decide_eq_true_eq];exact this
  rw[show(ae.node 5 y a e A).kids=A from rfl,B,List.nil_append]
  have C:([⟨2,y,(n:Int),-1⟩]:List Dc).find? (pD true x)=none:=by
   rw[List.find?_eq_none];intro d I;rw[List.mem_singleton]at I;subst I;unfold pD;simp
  rw[C];exact P
theorem EY(x:ByteArray)(L:List (ae×Nat)):((o6 L).find? fun y=>decide (x=y.1)).map (fun y=>(y.2:Int))=(L.find? fun y=>decide (x=y.1.text)).map fun y=>(y.2:Int):=by
 unfold o6;rw[List.find?_map,Option.map_map];rfl
def GnK(ks:List ae)(u:Int):Prop:=∃x,aV (rG ks).globals x=some u\/aV (rG ks).fields x=some u
theorem abp{x0:ByteArray}{a e:Int}{ks:List ae}(S:∀k∈ks,qd k=true):yC (rG ks) (gm (aM (.node 2 x0 a e ks)) 0 (-1) []) (GnK ks):=by
 have P:iG (aM (.node 2 x0 a e ks)) 0 (-1)=iG (bg ks) 1 (-1):=by
  rw[aM,iG];rfl
 have J:∀f x,mD (gm (aM (.node 2 x0 a e ks)) 0 (-1) []) f x=(iG (bg ks) 1 (-1)).find? (pD f x):=fun f x=>by
  rw[EU,ET,G5,P];rfl
 have R:=fun x=>Oj x ks 1 (-1) S
 have H:∀x,mD (gm (aM (.node 2 x0 a e ks)) 0 (-1) []) false x=((fD ks 1).find? fun y=>decide (x=y.1.text)).map zi:=fun x=>by rw[J];exact(R x).1
 have M:∀x,(mD (gm (aM (.node 2 x0 a e ks)) 0 (-1) []) true x).map (fun d=>(d.kind,d.node))=((o6 (wK ks 1)).find? fun y=>decide (x=y.1)).map fun y=>((1:Int),(y.2:Int)):=fun x=>by rw[J];exact(R x).2
 have D:∀x,aV (rG ks).globals x=((fD ks 1).find? fun y=>decide (x=y.1.text)).map fun y=>(y.2:Int):=fun x=>by rw[Ul,EY]
 have F:∀y∈fD ks 1,y.1.kind=3\/y.1.kind=5:=fun y A=>by
  have:y.1∈(fD ks 1).map (·.1):=List.mem_map.2 ⟨y,A,rfl⟩;rw[Bi]at this;have T:=S _ this;obtain⟨X,Y⟩:=y;obtain⟨k,x,a,e,U⟩:=X;rw[qd,Bool.or_eq_true,acb,acb,acb,decide_eq_true_eq,decide_eq_true_eq,decide_eq_true_eq]at T;exact T.imp (fun h=>h.1) (fun h=>h.1.1)
 have L:∀x (p q:Int) (K:Int),decide (p=1)=false->(∀y∈fD ks 1,(((zi y).kind=p\/(zi y).kind=q)↔y.1.kind=K))->fq (gm (aM (.node 2 x0 a e ks)) 0 (-1) []) p q x=(aV (rG ks).globals x).filter fun j=>decide (jN (rG ks) j=K):=fun x p q K W Q=>by
  unfold fq;rw[W,H,D]
  cases C:(fD ks 1).find? fun y=>decide (x=y.1.text) with
  | none=>rfl
  | some y=>
   have A:=List.mem_of_find?_eq_some C;show(if (zi y).kind=p\/(zi y).kind=q then some (zi y).node else none)=(some (y.2:Int)).filter _;rw[Option.filter_some,YT ks y A];by_cases N:(zi y).kind=p\/(zi y).kind=q
   ·rw[if_pos N,if_pos (decide_eq_true ((Q y A).1 N))]
    rfl
   rw[if_neg N,if_neg (by simpa using fun h=>N ((Q y A).2 h))]
 have I:∀y∈fD ks 1,((zi y).kind=0↔y.1.kind=3)/\((zi y).kind=2↔y.1.kind=5):=fun y A=>by
  unfold zi;rcases F y A with h|h
  ·rw[if_pos h,h]
   show((0:Int)=0↔(3:Int)=3)/\((0:Int)=2↔(3:Int)=5);decide
  rw[if_neg (by omega),h];show((2:Int)=0↔(5:Int)=3)/\((2:Int)=2↔(5:Int)=5);decide
 constructor
 ·intro x
  unfold fq;rw[show decide ((0:Int)=1)=false from rfl,H,D]
  cases C:(fD ks 1).find? fun y=>decide (x=y.1.text) with
  | none=>rfl
  | some y=>
   have A:=List.mem_of_find?_eq_some C;show(if (zi y).kind=0\/(zi y).kind=2 then some (zi y).node else none)=some (y.2:Int);have:=I y A;rw[if_pos ((F y A).imp this.1.2 this.2.2)];rfl
 ·intro x
  unfold fq;rw[show decide ((1:Int)=1)=true from rfl,Ir];have h:=M x
  cases C:(o6 (wK ks 1)).find? fun y=>decide (x=y.1) with
  | none=>
   rw[C]at h
   cases O:mD (gm (aM (.node 2 x0 a e ks)) 0 (-1) []) true x with
   | none=>rfl
   | some d=>rw[O]at h;cases h
  | some y=>
   rw[C]at h
   cases O:mD (gm (aM (.node 2 x0 a e ks)) 0 (-1) []) true x with
   | none=>rw[O]at h;cases h
   | some d=>
    rw[O]at h;simp only[Option.map_some,acf,Prod.mk.injEq]at h;show(if d.kind=1\/d.kind=1 then some d.node else none)=some (y.2:Int);rw[if_pos (.inl h.1),h.2]
 ·exact fun x=>L x 2 2 5 rfl fun y A=>by rw[(I y A).2];exact or_self_iff
 ·exact fun x=>L x 0 0 3 rfl fun y A=>by rw[(I y A).1];exact or_self_iff
 ·intro x
  rw[LM,<- EU,H,D];cases (fD ks 1).find? fun y=>decide (x=y.1.text)<;>rfl
 ·intro x
  rw[H,D,Option.map_map];rfl
 ·intro x
  rw[Ir];have h:=congrArg (fun o=>Option.map (fun p:Int×Int=>p.2) o) (M x);simp only[Option.map_map]at h;exact h
 ·intro x n B
  refine⟨?_,x,.inl B⟩;rw[D]at B
  cases C:(fD ks 1).find? fun y=>decide (x=y.1.text) with
  | none=>rw[C]at B;cases B
  | some y=>rw[C]at B;simp only[Option.map_some,acf]at B;omega
 intro x n B;refine⟨?_,x,.inr B⟩;rw[Ir]at B
 cases C:(o6 (wK ks 1)).find? fun y=>decide (x=y.1) with
 | none=>rw[C]at B;cases B
 | some y=>rw[C]at B;simp only[Option.map_some,acf]at B;omega
theorem Dh{c:Int}{lay:lL}{r:RS}{i:Bool}{v:List Int}{t:ae}(h:aV lay t.text=some (r.next:Int)):∃d∈(aX (aI r i v) c r.next t (decide ((aV lay t.text).getD 0≠(r.next:Int)))).ds,d.node=(r.next:Int):=by
 have A:decide ((aV lay t.text).getD 0≠(r.next:Int))=false:=by rw[h];simp
 rw[A];exact⟨_,by show _∈r.ds++[_];exact List.mem_append_right _ (List.mem_singleton.2 rfl),rfl⟩
theorem yh{a b:RS}(h:pz a b){u:Int}(C:∃d∈a.ds,d.node=u):∃d∈b.ds,d.node=u:=by
 obtain⟨l,e⟩:=h.grow;obtain⟨d,A,B⟩:=C;exact⟨d,by rw[e];exact List.mem_append_left _ A,B⟩
theorem ND(G:bf):∀(ts:List ae) (i:Bool) (s:aR) (r:RS),lH ts=true->(aj G i ts 0 ts.length s r).1.next=r.next+aC ts
 | [],_,_,r,_=>by rw[aj];simp[aC]
 | t::ts,i,s,r,h=>by
  rw[lH,acb]at h;rw[aco,aj];try simp only
  rw[ND G ts i _ _ h.2,JL G t i s r h.1,aC];omega
theorem LU(G:bf):∀(B:List ae),(∀f∈B,f.kind=4/\lH f.kids=true)->∀(s:aR) (r:RS),∀y∈fD B r.next,aV G.fields y.1.text=some (y.2:Int)->∃d∈(aj G false B 0 B.length s r).1.ds,d.node=(y.2:Int)
 | [],_,s,r,y,C,_=>by cases C
 | f::B,h,s,r,y,C,hl=>by
  rw[aco,aj];try simp only
  have F:=eF G B false 0 B.length (aK G false f s r).2 (aK G false f s r).1;obtain⟨I,K⟩:=h f (by simp);obtain⟨k,x,a,e,A⟩:=f;have D:k=4:=I;subst D
  have H:aK G false (.node 4 x a e A) s r=aj G false A 0 A.length s (aX (aI r false (aF (aH s))) 1 r.next (.node 4 x a e A) (decide ((aV G.fields x).getD 0≠(r.next:Int)))):=by
   rw[dz,if_neg (by decide),if_pos rfl]
  have L:(aK G false (.node 4 x a e A) s r).1.next=r.next+aB (.node 4 x a e A):=by
   rw[H,ND G A false s _ K,oO];show r.next+1+aC A=r.next+(1+aC A);omega
  rw[fD,List.mem_cons]at C;rcases C with rfl|C
  ·refine yh F ?_
   rw[H];exact yh (eF _ _ _ _ _ _ _) (Dh (c:=1) (lay:=G.fields) (t:=.node 4 x a e A) hl)
  rw[<- L]at C;exact LU G B (fun c J=>h c (by simp[J])) _ _ y C hl
theorem TG(G:bf):∀(ks:List ae),(∀k∈ks,qd k=true)->∀(r:RS),
 (∀y∈fD ks r.next,aV G.globals y.1.text=some (y.2:Int)->∃d∈(aj G false ks 0 ks.length [] r).1.ds,d.node=(y.2:Int)) /\
 (∀y∈wK ks r.next,aV G.fields y.1.text=some (y.2:Int)->∃d∈(aj G false ks 0 ks.length [] r).1.ds,d.node=(y.2:Int))
 | [],_,r=>⟨fun y B=>(by cases B),fun y B=>by cases B⟩
 | k::ks,h,r=>by
  rw[aco,aj];try simp only
  have N:=h k (by simp);have M:(aK G false k [] r).2=[]:=List.length_eq_zero_iff.1 (by rw[vK];rfl);rw[M];have H:=eF G ks false 0 ks.length [] (aK G false k [] r).1;have L:(aK G false k [] r).1.next=r.next+aB k:=(TF (xE.refl G) k N [] r rfl).2.2.1;obtain⟨R,S⟩:=TG G ks (fun c U=>h c (by simp[U])) (aK G false k [] r).1;rw[L]at R S;rw[fD,wK];refine⟨fun y B D=>?_,fun y B D=>?_⟩
  ·rcases List.mem_cons.1 B with rfl|B
   ·refine yh H ?_
    obtain⟨X,x,a,e,A⟩:=k;have C:=N;rw[qd,Bool.or_eq_true,acb,acb,acb,decide_eq_true_eq,decide_eq_true_eq,decide_eq_true_eq]at C;rcases C with⟨rfl,Q⟩| ⟨⟨rfl,-⟩,F⟩
    ·rw[dz,if_pos rfl]
     exact yh (eF _ _ _ _ _ _ _) (Dh (c:=0) (lay:=G.globals) (t:=.node 3 x a e A) D)
    rw[dz,if_neg (by decide),if_neg (by decide),if_pos rfl];exact yh ((eF G A false 0 2 [[]] _).trans (eF _ _ _ _ _ _ _)) (Dh (c:=2) (lay:=G.globals) (t:=.node 5 x a e A) D)
   exact R y B D
  rcases List.mem_append.1 B with B|B
  ·refine yh H ?_
   obtain⟨X,x,a,e,A⟩:=k;have C:=N;rw[qd,Bool.or_eq_true,acb,acb,acb,decide_eq_true_eq,decide_eq_true_eq,decide_eq_true_eq]at C;rcases C with⟨rfl,Q⟩| ⟨⟨rfl,-⟩,F⟩
   ·have Z:∀f∈A,f.kind=4/\lH f.kids=true:=fun f K=>by
     have P:=List.all_eq_true.1 Q f K;rw[acb,decide_eq_true_eq]at P;exact P
    rw[dz,if_pos rfl];refine LU G A Z [] _ y ?_ D
    have J:({ aX (aI r false (aF (aH []))) 0 r.next (.node 3 x a e A) (decide ((aV G.globals x).getD 0≠(r.next:Int))) with owner:=(r.next:Int) }:RS).next=r.next+1:=by
     show(aX _ _ _ _ _).next=_;rw[oO];rfl
    rw[J];exact(List.mem_filter.1 B).1
   exfalso
   obtain⟨O,I⟩:=List.mem_filter.1 B;have:y.1∈(fD A (r.next+1)).map (·.1):=List.mem_map.2 ⟨y,O,rfl⟩;rw[Bi]at this;have W:=RN F y.1 this;obtain⟨z,l⟩:=y;obtain⟨n,m,v,u,Y⟩:=z;have T:=(Ca W).1.2.2.1;simp only[decide_eq_true_eq]at I;exact T I
  exact S y B D
def iP(ds:List Dc)(u:Int):Int:=if u< -1 then(match ds.findIdx? fun d=>decide (d.node= -2 - u) with|some j=>(j:Int)|none=> -1) else u
theorem abz{ds:List Dc}(A:(ds.map (·.node)).Nodup)(H:∀d∈ds,0<=d.node){Gn:Int->Prop}(L:∀u,Gn u->∃d∈ds,d.node=u){u v:Int}(h:Dj ds Gn u v):iP ds v=o5 ds u:=by
 rcases h with⟨rfl,rfl⟩| ⟨j,d,B,rfl,rfl⟩| ⟨P,rfl,N⟩
 ·rw[UY A H]
  rfl
 ·rw[Bc A B]
  unfold iP;rw[if_neg (by omega)]
 obtain⟨d,B,M⟩:=L u N;obtain⟨j,D⟩:=List.mem_iff_getElem?.1 B;rw[<- M,Bc A D];unfold iP;rw[if_pos (by have:=H d B;omega)]
 have C:(ds.findIdx? fun I=>decide (I.node= -2 - (-2 - d.node)))=some j:=by
  rw[List.findIdx?_eq_some_iff_getElem];obtain⟨F,O⟩:=acg.1 D;refine⟨F,by rw[O];simp;omega,fun i R=>?_⟩;simp only[decide_eq_true_eq];intro Q;have J:=Bc A (ace (show i<ds.length by omega));have K:=Bc A D;rw[show ds[i].node=d.node by omega,K]at J;omega
 rw[C]
theorem sort_at{ds:List Dc}{s:aR}{sq:List Nat}(h:oq ds s sq)(P:ds.Pairwise fun a b=>a.node<b.node)(O:(ds.map (·.node)).Nodup):(aF (aH s)).map (o5 ds)=sq.map fun(i:Nat)=>(i:Int):=by
 have B:(aH s).Perm (sq.map fun i=>(qy ds i).2):=by
  rw[Zi];have:=h.perm.map (·.2);rw[List.map_map]at this;exact this
 have A:(sq.map fun i=>(qy ds i).2).Pairwise (· < ·):=by
  refine List.pairwise_map.2 (h.inc.imp_of_mem fun {a b} L M I=>?_);have D:=h.lt a L;have J:=h.lt b M;have C:=List.pairwise_iff_getElem.1 P a b D J I;unfold qy;rw[ace D,ace J];exact C
 have Q:aF (aH s)=sq.map fun i=>(qy ds i).2:=by
  unfold aF;have H:∀a b:Int,(decide (a<=b) || decide (b<=a))=true:=fun a b=>by simp;omega
  have R:∀a b c:Int,decide (a<=b)=true->decide (b<=c)=true->decide (a<=c)=true:=fun a b c=>by simp;omega
  refine List.Perm.eq_of_pairwise (le:=fun x y=>x<=y) ?_ ?_ ?_ ?_
  ·exact fun a b _ _ I D=>by omega
  ·exact(List.pairwise_mergeSort R H _).imp (by simp)
  ·exact A.imp fun h=>by omega
  exact(List.mergeSort_perm _ _).trans B
 rw[Q,List.map_map];refine List.map_congr_left fun i N=>?_
 have F:=h.lt i N;show o5 ds (qy ds i).2=_;have K:=ace F;unfold qy;rw[K];exact Bc O K
theorem Pm{t:ae}(L:dC t=true)(mk:Int):
 ∃W:RW,(bJ (gm (aM t) 0 (-1) []) mk t (-1) [] ⟨[],List.replicate (aB t) (-1),[],0,[]⟩).1=W/\W.ds=(aZ t).ds/\W.list=(aZ t).aU.map (·.2)/\W.uses.map (iP W.ds)=(aZ t).uses /\
  ∀m:Nat,mk=(m:Int)->m<aB t->bK (aZ t).aP (m:Int)=if nV t.kids 1 m=true then some (W.at_.map fun(i:Nat)=>(i:Int)) else none:=by
 obtain⟨h2,ht⟩:=tT L;unfold dC at L;rw[acb]at L;have j:=fU L.2;obtain⟨k,x,a,e,ks⟩:=t;have hk:k=2:=h2;subst hk;have K:=FE x a e ks;obtain⟨H,D⟩:∃H:RS,(⟨[],List.replicate (aB (.node 2 x a e ks)) (-1),[],[],1,0⟩:RS)=H:=⟨_,rfl⟩
 have F:H.next=1:=by rw[<- D]
 have r:H.ds=[]:=by rw[<- D]
 have y7:H.aP=[]:=by rw[<- D]
 rw[D]at K;have hG:=abp (x0:=x) (a:=a) (e:=e) (ks:=ks) ht;obtain⟨GW, T⟩:=ag (gm (aM (.node 2 x a e ks)) 0 (-1) []);rw[T]at hG⊢;obtain⟨Q,P⟩:∃Q:RW,(⟨[],List.replicate (aB (.node 2 x a e ks)) (-1),[],0,[]⟩:RW)=Q:=⟨_,rfl⟩
 have kC:lJ (GnK ks) H (cO mk Q []):=by
  refine qU ?_ mk [];rw[<- D,<- P];refine⟨rfl,rfl,rfl,fun i u v S L=>?_⟩;have h1:=List.getElem?_replicate (n:=aB (.node 2 x a e ks)) (a:=(-1:Int)) (i:=i);rw[h1]at S L;split at S
  ·rename_i N
   rw[if_pos N]at L;cases S
   cases L
   exact .inl ⟨rfl,rfl⟩
  cases S
 have hw:(bJ GW mk (.node 2 x a e ks) (-1) [] Q).1=(dP GW mk 2 [] ks 0 (-1) [] (cO mk Q [])).1:=by
  rw[bJ];rfl
 obtain⟨I,T2,f⟩:=TE (mk:=mk) hG [] ks (fun k hk=>⟨j k hk,ht k hk⟩) 0 H (cO mk Q []) (-1) (by omega) (by rw[mV,<- P,F]) kC;rw[P,hw];have A:=TG (rG ks) ks ht H;obtain⟨R, hR⟩:=ag (aj (rG ks) false ks 0 ks.length [] H);have JR:pz H R.1:=by rw[<- hR];exact eF _ _ _ _ _ _ _
 rw[hR]at K I T2 f A;obtain⟨W, hW⟩:=ag ((dP GW mk 2 [] ks 0 (-1) [] (cO mk Q [])).1);rw[hW]at I f⊢
 have B:aZ (.node 2 x a e ks)= { R.1 with uses:=R.1.uses.map (o5 R.1.ds),aP:=R.1.aP.map fun x=>(x.1,x.2.map (o5 R.1.ds)) }:=by
  unfold aZ;rw[K]
 obtain⟨X,Z⟩:=XI JR r
 have a7:R.1.ds.Pairwise fun a b=>a.node<b.node:=by
  obtain⟨l,e1,h1,-⟩:=JR.ds;rw[e1,r];exact h1
 have U:∀u,GnK ks u->∃d∈R.1.ds,d.node=u:=fun u S=>by
  obtain⟨y,h|h⟩:=S
  ·have C:=h
   rw[Ul,EY]at C
   cases M:(fD ks 1).find? fun z=>decide (y=z.1.text) with
   | none=>rw[M]at C;cases C
   | some z=>
    rw[M]at C;simp only[Option.map_some,acf]at C;have hz:=List.mem_of_find?_eq_some M;have Y:=List.find?_some M;simp only[decide_eq_true_eq]at Y;rw[F]at A;rw[<- C];exact A.1 z hz (by rw[<- Y,h,C])
  have C:=h;rw[Ir,EY]at C
  cases M:(wK ks 1).find? fun z=>decide (y=z.1.text) with
  | none=>rw[M]at C;cases C
  | some z=>
   rw[M]at C;simp only[Option.map_some,acf]at C;have hz:=List.mem_of_find?_eq_some M;have Y:=List.find?_some M;simp only[decide_eq_true_eq]at Y;rw[F]at A;rw[<- C];exact A.2 z hz (by rw[<- Y,h,C])
 have O:∀d∈R.1.ds,0<=d.node:=fun d hd=>by have:=Z d hd;omega
 refine⟨W,rfl,by rw[B];exact I.pO.ds,by rw[B];exact I.pO.list,?_,fun m hm a6=>?_⟩
 ·rw[B,I.pO.ds]
  show W.uses.map (iP R.1.ds)=R.1.uses.map (o5 R.1.ds);refine List.ext_getElem? fun i=>?_
  rw[List.getElem?_map,List.getElem?_map];by_cases N:i<R.1.uses.length
  ·have J:i<W.uses.length:=by rw[I.pO.qF];exact N
   rw[ace N,ace J];show some _=some _;rw[abz X O U (I.pO.uses i _ _ (ace N) (ace J))]
  have J:¬i<W.uses.length:=by rw[I.pO.qF];exact N
  rw[List.getElem?_eq_none (Nat.le_of_not_lt N),List.getElem?_eq_none (Nat.le_of_not_lt J)];rfl
 rw[B];show bK (R.1.aP.map fun x=>(x.1,x.2.map (o5 R.1.ds))) (m:Int)=if nV ks 1 m=true then _ else _
 rw[K6 (fun l:List Int=>l.map (o5 R.1.ds))];by_cases h0:m=0
 ·subst h0
  have hb:nV ks 1 0=false:=by
   clear f T2 I A K hG T hW hw hR B U kC j ht L a6;suffices h:∀(l:List ae) (n:Nat),1<=n->nV l n 0=false by exact h ks 1 (ab9 _)
   intro l
   induction l with
   | nil=>intro n _;rfl
   | cons k l ih=>
    intro n hn;rw[nV,if_pos (by omega)];obtain⟨kk,xx,aa,ee,g⟩:=k;show(decide (kk=5)&&match g with| [b,c,_]=>decide (n+1+aB b+aB c<=0)|_=>false)=false;rw[Bool.and_eq_false_iff];right
    split
    ·simp
    rfl
  rw[hb,if_neg (by simp),JR.aP 0 (.inl (by omega)),y7];rfl
 have a1:m<R.1.next:=by
  rw[T2,F];have:aB (.node 2 x a e ks)=1+aC ks:=rfl;omega
 have:=f m (by omega) a1;rw[F]at this;by_cases hb:nV ks 1 m=true
 ·rw[if_pos hb]at this⊢
  obtain⟨s',a8,c1,c2,c3⟩:=this;rw[c1,c3 hm];exact congrArg some (sort_at c2 a7 X)
 rw[if_neg hb]at this⊢;rw[this,y7];rfl
end Go.Proofs.YtoepemlnlpamlaaGreat
