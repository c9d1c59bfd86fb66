/- The law NamesStand holds: for every text and every number the law returns true, and its arguments read as before. No condition. Part 46: LawS. -/
import Derived.Test.YtoepemlnlpamlaaGreatStand45
set_option maxRecDepth 100000
set_option maxHeartbeats 4000000
namespace Go.Proofs.YtoepemlnlpamlaaGreat
open Go.RowKit
theorem Ec:∀{q:List Nat}{t y:aa}{i:Nat},dX t (q++[i])=some y->∃u,dX t q=some u/\u.kids[i]? =some y
 | [],t,y,i,h=>by
  rw[List.nil_append,dX]at h;refine⟨t,rfl,?_⟩
  cases hk:t.kids[i]? with
  | none=>rw[hk]at h;cases h
  | some k=>
   rw[hk]at h
   simpa [dX] using h
 | j::q,t,y,i,h=>by
  rw[List.cons_append,dX]at h;rw[dX]
  cases hk:t.kids[j]? with
  | none=>rw[hk]at h;cases h
  | some k=>
   rw[hk]at h;exact Ec (q:=q) (t:=k) h
theorem Qf:∀{q:List Nat}{t u:aa},dX t q=some u->ai u<=ai t:=fun h=>by
 have:=Dv h;omega
theorem XV{t:aa}(hv:j6 t=true):(cK t).uses.length=ai t:=by
 obtain⟨h2,ht⟩:=zw hv;obtain⟨k,x,a,e,ks⟩:=t;have hk:k=2:=h2;subst hk;have hst:=yN x a e ks;unfold cK;rw[hst];show(List.map _ _).length=_;rw[List.length_map,(bS _ _ _ _ _ _ _).CU,List.length_replicate]
theorem Zo(t:aa)(A:Option Addr)(c:Nat)(num:Int)(w:World)(hN:ai t<=1000000)(hcap:t.kids.length<=c)(hk:aK w w.heap.size A 0 t.kids):
 Calls Tryz.prog 23 #[bB t A c,.int .i64 num] w fun e w'=> ∃(p:List Nat) (y:aa) (PA:Option Addr) (pn pc:Nat) (is:Bool),e= .returned (.tuple #[.slice PA pn pc,.bool is])/\p.length=pn/\pn<=1000000/\pn<=pc/\dX t p=some y/\df 1 nG w' w'.heap.size PA p/\(is=true->∃m:Nat,num=(m:Int)/\(bL t)[m]? =some y/\oG t p=m)/\Below w.heap.size w w':=by
 refine(Zp t A c num w hN hcap hk).mono fun e w' h=>?_
 rcases h with⟨rfl,hb,-⟩| ⟨m,p,y,PA,pc,h1,h2,h3,h4,h5,h6,h7,h8⟩
 ·exact⟨[],t,none,0,0,false,rfl,rfl,by omega,by omega,rfl,fun i x hi=>(by simp at hi),fun h=>(by cases h),hb⟩
 ·have hle:p.length<=pc:=by
   obtain⟨_,_,hv,hle,_⟩:=h6.shape;cases hv
   exact hle
  exact⟨p,y,PA,p.length,pc,true,h2,rfl,h5,hle,h4,h6.rowAt (cells:=nG) (l:=p) rfl (JQ p) (fun _ _=>rfl) rfl,fun _=>⟨m,h1,h3,h8⟩,h7⟩
theorem Ha(t:aa)(A:Option Addr)(c:Nat)(w:World)(hN:ai t<=1000000)(hcap:t.kids.length<=c)(hk:aK w w.heap.size A 0 t.kids):
 Calls Tryz.prog 12 #[bB t A c] w fun e w'=> ∃(dA:Option Addr) (nd dc:Nat) (uA:Option Addr) (nu uc:Nat) (Aw:Option Addr) (nw cw:Nat) (er:Int),e= .returned (.tuple #[.agg #[.slice dA nd dc,.slice uA nu uc],.slice Aw nw cw,.int .i64 er])/\((er=0->j6 t=true/\nd=(cK t).ds.length/\nw=(cK t).aR.length/\nu=(cK t).uses.length/\aP w' w.heap.size 49 4 (.slice dA nd dc) nd ((cK t).ds.flatMap kS)/\aP w' w.heap.size 3 1 (.slice uA nu uc) nu (jN (cK t).uses))/\(j6 t=true->er=0))/\Below w.heap.size w w':=by
 refine(Hd t A c w hN hcap hk).mono fun e w' h=>?_
 rcases h with⟨hv,rfl,hb⟩| ⟨hv,E,V,An,nw,cw,rfl,hE,hR,hnw,-,hb⟩
 ·exact⟨none,0,0,none,0,0,none,0,0,1,rfl,⟨fun h=>(by simp at h),fun h=>(by rw[hv]at h;cases h)⟩,hb⟩
 ·exact⟨V.dA,_,V.dc,E.uA,_,E.uc,An,nw,cw,0,rfl,⟨fun _=>⟨hv,rfl,hnw,rfl,hR.ds.mono hE,hR.us.mono hE⟩,fun _=>rfl⟩,hb⟩
theorem OU(s:ByteArray)(num:Int)(w:World):Calls Tryz.prog 5 #[.string s,.int .i64 num] w fun e w'=>e= .returned (.bool true)/\Below w.heap.size w w':=by
 have HT:=kH (XX s);have LP:=kH Xj;go_enter Tryz.func5,Tryz.ntmps5
 go_wp2_with fail
 refine(HT.out _).mono ?_;rintro e1 w1 ⟨t,A,c,ok,rfl,hcn,hcap,hk,hb1⟩;have Pd:∀W,Below w1.heap.size w1 W->Calls Tryz.prog 23 #[bB t A c,.int .i64 num] W _:=fun W hb=>Zo t A c num W hcn hcap (aK.mono hb.size _ _ _ (aK.below hb (aab _) _ _ _ hk))
 have UM:∀W,Below w1.heap.size w1 W->Calls Tryz.prog 12 #[bB t A c] W _:=fun W hb=>Ha t A c W hcn hcap (aK.mono hb.size _ _ _ (aK.below hb (aab _) _ _ _ hk))
 have U0:∀W,Below w1.heap.size w1 W->∀(y:aa) (p:List Nat) (PA:Option Addr) (pc:Nat),p.length<=1000000->df 1 nG W W.heap.size PA p->dX t p=some y->Calls Tryz.prog 24 #[bB t A c,.slice PA p.length pc] W _:=fun W hb y p PA pc hpl hrow hf=>Td t y A c p PA pc W hcap hpl (aK.mono hb.size _ _ _ (aK.below hb (aab _) _ _ _ hk)) hrow hf
 have UB:∀W,Below w1.heap.size w1 W->Calls Tryz.prog 17 #[bB t A c,.int .i64 num] W _:=fun W hb=>G9 t A c num W hcn hcap (aK.mono hb.size _ _ _ (aK.below hb (aab _) _ _ _ hk))
 obtain⟨k0,x0,a0,z0,n0,hk0,hx0,ha0,hz0',hn0,ji⟩:=gD t A c;rw[ji]at Pd UM U0 UB⊢;obtain⟨W1,hW1⟩:∃W1,w1.alloc (.cells #[.int .i64 k0,.string x0,.int .i64 a0,.int .i64 z0,.slice A n0 c] 24)=W1:=⟨_,rfl⟩
 have hbW:Below w1.heap.size w1 W1:=by rw[<- hW1];exact ae _ _
 have wT:ak W1 w1.heap.size 24 #[.int .i64 k0,.string x0,.int .i64 a0,.int .i64 z0,.slice A n0 c]:=by rw[<- hW1];exact ak.new _ _ _
 have Wv:∀W,Below w1.heap.size w1 W->∀(R:Nat->Prop) (y:aa) (LA:Option Addr) (lc i:Nat) (q:List Nat) (u:aa) (PA:Option Addr) (pc:Nat),q.length<=1000000->q.length<=pc->df 1 nG W W.heap.size PA q->dX t q=some u->i<u.kids.length->u.kids.length<=1000000->(∀g,R g->g<W.heap.size)->dO W R LA 0 [y]->Calls Tryz.prog 25 #[.agg #[.int .i64 k0,.string x0,.int .i64 a0,.int .i64 z0,.slice A n0 c],.slice PA q.length pc,.int .i64 (i:Int),.int .i64 ((i+1:Nat):Int),.slice LA 1 lc] W _:=fun W hb R y LA lc i q u PA pc h1 h2 h3 h4 h5 h6 h7 h8=>by rw[<- ji];exact Rv R y LA lc i q t u A c PA pc W hcn hcap (aK.mono hb.size _ _ _ (aK.below hb (aab _) _ _ _ hk)) h1 h2 h3 h4 h5 h6 h7 h8
 have HREPL:=kH Wv;have He:Hid (t.kind=k0/\t.text=x0/\t.at_=a0/\t.end_=z0):=kH ⟨hk0,hx0,ha0,hz0'⟩;have HPATH:=kH Pd;have aV:=kH UM;have QQ:=kH U0;have QB:=kH UB;have Em:=kH hcn;have HB1:=kH hb1;have oD:=kH hbW;have FN:=kH wT;have n0':=wT.cell 0;have n1:=wT.cell 1;have n2:=wT.cell 2;have n3:=wT.cell 3;have n4:=wT.cell 4;have ln:=wT.lt;clear Pd UM U0 UB Wv hcn hcap hk hb1 hbW wT hk0 hx0 ha0 hz0' hn0 ji;go_wp2_with (rw[hW1])
 clear n0' n1 n2 n3 n4 ln hW1;refine(aV.out _ oD.out).mono ?_;rintro e2 w2 ⟨dA,nd,dc,uA,nu,uc,Aw,nw,cw,er,rfl,hR,hb2⟩;obtain⟨nb,hnb⟩:∃q,w1.heap.size=q:=⟨_,rfl⟩
 obtain⟨rb,hrb⟩:∃q,w2.heap.size=q:=⟨_,rfl⟩
 obtain⟨R1,eP⟩:∃R1,w2.alloc (.cells #[.slice dA nd dc,.slice uA nu uc] 30)=R1:=⟨_,rfl⟩
 have hbR:Below w2.heap.size w2 R1:=by rw[<- eP];exact ae _ _
 have hRR:ak R1 rb 30 #[.slice dA nd dc,.slice uA nu uc]:=by rw[<- eP,<- hrb];exact ak.new _ _ _
 have MM:ak R1 nb 24 #[.int .i64 k0,.string x0,.int .i64 a0,.int .i64 z0,.slice A n0 c]:=by rw[<- hnb];exact(FN.out.below hb2 FN.out.lt).below hbR (FN.out.below hb2 FN.out.lt).lt
 have CL:Hid (Below w1.heap.size w1 R1):=kH (oD.out.trans ((hb2.trans (hbR.mono hb2.size)).mono oD.out.size))
 have HDS:Hid (er=0->j6 t=true/\nd=(cK t).ds.length/\nw=(cK t).aR.length/\nu=(cK t).uses.length/\aP R1 W1.heap.size 49 4 (.slice dA nd dc) nd ((cK t).ds.flatMap kS)/\aP R1 W1.heap.size 3 1 (.slice uA nu uc) nu (jN (cK t).uses)):=kH fun h=>by
  obtain⟨h1,h2,h3,h5,h4,h6⟩:=hR.1 h;exact⟨h1,h2,h3,h5,h4.below hbR (fun g hg=>(h4.lt g hg).2),h6.below hbR (fun g hg=>(h6.lt g hg).2)⟩
 have HRR:=kH hRR;have Hf:=kH MM;have m0:=MM.cell 0;have m1:=MM.cell 1;have m2:=MM.cell 2;have m3:=MM.cell 3;have m4:=MM.cell 4;have lm:=MM.lt;rw[hnb];clear hR hb2 hbR hRR MM aV FN;go_wp2_with (first|rw[eP]|rw[hrb])
 refine(HPATH.out _ CL.out).mono ?_;rintro e3 w3 ⟨p,y,PA,pn,pc,is,rfl,hpn,hpl,hpc,hf,hrow,his,hb3⟩;have HB3:Hid (Below w1.heap.size w1 w3):=kH (CL.out.trans (hb3.mono CL.out.size));have hget:=QQ.out _ HB3.out y p PA pc (by omega) hrow hf;rw[hpn]at hget;have HGT:=kH hget;have HPT:Hid (p.length=pn/\pn<=1000000/\pn<=pc/\dX t p=some y/\df 1 nG w3 w3.heap.size PA p):=kH ⟨hpn,hpl,hpc,hf,hrow⟩;have mr:=Hf.out.below hb3 Hf.out.lt;have dD:=HRR.out.below hb3 HRR.out.lt;have lG:=kH mr;have HR3:=kH dD;have HIS:=kH his;have Jn:=kH hb3;have g0:=mr.cell 0;have g1:=mr.cell 1;have g2:=mr.cell 2;have g3:=mr.cell 3;have g4:=mr.cell 4;have lg:=mr.lt;clear hget mr dD hrow hf his hpl hpn hpc hb3 m0 m1 m2 m3 m4 lm HPATH QQ;go_wp2_with fail
 refine HGT.out.mono ?_;rintro e4 w4 ⟨Ay,cy,rfl,hKy,hcy,hb4⟩;obtain⟨ky,xy,ay,zy,ny,hky,hxy,hay,hzy,hny,hnvy⟩:=gD y Ay cy;rw[hnvy];obtain⟨xb,hxb⟩:∃q,w4.heap.size=q:=⟨_,rfl⟩
 obtain⟨X1,hX1⟩:∃X1,w4.alloc (.cells #[.int .i64 ky,.string xy,.int .i64 ay,.int .i64 zy,.slice Ay ny cy] 24)=X1:=⟨_,rfl⟩
 have hbX:Below w4.heap.size w4 X1:=by rw[<- hX1];exact ae _ _
 have Kk:ak X1 xb 24 #[.int .i64 ky,.string xy,.int .i64 ay,.int .i64 zy,.slice Ay ny cy]:=by rw[<- hX1,<- hxb];exact ak.new _ _ _
 have Lv:Below w3.heap.size w3 X1:=hb4.trans (hbX.mono hb4.size);have WO:=lG.out.below Lv lG.out.lt;have Km:=HR3.out.below Lv HR3.out.lt;have M8:Hid (Below w1.heap.size w1 X1):=kH (HB3.out.trans (Lv.mono HB3.out.size));have qy:Hid (Below w.heap.size w X1):=kH (HB1.out.trans (M8.out.mono HB1.out.size));have SL:Hid (y.kind=ky/\y.text=xy/\y.at_=ay/\y.end_=zy/\y.kids.length=ny/\Below w3.heap.size w3 X1):=kH ⟨hky,hxy,hay,hzy,hny,Lv⟩;have ig:Hid (Below R1.heap.size R1 X1):=kH (Jn.out.trans (Lv.mono Jn.out.size));have aZ:=kH WO;have dC:=kH Km;have Sq:=kH Kk;have q0:=Kk.cell 0;have lq:=Kk.lt;clear hKy hcy hky hxy hay hzy hny hnvy hbX Kk Lv WO Km hb4 g0 g1 g2 g3 g4 lg HGT;have O4:w4.alloc (.cells #[.int .i64 ky,.string xy,.int .i64 ay,.int .i64 zy,.slice Ay ny cy] 24)=X1:=hX1;clear hX1;by_cases hgo:ok=true/\er=0/\nw=0/\is=true/\ky=20
 ·obtain⟨rfl,rfl,rfl,rfl,rfl⟩:=hgo
  obtain⟨m,rfl,hym,uO⟩:=HIS.out rfl;obtain⟨hv,hnd,hnw,hnu,hO,hOu⟩:=HDS.out rfl;obtain⟨hpn,hpl,hpc,hf,hrow⟩:=HPT.out;have UT:=fun d hd=>VM hv (List.eq_nil_of_length_eq_zero hnw.symm) hym SL.out.1 (d:=d) hd
  have EY:nD t (m:Int)=(bG (cK t).bH (m:Int)).getD []:=by unfold nD;rw[hv];rfl
  rw[<- EY]at UT;have hvk:t.kind=2:=(zw hv).1;have UC:=XV hv;have hmt:m<ai t:=by rw[<- dz];exact(aah.1 hym).1
  obtain⟨q,i,hpq⟩:∃q i,p=q++[i]:=by
   rcases List.eq_nil_or_concat p with h| ⟨q,i,h⟩
   ·exfalso
    rw[h]at hf;simp only[dX,aag]at hf;have:=SL.out.1;rw[<- hf,hvk]at this;omega
   ·exact⟨q,i,by simpa using h⟩
  subst hpq;obtain⟨u,hfu,hui⟩:=Ec hf
  have hyk:y.kids=[]:=by
   have hv2:=hv;unfold j6 at hv2;rw[aad]at hv2;exact EN (List.all_eq_true.1 (show(bL t).all dR=true from hv2.2) y (aan hym)) SL.out.1
  have hny:ny=0:=by rw[<- SL.out.2.2.2.2.1,hyk];rfl
  subst hny;have hiu:i<u.kids.length:=(aah.1 hui).1
  have huc:u.kids.length<=1000000:=by
   have h1:=Qf hfu;have h2:=dU u.kids;have h3:=jO u;have h4:=Em.out;omega
  have hset:∀z:aa,cZ t q i (i+1) [z]=kr t m z:=fun z=>by rw[KF z hfu hui,uO]
  obtain⟨qn,kJ⟩:∃qn,q.length=qn:=⟨_,rfl⟩
  have hpn1:pn=qn+1:=by rw[<- hpn,aam,kJ];rfl
  subst hpn1;obtain⟨pb,po,WL,hpb,hpcl⟩:=hrow qn i (by rw[<- kJ];simp);subst WL;have hrowq:df 1 nG w3 w3.heap.size (some ⟨pb,po,none⟩) q:=fun k x hk=>hrow k x (by rw[List.getElem?_append_left (aah.1 hk).1];exact hk)
  have hpi:w3.cell? ⟨pb,po+qn,none⟩=some (.int .i64 (i:Int)):=by simpa using hpcl 0 _ rfl
  have hslq:∀W:World,(Instr.slice 28 (.slice (some ⟨pb,po,none⟩) (qn+1) pc) none (some (.int .i64 (qn:Int))) none).run Tryz.prog W= .ok (.slice (some ⟨pb,po,none⟩) qn pc) W:=fun W=>by
   obtain⟨i1,hi1,-,-,-⟩:=info_parts Ag;have:=EE (P:=Tryz.prog) W 28 3 i1 Tryz.underlying28 hi1 (some ⟨pb,po,none⟩) (qn+1) pc qn (by omega);rw[this,if_neg (by omega)];rfl
  obtain⟨vs,hvs⟩:∃q,nD t (m:Int)=q:=⟨_,rfl⟩
  obtain⟨ds,hds⟩:∃q,(cK t).ds=q:=⟨_,rfl⟩
  obtain⟨us,O6⟩:∃q,(cK t).uses=q:=⟨_,rfl⟩
  rw[hvs,hds,O6]at UT;rw[hds]at hO hnd;rw[O6]at hOu hnu UC;have hOX:aP X1 W1.heap.size 49 4 (.slice dA nd dc) nd (ds.flatMap kS):=hO.below ig.out (fun g hg=>(hO.lt g hg).2);have D8:aP X1 W1.heap.size 3 1 (.slice uA nu uc) nu (jN us):=hOu.below ig.out (fun g hg=>(hOu.lt g hg).2);have HLAW:=kH UT;have HYM:=kH hym;have mD:=kH hnd;have uJ:Hid (us.length=nu/\us.length=ai t/\m<ai t):=kH ⟨hnu.symm,UC,hmt⟩;have SE:=kH hOX;have Su:=kH D8;have QF:=kH hset;have SY:Hid (dX t q=some u/\q.length=qn/\i<u.kids.length/\u.kids.length<=1000000/\y.kids=[]/\t.kids.length<=1000000):=kH ⟨hfu,kJ,hiu,huc,hyk,by have h2:=dU t.kids;have h3:=jO t;have h4:=Em.out;omega⟩;have HROWQ:=kH hrowq;have HPI:=kH hpi;have HPL:Hid (qn+1<=1000000/\qn+1<=pc):=kH ⟨hpl,hpc⟩;have Mw:=QB.out X1 M8.out;rw[hvs]at Mw;have HVC:=kH Mw;obtain⟨⟨g0,g1,g2,g3,g4⟩,-⟩:=aZ.out.five;have lg:=aZ.out.lt;have hnub:nu<=1000000:=by have:=Em.out;omega
  have J8:m<nu:=by omega
  have hii:i<=1000000:=by omega
  have hqb:qn<=1000000:=by omega
  clear hym uO hv hnd hnw hnu hO hOu hpn hpl hpc hf hrow UT EY hvk UC hmt hfu hui hyk hiu huc hset kJ hpb hpcl hrowq hpi hvs hds O6 hOX D8 Mw QB HIS HDS HPT;go_wp2_with (first|rw[O4]|rw[hxb])
  refine HVC.out.mono ?_;rintro e7 w7 ⟨v7,rfl,hO7,dQ⟩;obtain⟨VA,vc,rfl,hl1,hl2⟩:=hO7.shape;have hl3:=aac hl1 hl2;obtain⟨nv,ji⟩:∃q,vs.length=q:=⟨_,rfl⟩
  rw[ji]at hO7 hl3⊢;have HNVB:=kH hl3;have gT:=kH dQ;have xe:=kH hO7;have Bl:=kH ji;clear hO7 dQ ji hl1 hl2 hl3 g0 g1 g2 g3 g4 lg O4 q0 lq;go_wp2_with fail
  go_loopg [71] nv (fun gk s71 wr=> ∃k:Nat,s71= .int .i64 (k:Int)/\k+gk=nv/\Below w7.heap.size w7 wr)
  case atStart=>exact⟨0,rfl,by omega,Below.refl _ _⟩
  case round=>
   obtain⟨k,rfl,hkn,Lu⟩:=hrel;have hkb:k<=nv:=by omega
   obtain⟨wo,hwo⟩:∃wo:World,wo=wr:=⟨_,rfl⟩
   subst hwo;obtain⟨go,hgo⟩:∃go:Nat,go=gk:=⟨_,rfl⟩
   subst hgo;have hbr:Below X1.heap.size X1 wo:=gT.out.trans (Lu.mono gT.out.size);have HKN:=kH hkn;have ZF:=kH Lu;have qm:=kH hbr;clear hkn Lu;by_cases hlt:k<nv
   ·obtain⟨d0,hz⟩:∃z,vs[k]? =some z:=⟨_,aaf (by rw[Bl.out];exact hlt)⟩
    obtain⟨j,d,rfl,hdj,hst⟩:=HLAW.out d0 (aan hz);obtain⟨hv',YO,YB,Yw⟩:=hst ay zy;have hjd:j<ds.length:=(aah.1 hdj).1;have hov:aP wo X1.heap.size 3 1 (.slice VA nv vc) nv (jN vs):=xe.out.below ZF.out (fun g hg=>(xe.out.lt g hg).2);obtain⟨vb,vo,hVA,hvb,hvcl⟩:=hov.rowAt (cells:=iO) (l:=vs) rfl (Ae vs) (fun _ _=>rfl) Bl.out k _ hz;subst hVA;have hod:aP wo W1.heap.size 49 4 (.slice dA nd dc) nd (ds.flatMap kS):=SE.out.below hbr (fun g hg=>(SE.out.lt g hg).2);obtain⟨db,do',hDA,hdb,Wz⟩:=hod.rowAt (cells:=kS) (l:=ds) rfl rfl (fun _ _=>rfl) mD.out.symm j d hdj;subst hDA;have hrr:=dC.out.below hbr dC.out.lt;have r0:=hrr.cell 0;have lr:=hrr.lt;have v0:wo.cell? ⟨vb,vo+k,none⟩=some (.int .i64 (j:Int)):=by simpa using hvcl 0 _ rfl
    have d1:wo.cell? ⟨db,do'+j*4+1,none⟩=some (.string d.name):=by simpa using Wz 1 _ rfl
    have hxx:=Sq.out.below hbr Sq.out.lt;obtain⟨⟨x0',x1',x2',x3',x4'⟩,-⟩:=hxx.five;have lx:=hxx.lt;have hjn:(j:Int)<(nd:Int):=by rw[mD.out];omega
    have hjn':¬((nd:Int)<=(j:Int)):=by omega
    have hj0:¬((j:Int)<0):=by omega
    have hkni:(k:Int)<(nv:Int):=by omega
    have hki:IntKind.i64.wrap ((k:Int)+1)=(k:Int)+1:=IntWalk.i64_in _ (by have:=HNVB.out;simp only[maxLen]at this;omega);obtain⟨t',ht'⟩:∃t',kr t m (.node 20 d.name ay zy [])=t':=⟨_,rfl⟩
    rw[ht']at hv' YO YB Yw;have hch:cZ t q i (i+1) [.node 20 d.name ay zy []]=t':=by rw[QF.out,ht']
    obtain⟨yb,hyb⟩:∃q,wo.heap.size=q:=⟨_,rfl⟩
    obtain⟨Y1,hY1⟩:∃Y1,wo.alloc (.cells #[.int .i64 20,.string xy,.int .i64 ay,.int .i64 zy,.slice Ay 0 cy] 24)=Y1:=⟨_,rfl⟩
    have U4:Below wo.heap.size wo Y1:=by rw[<- hY1];exact ae _ _
    have PI:ak Y1 yb 24 #[.int .i64 20,.string xy,.int .i64 ay,.int .i64 zy,.slice Ay 0 cy]:=by rw[<- hY1,<- hyb];exact ak.new _ _ _
    obtain⟨Y2,hY2⟩:∃Y2,Y1.setCell ⟨yb,1,none⟩ (.string d.name)=Y2:=⟨_,rfl⟩
    have hY2b:ak Y2 yb 24 #[.int .i64 20,.string d.name,.int .i64 ay,.int .i64 zy,.slice Ay 0 cy]:=by
     have:=PI.gY 1 (.string d.name);rw[hY2]at this;simpa using this
    have hbY2:Below wo.heap.size wo Y2:=by
     rw[<- hY2];exact U4.setCell (p:=⟨yb,1,none⟩) (by show wo.heap.size<=yb;omega) _
    obtain⟨V,hV⟩:∃V,Y2.drew=V:=⟨_,rfl⟩
    have D7:Below wo.heap.size wo V:=by rw[<- hV];exact hbY2.drew
    have hYV:ak V yb 24 #[.int .i64 20,.string d.name,.int .i64 ay,.int .i64 zy,.slice Ay 0 cy]:=by rw[<- hV];exact hY2b.drew
    have Px:Below X1.heap.size X1 V:=hbr.trans (D7.mono hbr.size);have YU:Below w1.heap.size w1 V:=M8.out.trans (Px.mono M8.out.size);have Py:Below w3.heap.size w3 V:=SL.out.2.2.2.2.2.trans (Px.mono SL.out.2.2.2.2.2.size);have Sc:ak V nb 24 #[.int .i64 k0,.string x0,.int .i64 a0,.int .i64 z0,.slice A n0 c]:=aZ.out.below Px aZ.out.lt;have hpblt:pb<w3.heap.size:=World.block_lt_of_cell? w3 _ HPI.out
    have gm:Hid (∀W:World,Below V.heap.size V W->W.cell? ⟨nb,0,none⟩=some (.int .i64 k0)/\W.cell? ⟨nb,1,none⟩=some (.string x0)/\W.cell? ⟨nb,2,none⟩=some (.int .i64 a0)/\W.cell? ⟨nb,3,none⟩=some (.int .i64 z0)/\W.cell? ⟨nb,4,none⟩=some (.slice A n0 c)/\W.cell? ⟨pb,po+qn,none⟩=some (.int .i64 (i:Int))/\W.cell? ⟨yb,0,none⟩=some (.int .i64 20)/\W.cell? ⟨yb,1,none⟩=some (.string d.name)/\W.cell? ⟨yb,2,none⟩=some (.int .i64 ay)/\W.cell? ⟨yb,3,none⟩=some (.int .i64 zy)/\W.cell? ⟨yb,4,none⟩=some (.slice Ay 0 cy)):=kH fun W hb=>by
     obtain⟨⟨q0,q1,q2,q3,q4⟩,-⟩:=(Sc.below hb Sc.lt).five;obtain⟨⟨s0,s1,s2,s3,s4⟩,-⟩:=(hYV.below hb hYV.lt).five;exact⟨q0,q1,q2,q3,q4,((Py.trans (hb.mono Py.size)).cell (p:=⟨pb,po+qn,none⟩) hpblt).trans HPI.out,s0,s1,s2,s3,s4⟩
    have jD:Hid (∀(W:World) (gy:Nat),Below V.heap.size V W->ak W gy 24 #[.int .i64 20,.string d.name,.int .i64 ay,.int .i64 zy,.slice Ay 0 cy]->Calls Tryz.prog 25 #[.agg #[.int .i64 k0,.string x0,.int .i64 a0,.int .i64 z0,.slice A n0 c],.slice (some ⟨pb,po,none⟩) qn pc,.int .i64 (i:Int),.int .i64 ((i:Int)+1),.slice (some ⟨gy,0,none⟩) 1 1] W fun e w'=> ∃(A6:Option Addr) (c6 n6:Nat),e= .returned (.tuple #[.agg #[.int .i64 k0,.string x0,.int .i64 a0,.int .i64 z0,.slice A6 n6 c6],.int .i64 0])/\t'.kids.length=n6/\n6<=c6/\dO w' (fun g=>W.heap.size<=g\/g=gy) A6 0 t'.kids/\Below W.heap.size W w'):=kH fun W gy hb hB=>by
     have hbw:=YU.trans (hb.mono YU.size);have hb3:=Py.trans (hb.mono Py.size)
     have h:=HREPL.out W hbw (fun g=>g=gy) (.node 20 d.name ay zy []) (some ⟨gy,0,none⟩) 1 i q u (some ⟨pb,po,none⟩) pc (by have:=SY.out.2.1;omega) (by have:=SY.out.2.1;have:=HPL.out.2;omega) ((HROWQ.out.below hb3 (aab _)).mono hb3.size) SY.out.1 SY.out.2.2.1 SY.out.2.2.2.1 (fun g hg=>by rw[hg];exact hB.lt) ⟨⟨gy,0,[.int .i64 20,.string d.name,.int .i64 ay,.int .i64 zy,.slice Ay 0 cy],rfl,⟨hB.lt,rfl⟩,fun j v hj=>by
      rw[Nat.zero_mul,Nat.zero_add,hB.cell]
      simpa using hj,⟨Ay,cy,rfl,Nat.zero_le _,trivial⟩⟩,trivial⟩
     rw[SY.out.2.1,show((i+1:Nat):Int)=(i:Int)+1 by omega]at h;refine h.mono fun e w' ⟨A6,c6,he,h1,h2,h3⟩=>?_
     obtain⟨e1,e2,e3,e4⟩:=tY t q i (i+1) [.node 20 d.name ay zy []];rw[hch]at he h1 h2 e1 e2 e3 e4;refine⟨A6,c6,_,?_,rfl,h1,h2,h3⟩;rw[he];unfold bB;rw[e1,e2,e3,e4,He.out.1,He.out.2.1,He.out.2.2.1,He.out.2.2.2]
    have jg:Hid (∀(W:World) (g17:Nat) (A6:Option Addr) (c6 n6:Nat),Below V.heap.size V W->V.heap.size<=g17->ak W g17 24 #[.int .i64 0,.string ⟨#[]⟩,.int .i64 0,.int .i64 0,.slice none 0 0]->t'.kids.length=n6->n6<=c6->dO W (fun g=>g≠g17) A6 0 t'.kids->∃(wV:Nat) (A7:Option Addr) (c7 n7:Nat),Value.pointer (some ⟨g17,0,none⟩)= .pointer (some ⟨wV,0,none⟩)/\Value.int .i64 0= .int .i64 0/\Hid (ak (bZ W g17 (.int .i64 k0) (.string x0) (.int .i64 a0) (.int .i64 z0) (.slice A6 n6 c6)) wV 24 #[.int .i64 k0,.string x0,.int .i64 a0,.int .i64 z0,.slice A7 n7 c7]/\aK (bZ W g17 (.int .i64 k0) (.string x0) (.int .i64 a0) (.int .i64 z0) (.slice A6 n6 c6)) (bZ W g17 (.int .i64 k0) (.string x0) (.int .i64 a0) (.int .i64 z0) (.slice A6 n6 c6)).heap.size A7 0 t'.kids/\n7<=c7/\t'.kids.length=n7/\Below V.heap.size V (bZ W g17 (.int .i64 k0) (.string x0) (.int .i64 a0) (.int .i64 z0) (.slice A6 n6 c6)))):=kH fun W g17 A6 c6 n6 hb hg hB hn hc hK=>by
     have hs:=kP (w:=W) (g:=g17) (a:=.int .i64 k0) (b:=.string x0) (c:=.int .i64 a0) (d:=.int .i64 z0) (e:=.slice A6 n6 c6);have hk1:gJ (fun g=>g≠g17) W (bZ W g17 (.int .i64 k0) (.string x0) (.int .i64 a0) (.int .i64 z0) (.slice A6 n6 c6)):=gJ.since hs (fun g _ hP hq=>hP hq);exact⟨g17,A6,c6,n6,rfl,rfl,kH ⟨ak.sI hB _ _ _ _ _,dO.at_ _ _ _ (dO.keep hk1 _ _ _ hK),hc,hn,hb.trans (hs.toBelow hb.size (fun g hg'=>by omega))⟩⟩
    have hS0:=gm.out V (Below.refl _ _);have HT':Hid (j6 t'=true/\ai t'=ai t/\(cK t').aR=[]/\(cK t').uses=us.set m (j:Int)):=kH ⟨hv',YO,YB,Yw⟩
    have uI:Hid (t'.kind=k0/\t'.text=x0/\t'.at_=a0/\t'.end_=z0):=kH (by
     obtain⟨e1,e2,e3,e4⟩:=tY t q i (i+1) [.node 20 d.name ay zy []];rw[hch]at e1 e2 e3 e4
     exact⟨e1.trans He.out.1,e2.trans He.out.2.1,e3.trans He.out.2.2.1,e4.trans He.out.2.2.2⟩)
    have HBXV:=kH Px;have HBWV:Hid (Below wo.heap.size wo V):=kH D7;have hY1f:=PI.frozen 1;have hY1c:=PI.cell 1;have Ww:=hrr.below U4 hrr.lt;have r0Y:=Ww.cell 0;have lrY:=Ww.lt;have d1Y:Y1.cell? ⟨db,do'+j*4+1,none⟩=some (.string d.name):=(U4.cell (p:=⟨db,do'+j*4+1,none⟩) (World.block_lt_of_cell? wo _ d1)).trans d1;have hY1l:=PI.lt;have hwq:IntKind.i64.wrap (((qn+1:Nat):Int) - 1)=(qn:Int):=by rw[IntWalk.i64_in _ (by omega)];omega
    have hwq':IntKind.i64.wrap ((qn:Int)+1 - 1)=(qn:Int):=by rw[IntWalk.i64_in _ (by omega)];omega
    have hwq0:IntKind.i64.wrap (qn:Int)=(qn:Int):=IntWalk.i64_in _ (by omega);have hqpc:(qn:Int)<=(pc:Int):=by have:=HPL.out.2;omega
    have hwi:IntKind.i64.wrap ((i:Int)+1)=(i:Int)+1:=IntWalk.i64_in _ (by omega);have hq0:¬((qn:Int)<0):=by omega
    have hqlt:(qn:Int)<((qn+1:Nat):Int):=by omega
    have hqlt':(qn:Int)<(qn:Int)+1:=by omega
    clear hz hdj hst hv' YO YB Yw hjd hov hvcl hod Wz hrr hxx ht' hch U4 PI hY2b hbY2 D7 hYV Px YU Py Sc hpblt hvb hdb hbr Ww;go_upto_region 14 with(first|rw[hY1]|rw[hY2]|rw[hyb])
    go_cut [17,18] (fun s17 s18 wx=> ∃(wV:Nat) (A7:Option Addr) (c7 n7:Nat),s17= .pointer (some ⟨wV,0,none⟩)/\s18= .int .i64 0/\Hid (ak wx wV 24 #[.int .i64 k0,.string x0,.int .i64 a0,.int .i64 z0,.slice A7 n7 c7]/\aK wx wx.heap.size A7 0 t'.kids/\n7<=c7/\t'.kids.length=n7/\Below V.heap.size V wx))
    case first=>
     refine NH (fun w'=>w'.cell? ⟨nb,0,none⟩=some (.int .i64 k0)/\w'.cell? ⟨nb,1,none⟩=some (.string x0)/\w'.cell? ⟨nb,2,none⟩=some (.int .i64 a0)/\w'.cell? ⟨nb,3,none⟩=some (.int .i64 z0)/\w'.cell? ⟨nb,4,none⟩=some (.slice A n0 c)/\w'.cell? ⟨pb,po+qn,none⟩=some (.int .i64 (i:Int))/\w'.cell? ⟨yb,0,none⟩=some (.int .i64 20)/\w'.cell? ⟨yb,1,none⟩=some (.string d.name)/\w'.cell? ⟨yb,2,none⟩=some (.int .i64 ay)/\w'.cell? ⟨yb,3,none⟩=some (.int .i64 zy)/\w'.cell? ⟨yb,4,none⟩=some (.slice Ay 0 cy)) [] (.soft 0 (.soft 1 (.soft 2 (.soft 3 (.soft 4 (.soft 5 (.soft 6 (.soft 7 (.soft 8 (.soft 9 (.soft 10 (.soft 11 (.soft 12 (.soft 13 (.soft 14 (.soft 15 (.soft 16 (.soft 17 (.soft 18 (.soft 19 (.fork 20 (.fork 21 (.soft 22 (.soft 23 (.soft 24 (.hard 25 (.hard 26 (.soft 27 .done)))))) 25 (.hard 21 (.soft 22 (.soft 23 (.soft 24 (.hard 26 (.soft 27 .done))))))) 25 (.hard 20 (.hard 21 (.soft 22 (.soft 23 (.soft 24 (.hard 26 (.soft 27 .done)))))))))))))))))))))))))))) (by kernel_rfl) (by kernel_rfl) rfl (by kernel_rfl) ?_;rw[hV];refine rM (by simp only[aak,aai];rfl) (by rfl) hS0 (by intro w' hSw;obtain⟨hs1,hs2,hs3,hs4,hs5,hs6,hs7,jh,tL,uZ,sN⟩:=hSw;go_simp;rfl) ?_;iterate 19(simp only[Act.put,sA,sZ,sC];refine rM (by simp only[aak,aaj,aai];rfl) (by rfl) hS0 (by intro w' hSw;obtain⟨hs1,hs2,hs3,hs4,hs5,hs6,hs7,jh,tL,uZ,sN⟩:=hSw;go_simp;rfl) ?_)
     simp only[Act.put,sA,sZ,sC];refine LV ?_ ?_
     ·obtain⟨gy,Po⟩:∃q,V.heap.size=q:=⟨_,rfl⟩
      obtain⟨Y3,Kj⟩:∃q,V.alloc (.cells #[.int .i64 20,.string d.name,.int .i64 ay,.int .i64 zy,.slice Ay 0 cy] 24)=q:=⟨_,rfl⟩
      have xM:Below V.heap.size V Y3:=by rw[<- Kj];exact ae _ _
      have I4:ak Y3 gy 24 #[.int .i64 20,.string d.name,.int .i64 ay,.int .i64 zy,.slice Ay 0 cy]:=by rw[<- Kj,<- Po];exact ak.new _ _ _
      have Za:=gm.out Y3 xM;refine(yB (v:=.slice (some ⟨gy,0,none⟩) 1 1) (w':=Y3) (by simp only[aak,aaj,aai];rfl) (by rfl) (by first|(go_simp;done)|(go_simp;rw[Kj,Po])|(go_simp;rw[Po];rfl)) (fun _=>Za) ?_);simp only[Act.put,sA,sZ,sC];refine LV ?_ ?_
      ·refine(Dq (by simp only[aak,aaj,aai];rfl) (by rfl) (by go_simp) ((jD.out Y3 gy xM I4).mono ?_))
       rintro e6 w6 ⟨A6,c6,n6,rfl,uD,hc6,yD,hb6⟩;have ve:Below V.heap.size V w6:=(xM).trans (hb6.mono (xM).size);have ma:=gm.out w6 ve;refine⟨_,rfl,fun _=>ma,?_⟩;iterate 3(simp only[Act.put,sA,sZ,sC];refine rM (by simp only[aak,aaj,aai];rfl) (by rfl) ma (by intro w' hSw;obtain⟨hs1,hs2,hs3,hs4,hs5,hs6,hs7,jh,tL,uZ,sN⟩:=hSw;go_simp;rfl) ?_)
       simp only[Act.put,sA,sZ,sC];obtain⟨g7,vP⟩:∃q,w6.heap.size=q:=⟨_,rfl⟩
       obtain⟨Z3,hZ3⟩:∃q,w6.alloc (.cells #[.int .i64 0,.string ⟨#[]⟩,.int .i64 0,.int .i64 0,.slice none 0 0] 24)=q:=⟨_,rfl⟩
       have xL:Below V.heap.size V Z3:=(ve).trans ((by rw[<- hZ3];exact ae _ _:Below w6.heap.size w6 Z3).mono (ve).size);have tV:ak Z3 g7 24 #[.int .i64 0,.string ⟨#[]⟩,.int .i64 0,.int .i64 0,.slice none 0 0]:=by rw[<- hZ3,<- vP];exact ak.new _ _ _
       have PX:=gm.out Z3 xL;refine sV (yB (v:=.pointer (some ⟨g7,0,none⟩)) (w':=Z3) (by simp only[aak,aaj,aai];rfl) (by rfl) (by first|(go_simp;done)|(go_simp;rw[hZ3,vP])|(go_simp;rw[vP];rfl)) (fun _=>PX) ?_);simp only[Act.put,sA,sZ,sC];have vR:dO Z3 (fun g=>g≠g7) A6 0 t'.kids:=dO.keep (gJ.all (by rw[<- hZ3];exact ae _ _)) _ _ _ (dO.weak (fun g hg _=>by omega) _ _ _ yD);have hfin:=jg.out Z3 g7 A6 c6 n6 xL (by rw[<- vP];exact ve.size) tV uD hc6 vR;have uE:Below V.heap.size V (bZ Z3 g7 (.int .i64 k0) (.string x0) (.int .i64 a0) (.int .i64 z0) (.slice A6 n6 c6)):=(xL).trans ((kP (w:=Z3) (g:=g7)).toBelow (xL).size (fun q hq=>by rw[hq];exact(by rw[<- vP];exact ve.size)));have hSZ:=gm.out _ uE;obtain⟨⟨m0,m1,m2,m3,m4⟩,f0,f1,f2,f3,f4⟩:=(tV).five;have lm:=(tV).lt;refine sV (Dp (w':=bZ Z3 g7 (.int .i64 k0) (.string x0) (.int .i64 a0) (.int .i64 z0) (.slice A6 n6 c6)) (by simp only[aak,aaj,aai];rfl) (by rfl) (by go_simp;rfl) (fun _=>hSZ) ?_);simp only[Act.put];refine rM (by simp only[aak,aaj,aai];rfl) (by rfl) hSZ (by intro w' hSw;obtain⟨hs1,hs2,hs3,hs4,hs5,hs6,hs7,jh,tL,uZ,sN⟩:=hSw;go_simp;rfl) ?_;simp only[Act.put,sA,sZ,sC];refine Hy ?_;obtain⟨Z9,WE⟩:∃Z9,bZ Z3 g7 (.int .i64 k0) (.string x0) (.int .i64 a0) (.int .i64 z0) (.slice A6 n6 c6)=Z9:=⟨_,rfl⟩
       rw[WE]at hfin⊢;clear hSZ uE m0 m1 m2 m3 m4 f0 f1 f2 f3 f4 lm hS0;go_wp2_with fail
       go_meet
       obtain⟨h9,A9,c9,n9,e1,-,e3⟩:=hfin;exact⟨h9,A9,c9,n9,e1,rfl,e3⟩
      ·obtain⟨g7,vP⟩:∃q,Y3.heap.size=q:=⟨_,rfl⟩
       obtain⟨Z3,hZ3⟩:∃q,Y3.alloc (.cells #[.int .i64 0,.string ⟨#[]⟩,.int .i64 0,.int .i64 0,.slice none 0 0] 24)=q:=⟨_,rfl⟩
       have xL:Below V.heap.size V Z3:=(xM).trans ((by rw[<- hZ3];exact ae _ _:Below Y3.heap.size Y3 Z3).mono (xM).size);have tV:ak Z3 g7 24 #[.int .i64 0,.string ⟨#[]⟩,.int .i64 0,.int .i64 0,.slice none 0 0]:=by rw[<- hZ3,<- vP];exact ak.new _ _ _
       have PX:=gm.out Z3 xL;refine(yB (v:=.pointer (some ⟨g7,0,none⟩)) (w':=Z3) (by simp only[aak,aaj,aai];rfl) (by rfl) (by first|(go_simp;done)|(go_simp;rw[hZ3,vP])|(go_simp;rw[vP];rfl)) (fun _=>PX) ?_);simp only[Act.put,sA,sZ,sC];refine sV (Dq (by simp only[aak,aaj,aai];rfl) (by rfl) (by go_simp) ((jD.out Z3 gy xL (I4.below (by rw[<- hZ3];exact ae _ _:Below Y3.heap.size Y3 Z3) I4.lt)).mono ?_));rintro e6 w6 ⟨A6,c6,n6,rfl,uD,hc6,yD,hb6⟩;have ve:Below V.heap.size V w6:=(xL).trans (hb6.mono (xL).size);have ma:=gm.out w6 ve;refine⟨_,rfl,fun _=>ma,?_⟩;simp only[Act.put,sA,sZ,sC];have vR:dO w6 (fun g=>g≠g7) A6 0 t'.kids:=dO.weak (fun g _ hP=>by have h1:=I4.lt;have h2:=tV.lt;rcases hP with h|h<;>omega) _ _ _ yD;iterate 3(refine rM (by simp only[aak,aaj,aai];rfl) (by rfl) ma (by intro w' hSw;obtain⟨hs1,hs2,hs3,hs4,hs5,hs6,hs7,jh,tL,uZ,sN⟩:=hSw;go_simp;rfl) ?_;simp only[Act.put,sA,sZ,sC])
       have hfin:=jg.out w6 g7 A6 c6 n6 ve (by rw[<- vP];exact xM.size) (tV.below hb6 tV.lt) uD hc6 vR;have uE:Below V.heap.size V (bZ w6 g7 (.int .i64 k0) (.string x0) (.int .i64 a0) (.int .i64 z0) (.slice A6 n6 c6)):=(ve).trans ((kP (w:=w6) (g:=g7)).toBelow (ve).size (fun q hq=>by rw[hq];exact(by rw[<- vP];exact xM.size)));have hSZ:=gm.out _ uE;obtain⟨⟨m0,m1,m2,m3,m4⟩,f0,f1,f2,f3,f4⟩:=((tV.below hb6 tV.lt)).five;have lm:=((tV.below hb6 tV.lt)).lt;refine sV (Dp (w':=bZ w6 g7 (.int .i64 k0) (.string x0) (.int .i64 a0) (.int .i64 z0) (.slice A6 n6 c6)) (by simp only[aak,aaj,aai];rfl) (by rfl) (by go_simp;rfl) (fun _=>hSZ) ?_);simp only[Act.put];refine rM (by simp only[aak,aaj,aai];rfl) (by rfl) hSZ (by intro w' hSw;obtain⟨hs1,hs2,hs3,hs4,hs5,hs6,hs7,jh,tL,uZ,sN⟩:=hSw;go_simp;rfl) ?_;simp only[Act.put,sA,sZ,sC];refine Hy ?_;obtain⟨Z9,WE⟩:∃Z9,bZ w6 g7 (.int .i64 k0) (.string x0) (.int .i64 a0) (.int .i64 z0) (.slice A6 n6 c6)=Z9:=⟨_,rfl⟩
       rw[WE]at hfin⊢;clear hSZ uE m0 m1 m2 m3 m4 f0 f1 f2 f3 f4 lm hS0;go_wp2_with fail
       go_meet
       obtain⟨h9,A9,c9,n9,e1,-,e3⟩:=hfin;exact⟨h9,A9,c9,n9,e1,rfl,e3⟩
     ·obtain⟨g7,vP⟩:∃q,V.heap.size=q:=⟨_,rfl⟩
      obtain⟨Z3,hZ3⟩:∃q,V.alloc (.cells #[.int .i64 0,.string ⟨#[]⟩,.int .i64 0,.int .i64 0,.slice none 0 0] 24)=q:=⟨_,rfl⟩
      have xL:Below V.heap.size V Z3:=by rw[<- hZ3];exact ae _ _
      have tV:ak Z3 g7 24 #[.int .i64 0,.string ⟨#[]⟩,.int .i64 0,.int .i64 0,.slice none 0 0]:=by rw[<- hZ3,<- vP];exact ak.new _ _ _
      have PX:=gm.out Z3 xL;refine(yB (v:=.pointer (some ⟨g7,0,none⟩)) (w':=Z3) (by simp only[aak,aaj,aai];rfl) (by rfl) (by first|(go_simp;done)|(go_simp;rw[hZ3,vP])|(go_simp;rw[vP];rfl)) (fun _=>PX) ?_);simp only[Act.put,sA,sZ,sC];obtain⟨gy,Po⟩:∃q,Z3.heap.size=q:=⟨_,rfl⟩
      obtain⟨Y3,Kj⟩:∃q,Z3.alloc (.cells #[.int .i64 20,.string d.name,.int .i64 ay,.int .i64 zy,.slice Ay 0 cy] 24)=q:=⟨_,rfl⟩
      have xM:Below V.heap.size V Y3:=(xL).trans ((by rw[<- Kj];exact ae _ _:Below Z3.heap.size Z3 Y3).mono (xL).size);have I4:ak Y3 gy 24 #[.int .i64 20,.string d.name,.int .i64 ay,.int .i64 zy,.slice Ay 0 cy]:=by rw[<- Kj,<- Po];exact ak.new _ _ _
      have Za:=gm.out Y3 xM;refine sV (yB (v:=.slice (some ⟨gy,0,none⟩) 1 1) (w':=Y3) (by simp only[aak,aaj,aai];rfl) (by rfl) (by first|(go_simp;done)|(go_simp;rw[Kj,Po])|(go_simp;rw[Po];rfl)) (fun _=>Za) ?_);simp only[Act.put,sA,sZ,sC];refine sV (Dq (by simp only[aak,aaj,aai];rfl) (by rfl) (by go_simp) ((jD.out Y3 gy xM I4).mono ?_));rintro e6 w6 ⟨A6,c6,n6,rfl,uD,hc6,yD,hb6⟩;have ve:Below V.heap.size V w6:=(xM).trans (hb6.mono (xM).size);have ma:=gm.out w6 ve;refine⟨_,rfl,fun _=>ma,?_⟩;simp only[Act.put,sA,sZ,sC];have vR:dO w6 (fun g=>g≠g7) A6 0 t'.kids:=dO.weak (fun g _ hP=>by have h1:=I4.lt;have h2:=tV.lt;rcases hP with h|h<;>omega) _ _ _ yD;have hB7:ak w6 g7 24 #[.int .i64 0,.string ⟨#[]⟩,.int .i64 0,.int .i64 0,.slice none 0 0]:=(tV.below (by rw[<- Kj];exact ae _ _:Below Z3.heap.size Z3 Y3) tV.lt).below hb6 (tV.below (by rw[<- Kj];exact ae _ _:Below Z3.heap.size Z3 Y3) tV.lt).lt;iterate 3(refine rM (by simp only[aak,aaj,aai];rfl) (by rfl) ma (by intro w' hSw;obtain⟨hs1,hs2,hs3,hs4,hs5,hs6,hs7,jh,tL,uZ,sN⟩:=hSw;go_simp;rfl) ?_;simp only[Act.put,sA,sZ,sC])
      have hfin:=jg.out w6 g7 A6 c6 n6 ve (by rw[<- vP];exact aab _) hB7 uD hc6 vR;have uE:Below V.heap.size V (bZ w6 g7 (.int .i64 k0) (.string x0) (.int .i64 a0) (.int .i64 z0) (.slice A6 n6 c6)):=(ve).trans ((kP (w:=w6) (g:=g7)).toBelow (ve).size (fun q hq=>by rw[hq];exact(by rw[<- vP];exact aab _)));have hSZ:=gm.out _ uE;obtain⟨⟨m0,m1,m2,m3,m4⟩,f0,f1,f2,f3,f4⟩:=(hB7).five;have lm:=(hB7).lt;refine sV (Dp (w':=bZ w6 g7 (.int .i64 k0) (.string x0) (.int .i64 a0) (.int .i64 z0) (.slice A6 n6 c6)) (by simp only[aak,aaj,aai];rfl) (by rfl) (by go_simp;rfl) (fun _=>hSZ) ?_);simp only[Act.put];refine rM (by simp only[aak,aaj,aai];rfl) (by rfl) hSZ (by intro w' hSw;obtain⟨hs1,hs2,hs3,hs4,hs5,hs6,hs7,jh,tL,uZ,sN⟩:=hSw;go_simp;rfl) ?_;simp only[Act.put,sA,sZ,sC];refine Hy ?_;obtain⟨Z9,WE⟩:∃Z9,bZ w6 g7 (.int .i64 k0) (.string x0) (.int .i64 a0) (.int .i64 z0) (.slice A6 n6 c6)=Z9:=⟨_,rfl⟩
      rw[WE]at hfin⊢;clear hSZ uE m0 m1 m2 m3 m4 f0 f1 f2 f3 f4 lm hS0;go_wp2_with fail
      go_meet
      obtain⟨h9,A9,c9,n9,e1,-,e3⟩:=hfin;exact⟨h9,A9,c9,n9,e1,rfl,e3⟩
    case rest=>
     obtain⟨wV,A7,c7,n7,rfl,rfl,HZ⟩:=hcut;have hzb:Below V.heap.size V wc:=HZ.out.2.2.2.2;have hrs:=Ha t' A7 c7 wc (by rw[HT'.out.2.1];exact Em.out) (by rw[HZ.out.2.2.2.1];exact HZ.out.2.2.1) HZ.out.2.1
     have hnt:bB t' A7 c7= .agg #[.int .i64 k0,.string x0,.int .i64 a0,.int .i64 z0,.slice A7 n7 c7]:=by
      unfold bB;rw[uI.out.1,uI.out.2.1,uI.out.2.2.1,uI.out.2.2.2,HZ.out.2.2.2.1]
     rw[hnt]at hrs;have HRS:=kH hrs;obtain⟨⟨p0,p1,p2,p3,p4⟩,-⟩:=HZ.out.1.five;have lp:=HZ.out.1.lt;have hbwc:Below wo.heap.size wo wc:=HBWV.out.trans (hzb.mono HBWV.out.size);have hbxc:Below X1.heap.size X1 wc:=HBXV.out.trans (hzb.mono HBXV.out.size);have HBWC:=kH hbwc;have HBXC:=kH hbxc;clear hzb hrs hnt hbwc hbxc;go_wp2_with fail
     refine HRS.out.mono ?_;rintro e8 w8 ⟨qdA,qnd,qdc,quA,qnu,quc,qAw,qnw,qcw,er8,rfl,eB,fJ⟩;have h80:er8=0:=eB.2 HT'.out.1;obtain⟨-,hqnd,hqnw,Yz,-,U8⟩:=eB.1 h80;subst h80;have hqw0:qnw=0:=by rw[hqnw,HT'.out.2.2.1];rfl
     subst hqw0;rw[HT'.out.2.2.2]at Yz U8;have hqnu':nu=qnu:=by rw[Yz,List.length_set];exact uJ.out.1.symm
     subst hqnu';obtain⟨qb,hqb⟩:∃q,w8.heap.size=q:=⟨_,rfl⟩
     obtain⟨Q1,ML⟩:∃Q1,w8.alloc (.cells #[.slice qdA qnd qdc,.slice quA nu quc] 30)=Q1:=⟨_,rfl⟩
     have hbQ:Below w8.heap.size w8 Q1:=by rw[<- ML];exact ae _ _
     have WK:ak Q1 qb 30 #[.slice qdA qnd qdc,.slice quA nu quc]:=by rw[<- ML,<- hqb];exact ak.new _ _ _
     have YW:Below wc.heap.size wc Q1:=fJ.trans (hbQ.mono fJ.size);have hbwQ:Below wo.heap.size wo Q1:=HBWC.out.trans (YW.mono HBWC.out.size);have YS:Below X1.heap.size X1 Q1:=HBXC.out.trans (YW.mono HBXC.out.size);have Wx:=dC.out.below YS dC.out.lt;have hqO:aP Q1 0 3 1 (.slice quA nu quc) nu (jN (us.set m (j:Int))):=(U8.below hbQ (fun g hg=>(U8.lt g hg).2)).mono (Nat.zero_le _);have hrO:aP Q1 0 3 1 (.slice uA nu uc) nu (jN us):=(Su.out.below YS (fun g hg=>(Su.out.lt g hg).2)).mono (Nat.zero_le _);have hlen2:(us.set m (j:Int)).length=nu:=by rw[List.length_set];exact uJ.out.1
     have UL:=hqO.rowAt (cells:=iO) (l:=us.set m (j:Int)) rfl (Ae _) (fun _ _=>rfl) hlen2;have UK:=hrO.rowAt (cells:=iO) (l:=us) rfl (Ae us) (fun _ _=>rfl) uJ.out.1;have hgm:(us.set m (j:Int))[m]? =some (j:Int):=by rw[List.getElem?_set_self (by have:=uJ.out;omega)]
     obtain⟨ub2,uo2,hquA,-,hqcl⟩:=UL m _ hgm;obtain⟨ub1,uo1,huA,-,-⟩:=UK m _ (aaf (by have:=uJ.out;omega));subst hquA;subst huA;have hqm:Q1.cell? ⟨ub2,uo2+m,none⟩=some (.int .i64 (j:Int)):=by simpa using hqcl 0 _ rfl
     have HROWQ2:=kH UL;have HROWR2:=kH UK;have HQQ:=kH WK;have HRQ:=kH Wx;have HBWQ:=kH hbwQ;have i0:=WK.cell 0;have i1:=WK.cell 1;have li:=WK.lt;have s0:=Wx.cell 0;have s1:=Wx.cell 1;have ls:=Wx.lt;have hm0:¬((m:Int)<0):=by omega
     have hmi:(m:Int)<(nu:Int):=by omega
     have hmi':¬((nu:Int)<=(m:Int)):=by omega
     clear eB hqnd hqnw Yz U8 fJ hbQ WK YW hbwQ YS Wx hqO hrO hlen2 UL UK hgm hqcl p0 p1 p2 p3 p4 lp;go_wp2_with (first|rw[ML]|rw[hqb])
     clear ML hqb;go_loopg [151] nu (fun gk s151 wr=> ∃i2:Nat,s151= .int .i64 (i2:Int)/\i2+gk=nu/\Below Q1.heap.size Q1 wr)
     case atStart=>exact⟨0,rfl,by omega,Below.refl _ _⟩
     case round=>
      obtain⟨i2,rfl,hi2,hb2⟩:=hrel;have hib2:i2<=nu:=by omega
      have HI2:=kH hi2;have HB2:=kH hb2;have UN:=HQQ.out.below hb2 HQQ.out.lt;have UJ:=HRQ.out.below hb2 HRQ.out.lt;have i0':=UN.cell 0;have i1':=UN.cell 1;have li':=UN.lt;have s0':=UJ.cell 0;have s1':=UJ.cell 1;have ls':=UJ.lt;clear hi2 i0 i1 li s0 s1 ls UN UJ;by_cases hlt2:i2<nu
      ·obtain⟨x2,hx2⟩:∃x,(us.set m (j:Int))[i2]? =some x:=⟨_,aaf (by rw[List.length_set];have:=uJ.out;omega)⟩
       obtain⟨y2,hy2⟩:∃y,us[i2]? =some y:=⟨_,aaf (by have:=uJ.out;omega)⟩
       obtain⟨b1,o1,hA1,-,hc1⟩:=(HROWQ2.out.below hb2 (aab _)) i2 _ hx2;obtain⟨b2',o2,hA2,-,hc2⟩:=(HROWR2.out.below hb2 (aab _)) i2 _ hy2;cases hA1
       cases hA2
       have Z6:wr.cell? ⟨ub2,uo2+i2,none⟩=some (.int .i64 x2):=by simpa using hc1 0 _ rfl
       have hyc:wr.cell? ⟨ub1,uo1+i2,none⟩=some (.int .i64 y2):=by simpa using hc2 0 _ rfl
       have hini:(i2:Int)<(nu:Int):=by omega
       have hini':¬((nu:Int)<=(i2:Int)):=by omega
       have hi20:¬((i2:Int)<0):=by omega
       have hki2:IntKind.i64.wrap ((i2:Int)+1)=(i2:Int)+1:=IntWalk.i64_in _ (by omega);by_cases him:i2=m
       ·subst him
        clear hx2 hy2 hc1 hc2 hb2;go_wp2_with fail
        go_quiet (fail)
        go_wp2_with fail
        go_roundg (gk - 1)
        case measure=>have:=HI2.out;omega
        case rel=>exact⟨i2+1,by simp,by have:=HI2.out;omega,by(repeat (first|exact Below.refl _ _|assumption|refine Below.trans ?_ (Below.mono (by assumption) (by first|omega|(simp;done)|(simp;omega)))|refine Below.alloc ?_ (by first|omega|(simp;done)|(simp;omega)) _|refine Below.setCell ?_ (by first|omega|(simp;done)|(simp;omega)) _|refine Below.drew ?_|refine bq ?_ _))⟩
       ·have hxy:x2=y2:=by
         rw[List.getElem?_set_ne (fun e=>him e.symm),hy2]at hx2;exact(Option.some.inj hx2).symm
        subst hxy
        have hbn:((i2:Int) !=(m:Int))=true:=by
         have:¬((i2:Int)=(m:Int)):=by omega
         simpa using this
        clear hx2 hy2 hc1 hc2 hb2 him;go_wp2_with fail
        go_quiet (fail)
        go_wp2_with fail
        go_roundg (gk - 1)
        case measure=>have:=HI2.out;omega
        case rel=>exact⟨i2+1,by simp,by have:=HI2.out;omega,by(repeat (first|exact Below.refl _ _|assumption|refine Below.trans ?_ (Below.mono (by assumption) (by first|omega|(simp;done)|(simp;omega)))|refine Below.alloc ?_ (by first|omega|(simp;done)|(simp;omega)) _|refine Below.setCell ?_ (by first|omega|(simp;done)|(simp;omega)) _|refine Below.drew ?_|refine bq ?_ _))⟩
      ·have hie2:i2=nu:=by omega
       subst hie2;have zb:Hid (Below w7.heap.size w7 wr):=kH (ZF.out.trans ((HBWQ.out.trans (hb2.mono HBWQ.out.size)).mono ZF.out.size));clear hb2;go_wp2_with fail
       go_roundg (go - 1)
       case measure=>have:=HKN.out;omega
       case rel=>exact⟨k+1,by simp,by have:=HKN.out;omega,zb.out⟩
   ·have hke:k=nv:=by omega
    subst hke;have HBE:Hid (Below w.heap.size w wo):=kH (qy.out.trans (hbr.mono qy.out.size));clear hbr;go_wp2_with fail
    refine(LP.out _).mono ?_;rintro e8 w8 ⟨rfl,fJ⟩;have rH:Hid (Below w.heap.size w w8):=kH (HBE.out.trans (fJ.mono HBE.out.size));clear fJ;go_wp2_with fail
    go_ret
    exact⟨rfl,rH.out⟩
 ·cases ok with
  | false=>
   go_wp2_with (first|rw[O4]|rw[hxb])
   refine(LP.out _).mono ?_;rintro e9 w9 ⟨rfl,ek⟩;have vT:Hid (Below w.heap.size w w9):=kH (qy.out.trans (ek.mono qy.out.size));clear ek;go_wp2_with fail
   go_ret
   exact⟨rfl,vT.out⟩
  | true=>
   by_cases h1:er=0
   ·subst h1
    by_cases h2:nw=0
    ·subst h2
     cases is with
     | false=>
      go_wp2_with (first|rw[O4]|rw[hxb])
      refine(LP.out _).mono ?_;rintro e9 w9 ⟨rfl,ek⟩;have vT:Hid (Below w.heap.size w w9):=kH (qy.out.trans (ek.mono qy.out.size));clear ek;go_wp2_with fail
      go_ret
      exact⟨rfl,vT.out⟩
     | true=>
      have hne:(ky !=20)=true:=by
       have:¬ky=20:=fun h=>hgo ⟨rfl,rfl,rfl,rfl,h⟩
       simpa using this
      go_wp2_with (first|rw[O4]|rw[hxb])
      refine(LP.out _).mono ?_;rintro e9 w9 ⟨rfl,ek⟩;have vT:Hid (Below w.heap.size w w9):=kH (qy.out.trans (ek.mono qy.out.size));clear ek;go_wp2_with fail
      go_ret
      exact⟨rfl,vT.out⟩
    ·have hpos:(0:Int)<(nw:Int):=by omega
     go_wp2_with (first|rw[O4]|rw[hxb])
     refine(LP.out _).mono ?_;rintro e9 w9 ⟨rfl,ek⟩;have vT:Hid (Below w.heap.size w w9):=kH (qy.out.trans (ek.mono qy.out.size));clear ek;go_wp2_with fail
     go_ret
     exact⟨rfl,vT.out⟩
   ·have hne:(er !=0)=true:=by simpa using h1
    go_wp2_with (first|rw[O4]|rw[hxb])
    refine(LP.out _).mono ?_;rintro e9 w9 ⟨rfl,ek⟩;have vT:Hid (Below w.heap.size w w9):=kH (qy.out.trans (ek.mono qy.out.size));clear ek;go_wp2_with fail
    go_ret
    exact⟨rfl,vT.out⟩
end Go.Proofs.YtoepemlnlpamlaaGreat
