/- The law NamesResolves holds where what it reads is of bulk at most 1048576: it returns true, and its argument reads as before. Part 6: Par3 Par4 Par5. -/
import Derived.Test.YtoepemlnlpamlaaGreatReso05
set_option maxRecDepth 100000
set_option maxHeartbeats 4000000
namespace Go.Proofs.YtoepemlnlpamlaaGreat
open Go.RowKit
theorem Dj:(Tryz.prog.info? 78).map (fun i=>(i.zero,i.size,i.bytes))=some (some (.agg #[.int .i64 0,.int .i64 0,.int .i64 0,.string ⟨#[]⟩,.slice none 0 0]),5,64):=by kernel_rfl
theorem jd(w:World)(g:Nat)(a b c d e:Value)(h0:w.cell? ⟨g,0,none⟩=some a)(h1:w.cell? ⟨g,1,none⟩=some b)(h2:w.cell? ⟨g,2,none⟩=some c)(h3:w.cell? ⟨g,3,none⟩=some d)(h4:w.cell? ⟨g,4,none⟩=some e):
 ∀j v,[a,b,c,d,e][j]? =some v->w.cell? ((⟨g,0,none⟩:Addr).add j)=some v:=by
 intro j v hj
 match j,hj with
 | 0,hj=>simp at hj;subst hj;exact h0
 | 1,hj=>simp at hj;subst hj;exact h1
 | 2,hj=>simp at hj;subst hj;exact h2
 | 3,hj=>simp at hj;subst hj;exact h3
 | 4,hj=>simp at hj;subst hj;exact h4
 | j+5,hj=>simp at hj
theorem sF(E:PE)(hE:E.Ok)(v:PV)(c:Int)(x:aZ)(w:World)(h:PW w E v):
 Calls Tryz.prog 69 #[.pointer (some ⟨E.gp,0,none⟩),.int .i64 c,.string (aX x)] w fun e w'=>(∃u,e= .returned u)/\∃v',v'.st=iE E.l v.st c x/\PW w' E v'/\PM E w v w' v':=by
 obtain⟨i0,hi0,hz0,hz1,hz2⟩:=info_parts Dj;have H:=kH h;obtain⟨b,off,-,hb,c0,c1,c2,-,c4,t0,t1,t2,t3⟩:=h.open hE;have hk:(v.st.k:Int)<E.n:=by have:=h.at_;omega
 have hk2:=h.at_;have hgl:=h.blk.lt;have hlen:=h.good.len (m:=4096) (by have:=hE.get v.st.k;have:=hE.size;omega);obtain⟨n,hn⟩:∃x,E.n=x:=⟨_,rfl⟩
 rw[hn]at c1 hk hk2;obtain⟨k,hkk⟩:∃x,v.st.k=x:=⟨_,rfl⟩
 rw[hkk]at c2 t0 t1 t2 t3 hk hk2;obtain⟨tk,htk⟩:∃x,iy E.l k=x:=⟨_,rfl⟩
 rw[htk]at t0 t1 t2 t3;obtain⟨A4,k4,hv4,-,-⟩:=h.own.shape;rw[hv4]at c4;obtain⟨nd,hnd⟩:∃x,v.st.ds.length=x:=⟨_,rfl⟩
 rw[hnd]at c4 hlen;have kF:∀w':World,Below w.heap.size w w'->w'.cell? ⟨E.gp,1,none⟩=some (.slice (some ⟨b,off,none⟩) n E.c)/\w'.cell? ⟨E.gp,2,none⟩=some (.int .i64 (k:Int))/\w'.cell? ⟨b,off+k*4,none⟩=some (.int .i64 (tk.kind:Int))/\w'.cell? ⟨b,off+k*4+1,none⟩=some (.int .i64 (tk.from_:Int))/\w'.cell? ⟨b,off+k*4+2,none⟩=some (.int .i64 (tk.at_:Int))/\w'.cell? ⟨b,off+k*4+3,none⟩=some (.int .i64 (tk.end_:Int)):=fun w' hb'=>⟨(hb'.cell (p:=⟨E.gp,_,none⟩) hgl).trans c1,(hb'.cell (p:=⟨E.gp,_,none⟩) hgl).trans c2,(hb'.cell (p:=⟨b,_,none⟩) hb).trans t0,(hb'.cell (p:=⟨b,_,none⟩) hb).trans t1,(hb'.cell (p:=⟨b,_,none⟩) hb).trans t2,(hb'.cell (p:=⟨b,_,none⟩) hb).trans t3⟩
 have dU:=kH kF;have hBd:Below w.heap.size w w.drew:=(Below.refl _ _).drew;have HKK:=kH hkk;have BS:=kH htk;have ja:=kH hv4;have lC:=kH hnd;clear kF hn hkk htk h hv4 hnd;go_enter Tryz.func69,Tryz.ntmps69
 go_wp2_with fail
 go_region_held3 (fun w'=>w'.cell? ⟨E.gp,1,none⟩=some (.slice (some ⟨b,off,none⟩) n E.c)/\w'.cell? ⟨E.gp,2,none⟩=some (.int .i64 (k:Int))/\w'.cell? ⟨b,off+k*4,none⟩=some (.int .i64 (tk.kind:Int))/\w'.cell? ⟨b,off+k*4+1,none⟩=some (.int .i64 (tk.from_:Int))/\w'.cell? ⟨b,off+k*4+2,none⟩=some (.int .i64 (tk.at_:Int))/\w'.cell? ⟨b,off+k*4+3,none⟩=some (.int .i64 (tk.end_:Int))) ((refine dU.out _ ?_;(repeat (first|exact Below.refl _ _|assumption|refine Below.trans ?_ (Below.mono (by assumption) (by first|omega|(simp;done)|(simp;omega)))|refine Below.alloc ?_ (by first|omega|(simp;done)|(simp;omega)) _|refine Below.setCell ?_ (by first|omega|(simp;done)|(simp;omega)) _|refine Below.drew ?_|refine aR ?_ _)))) (fail)
 generalize hW1:(w.alloc (.cells #[.int .i64 (tk.kind:Int),.int .i64 (tk.from_:Int),.int .i64 (tk.at_:Int),.int .i64 (tk.end_:Int)] 186)).drew=W1
 have hb1:Below w.heap.size w W1:=by rw[<- hW1];(repeat (first|exact Below.refl _ _|assumption|refine Below.trans ?_ (Below.mono (by assumption) (by first|omega|(simp;done)|(simp;omega)))|refine Below.alloc ?_ (by first|omega|(simp;done)|(simp;omega)) _|refine Below.setCell ?_ (by first|omega|(simp;done)|(simp;omega)) _|refine Below.drew ?_|refine aR ?_ _))
 have hT1:ai W1 w.heap.size 186 #[.int .i64 (tk.kind:Int),.int .i64 (tk.from_:Int),.int .i64 (tk.at_:Int),.int .i64 (tk.end_:Int)]:=by rw[<- hW1];exact(ai.new w _ _).drew
 have hs1:W1.heap.size=w.heap.size+1:=by rw[<- hW1];simp
 have H1:=kH (H.out.below hb1);have hx2:=hT1.cell 2;have hx3:=hT1.cell 3;have hgl1:E.gp<W1.heap.size:=by omega
 have hc4:W1.cell? ⟨E.gp,4,none⟩=some (.slice A4 nd k4):=(hb1.cell (p:=⟨E.gp,4,none⟩) hgl).trans c4;have o5:=kH hs1;clear hW1 dU hs1;obtain⟨fl,hfl⟩:∃fl,(match v.st.ds.getLast? with|some d=>decide (d.at_=(tk.at_:Int))|none=>false)=fl:=⟨_,rfl⟩
 have MF:=kH hfl;clear hfl;go_upto_region 2 with fail
 go_cut [38] (fun s38 wx=>s38= .bool fl/\Below W1.heap.size W1 wx)
 case first=>
  cases nd with
  | zero=>
   have hg1:decide ((0:Int)<((0:Nat):Int))=false:=by simp
   have hds:v.st.ds=[]:=List.length_eq_zero_iff.1 lC.out;have hf:=MF.out;rw[hds]at hf;have hf2:fl=false:=hf.symm;subst hf2;clear hds hf MF;go_wp2_with fail
   go_quiet (fail)
   go_wp2_with fail
   go_meet
   exact⟨rfl,by(repeat (first|exact Below.refl _ _|assumption|refine Below.trans ?_ (Below.mono (by assumption) (by first|omega|(simp;done)|(simp;omega)))|refine Below.alloc ?_ (by first|omega|(simp;done)|(simp;omega)) _|refine Below.setCell ?_ (by first|omega|(simp;done)|(simp;omega)) _|refine Below.drew ?_|refine aR ?_ _))⟩
  | succ m=>
   obtain⟨d,hd⟩:∃d,v.st.ds.getLast? =some d:=by
    cases hq:v.st.ds.getLast? with
    | none=>
     rw[List.getLast?_eq_none_iff]at hq;have:=lC.out;rw[hq]at this;simp at this
    | some d=>exact⟨d,rfl⟩
   have hdm:v.st.ds[m]? =some d:=by
    rw[List.getLast?_eq_getElem?,lC.out]at hd;simpa using hd
   have hr:=H1.out.own;rw[ja.out,lC.out]at hr;obtain⟨lb,loff,hA4,hlb,hlc⟩:=hr.rowAt (cells:=bC) (l:=v.st.ds) rfl rfl (by intro c _;rfl) lC.out m d hdm;subst hA4;have hy1:W1.cell? ⟨lb,loff+m*5+1,none⟩=some (.int .i64 d.at_):=hlc 1 _ rfl;have hm1:decide ((0:Int)<(m:Int)+1)=true:=decide_eq_true (by omega);have hf:=MF.out;rw[hd]at hf;have hf2:(d.at_==(tk.at_:Int))=fl:=by rw[<- hf,Bool.eq_iff_iff];simp
   have hmw:IntKind.i64.wrap ((m:Int)+1 - 1)=(m:Int):=by
    have:(m:Int)+1 - 1=(m:Int):=by omega
    rw[this];exact IntWalk.i64_in _ (by omega)
   clear hd hdm hr hlc hf MF;go_wp2_with fail
   go_quiet (fail)
   go_wp2_with fail
   go_meet
   exact⟨rfl,by(repeat (first|exact Below.refl _ _|assumption|refine Below.trans ?_ (Below.mono (by assumption) (by first|omega|(simp;done)|(simp;omega)))|refine Below.alloc ?_ (by first|omega|(simp;done)|(simp;omega)) _|refine Below.setCell ?_ (by first|omega|(simp;done)|(simp;omega)) _|refine Below.drew ?_|refine aR ?_ _))⟩
 case rest=>
  obtain⟨rfl,hbq⟩:=hcut;obtain⟨W2,rfl⟩:∃W2:World,W2=wc:=⟨_,rfl⟩
  have H2:=kH (H1.out.below hbq);have hz2q:=hbq.size;have p9:=hT1.below hbq hT1.lt;have hx2:=p9.cell 2;have hx3:=p9.cell 3;have hc4:W2.cell? ⟨E.gp,4,none⟩=some (.slice A4 nd k4):=H2.out.blk.cell 4 |>.trans (by rw[ja.out,lC.out];rfl)
  have hbw2:Below w.heap.size w W2:=hb1.trans (hbq.mono hb1.size);have CF:=kH hbw2;clear hb1 hbq hT1 hbw2;cases fl
  ·have hlv:=H2.out.own
   rw[ja.out,lC.out]at hlv;have HLV:=kH hlv;have hgs:=o5.out;have hgl2:E.gp<W2.heap.size:=by omega
   have hgw2:w.heap.size<W2.heap.size:=by omega
   have hne:(Value.slice A4 nd k4).ownBlock≠some E.gp:=HLV.out.bZ H2.out.blk (by decide);have hne2:(Value.slice A4 nd k4).ownBlock≠some w.heap.size:=HLV.out.bZ p9 (by decide);have hlo:=hE.low;have hfz:=H2.out.blk.frozen 4;have fC:=kH hne;have uU:=kH hne2;clear hlv hne hne2;go_wp2_with fail
   refine dY (fun w'=>w'.cell? ⟨E.gp,4,none⟩=some (.slice A4 nd k4)/\w'.cell? ⟨w.heap.size,2,none⟩=some (.int .i64 (tk.at_:Int))/\w'.cell? ⟨w.heap.size,3,none⟩=some (.int .i64 (tk.end_:Int))) [16] [true,true,true,true,true,true,true,true,true,true,true,true,false,false,false,false,false] (by kernel_rfl) (by kernel_rfl) rfl (by kernel_rfl) ?_;have hS0:W2.drew.cell? ⟨E.gp,4,none⟩=some (.slice A4 nd k4)/\W2.drew.cell? ⟨w.heap.size,2,none⟩=some (.int .i64 (tk.at_:Int))/\W2.drew.cell? ⟨w.heap.size,3,none⟩=some (.int .i64 (tk.end_:Int)):=⟨hc4,hx2,hx3⟩
   iterate 12(refine gP rfl hS0 (by intro w' hSw;obtain⟨hs1,hs2,hs3⟩:=hSw;go_simp;rfl) ?_;simp only[Act.put,sA,sZ,sC])
   refine gH (w':=W2.drew.alloc (.cells #[.int .i64 c,.int .i64 (tk.at_:Int),.int .i64 (tk.end_:Int),.string (aX x),.slice none 0 0] 78)) rfl (by go_simp;rfl) ?_ ?_
   ·exact fun _=>⟨by go_simp,by go_simp,by go_simp⟩
   simp only[Act.put,sA,sZ,sC];refine r9 rfl (iY _ (.tmp 43) (.tmp 51) _ rfl E.lo 78 i0 _ 5 64 Tryz.underlying31 hi0 hz0 hz1 hz2 rfl (.slice A4 nd k4) nd (v.st.ds.flatMap bC) rfl (HLV.out.drew.alloc _) ⟨W2.heap.size,0,none⟩ 1 1 (bC ⟨c,tk.at_,tk.end_,aX x⟩) rfl rfl (jd _ _ _ _ _ _ _ (by go_simp) (by go_simp) (by go_simp) (by go_simp) (by go_simp)) (by simp[bC,Value.oneCell']) (by simp only[maxLen];omega) (by omega) (by simp;omega) ?_);intro v3 w3 hown3 hgrow3 uR;obtain⟨A3,c3,hv3,-,-⟩:=hown3.shape;subst hv3;have hz3:=hgrow3.size;simp at hz3
   have q1:w3.cell? ⟨E.gp,4,none⟩=some (.slice A4 nd k4):=by
    rw[hgrow3.cell_far _ (by simp;omega) (fun e1=>fC.out e1.symm)];go_simp
   have q2:w3.cell? ⟨w.heap.size,2,none⟩=some (.int .i64 (tk.at_:Int)):=by
    rw[hgrow3.cell_far _ (by simp;omega) (fun e1=>uU.out e1.symm)];go_simp
   have q3:w3.cell? ⟨w.heap.size,3,none⟩=some (.int .i64 (tk.end_:Int)):=by
    rw[hgrow3.cell_far _ (by simp;omega) (fun e1=>uU.out e1.symm)];go_simp
   have hB3:=ai.grown (ai.alloc (ai.drew H2.out.blk) (.cells #[.int .i64 c,.int .i64 (tk.at_:Int),.int .i64 (tk.end_:Int),.string (aX x),.slice none 0 0] 78)) hgrow3 (fun e1=>fC.out e1.symm);have q4:=hB3.frozen 4;have HB3:=kH hB3;clear hB3;refine⟨fun _=>⟨q1,q2,q3⟩,?_⟩;iterate 2(simp only[Act.put,sA,sZ,sC];refine gH (w':=w3) rfl (by go_simp;rfl) (fun _=>⟨q1,q2,q3⟩) ?_)
   simp only[Act.put,sA,sZ,sC];refine gZ (w':=w3.setCell ⟨E.gp,4,none⟩ (.slice A3 (nd+1) c3)) rfl (by go_simp) (by simp) ?_;refine iT ?_;simp only[Act.put]
   have hrep:iE E.l v.st c x=⟨v.st.k,v.st.last,v.st.ds++[⟨c,tk.at_,tk.end_,aX x⟩]⟩:=by
    unfold iE;rw[HKK.out,BS.out];split
    ·rename_i d hd
     have hf:=MF.out;rw[hd]at hf;rw[if_neg (of_decide_eq_false hf)]
    ·rfl
   have M8:=kH hrep;have Mt:=kH hown3;have ME:=kH hgrow3;have HAT3:=kH uR;clear hrep hown3 hgrow3 uR;go_wp2_with fail
   go_end0
   have hwz:=CF.out.size;refine⟨⟨_,rfl⟩,⟨iE E.l v.st c x,.slice A3 (nd+1) c3⟩,rfl,⟨?_,?_,?_,?_,H2.out.good.rep c x,?_⟩,?_,?_⟩
   ·have:=HB3.out.fM 4 (.slice A3 (nd+1) c3)
    rw[M8.out];simpa using this
   ·have D6:(Value.slice A3 (nd+1) c3).ownBlock≠some E.gp:=Mt.out.bZ HB3.out (by decide)
    have:=Mt.out.setCell D6 (p:=⟨E.gp,4,none⟩) (.slice A3 (nd+1) c3);rw[M8.out];simp only[abP,List.flatMap_append,lC.out];simpa using this
   ·have htk:=H2.out.toks
    have hnt:(Value.slice E.A E.n E.c).ownBlock≠some E.gp:=htk.bZ H2.out.blk (by decide);refine(((htk.drew).alloc _).kept ME.out ?_).setCell hnt _
    cases IB:(Value.slice E.A E.n E.c).ownBlock with
    | none=>exact .inl rfl
    | some g=>exact .inr (fun e1=>htk.apart HLV.out (by decide) g IB e1.symm)
   ·rw[M8.out];exact H2.out.at_
   ·rw[M8.out];exact H2.out.last
   ·exact((((aF.refl (fun g=>g=E.gp\/v.lv.ownBlock=some g) w).below CF.out).drew.alloc _).grown ME.out (fun g hg=>.inl (.inr (by rw[ja.out,lC.out];exact hg)))).setCell (.inl (.inl rfl)) _
   ·rcases HAT3.out with h1|h1
    ·exact .inl (by rw[ja.out,lC.out];exact h1)
    ·refine .inr fun g hg=>?_
     have hg2:(Value.slice A3 (nd+1) c3).ownBlock=some g:=hg;rw[h1]at hg2;simp at hg2;omega
  ·have hrep:iE E.l v.st c x=v.st:=by
    unfold iE;split
    ·rename_i d hd
     have hf:=MF.out;rw[hd]at hf;rw[if_pos];rw[HKK.out,BS.out];simpa using hf
    ·rename_i hd
     have hf:=MF.out;rw[hd]at hf;cases hf
   have M8:=kH hrep;clear hrep;go_wp2_with fail
   refine bodyPost_ret (results_none rfl _ _ _) rfl ?_;exact⟨⟨_,rfl⟩,v,M8.out.symm,H2.out,PM.of_below CF.out⟩
def zq(E:PE)(w:World)(v:PV)(st:PS)(w':World):Prop:=∃v',v'.st=st/\PW w' E v'/\PM E w v w' v'
theorem fV(E:PE)(hE:E.Ok)(v:PV)(x:aZ)(w:World)(hpw:PW w E v):
 Calls Tryz.prog 128 #[.pointer (some ⟨E.gp,0,none⟩),.string (aX x)] w fun e w'=>e= .returned (.bool (bE E.bs E.l v.st x))/\zq E w v (bI E.bs E.l v.st x) w':=by
 have his:=yI E hE v x w hpw;unfold bI;obtain⟨b,hb⟩:∃b,bE E.bs E.l v.st x=b:=⟨_,rfl⟩
 rw[hb]at his⊢;have HIS:=kH his;have HB:=kH hb;clear his hb;cases b
 ·go_enter Tryz.func128,Tryz.ntmps128
  go_wp2_with fail
  refine HIS.out.mono ?_;rintro e w1 ⟨rfl,hb1⟩;go_wp2_with fail
  go_ret
  exact⟨rfl,v,rfl,hpw.below hb1,PM.of_below hb1⟩
 ·go_enter Tryz.func128,Tryz.ntmps128
  go_wp2_with fail
  refine HIS.out.mono ?_;rintro e w1 ⟨rfl,hb1⟩;go_wp2_with fail
  refine(qJ E hE v w1 (hpw.below hb1) (eU HB.out)).mono ?_;rintro e w2 ⟨rfl,h2,hm2⟩;go_wp2_with fail
  go_ret
  exact⟨rfl,_,rfl,h2,(PM.of_below hb1).trans hm2⟩
theorem j6(E:PE)(hE:E.Ok)(v:PV)(x:aZ)(w:World)(hpw:PW w E v):
 Calls Tryz.prog 126 #[.pointer (some ⟨E.gp,0,none⟩),.string (aX x)] w fun e w'=>e= .returned (.bool (bE E.bs E.l v.st x))/\zq E w v (aI E.bs E.l v.st x) w':=by
 have hac:=fV E hE v x w hpw;unfold bI at hac;unfold aI;obtain⟨b,hb⟩:∃b,bE E.bs E.l v.st x=b:=⟨_,rfl⟩
 rw[hb]at hac⊢;have Dw:=kH hac;clear hac hb;cases b
 ·go_enter Tryz.func126,Tryz.ntmps126
  go_wp2_with fail
  refine Dw.out.mono ?_;rintro e w1 ⟨rfl,v1,hv1,h1,hm1⟩;have hst:v1.st=v.st:=by simpa using hv1
  have HST:=kH hst;clear hv1 hst;go_wp2_with fail
  refine(sF E hE v1 4 x w1 h1).mono ?_;rintro e w2 ⟨⟨u,rfl⟩,v2,hv2,h2,hm2⟩;have gF:=kH hv2;clear hv2;go_wp2_with fail
  go_ret
  exact⟨rfl,v2,by rw[gF.out,HST.out],h2,hm1.trans hm2⟩
 ·go_enter Tryz.func126,Tryz.ntmps126
  go_wp2_with fail
  refine Dw.out.mono ?_;rintro e w1 ⟨rfl,v1,hv1,h1,hm1⟩;have HST:=kH hv1;clear hv1;go_wp2_with fail
  go_ret
  exact⟨rfl,v1,HST.out,h1,hm1⟩
theorem tV(E:PE)(hE:E.Ok)(v:PV)(w:World)(hpw:PW w E v):
 Calls Tryz.prog 125 #[.pointer (some ⟨E.gp,0,none⟩)] w fun e w'=>e= .returned (.string (aX (cK E.bs E.l v.st)))/\zq E w v (dI E.l v.st) w':=by
 have hkd:=pI E hE v w hpw;unfold cK dI;obtain⟨k,hk⟩:∃x,bM E.l v.st=x:=⟨_,rfl⟩
 rw[hk]at hkd⊢;have qG:=kH hkd;have HK:=kH hk;clear hkd hk;by_cases h0:k=0
 ·subst h0
  go_enter Tryz.func125,Tryz.ntmps125
  go_wp2_with fail
  refine qG.out.mono ?_;rintro e w1 ⟨rfl,hb1⟩;go_wp2_with fail
  refine(qJ E hE v w1 (hpw.below hb1) (by rw[HK.out];decide)).mono ?_;rintro e w2 ⟨rfl,h2,hm2⟩;go_wp2_with fail
  go_ret
  exact⟨rfl,_,rfl,h2,(PM.of_below hb1).trans hm2⟩
 ·have hki:((k:Int)==0)=false:=by simp;omega
  have hkn:(k==0)=false:=by simp[h0]
  rw[if_neg h0,if_neg h0];clear h0;go_enter Tryz.func125,Tryz.ntmps125
  go_wp2_with fail
  refine qG.out.mono ?_;rintro e w1 ⟨rfl,hb1⟩;go_wp2_with fail
  refine(sF E hE v 4 [110,97,109,101] w1 (hpw.below hb1)).mono ?_;rintro e w2 ⟨⟨u,rfl⟩,v2,hv2,h2,hm2⟩;have gF:=kH hv2;clear hv2;go_wp2_with fail
  go_ret
  exact⟨rfl,v2,gF.out,h2,(PM.of_below hb1).trans hm2⟩
theorem bV.first{w:World}{lo:Nat}{A:Option Addr}{n c:Nat}{t:ae}{ts:List ae}(h:bV w lo (.slice A n c) n (t::ts)):∃b off,A=some ⟨b,off,none⟩/\b<w.heap.size/\w.cell? ⟨b,off+2,none⟩=some (.int .i64 t.at_):=by
 obtain⟨vals,h1,h2,h3⟩:=h;obtain⟨v,vs,rfl,hv,-⟩:=h2;have hn:0<n:=by rw[<- h3];simp
 obtain⟨g,off,cap,hs,-,-,-,hlt,hc⟩:=h1.form hn;cases hs
 refine⟨g,off,rfl,hlt,?_⟩
 cases t with
 | node k x a e kids=>
  obtain⟨A',c',vals',rfl,-⟩:=hv;exact hc 2 _ rfl
theorem JE(E:PE)(hE:E.Ok)(v:PV)(w:World)(hpw:PW w E v)(first:Nat)(kind:Int)(t:aZ)(lo:Nat)(A:Option Addr)(n c:Nat)(ts:List ae)(hk:bV w lo (.slice A n c) n ts):
 Calls Tryz.prog 71 #[.pointer (some ⟨E.gp,0,none⟩),.int .i64 (first:Int),.int .i64 kind,.string (aX t),.slice A n c] w fun e w'=>e= .returned (.agg #[.int .i64 kind,.string (aX t),.int .i64 (bO E.l v.st first ts),.int .i64 (v.st.last:Int),.slice A n c])/\Below w.heap.size w w':=by
 obtain⟨b,off,hEA,hb,-,c1,c2,c3,-,-,-,-,-⟩:=hpw.open hE;have hgl:=hpw.blk.lt;obtain⟨a1,ha1⟩:∃x:Int,(if first<v.st.k then((iy E.l first).at_:Int) else(v.st.last:Int))=x:=⟨_,rfl⟩
 obtain⟨a2,ha2⟩:∃x,bO E.l v.st first ts=x:=⟨_,rfl⟩
 have kF:∀w':World,Below w.heap.size w w'->w'.cell? ⟨E.gp,1,none⟩=some (.slice (some ⟨b,off,none⟩) E.n E.c)/\w'.cell? ⟨E.gp,2,none⟩=some (.int .i64 (v.st.k:Int))/\w'.cell? ⟨E.gp,3,none⟩=some (.int .i64 (v.st.last:Int)):=fun w' hb'=>⟨(hb'.cell (p:=⟨E.gp,_,none⟩) hgl).trans c1,(hb'.cell (p:=⟨E.gp,_,none⟩) hgl).trans c2,(hb'.cell (p:=⟨E.gp,_,none⟩) hgl).trans c3⟩
 have dU:=kH kF;have HA1:=kH ha1;have HA2:=kH ha2;have HK:=kH hk;rw[ha2];clear kF ha1 ha2 hk;go_enter Tryz.func71,Tryz.ntmps71
 go_wp2_with fail
 generalize hW1:w.alloc (.cells #[.int .i64 0,.string ⟨#[]⟩,.int .i64 0,.int .i64 0,.slice none 0 0] 24)=W1
 have hb1:Below w.heap.size w W1:=by rw[<- hW1];(repeat (first|exact Below.refl _ _|assumption|refine Below.trans ?_ (Below.mono (by assumption) (by first|omega|(simp;done)|(simp;omega)))|refine Below.alloc ?_ (by first|omega|(simp;done)|(simp;omega)) _|refine Below.setCell ?_ (by first|omega|(simp;done)|(simp;omega)) _|refine Below.drew ?_|refine aR ?_ _))
 have hT1:ai W1 w.heap.size 24 #[.int .i64 0,.string ⟨#[]⟩,.int .i64 0,.int .i64 0,.slice none 0 0]:=by rw[<- hW1];exact ai.new w _ _
 have hs1:W1.heap.size=w.heap.size+1:=by rw[<- hW1];simp
 have hBd:Below w.heap.size w W1.drew:=hb1.drew;clear hW1;go_region_held3 (fun w'=>w'.cell? ⟨E.gp,1,none⟩=some (.slice (some ⟨b,off,none⟩) E.n E.c)/\w'.cell? ⟨E.gp,2,none⟩=some (.int .i64 (v.st.k:Int))/\w'.cell? ⟨E.gp,3,none⟩=some (.int .i64 (v.st.last:Int))) ((refine dU.out _ ?_;(repeat (first|exact Below.refl _ _|assumption|refine Below.trans ?_ (Below.mono (by assumption) (by first|omega|(simp;done)|(simp;omega)))|refine Below.alloc ?_ (by first|omega|(simp;done)|(simp;omega)) _|refine Below.setCell ?_ (by first|omega|(simp;done)|(simp;omega)) _|refine Below.drew ?_|refine aR ?_ _)))) (fail)
 generalize hW2:(W1.alloc (.cells #[.int .i64 kind,.string (aX t),.int .i64 (v.st.last:Int),.int .i64 (v.st.last:Int),.slice A n c] 24)).drew=W2
 have hb2:Below W1.heap.size W1 W2:=by rw[<- hW2];(repeat (first|exact Below.refl _ _|assumption|refine Below.trans ?_ (Below.mono (by assumption) (by first|omega|(simp;done)|(simp;omega)))|refine Below.alloc ?_ (by first|omega|(simp;done)|(simp;omega)) _|refine Below.setCell ?_ (by first|omega|(simp;done)|(simp;omega)) _|refine Below.drew ?_|refine aR ?_ _))
 have vV:ai W2 W1.heap.size 24 #[.int .i64 kind,.string (aX t),.int .i64 (v.st.last:Int),.int .i64 (v.st.last:Int),.slice A n c]:=by rw[<- hW2];exact(ai.new W1 _ _).drew
 have hR2:ai W2 w.heap.size 24 #[.int .i64 0,.string ⟨#[]⟩,.int .i64 0,.int .i64 0,.slice none 0 0]:=hT1.below hb2 hT1.lt;have hbw2:Below w.heap.size w W2:=hb1.trans (hb2.mono (by omega));rw[hs1]at vV;have hs2:=vV.lt;have hp2:=hpw.below hbw2;have H2:=kH hp2;have d1:=(hbw2.cell (p:=⟨E.gp,1,none⟩) hgl).trans c1;have d2:=(hbw2.cell (p:=⟨E.gp,2,none⟩) hgl).trans c2;have n2:=vV.cell 2;have f2:=vV.frozen 2;have EW:=kH vV;have HR2:=kH hR2;have CF:=kH hbw2;have hk2:=hpw.at_;clear hW2 vV hR2 hbw2 hb2 hs1 dU hT1 hb1 hBd c1 c2 c3 hpw hp2;obtain⟨lk,hlk⟩:∃lk,v.st.k=lk:=⟨_,rfl⟩
 obtain⟨la,hla⟩:∃la,v.st.last=la:=⟨_,rfl⟩
 rw[hlk]at d2 hk2;have Dr:=kH hlk;have UD:=kH hla;go_upto_if 29 with fail
 clear hlk hla;go_cut [] (fun wx=>ai wx (w.heap.size+1) 24 #[.int .i64 kind,.string (aX t),.int .i64 a1,.int .i64 (la:Int),.slice A n c]/\aF (fun g=>g=w.heap.size+1) W2 wx)
 case first=>
  by_cases hlt:first<lk
  ·have hlti:(first:Int)<(lk:Int):=by omega
   have hfn:(first:Int)<E.n:=by omega
   obtain⟨b',off',hA',hb',-,-,t2,-⟩:=H2.out.tok hE (k:=first) (by omega);rw[hEA]at hA';cases hA'
   have hat:((iy E.l first).at_:Int)=a1:=by rw[<- HA1.out,if_pos (by rw[Dr.out];exact hlt)]
   rw[hat]at t2;have NV:((w.heap.size+1==E.gp)=false):=by simp;omega
   clear hat;go_wp2_with fail
   go_meet
   exact⟨by have:=EW.out.fM 2 (.int .i64 a1);simpa [UD.out] using this,(aF.refl (fun g=>g=w.heap.size+1) W2).setCell (.inl rfl) _⟩
  ·have hlti:¬(first:Int)<(lk:Int):=by omega
   have hat:(la:Int)=a1:=by rw[<- HA1.out,if_neg (by rw[Dr.out];exact hlt),UD.out]
   have HAT:=kH hat;clear hat;go_wp2_with fail
   go_meet
   exact⟨by have:=EW.out;rw[UD.out]at this;rw[<- HAT.out];exact this,aF.refl _ _⟩
 case rest=>
  obtain⟨ui,tL⟩:=hcut;have hb3:Below w.heap.size w wc:=CF.out.trans (tL.toBelow (by omega) (by intro g hg;omega));have hs3:=tL.size;have hK3:=HK.out.keeps (bW.of_below hb3);have bT:=HR2.out.since tL (by omega);have HR3:=kH bT;have jH:=kH ui;have HB3:=kH hb3;have n0:=ui.cell 0;have n1:=ui.cell 1;have n2:=ui.cell 2;have n3:=ui.cell 3;have n4:=ui.cell 4;have f2:=ui.frozen 2;have r0:=bT.cell 0;have r1:=bT.cell 1;have r2:=bT.cell 2;have r3:=bT.cell 3;have r4:=bT.cell 4;have g0:=bT.frozen 0;have g1:=bT.frozen 1;have g2:=bT.frozen 2;have g3:=bT.frozen 3;have g4:=bT.frozen 4;obtain⟨wz,rfl⟩:∃wz:World,wz=wc:=⟨_,rfl⟩
  clear tL hb3 bT ui
  cases ts with
  | nil=>
   have hn0:n=0:=by
    obtain⟨_,_,_,h3⟩:=hK3;exact h3.symm
   subst hn0
   have Rj:a1=a2:=by
    rw[<- HA2.out,<- HA1.out];rfl
   have HA:=kH Rj;have hg1:decide ((0:Int)<((0:Nat):Int))=false:=by simp
   clear Rj hK3;go_wp2_with fail
   go_quiet (fail)
   go_wp2_with fail
   have ha:=HA.out;subst ha;rw[UD.out];refine bodyPost_ret (v:=.agg #[.int .i64 kind,.string (aX t),.int .i64 a1,.int .i64 (la:Int),.slice A 0 c]) (by simp[results,Tryz.results71,go_sem, *]) rfl ⟨rfl,(((((aR HB3.out _).setCell (abE _) _).setCell (abE _) _).setCell (abE _) _).setCell (abE _) _).setCell (abE _) _⟩
  | cons t0 ts=>
   obtain⟨kb,koff,rfl,hkb,hka⟩:=hK3.first
   have hn0:0<n:=by
    obtain⟨_,_,_,h3⟩:=hK3;rw[<- h3];simp
   have hg1:decide ((0:Int)<(n:Int))=true:=decide_eq_true (by omega);have hn0i:(0:Int)<(n:Int):=by omega
   have Rj:(if t0.at_<a1 then t0.at_ else a1)=a2:=by
    rw[<- HA2.out,<- HA1.out];rfl
   have HA:=kH Rj;clear Rj hK3;by_cases hlt:t0.at_<a1
   ·have hlb:decide (t0.at_<a1)=true:=decide_eq_true hlt
    go_wp2_with fail
    go_quiet (fail)
    go_wp2_with fail
    have ha:=HA.out;rw[if_pos hlt]at ha;subst ha;rw[UD.out];refine bodyPost_ret (v:=.agg #[.int .i64 kind,.string (aX t),.int .i64 t0.at_,.int .i64 (la:Int),.slice (some ⟨kb,koff,none⟩) n c]) (by simp[results,Tryz.results71,go_sem, *]) rfl ⟨rfl,((((((aR HB3.out _).setCell (p:=⟨w.heap.size+1,2,none⟩) (Nat.le_succ _) _).setCell (abE _) _).setCell (abE _) _).setCell (abE _) _).setCell (abE _) _).setCell (abE _) _⟩
   ·have hlb:decide (t0.at_<a1)=false:=decide_eq_false hlt
    go_wp2_with fail
    go_quiet (fail)
    go_wp2_with fail
    have ha:=HA.out;rw[if_neg (by omega)]at ha;subst ha;rw[UD.out];refine bodyPost_ret (v:=.agg #[.int .i64 kind,.string (aX t),.int .i64 a1,.int .i64 (la:Int),.slice (some ⟨kb,koff,none⟩) n c]) (by simp[results,Tryz.results71,go_sem, *]) rfl ⟨rfl,(((((aR HB3.out _).setCell (abE _) _).setCell (abE _) _).setCell (abE _) _).setCell (abE _) _).setCell (abE _) _⟩
def bB(E:PE)(w:World)(v:PV)(r:ae×PS)(e:Ending)(w':World):Prop:=
 ∃k t a z A n c,e= .returned (.agg #[.int .i64 k,.string t,.int .i64 a,.int .i64 z,.slice A n c])/\aB w' (fun g=>w.heap.size<=g) r.1 [.int .i64 k,.string t,.int .i64 a,.int .i64 z,.slice A n c]/\zq E w v r.2 w'
theorem PM.blk{E:PE}{w w':World}{v v':PV}(hm:PM E w v w' v')(h:PW w E v){g:Nat}{cs:Array Value}(hb:ai w g 24 cs):ai w' g 24 cs:=
 hb.keep (hm.dR (P:=fun _=>True) h g cs trivial hb)
theorem ai.five{w:World}{g:Nat}{ty:TypeId}{a b c d e:Value}(h:ai w g ty #[a,b,c,d,e]):
 (w.cell? ⟨g,0,none⟩=some a/\w.cell? ⟨g,1,none⟩=some b/\w.cell? ⟨g,2,none⟩=some c/\w.cell? ⟨g,3,none⟩=some d/\w.cell? ⟨g,4,none⟩=some e) /\
 (w.frozen? ⟨g,0,none⟩=false/\w.frozen? ⟨g,1,none⟩=false/\w.frozen? ⟨g,2,none⟩=false/\w.frozen? ⟨g,3,none⟩=false/\w.frozen? ⟨g,4,none⟩=false):=
 ⟨⟨h.cell 0,h.cell 1,h.cell 2,h.cell 3,h.cell 4⟩,h.frozen 0,h.frozen 1,h.frozen 2,h.frozen 3,h.frozen 4⟩
def ek(w:World)(g:Nat)(a b c d e:Value):World:=((((w.setCell ⟨g,0,none⟩ a).setCell ⟨g,1,none⟩ b).setCell ⟨g,2,none⟩ c).setCell ⟨g,3,none⟩ d).setCell ⟨g,4,none⟩ e
theorem bJ{E:PE}{w wz:World}{v v':PV}{t:ae}{st:PS}{k a z:Int}{x:ByteArray}{A:Option Addr}{n c:Nat}{cs:Array Value}(hz:PW wz E v')(hm:PM E w v wz v')(hst:v'.st=st)(hR:ai wz w.heap.size 24 cs)(hgl:E.gp<w.heap.size)
 (hT:aB wz (fun g=>w.heap.size+1<=g) t [.int .i64 k,.string x,.int .i64 a,.int .i64 z,.slice A n c]):
 bB E w v (t,st) (.returned (.agg #[.int .i64 k,.string x,.int .i64 a,.int .i64 z,.slice A n c])) (ek wz w.heap.size (.int .i64 k) (.string x) (.int .i64 a) (.int .i64 z) (.slice A n c)):=by
 have hs:aF (fun g=>g=w.heap.size) wz (ek wz w.heap.size (.int .i64 k) (.string x) (.int .i64 a) (.int .i64 z) (.slice A n c)):=by
  unfold ek;exact(((((aF.refl (fun g=>g=w.heap.size) wz).setCell (.inl rfl) _).setCell (.inl rfl) _).setCell (.inl rfl) _).setCell (.inl rfl) _).setCell (.inl rfl) _
 have hk:bW (fun g=>w.heap.size+1<=g) wz (ek wz w.heap.size (.int .i64 k) (.string x) (.int .i64 a) (.int .i64 z) (.slice A n c)):=fun g _ hP hc=>hs.block g (abH.1 hc).1 (by omega)
 refine⟨k,x,a,z,A,n,c,rfl,aB.weak (fun g _ hg=>by omega) _ _ (aB.keeps hk _ _ hT),v',hst,⟨hz.blk.since hs (by omega),hz.own.since hs (fun g hg e1=>hz.own.bZ hR (by decide) (by rw[hg,e1])),hz.toks.since hs (fun g hg e1=>hz.toks.bZ hR (by decide) (by rw[hg,e1])),hz.at_,hz.good,hz.last⟩,hm.since.step hs (fun g hg=>.inr (by omega)),hm.fresh⟩
theorem iG(E:PE)(hE:E.Ok)(v:PV)(w:World)(hpw:PW w E v)(first:Nat)(kind:Int)(t:aZ)(lo:Nat):
 Calls Tryz.prog 71 #[.pointer (some ⟨E.gp,0,none⟩),.int .i64 (first:Int),.int .i64 kind,.string (aX t),.slice none 0 0] w fun e w'=>e= .returned (.agg #[.int .i64 kind,.string (aX t),.int .i64 (bO E.l v.st first []),.int .i64 (v.st.last:Int),.slice none 0 0])/\Below w.heap.size w w'/\aB w' (fun g=>lo<=g) (aH E.l v.st first kind t []) [.int .i64 kind,.string (aX t),.int .i64 (bO E.l v.st first []),.int .i64 (v.st.last:Int),.slice none 0 0]:=by
 refine(JE E hE v w hpw first kind t lo none 0 0 [] (bV.nil w lo)).mono ?_;rintro e w' ⟨rfl,hb⟩;exact⟨rfl,hb,(bV.nil w' lo).node _ _ _ _⟩
theorem Nh{E:PE}(hE:E.Ok)(k:Nat):(aX (bK E.bs E.l k)).size<=4096:=by
 have h1:(aX (bK E.bs E.l k)).size=(bK E.bs E.l k).length:=by simp[aX,ByteArray.size]
 have h2:=hE.size;have h3:E.bs.length=E.s.size:=by unfold PE.bs;simp
 rw[h1];unfold bK Bq tQ;simp only[List.length_take,List.length_drop];omega
theorem typ_any(E:PE)(hE:E.Ok)(v:PV)(w:World)(hpw:PW w E v):Calls Tryz.prog 182 #[.pointer (some ⟨E.gp,0,none⟩)] w (bB E w v (tO E.bs E.l v.st)):=by
 have hgl:=hpw.blk.lt;have hk2:w.cell? ⟨E.gp,2,none⟩=some (.int .i64 (v.st.k:Int)):=hpw.blk.cell 2;go_enter Tryz.func182,Tryz.ntmps182
 go_wp2_with fail
 generalize hW1:w.alloc (.cells #[.int .i64 0,.string ⟨#[]⟩,.int .i64 0,.int .i64 0,.slice none 0 0] 24)=W1
 have hb1:Below w.heap.size w W1:=by rw[<- hW1];exact ag _ _
 have gJ:ai W1 w.heap.size 24 #[.int .i64 0,.string ⟨#[]⟩,.int .i64 0,.int .i64 0,.slice none 0 0]:=by rw[<- hW1];exact ai.new w _ _
 have hs1:W1.heap.size=w.heap.size+1:=by rw[<- hW1];simp
 have hm1:=PM.of_below (E:=E) (v:=v) hb1;have h1:=hpw.below hb1;have P1:=hm1;have o5:=kH hs1;have jv:=kH hm1;clear hW1 hs1 hm1 hb1;by_cases BL:bE E.bs E.l v.st [98,111,111,108]=true
 ·have aM:Hid (tO E.bs E.l v.st=(aH E.l (ay E.l v.st) v.st.k 9 [98,111,111,108] [],ay E.l v.st)):=kH (by unfold tO;rw[if_pos BL])
  have Dw:Hid (bI E.bs E.l v.st [98,111,111,108]=ay E.l v.st):=kH (by unfold bI;rw[if_pos BL]);have MG:=kH BL;clear BL;refine(fV E hE v [98,111,111,108] _ h1).mono ?_;rintro e w2 ⟨rfl,v2,hv2,h2,hm2⟩;rw[MG.out];have gF:=kH hv2;have hR2:=hm2.blk h1 gJ;have P2:=P1.trans hm2;clear hv2 hm2;rw[Dw.out]at gF;go_wp2_with fail
  refine(iG E hE v2 _ h2 v.st.k 9 [98,111,111,108] (w.heap.size+1)).mono ?_;rintro e w3 ⟨rfl,hb3,jX⟩;have h3:=h2.below hb3;have bT:=hR2.below hb3 hR2.lt;obtain⟨⟨r0,r1,r2,r3,r4⟩,g0,g1,g2,g3,g4⟩:=bT.five;go_wp2_with fail
  have aO:=kH (bJ (v:=v) h3 (P2.trans (PM.of_below hb3)) rfl bT hgl jX);clear jX;refine bodyPost_ret (v:=.agg #[.int .i64 9,.string (aX [98,111,111,108]),.int .i64 (bO E.l v2.st v.st.k []),.int .i64 (v2.st.last:Int),.slice none 0 0]) (by simp[results,Tryz.results182,go_sem,r0,r1,r2,r3,r4]) rfl ?_;exact Eq.mp (congrArg (fun r=>bB E w v r _ _) (show(aH E.l v2.st v.st.k 9 [98,111,111,108] [],v2.st)=_ by rw[gF.out,aM.out])) aO.out
 have hb0:bE E.bs E.l v.st [98,111,111,108]=false:=by simpa using BL
 have Dw:Hid (bI E.bs E.l v.st [98,111,111,108]=v.st):=kH (by unfold bI;rw[if_neg BL]);have MG:=kH hb0;have lD:=kH BL;clear BL hb0;refine(fV E hE v [98,111,111,108] _ h1).mono ?_;rintro e w2 ⟨rfl,v2,hv2,h2,hm2⟩;rw[MG.out];have gF:=kH hv2;have hR2:=hm2.blk h1 gJ;have P2:=P1.trans hm2;clear hv2 hm2;rw[Dw.out]at gF;go_wp2_with fail
 by_cases hint:bE E.bs E.l v.st [105,110,116]=true
 ·have rH:Hid (bE E.bs E.l v2.st [105,110,116]=true):=kH (by rw[gF.out];exact hint)
  have HAI:Hid (bI E.bs E.l v2.st [105,110,116]=ay E.l v.st):=kH (by rw[gF.out];unfold bI;rw[if_pos hint]);refine(fV E hE v2 [105,110,116] _ h2).mono ?_;rintro e w3 ⟨rfl,v3,hv3,h3,eu⟩;rw[rH.out];have fI:=kH hv3;have bT:=eu.blk h2 hR2;have P3:=P2.trans eu;clear hv3 eu;rw[HAI.out]at fI;have Ez:=kH hint;clear hint;go_wp2_with fail
  by_cases hbr:bE E.bs E.l (ay E.l v.st) [91]=true
  ·have nT:Hid (bE E.bs E.l v3.st [91]=true):=kH (by rw[fI.out];exact hbr)
   have EZ:Hid (bI E.bs E.l v3.st [91]=ay E.l (ay E.l v.st)):=kH (by rw[fI.out];unfold bI;rw[if_pos hbr]);refine(fV E hE v3 [91] _ h3).mono ?_;rintro e w4 ⟨rfl,v4,hv4,h4,iB⟩;rw[nT.out];have ja:=kH hv4;have dX:=iB.blk h3 bT;have P4:=P3.trans iB;clear hv4 iB;rw[EZ.out]at ja;have Xp:=kH hbr;clear hbr;go_wp2_with fail
   have hkd:=pI E hE v4 _ h4;rw[ja.out]at hkd;obtain⟨k,hk⟩:∃x,bM E.l (ay E.l (ay E.l v.st))=x:=⟨_,rfl⟩
   rw[hk]at hkd;have HK:=kH hk;have qG:=kH hkd;clear hk hkd;by_cases WA:k=2
   ·subst WA
    refine qG.out.mono ?_;rintro e w5 ⟨rfl,hb5⟩;have h5:=h4.below hb5;have fw:=dX.below hb5 dX.lt;have P5:=P4.trans (PM.of_below hb5);go_wp2_with fail
    refine(qJ E hE v4 _ h5 (by rw[ja.out,HK.out];decide)).mono ?_;rintro e w6 ⟨rfl,h6,gQ⟩;have gD:=gQ.blk h5 fw;have P6:=P5.trans gQ;obtain⟨v6,hv6⟩:∃v6:PV,(⟨ay E.l v4.st,v4.lv⟩:PV)=v6:=⟨_,rfl⟩
    rw[hv6]at h6 P6;have ll:Hid (v6.st=ay E.l (ay E.l (ay E.l v.st))):=kH (by rw[<- hv6,ja.out]);clear hv6 gQ;go_wp2_with fail
    refine(L6 (aX (bK E.bs E.l v4.st.k)) _ (Nh hE _)).mono ?_;rintro e w7 ⟨rfl,rfl⟩;have hdt:aX (gB (aX (bK E.bs E.l v4.st.k)).data.toList)=aX (gB (bK E.bs E.l (ay E.l (ay E.l v.st)).k)):=by rw[ja.out];rfl
    rw[hdt];clear hdt;go_wp2_with fail
    refine(j6 E hE v6 [93] _ h6).mono ?_;rintro e w8 ⟨rfl,v8,dV,h8,dS⟩;have gL:=kH dV;have eB:=dS.blk h6 gD;have P8:=P6.trans dS;clear dV dS;rw[ll.out]at gL;go_wp2_with fail
    have aM:Hid (tO E.bs E.l v.st=(aH E.l (aI E.bs E.l (ay E.l (ay E.l (ay E.l v.st))) [93]) v.st.k 10 (gB (bK E.bs E.l (ay E.l (ay E.l v.st)).k)) [],aI E.bs E.l (ay E.l (ay E.l (ay E.l v.st))) [93])):=kH (by
     unfold tO;rw[if_neg lD.out,if_pos Ez.out];simp only;rw[if_pos Xp.out]
     rw[HK.out,if_pos rfl,if_pos rfl])
    refine(iG E hE v8 _ h8 v.st.k 10 (gB (bK E.bs E.l (ay E.l (ay E.l v.st)).k)) (w.heap.size+1)).mono ?_;rintro e w9 ⟨rfl,fA,nX⟩;have h9:=h8.below fA;have eY:=eB.below fA eB.lt;obtain⟨⟨r0,r1,r2,r3,r4⟩,g0,g1,g2,g3,g4⟩:=eY.five;go_wp2_with fail
    have aO:=kH (bJ (v:=v) h9 (P8.trans (PM.of_below fA)) rfl eY hgl nX);clear nX;refine bodyPost_ret (v:=.agg #[.int .i64 10,.string (aX (gB (bK E.bs E.l (ay E.l (ay E.l v.st)).k))),.int .i64 (bO E.l v8.st v.st.k []),.int .i64 (v8.st.last:Int),.slice none 0 0]) (by simp[results,Tryz.results182,go_sem,r0,r1,r2,r3,r4]) rfl ?_;exact Eq.mp (congrArg (fun r=>bB E w v r _ _) (show(aH E.l v8.st v.st.k 10 (gB (bK E.bs E.l (ay E.l (ay E.l v.st)).k)) [],v8.st)=_ by rw[gL.out,aM.out])) aO.out
   ·have hki:((k:Int)==2)=false:=by simp;omega
    have hkn:(k==2)=false:=by simp[WA]
    refine qG.out.mono ?_;rintro e w5 ⟨rfl,hb5⟩;have h5:=h4.below hb5;have fw:=dX.below hb5 dX.lt;have P5:=P4.trans (PM.of_below hb5);go_wp2_with fail
    refine(sF E hE v4 4 [110,117,109,98,101,114] _ h5).mono ?_;rintro e w6 ⟨⟨u6,rfl⟩,v6,hv6,h6,gQ⟩;have ll:=kH hv6;rw[ja.out]at ll;have gD:=gQ.blk h5 fw;have P6:=P5.trans gQ;clear hv6 gQ;go_wp2_with fail
    refine(j6 E hE v6 [93] _ h6).mono ?_;rintro e w8 ⟨rfl,v8,dV,h8,dS⟩;have gL:=kH dV;have eB:=dS.blk h6 gD;have P8:=P6.trans dS;clear dV dS;rw[ll.out]at gL;go_wp2_with fail
    have aM:Hid (tO E.bs E.l v.st=(aH E.l (aI E.bs E.l (iE E.l (ay E.l (ay E.l v.st)) 4 [110,117,109,98,101,114]) [93]) v.st.k 10 [] [],aI E.bs E.l (iE E.l (ay E.l (ay E.l v.st)) 4 [110,117,109,98,101,114]) [93])):=kH (by
     unfold tO;rw[if_neg lD.out,if_pos Ez.out];simp only;rw[if_pos Xp.out]
     rw[HK.out,if_neg WA,if_neg WA])
    refine(iG E hE v8 _ h8 v.st.k 10 [] (w.heap.size+1)).mono ?_;rintro e w9 ⟨rfl,fA,nX⟩;have h9:=h8.below fA;have eY:=eB.below fA eB.lt;obtain⟨⟨r0,r1,r2,r3,r4⟩,g0,g1,g2,g3,g4⟩:=eY.five;go_wp2_with fail
    have aO:=kH (bJ (v:=v) h9 (P8.trans (PM.of_below fA)) rfl eY hgl nX);clear nX;refine bodyPost_ret (v:=.agg #[.int .i64 10,.string (aX []),.int .i64 (bO E.l v8.st v.st.k []),.int .i64 (v8.st.last:Int),.slice none 0 0]) (by simp[results,Tryz.results182,go_sem,r0,r1,r2,r3,r4]) rfl ?_;exact Eq.mp (congrArg (fun r=>bB E w v r _ _) (show(aH E.l v8.st v.st.k 10 [] [],v8.st)=_ by rw[gL.out,aM.out])) aO.out
  ·have hbr0:bE E.bs E.l (ay E.l v.st) [91]=false:=by simpa using hbr
   have nT:Hid (bE E.bs E.l v3.st [91]=false):=kH (by rw[fI.out];exact hbr0);have EZ:Hid (bI E.bs E.l v3.st [91]=ay E.l v.st):=kH (by rw[fI.out];unfold bI;rw[if_neg hbr]);have Xp:=kH hbr;clear hbr hbr0;refine(fV E hE v3 [91] _ h3).mono ?_;rintro e w4 ⟨rfl,v4,hv4,h4,iB⟩;rw[nT.out];have ja:=kH hv4;have dX:=iB.blk h3 bT;have P4:=P3.trans iB;clear hv4 iB;rw[EZ.out]at ja;go_wp2_with fail
   have aM:Hid (tO E.bs E.l v.st=(aH E.l (ay E.l v.st) v.st.k 9 [105,110,116] [],ay E.l v.st)):=kH (by
    unfold tO;rw[if_neg lD.out,if_pos Ez.out];simp only
    rw[if_neg Xp.out])
   refine(iG E hE v4 _ h4 v.st.k 9 [105,110,116] (w.heap.size+1)).mono ?_;rintro e w5 ⟨rfl,hb5,jF⟩;have h5:=h4.below hb5;have fw:=dX.below hb5 dX.lt;obtain⟨⟨r0,r1,r2,r3,r4⟩,g0,g1,g2,g3,g4⟩:=fw.five;go_wp2_with fail
   have aO:=kH (bJ (v:=v) h5 (P4.trans (PM.of_below hb5)) rfl fw hgl jF);clear jF;refine bodyPost_ret (v:=.agg #[.int .i64 9,.string (aX [105,110,116]),.int .i64 (bO E.l v4.st v.st.k []),.int .i64 (v4.st.last:Int),.slice none 0 0]) (by simp[results,Tryz.results182,go_sem,r0,r1,r2,r3,r4]) rfl ?_;exact Eq.mp (congrArg (fun r=>bB E w v r _ _) (show(aH E.l v4.st v.st.k 9 [105,110,116] [],v4.st)=_ by rw[ja.out,aM.out])) aO.out
 ·have hint0:bE E.bs E.l v.st [105,110,116]=false:=by simpa using hint
  have rH:Hid (bE E.bs E.l v2.st [105,110,116]=false):=kH (by rw[gF.out];exact hint0);have HAI:Hid (bI E.bs E.l v2.st [105,110,116]=v.st):=kH (by rw[gF.out];unfold bI;rw[if_neg hint]);have Ez:=kH hint;clear hint hint0;refine(fV E hE v2 [105,110,116] _ h2).mono ?_;rintro e w3 ⟨rfl,v3,hv3,h3,eu⟩;rw[rH.out];have fI:=kH hv3;have bT:=eu.blk h2 hR2;have P3:=P2.trans eu;clear hv3 eu;rw[HAI.out]at fI;go_wp2_with fail
  have hkd:=pI E hE v3 _ h3;rw[fI.out]at hkd;obtain⟨k,hk⟩:∃x,bM E.l v.st=x:=⟨_,rfl⟩
  rw[hk]at hkd;have HK:=kH hk;have qG:=kH hkd;clear hk hkd;by_cases hk0:k=0
  ·subst hk0
   refine qG.out.mono ?_;rintro e w4 ⟨rfl,hb4⟩;have h4:=h3.below hb4;have dX:=bT.below hb4 bT.lt;have P4:=P3.trans (PM.of_below hb4);go_wp2_with fail
   refine(qJ E hE v3 _ h4 (by rw[fI.out,HK.out];decide)).mono ?_;rintro e w6 ⟨rfl,h6,gQ⟩;have gD:=gQ.blk h4 dX;have P6:=P4.trans gQ;obtain⟨v6,hv6⟩:∃v6:PV,(⟨ay E.l v3.st,v3.lv⟩:PV)=v6:=⟨_,rfl⟩
   rw[hv6]at h6 P6;have ll:Hid (v6.st=ay E.l v.st):=kH (by rw[<- hv6,fI.out]);have hwd:bK E.bs E.l v3.st.k=bK E.bs E.l v.st.k:=by rw[fI.out]
   rw[hwd];clear hv6 gQ hwd;go_wp2_with fail
   have aM:Hid (tO E.bs E.l v.st=(aH E.l (ay E.l v.st) v.st.k 9 (bK E.bs E.l v.st.k) [],ay E.l v.st)):=kH (by
    unfold tO
    rw[if_neg lD.out,if_neg Ez.out,if_pos HK.out])
   refine(iG E hE v6 _ h6 v.st.k 9 (bK E.bs E.l v.st.k) (w.heap.size+1)).mono ?_;rintro e w7 ⟨rfl,dB,kY⟩;have h7:=h6.below dB;have eZ:=gD.below dB gD.lt;obtain⟨⟨r0,r1,r2,r3,r4⟩,g0,g1,g2,g3,g4⟩:=eZ.five;go_wp2_with fail
   have aO:=kH (bJ (v:=v) h7 (P6.trans (PM.of_below dB)) rfl eZ hgl kY);clear kY;refine bodyPost_ret (v:=.agg #[.int .i64 9,.string (aX (bK E.bs E.l v.st.k)),.int .i64 (bO E.l v6.st v.st.k []),.int .i64 (v6.st.last:Int),.slice none 0 0]) (by simp[results,Tryz.results182,go_sem,r0,r1,r2,r3,r4]) rfl ?_;exact Eq.mp (congrArg (fun r=>bB E w v r _ _) (show(aH E.l v6.st v.st.k 9 (bK E.bs E.l v.st.k) [],v6.st)=_ by rw[ll.out,aM.out])) aO.out
  ·have hki:((k:Int)==0)=false:=by simp;omega
   have hkn:(k==0)=false:=by simp[hk0]
   refine qG.out.mono ?_;rintro e w4 ⟨rfl,hb4⟩;have h4:=h3.below hb4;have dX:=bT.below hb4 bT.lt;have P4:=P3.trans (PM.of_below hb4);go_wp2_with fail
   refine(sF E hE v3 4 [116,121,112,101] _ h4).mono ?_;rintro e w6 ⟨⟨u6,rfl⟩,v6,hv6,h6,gQ⟩;have ll:=kH hv6;rw[fI.out]at ll;have gD:=gQ.blk h4 dX;have P6:=P4.trans gQ;clear hv6 gQ;go_wp2_with fail
   have aM:Hid (tO E.bs E.l v.st=(aH E.l (iE E.l v.st 4 [116,121,112,101]) v.st.k 1 [] [],iE E.l v.st 4 [116,121,112,101])):=kH (by
    unfold tO
    rw[if_neg lD.out,if_neg Ez.out,if_neg (by rw[HK.out];exact hk0)])
   refine(iG E hE v6 _ h6 v.st.k 1 [] (w.heap.size+1)).mono ?_;rintro e w7 ⟨rfl,dB,kY⟩;have h7:=h6.below dB;have eZ:=gD.below dB gD.lt;obtain⟨⟨r0,r1,r2,r3,r4⟩,g0,g1,g2,g3,g4⟩:=eZ.five;go_wp2_with fail
   have aO:=kH (bJ (v:=v) h7 (P6.trans (PM.of_below dB)) rfl eZ hgl kY);clear kY;refine bodyPost_ret (v:=.agg #[.int .i64 1,.string (aX []),.int .i64 (bO E.l v6.st v.st.k []),.int .i64 (v6.st.last:Int),.slice none 0 0]) (by simp[results,Tryz.results182,go_sem,r0,r1,r2,r3,r4]) rfl ?_;exact Eq.mp (congrArg (fun r=>bB E w v r _ _) (show(aH E.l v6.st v.st.k 1 [] [],v6.st)=_ by rw[ll.out,aM.out])) aO.out
end Go.Proofs.YtoepemlnlpamlaaGreat
