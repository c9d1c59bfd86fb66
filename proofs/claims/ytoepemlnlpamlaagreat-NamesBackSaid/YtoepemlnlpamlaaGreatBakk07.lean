/- The law NamesBack holds for every text and every number: it returns true, and its arguments read as before. No condition. Part 7: Par4 Par5 Par6. -/
import Derived.Test.YtoepemlnlpamlaaGreatBakk06
set_option maxRecDepth 100000
set_option maxHeartbeats 4000000
namespace Go.Proofs.YtoepemlnlpamlaaGreat
open Go.RowKit
def yS(E:PE)(w:World)(v:PV)(st:PS)(w':World):Prop:=∃v',v'.st=st/\PW w' E v'/\PM E w v w' v'
theorem fE(E:PE)(hE:E.Ok)(v:PV)(x:aP)(w:World)(hpw:PW w E v):
 Calls Tryz.prog 128 #[.pointer (some ⟨E.gp,0,none⟩),.string (aU x)] w fun e w'=>e= .returned (.bool (bB E.bs E.l v.st x))/\yS E w v (bC E.bs E.l v.st x) w':=by
 have his:=yj E hE v x w hpw;unfold bC;obtain⟨b,hb⟩:∃b,bB E.bs E.l v.st x=b:=⟨_,rfl⟩
 rw[hb]at his⊢;have HIS:=kH his;have HB:=kH hb;clear his hb;cases b
 ·go_enter Tryz.func128,Tryz.ntmps128
  go_wp2_with fail
  refine HIS.out.mono ?_;rintro e w1 ⟨rfl,hb1⟩;go_wp2_with fail
  go_ret
  exact⟨rfl,v,rfl,hpw.below hb1,PM.of_below hb1⟩
 ·go_enter Tryz.func128,Tryz.ntmps128
  go_wp2_with fail
  refine HIS.out.mono ?_;rintro e w1 ⟨rfl,hb1⟩;go_wp2_with fail
  refine(qG E hE v w1 (hpw.below hb1) (eO HB.out)).mono ?_;rintro e w2 ⟨rfl,h2,hm2⟩;go_wp2_with fail
  go_ret
  exact⟨rfl,_,rfl,h2,(PM.of_below hb1).trans hm2⟩
theorem ky(E:PE)(hE:E.Ok)(v:PV)(x:aP)(w:World)(hpw:PW w E v):
 Calls Tryz.prog 126 #[.pointer (some ⟨E.gp,0,none⟩),.string (aU x)] w fun e w'=>e= .returned (.bool (bB E.bs E.l v.st x))/\yS E w v (aG E.bs E.l v.st x) w':=by
 have hac:=fE E hE v x w hpw;unfold bC at hac;unfold aG;obtain⟨b,hb⟩:∃b,bB E.bs E.l v.st x=b:=⟨_,rfl⟩
 rw[hb]at hac⊢;have Cs:=kH hac;clear hac hb;cases b
 ·go_enter Tryz.func126,Tryz.ntmps126
  go_wp2_with fail
  refine Cs.out.mono ?_;rintro e w1 ⟨rfl,v1,hv1,h1,hm1⟩;have hst:v1.st=v.st:=by simpa using hv1
  have HST:=kH hst;clear hv1 hst;go_wp2_with fail
  refine(rM E hE v1 4 x w1 h1).mono ?_;rintro e w2 ⟨⟨u,rfl⟩,v2,hv2,h2,hm2⟩;have gD:=kH hv2;clear hv2;go_wp2_with fail
  go_ret
  exact⟨rfl,v2,by rw[gD.out,HST.out],h2,hm1.trans hm2⟩
 ·go_enter Tryz.func126,Tryz.ntmps126
  go_wp2_with fail
  refine Cs.out.mono ?_;rintro e w1 ⟨rfl,v1,hv1,h1,hm1⟩;have HST:=kH hv1;clear hv1;go_wp2_with fail
  go_ret
  exact⟨rfl,v1,HST.out,h1,hm1⟩
theorem sS(E:PE)(hE:E.Ok)(v:PV)(w:World)(hpw:PW w E v):
 Calls Tryz.prog 125 #[.pointer (some ⟨E.gp,0,none⟩)] w fun e w'=>e= .returned (.string (aU (cB E.bs E.l v.st)))/\yS E w v (cK E.l v.st) w':=by
 have hkd:=pz E hE v w hpw;unfold cB cK;obtain⟨k,hk⟩:∃x,bG E.l v.st=x:=⟨_,rfl⟩
 rw[hk]at hkd⊢;have rq:=kH hkd;have HK:=kH hk;clear hkd hk;by_cases h0:k=0
 ·subst h0
  go_enter Tryz.func125,Tryz.ntmps125
  go_wp2_with fail
  refine rq.out.mono ?_;rintro e w1 ⟨rfl,hb1⟩;go_wp2_with fail
  refine(qG E hE v w1 (hpw.below hb1) (by rw[HK.out];decide)).mono ?_;rintro e w2 ⟨rfl,h2,hm2⟩;go_wp2_with fail
  go_ret
  exact⟨rfl,_,rfl,h2,(PM.of_below hb1).trans hm2⟩
 ·have hki:((k:Int)==0)=false:=by simp;omega
  have hkn:(k==0)=false:=by simp[h0]
  rw[if_neg h0,if_neg h0];clear h0;go_enter Tryz.func125,Tryz.ntmps125
  go_wp2_with fail
  refine rq.out.mono ?_;rintro e w1 ⟨rfl,hb1⟩;go_wp2_with fail
  refine(rM E hE v 4 [110,97,109,101] w1 (hpw.below hb1)).mono ?_;rintro e w2 ⟨⟨u,rfl⟩,v2,hv2,h2,hm2⟩;have gD:=kH hv2;clear hv2;go_wp2_with fail
  go_ret
  exact⟨rfl,v2,gD.out,h2,(PM.of_below hb1).trans hm2⟩
theorem bL.first{w:World}{lo:Nat}{A:Option Addr}{n c:Nat}{t:aa}{ts:List aa}(h:bL w lo (.slice A n c) n (t::ts)):∃b off,A=some ⟨b,off,none⟩/\b<w.heap.size/\w.cell? ⟨b,off+2,none⟩=some (.int .i64 t.at_):=by
 obtain⟨vals,h1,h2,h3⟩:=h;obtain⟨v,vs,rfl,hv,-⟩:=h2;have hn:0<n:=by rw[<- h3];simp
 obtain⟨g,off,cap,hs,-,-,-,hlt,hc⟩:=h1.form hn;cases hs
 refine⟨g,off,rfl,hlt,?_⟩
 cases t with
 | node k x a e kids=>
  obtain⟨A',c',vals',rfl,-⟩:=hv;exact hc 2 _ rfl
theorem II(E:PE)(hE:E.Ok)(v:PV)(w:World)(hpw:PW w E v)(first:Nat)(kind:Int)(t:aP)(lo:Nat)(A:Option Addr)(n c:Nat)(ts:List aa)(hk:bL w lo (.slice A n c) n ts):
 Calls Tryz.prog 71 #[.pointer (some ⟨E.gp,0,none⟩),.int .i64 (first:Int),.int .i64 kind,.string (aU t),.slice A n c] w fun e w'=>e= .returned (.agg #[.int .i64 kind,.string (aU t),.int .i64 (bN E.l v.st first ts),.int .i64 (v.st.last:Int),.slice A n c])/\Below w.heap.size w w':=by
 obtain⟨b,off,hEA,hb,-,c1,c2,c3,-,-,-,-,-⟩:=hpw.open hE;have hgl:=hpw.blk.lt;obtain⟨a1,ha1⟩:∃x:Int,(if first<v.st.k then((gq E.l first).at_:Int) else(v.st.last:Int))=x:=⟨_,rfl⟩
 obtain⟨a2,ha2⟩:∃x,bN E.l v.st first ts=x:=⟨_,rfl⟩
 have nH:∀w':World,Below w.heap.size w w'->w'.cell? ⟨E.gp,1,none⟩=some (.slice (some ⟨b,off,none⟩) E.n E.c)/\w'.cell? ⟨E.gp,2,none⟩=some (.int .i64 (v.st.k:Int))/\w'.cell? ⟨E.gp,3,none⟩=some (.int .i64 (v.st.last:Int)):=fun w' hb'=>⟨(hb'.cell (p:=⟨E.gp,_,none⟩) hgl).trans c1,(hb'.cell (p:=⟨E.gp,_,none⟩) hgl).trans c2,(hb'.cell (p:=⟨E.gp,_,none⟩) hgl).trans c3⟩
 have eY:=kH nH;have HA1:=kH ha1;have HA2:=kH ha2;have HK:=kH hk;rw[ha2];clear nH ha1 ha2 hk;go_enter Tryz.func71,Tryz.ntmps71
 go_wp2_with fail
 generalize hW1:w.alloc (.cells #[.int .i64 0,.string ⟨#[]⟩,.int .i64 0,.int .i64 0,.slice none 0 0] 24)=W1
 have hb1:Below w.heap.size w W1:=by rw[<- hW1];(repeat (first|exact Below.refl _ _|assumption|refine Below.trans ?_ (Below.mono (by assumption) (by first|omega|(simp;done)|(simp;omega)))|refine Below.alloc ?_ (by first|omega|(simp;done)|(simp;omega)) _|refine Below.setCell ?_ (by first|omega|(simp;done)|(simp;omega)) _|refine Below.drew ?_|refine aY ?_ _))
 have hT1:ai W1 w.heap.size 24 #[.int .i64 0,.string ⟨#[]⟩,.int .i64 0,.int .i64 0,.slice none 0 0]:=by rw[<- hW1];exact ai.new w _ _
 have hs1:W1.heap.size=w.heap.size+1:=by rw[<- hW1];simp
 have hBd:Below w.heap.size w W1.drew:=hb1.drew;clear hW1;go_region_held3 (fun w'=>w'.cell? ⟨E.gp,1,none⟩=some (.slice (some ⟨b,off,none⟩) E.n E.c)/\w'.cell? ⟨E.gp,2,none⟩=some (.int .i64 (v.st.k:Int))/\w'.cell? ⟨E.gp,3,none⟩=some (.int .i64 (v.st.last:Int))) ((refine eY.out _ ?_;(repeat (first|exact Below.refl _ _|assumption|refine Below.trans ?_ (Below.mono (by assumption) (by first|omega|(simp;done)|(simp;omega)))|refine Below.alloc ?_ (by first|omega|(simp;done)|(simp;omega)) _|refine Below.setCell ?_ (by first|omega|(simp;done)|(simp;omega)) _|refine Below.drew ?_|refine aY ?_ _)))) (fail)
 generalize hW2:(W1.alloc (.cells #[.int .i64 kind,.string (aU t),.int .i64 (v.st.last:Int),.int .i64 (v.st.last:Int),.slice A n c] 24)).drew=W2
 have hb2:Below W1.heap.size W1 W2:=by rw[<- hW2];(repeat (first|exact Below.refl _ _|assumption|refine Below.trans ?_ (Below.mono (by assumption) (by first|omega|(simp;done)|(simp;omega)))|refine Below.alloc ?_ (by first|omega|(simp;done)|(simp;omega)) _|refine Below.setCell ?_ (by first|omega|(simp;done)|(simp;omega)) _|refine Below.drew ?_|refine aY ?_ _))
 have wN:ai W2 W1.heap.size 24 #[.int .i64 kind,.string (aU t),.int .i64 (v.st.last:Int),.int .i64 (v.st.last:Int),.slice A n c]:=by rw[<- hW2];exact(ai.new W1 _ _).drew
 have hR2:ai W2 w.heap.size 24 #[.int .i64 0,.string ⟨#[]⟩,.int .i64 0,.int .i64 0,.slice none 0 0]:=hT1.below hb2 hT1.lt;have hbw2:Below w.heap.size w W2:=hb1.trans (hb2.mono (by omega));rw[hs1]at wN;have hs2:=wN.lt;have hp2:=hpw.below hbw2;have H2:=kH hp2;have d1:=(hbw2.cell (p:=⟨E.gp,1,none⟩) hgl).trans c1;have d2:=(hbw2.cell (p:=⟨E.gp,2,none⟩) hgl).trans c2;have n2:=wN.cell 2;have f2:=wN.frozen 2;have Bd:=kH wN;have HR2:=kH hR2;have BH:=kH hbw2;have hk2:=hpw.at_;clear hW2 wN hR2 hbw2 hb2 hs1 eY hT1 hb1 hBd c1 c2 c3 hpw hp2;obtain⟨lk,hlk⟩:∃lk,v.st.k=lk:=⟨_,rfl⟩
 obtain⟨la,hla⟩:∃la,v.st.last=la:=⟨_,rfl⟩
 rw[hlk]at d2 hk2;have HLK:=kH hlk;have TE:=kH hla;go_upto_if 29 with fail
 clear hlk hla;go_cut [] (fun wx=>ai wx (w.heap.size+1) 24 #[.int .i64 kind,.string (aU t),.int .i64 a1,.int .i64 (la:Int),.slice A n c]/\az (fun g=>g=w.heap.size+1) W2 wx)
 case first=>
  by_cases hlt:first<lk
  ·have hlti:(first:Int)<(lk:Int):=by omega
   have hfn:(first:Int)<E.n:=by omega
   obtain⟨b',off',hA',hb',-,-,t2,-⟩:=H2.out.tok hE (k:=first) (by omega);rw[hEA]at hA';cases hA'
   have hat:((gq E.l first).at_:Int)=a1:=by rw[<- HA1.out,if_pos (by rw[HLK.out];exact hlt)]
   rw[hat]at t2;have DK:((w.heap.size+1==E.gp)=false):=by simp;omega
   clear hat;go_wp2_with fail
   go_meet
   exact⟨by have:=Bd.out.fU 2 (.int .i64 a1);simpa [TE.out] using this,(az.refl (fun g=>g=w.heap.size+1) W2).setCell (.inl rfl) _⟩
  ·have hlti:¬(first:Int)<(lk:Int):=by omega
   have hat:(la:Int)=a1:=by rw[<- HA1.out,if_neg (by rw[HLK.out];exact hlt),TE.out]
   have HAT:=kH hat;clear hat;go_wp2_with fail
   go_meet
   exact⟨by have:=Bd.out;rw[TE.out]at this;rw[<- HAT.out];exact this,az.refl _ _⟩
 case rest=>
  obtain⟨tK,sN⟩:=hcut;have hb3:Below w.heap.size w wc:=BH.out.trans (sN.toBelow (by omega) (by intro g hg;omega));have hs3:=sN.size;have hK3:=HK.out.keeps (bO.of_below hb3);have df:=HR2.out.since sN (by omega);have HR3:=kH df;have mi:=kH tK;have HB3:=kH hb3;have n0:=tK.cell 0;have n1:=tK.cell 1;have n2:=tK.cell 2;have n3:=tK.cell 3;have n4:=tK.cell 4;have f2:=tK.frozen 2;have r0:=df.cell 0;have r1:=df.cell 1;have r2:=df.cell 2;have r3:=df.cell 3;have r4:=df.cell 4;have g0:=df.frozen 0;have g1:=df.frozen 1;have g2:=df.frozen 2;have g3:=df.frozen 3;have g4:=df.frozen 4;obtain⟨wz,rfl⟩:∃wz:World,wz=wc:=⟨_,rfl⟩
  clear sN hb3 df tK
  cases ts with
  | nil=>
   have hn0:n=0:=by
    obtain⟨_,_,_,h3⟩:=hK3;exact h3.symm
   subst hn0
   have Qq:a1=a2:=by
    rw[<- HA2.out,<- HA1.out];rfl
   have HA:=kH Qq;have hg1:decide ((0:Int)<((0:Nat):Int))=false:=by simp
   clear Qq hK3;go_wp2_with fail
   go_quiet (fail)
   go_wp2_with fail
   have ha:=HA.out;subst ha;rw[TE.out];refine bodyPost_ret (v:=.agg #[.int .i64 kind,.string (aU t),.int .i64 a1,.int .i64 (la:Int),.slice A 0 c]) (by simp[results,Tryz.results71,go_sem, *]) rfl ⟨rfl,(((((aY HB3.out _).setCell (aaD _) _).setCell (aaD _) _).setCell (aaD _) _).setCell (aaD _) _).setCell (aaD _) _⟩
  | cons t0 ts=>
   obtain⟨kb,koff,rfl,hkb,hka⟩:=hK3.first
   have hn0:0<n:=by
    obtain⟨_,_,_,h3⟩:=hK3;rw[<- h3];simp
   have hg1:decide ((0:Int)<(n:Int))=true:=decide_eq_true (by omega);have hn0i:(0:Int)<(n:Int):=by omega
   have Qq:(if t0.at_<a1 then t0.at_ else a1)=a2:=by
    rw[<- HA2.out,<- HA1.out];rfl
   have HA:=kH Qq;clear Qq hK3;by_cases hlt:t0.at_<a1
   ·have hlb:decide (t0.at_<a1)=true:=decide_eq_true hlt
    go_wp2_with fail
    go_quiet (fail)
    go_wp2_with fail
    have ha:=HA.out;rw[if_pos hlt]at ha;subst ha;rw[TE.out];refine bodyPost_ret (v:=.agg #[.int .i64 kind,.string (aU t),.int .i64 t0.at_,.int .i64 (la:Int),.slice (some ⟨kb,koff,none⟩) n c]) (by simp[results,Tryz.results71,go_sem, *]) rfl ⟨rfl,((((((aY HB3.out _).setCell (p:=⟨w.heap.size+1,2,none⟩) (Nat.le_succ _) _).setCell (aaD _) _).setCell (aaD _) _).setCell (aaD _) _).setCell (aaD _) _).setCell (aaD _) _⟩
   ·have hlb:decide (t0.at_<a1)=false:=decide_eq_false hlt
    go_wp2_with fail
    go_quiet (fail)
    go_wp2_with fail
    have ha:=HA.out;rw[if_neg (by omega)]at ha;subst ha;rw[TE.out];refine bodyPost_ret (v:=.agg #[.int .i64 kind,.string (aU t),.int .i64 a1,.int .i64 (la:Int),.slice (some ⟨kb,koff,none⟩) n c]) (by simp[results,Tryz.results71,go_sem, *]) rfl ⟨rfl,(((((aY HB3.out _).setCell (aaD _) _).setCell (aaD _) _).setCell (aaD _) _).setCell (aaD _) _).setCell (aaD _) _⟩
def bq(E:PE)(w:World)(v:PV)(r:aa×PS)(e:Ending)(w':World):Prop:=
 ∃k t a z A n c,e= .returned (.agg #[.int .i64 k,.string t,.int .i64 a,.int .i64 z,.slice A n c])/\aB w' (fun g=>w.heap.size<=g) r.1 [.int .i64 k,.string t,.int .i64 a,.int .i64 z,.slice A n c]/\yS E w v r.2 w'
theorem PM.blk{E:PE}{w w':World}{v v':PV}(hm:PM E w v w' v')(h:PW w E v){g:Nat}{cs:Array Value}(hb:ai w g 24 cs):ai w' g 24 cs:=
 hb.keep (hm.dL (P:=fun _=>True) h g cs trivial hb)
theorem ai.five{w:World}{g:Nat}{ty:TypeId}{a b c d e:Value}(h:ai w g ty #[a,b,c,d,e]):
 (w.cell? ⟨g,0,none⟩=some a/\w.cell? ⟨g,1,none⟩=some b/\w.cell? ⟨g,2,none⟩=some c/\w.cell? ⟨g,3,none⟩=some d/\w.cell? ⟨g,4,none⟩=some e) /\
 (w.frozen? ⟨g,0,none⟩=false/\w.frozen? ⟨g,1,none⟩=false/\w.frozen? ⟨g,2,none⟩=false/\w.frozen? ⟨g,3,none⟩=false/\w.frozen? ⟨g,4,none⟩=false):=
 ⟨⟨h.cell 0,h.cell 1,h.cell 2,h.cell 3,h.cell 4⟩,h.frozen 0,h.frozen 1,h.frozen 2,h.frozen 3,h.frozen 4⟩
def bZ(w:World)(g:Nat)(a b c d e:Value):World:=((((w.setCell ⟨g,0,none⟩ a).setCell ⟨g,1,none⟩ b).setCell ⟨g,2,none⟩ c).setCell ⟨g,3,none⟩ d).setCell ⟨g,4,none⟩ e
theorem bF{E:PE}{w wz:World}{v v':PV}{t:aa}{st:PS}{k a z:Int}{x:ByteArray}{A:Option Addr}{n c:Nat}{cs:Array Value}(hz:PW wz E v')(hm:PM E w v wz v')(hst:v'.st=st)(hR:ai wz w.heap.size 24 cs)(hgl:E.gp<w.heap.size)
 (hT:aB wz (fun g=>w.heap.size+1<=g) t [.int .i64 k,.string x,.int .i64 a,.int .i64 z,.slice A n c]):
 bq E w v (t,st) (.returned (.agg #[.int .i64 k,.string x,.int .i64 a,.int .i64 z,.slice A n c])) (bZ wz w.heap.size (.int .i64 k) (.string x) (.int .i64 a) (.int .i64 z) (.slice A n c)):=by
 have hs:az (fun g=>g=w.heap.size) wz (bZ wz w.heap.size (.int .i64 k) (.string x) (.int .i64 a) (.int .i64 z) (.slice A n c)):=by
  unfold bZ;exact(((((az.refl (fun g=>g=w.heap.size) wz).setCell (.inl rfl) _).setCell (.inl rfl) _).setCell (.inl rfl) _).setCell (.inl rfl) _).setCell (.inl rfl) _
 have hk:bO (fun g=>w.heap.size+1<=g) wz (bZ wz w.heap.size (.int .i64 k) (.string x) (.int .i64 a) (.int .i64 z) (.slice A n c)):=fun g _ hP hc=>hs.block g (aaG.1 hc).1 (by omega)
 refine⟨k,x,a,z,A,n,c,rfl,aB.weak (fun g _ hg=>by omega) _ _ (aB.keeps hk _ _ hT),v',hst,⟨hz.blk.since hs (by omega),hz.own.since hs (fun g hg e1=>hz.own.eu hR (by decide) (by rw[hg,e1])),hz.toks.since hs (fun g hg e1=>hz.toks.eu hR (by decide) (by rw[hg,e1])),hz.at_,hz.good,hz.last⟩,hm.since.step hs (fun g hg=>.inr (by omega)),hm.fresh⟩
theorem ig(E:PE)(hE:E.Ok)(v:PV)(w:World)(hpw:PW w E v)(first:Nat)(kind:Int)(t:aP)(lo:Nat):
 Calls Tryz.prog 71 #[.pointer (some ⟨E.gp,0,none⟩),.int .i64 (first:Int),.int .i64 kind,.string (aU t),.slice none 0 0] w fun e w'=>e= .returned (.agg #[.int .i64 kind,.string (aU t),.int .i64 (bN E.l v.st first []),.int .i64 (v.st.last:Int),.slice none 0 0])/\Below w.heap.size w w'/\aB w' (fun g=>lo<=g) (aH E.l v.st first kind t []) [.int .i64 kind,.string (aU t),.int .i64 (bN E.l v.st first []),.int .i64 (v.st.last:Int),.slice none 0 0]:=by
 refine(II E hE v w hpw first kind t lo none 0 0 [] (bL.nil w lo)).mono ?_;rintro e w' ⟨rfl,hb⟩;exact⟨rfl,hb,(bL.nil w' lo).node _ _ _ _⟩
theorem Mr{E:PE}(hE:E.Ok)(k:Nat):(aU (bE E.bs E.l k)).size<=4096:=by
 have h1:(aU (bE E.bs E.l k)).size=(bE E.bs E.l k).length:=by simp[aU,ByteArray.size]
 have h2:=hE.size;have h3:E.bs.length=E.s.size:=by unfold PE.bs;simp
 rw[h1];unfold bE Ar qN;simp only[List.length_take,List.length_drop];omega
theorem typ_any(E:PE)(hE:E.Ok)(v:PV)(w:World)(hpw:PW w E v):Calls Tryz.prog 182 #[.pointer (some ⟨E.gp,0,none⟩)] w (bq E w v (qa E.bs E.l v.st)):=by
 have hgl:=hpw.blk.lt;have hk2:w.cell? ⟨E.gp,2,none⟩=some (.int .i64 (v.st.k:Int)):=hpw.blk.cell 2;go_enter Tryz.func182,Tryz.ntmps182
 go_wp2_with fail
 generalize hW1:w.alloc (.cells #[.int .i64 0,.string ⟨#[]⟩,.int .i64 0,.int .i64 0,.slice none 0 0] 24)=W1
 have hb1:Below w.heap.size w W1:=by rw[<- hW1];exact af _ _
 have eD:ai W1 w.heap.size 24 #[.int .i64 0,.string ⟨#[]⟩,.int .i64 0,.int .i64 0,.slice none 0 0]:=by rw[<- hW1];exact ai.new w _ _
 have hs1:W1.heap.size=w.heap.size+1:=by rw[<- hW1];simp
 have hm1:=PM.of_below (E:=E) (v:=v) hb1;have h1:=hpw.below hb1;have P1:=hm1;have nV:=kH hs1;have xq:=kH hm1;clear hW1 hs1 hm1 hb1;by_cases AQ:bB E.bs E.l v.st [98,111,111,108]=true
 ·have aM:Hid (qa E.bs E.l v.st=(aH E.l (ay E.l v.st) v.st.k 9 [98,111,111,108] [],ay E.l v.st)):=kH (by unfold qa;rw[if_pos AQ])
  have Cs:Hid (bC E.bs E.l v.st [98,111,111,108]=ay E.l v.st):=kH (by unfold bC;rw[if_pos AQ]);have Lv:=kH AQ;clear AQ;refine(fE E hE v [98,111,111,108] _ h1).mono ?_;rintro e w2 ⟨rfl,v2,hv2,h2,hm2⟩;rw[Lv.out];have gD:=kH hv2;have hR2:=hm2.blk h1 eD;have P2:=P1.trans hm2;clear hv2 hm2;rw[Cs.out]at gD;go_wp2_with fail
  refine(ig E hE v2 _ h2 v.st.k 9 [98,111,111,108] (w.heap.size+1)).mono ?_;rintro e w3 ⟨rfl,hb3,j3⟩;have h3:=h2.below hb3;have df:=hR2.below hb3 hR2.lt;obtain⟨⟨r0,r1,r2,r3,r4⟩,g0,g1,g2,g3,g4⟩:=df.five;go_wp2_with fail
  have aV:=kH (bF (v:=v) h3 (P2.trans (PM.of_below hb3)) rfl df hgl j3);clear j3;refine bodyPost_ret (v:=.agg #[.int .i64 9,.string (aU [98,111,111,108]),.int .i64 (bN E.l v2.st v.st.k []),.int .i64 (v2.st.last:Int),.slice none 0 0]) (by simp[results,Tryz.results182,go_sem,r0,r1,r2,r3,r4]) rfl ?_;exact Eq.mp (congrArg (fun r=>bq E w v r _ _) (show(aH E.l v2.st v.st.k 9 [98,111,111,108] [],v2.st)=_ by rw[gD.out,aM.out])) aV.out
 have hb0:bB E.bs E.l v.st [98,111,111,108]=false:=by simpa using AQ
 have Cs:Hid (bC E.bs E.l v.st [98,111,111,108]=v.st):=kH (by unfold bC;rw[if_neg AQ]);have Lv:=kH hb0;have kU:=kH AQ;clear AQ hb0;refine(fE E hE v [98,111,111,108] _ h1).mono ?_;rintro e w2 ⟨rfl,v2,hv2,h2,hm2⟩;rw[Lv.out];have gD:=kH hv2;have hR2:=hm2.blk h1 eD;have P2:=P1.trans hm2;clear hv2 hm2;rw[Cs.out]at gD;go_wp2_with fail
 by_cases hint:bB E.bs E.l v.st [105,110,116]=true
 ·have Ll:Hid (bB E.bs E.l v2.st [105,110,116]=true):=kH (by rw[gD.out];exact hint)
  have HAI:Hid (bC E.bs E.l v2.st [105,110,116]=ay E.l v.st):=kH (by rw[gD.out];unfold bC;rw[if_pos hint]);refine(fE E hE v2 [105,110,116] _ h2).mono ?_;rintro e w3 ⟨rfl,v3,hv3,h3,dR⟩;rw[Ll.out];have fw:=kH hv3;have df:=dR.blk h2 hR2;have P3:=P2.trans dR;clear hv3 dR;rw[HAI.out]at fw;have Mm:=kH hint;clear hint;go_wp2_with fail
  by_cases hbr:bB E.bs E.l (ay E.l v.st) [91]=true
  ·have nL:Hid (bB E.bs E.l v3.st [91]=true):=kH (by rw[fw.out];exact hbr)
   have Ed:Hid (bC E.bs E.l v3.st [91]=ay E.l (ay E.l v.st)):=kH (by rw[fw.out];unfold bC;rw[if_pos hbr]);refine(fE E hE v3 [91] _ h3).mono ?_;rintro e w4 ⟨rfl,v4,hv4,h4,gW⟩;rw[nL.out];have iU:=kH hv4;have dS:=gW.blk h3 df;have P4:=P3.trans gW;clear hv4 gW;rw[Ed.out]at iU;have Wd:=kH hbr;clear hbr;go_wp2_with fail
   have hkd:=pz E hE v4 _ h4;rw[iU.out]at hkd;obtain⟨k,hk⟩:∃x,bG E.l (ay E.l (ay E.l v.st))=x:=⟨_,rfl⟩
   rw[hk]at hkd;have HK:=kH hk;have rq:=kH hkd;clear hk hkd;by_cases Vy:k=2
   ·subst Vy
    refine rq.out.mono ?_;rintro e w5 ⟨rfl,hb5⟩;have h5:=h4.below hb5;have eT:=dS.below hb5 dS.lt;have P5:=P4.trans (PM.of_below hb5);go_wp2_with fail
    refine(qG E hE v4 _ h5 (by rw[iU.out,HK.out];decide)).mono ?_;rintro e w6 ⟨rfl,h6,gu⟩;have fK:=gu.blk h5 eT;have P6:=P5.trans gu;obtain⟨v6,hv6⟩:∃v6:PV,(⟨ay E.l v4.st,v4.lv⟩:PV)=v6:=⟨_,rfl⟩
    rw[hv6]at h6 P6;have kZ:Hid (v6.st=ay E.l (ay E.l (ay E.l v.st))):=kH (by rw[<- hv6,iU.out]);clear hv6 gu;go_wp2_with fail
    refine(KJ (aU (bE E.bs E.l v4.st.k)) _ (Mr hE _)).mono ?_;rintro e w7 ⟨rfl,rfl⟩;have hdt:aU (eG (aU (bE E.bs E.l v4.st.k)).data.toList)=aU (eG (bE E.bs E.l (ay E.l (ay E.l v.st)).k)):=by rw[iU.out];rfl
    rw[hdt];clear hdt;go_wp2_with fail
    refine(ky E hE v6 [93] _ h6).mono ?_;rintro e w8 ⟨rfl,v8,dZ,h8,dP⟩;have fV:=kH dZ;have dW:=dP.blk h6 fK;have P8:=P6.trans dP;clear dZ dP;rw[kZ.out]at fV;go_wp2_with fail
    have aM:Hid (qa E.bs E.l v.st=(aH E.l (aG E.bs E.l (ay E.l (ay E.l (ay E.l v.st))) [93]) v.st.k 10 (eG (bE E.bs E.l (ay E.l (ay E.l v.st)).k)) [],aG E.bs E.l (ay E.l (ay E.l (ay E.l v.st))) [93])):=kH (by
     unfold qa;rw[if_neg kU.out,if_pos Mm.out];simp only;rw[if_pos Wd.out]
     rw[HK.out,if_pos rfl,if_pos rfl])
    refine(ig E hE v8 _ h8 v.st.k 10 (eG (bE E.bs E.l (ay E.l (ay E.l v.st)).k)) (w.heap.size+1)).mono ?_;rintro e w9 ⟨rfl,dx,nP⟩;have h9:=h8.below dx;have eQ:=dW.below dx dW.lt;obtain⟨⟨r0,r1,r2,r3,r4⟩,g0,g1,g2,g3,g4⟩:=eQ.five;go_wp2_with fail
    have aV:=kH (bF (v:=v) h9 (P8.trans (PM.of_below dx)) rfl eQ hgl nP);clear nP;refine bodyPost_ret (v:=.agg #[.int .i64 10,.string (aU (eG (bE E.bs E.l (ay E.l (ay E.l v.st)).k))),.int .i64 (bN E.l v8.st v.st.k []),.int .i64 (v8.st.last:Int),.slice none 0 0]) (by simp[results,Tryz.results182,go_sem,r0,r1,r2,r3,r4]) rfl ?_;exact Eq.mp (congrArg (fun r=>bq E w v r _ _) (show(aH E.l v8.st v.st.k 10 (eG (bE E.bs E.l (ay E.l (ay E.l v.st)).k)) [],v8.st)=_ by rw[fV.out,aM.out])) aV.out
   ·have hki:((k:Int)==2)=false:=by simp;omega
    have hkn:(k==2)=false:=by simp[Vy]
    refine rq.out.mono ?_;rintro e w5 ⟨rfl,hb5⟩;have h5:=h4.below hb5;have eT:=dS.below hb5 dS.lt;have P5:=P4.trans (PM.of_below hb5);go_wp2_with fail
    refine(rM E hE v4 4 [110,117,109,98,101,114] _ h5).mono ?_;rintro e w6 ⟨⟨u6,rfl⟩,v6,hv6,h6,gu⟩;have kZ:=kH hv6;rw[iU.out]at kZ;have fK:=gu.blk h5 eT;have P6:=P5.trans gu;clear hv6 gu;go_wp2_with fail
    refine(ky E hE v6 [93] _ h6).mono ?_;rintro e w8 ⟨rfl,v8,dZ,h8,dP⟩;have fV:=kH dZ;have dW:=dP.blk h6 fK;have P8:=P6.trans dP;clear dZ dP;rw[kZ.out]at fV;go_wp2_with fail
    have aM:Hid (qa E.bs E.l v.st=(aH E.l (aG E.bs E.l (gZ E.l (ay E.l (ay E.l v.st)) 4 [110,117,109,98,101,114]) [93]) v.st.k 10 [] [],aG E.bs E.l (gZ E.l (ay E.l (ay E.l v.st)) 4 [110,117,109,98,101,114]) [93])):=kH (by
     unfold qa;rw[if_neg kU.out,if_pos Mm.out];simp only;rw[if_pos Wd.out]
     rw[HK.out,if_neg Vy,if_neg Vy])
    refine(ig E hE v8 _ h8 v.st.k 10 [] (w.heap.size+1)).mono ?_;rintro e w9 ⟨rfl,dx,nP⟩;have h9:=h8.below dx;have eQ:=dW.below dx dW.lt;obtain⟨⟨r0,r1,r2,r3,r4⟩,g0,g1,g2,g3,g4⟩:=eQ.five;go_wp2_with fail
    have aV:=kH (bF (v:=v) h9 (P8.trans (PM.of_below dx)) rfl eQ hgl nP);clear nP;refine bodyPost_ret (v:=.agg #[.int .i64 10,.string (aU []),.int .i64 (bN E.l v8.st v.st.k []),.int .i64 (v8.st.last:Int),.slice none 0 0]) (by simp[results,Tryz.results182,go_sem,r0,r1,r2,r3,r4]) rfl ?_;exact Eq.mp (congrArg (fun r=>bq E w v r _ _) (show(aH E.l v8.st v.st.k 10 [] [],v8.st)=_ by rw[fV.out,aM.out])) aV.out
  ·have hbr0:bB E.bs E.l (ay E.l v.st) [91]=false:=by simpa using hbr
   have nL:Hid (bB E.bs E.l v3.st [91]=false):=kH (by rw[fw.out];exact hbr0);have Ed:Hid (bC E.bs E.l v3.st [91]=ay E.l v.st):=kH (by rw[fw.out];unfold bC;rw[if_neg hbr]);have Wd:=kH hbr;clear hbr hbr0;refine(fE E hE v3 [91] _ h3).mono ?_;rintro e w4 ⟨rfl,v4,hv4,h4,gW⟩;rw[nL.out];have iU:=kH hv4;have dS:=gW.blk h3 df;have P4:=P3.trans gW;clear hv4 gW;rw[Ed.out]at iU;go_wp2_with fail
   have aM:Hid (qa E.bs E.l v.st=(aH E.l (ay E.l v.st) v.st.k 9 [105,110,116] [],ay E.l v.st)):=kH (by
    unfold qa;rw[if_neg kU.out,if_pos Mm.out];simp only
    rw[if_neg Wd.out])
   refine(ig E hE v4 _ h4 v.st.k 9 [105,110,116] (w.heap.size+1)).mono ?_;rintro e w5 ⟨rfl,hb5,gT⟩;have h5:=h4.below hb5;have eT:=dS.below hb5 dS.lt;obtain⟨⟨r0,r1,r2,r3,r4⟩,g0,g1,g2,g3,g4⟩:=eT.five;go_wp2_with fail
   have aV:=kH (bF (v:=v) h5 (P4.trans (PM.of_below hb5)) rfl eT hgl gT);clear gT;refine bodyPost_ret (v:=.agg #[.int .i64 9,.string (aU [105,110,116]),.int .i64 (bN E.l v4.st v.st.k []),.int .i64 (v4.st.last:Int),.slice none 0 0]) (by simp[results,Tryz.results182,go_sem,r0,r1,r2,r3,r4]) rfl ?_;exact Eq.mp (congrArg (fun r=>bq E w v r _ _) (show(aH E.l v4.st v.st.k 9 [105,110,116] [],v4.st)=_ by rw[iU.out,aM.out])) aV.out
 ·have hint0:bB E.bs E.l v.st [105,110,116]=false:=by simpa using hint
  have Ll:Hid (bB E.bs E.l v2.st [105,110,116]=false):=kH (by rw[gD.out];exact hint0);have HAI:Hid (bC E.bs E.l v2.st [105,110,116]=v.st):=kH (by rw[gD.out];unfold bC;rw[if_neg hint]);have Mm:=kH hint;clear hint hint0;refine(fE E hE v2 [105,110,116] _ h2).mono ?_;rintro e w3 ⟨rfl,v3,hv3,h3,dR⟩;rw[Ll.out];have fw:=kH hv3;have df:=dR.blk h2 hR2;have P3:=P2.trans dR;clear hv3 dR;rw[HAI.out]at fw;go_wp2_with fail
  have hkd:=pz E hE v3 _ h3;rw[fw.out]at hkd;obtain⟨k,hk⟩:∃x,bG E.l v.st=x:=⟨_,rfl⟩
  rw[hk]at hkd;have HK:=kH hk;have rq:=kH hkd;clear hk hkd;by_cases hk0:k=0
  ·subst hk0
   refine rq.out.mono ?_;rintro e w4 ⟨rfl,hb4⟩;have h4:=h3.below hb4;have dS:=df.below hb4 df.lt;have P4:=P3.trans (PM.of_below hb4);go_wp2_with fail
   refine(qG E hE v3 _ h4 (by rw[fw.out,HK.out];decide)).mono ?_;rintro e w6 ⟨rfl,h6,gu⟩;have fK:=gu.blk h4 dS;have P6:=P4.trans gu;obtain⟨v6,hv6⟩:∃v6:PV,(⟨ay E.l v3.st,v3.lv⟩:PV)=v6:=⟨_,rfl⟩
   rw[hv6]at h6 P6;have kZ:Hid (v6.st=ay E.l v.st):=kH (by rw[<- hv6,fw.out]);have hwd:bE E.bs E.l v3.st.k=bE E.bs E.l v.st.k:=by rw[fw.out]
   rw[hwd];clear hv6 gu hwd;go_wp2_with fail
   have aM:Hid (qa E.bs E.l v.st=(aH E.l (ay E.l v.st) v.st.k 9 (bE E.bs E.l v.st.k) [],ay E.l v.st)):=kH (by
    unfold qa
    rw[if_neg kU.out,if_neg Mm.out,if_pos HK.out])
   refine(ig E hE v6 _ h6 v.st.k 9 (bE E.bs E.l v.st.k) (w.heap.size+1)).mono ?_;rintro e w7 ⟨rfl,dE,jS⟩;have h7:=h6.below dE;have ed:=fK.below dE fK.lt;obtain⟨⟨r0,r1,r2,r3,r4⟩,g0,g1,g2,g3,g4⟩:=ed.five;go_wp2_with fail
   have aV:=kH (bF (v:=v) h7 (P6.trans (PM.of_below dE)) rfl ed hgl jS);clear jS;refine bodyPost_ret (v:=.agg #[.int .i64 9,.string (aU (bE E.bs E.l v.st.k)),.int .i64 (bN E.l v6.st v.st.k []),.int .i64 (v6.st.last:Int),.slice none 0 0]) (by simp[results,Tryz.results182,go_sem,r0,r1,r2,r3,r4]) rfl ?_;exact Eq.mp (congrArg (fun r=>bq E w v r _ _) (show(aH E.l v6.st v.st.k 9 (bE E.bs E.l v.st.k) [],v6.st)=_ by rw[kZ.out,aM.out])) aV.out
  ·have hki:((k:Int)==0)=false:=by simp;omega
   have hkn:(k==0)=false:=by simp[hk0]
   refine rq.out.mono ?_;rintro e w4 ⟨rfl,hb4⟩;have h4:=h3.below hb4;have dS:=df.below hb4 df.lt;have P4:=P3.trans (PM.of_below hb4);go_wp2_with fail
   refine(rM E hE v3 4 [116,121,112,101] _ h4).mono ?_;rintro e w6 ⟨⟨u6,rfl⟩,v6,hv6,h6,gu⟩;have kZ:=kH hv6;rw[fw.out]at kZ;have fK:=gu.blk h4 dS;have P6:=P4.trans gu;clear hv6 gu;go_wp2_with fail
   have aM:Hid (qa E.bs E.l v.st=(aH E.l (gZ E.l v.st 4 [116,121,112,101]) v.st.k 1 [] [],gZ E.l v.st 4 [116,121,112,101])):=kH (by
    unfold qa
    rw[if_neg kU.out,if_neg Mm.out,if_neg (by rw[HK.out];exact hk0)])
   refine(ig E hE v6 _ h6 v.st.k 1 [] (w.heap.size+1)).mono ?_;rintro e w7 ⟨rfl,dE,jS⟩;have h7:=h6.below dE;have ed:=fK.below dE fK.lt;obtain⟨⟨r0,r1,r2,r3,r4⟩,g0,g1,g2,g3,g4⟩:=ed.five;go_wp2_with fail
   have aV:=kH (bF (v:=v) h7 (P6.trans (PM.of_below dE)) rfl ed hgl jS);clear jS;refine bodyPost_ret (v:=.agg #[.int .i64 1,.string (aU []),.int .i64 (bN E.l v6.st v.st.k []),.int .i64 (v6.st.last:Int),.slice none 0 0]) (by simp[results,Tryz.results182,go_sem,r0,r1,r2,r3,r4]) rfl ?_;exact Eq.mp (congrArg (fun r=>bq E w v r _ _) (show(aH E.l v6.st v.st.k 1 [] [],v6.st)=_ by rw[kZ.out,aM.out])) aV.out
theorem vX(E:PE)(hE:E.Ok)(v:PV)(w:World)(hpw:PW w E v):Calls Tryz.prog 130 #[.pointer (some ⟨E.gp,0,none⟩)] w (bq E w v (ib E.bs E.l v.st)):=by
 have hgl:=hpw.blk.lt;go_enter Tryz.func130,Tryz.ntmps130
 go_wp2_with fail
 generalize hW1:w.alloc (.cells #[.int .i64 0,.string ⟨#[]⟩,.int .i64 0,.int .i64 0,.slice none 0 0] 24)=W1
 have hb1:Below w.heap.size w W1:=by rw[<- hW1];exact af _ _
 have eD:ai W1 w.heap.size 24 #[.int .i64 0,.string ⟨#[]⟩,.int .i64 0,.int .i64 0,.slice none 0 0]:=by rw[<- hW1];exact ai.new w _ _
 have hs1:W1.heap.size=w.heap.size+1:=by rw[<- hW1];simp
 have hm1:=PM.of_below (E:=E) (v:=v) hb1;have h1:=hpw.below hb1;have P1:=hm1;have nV:=kH hs1;have xq:=kH hm1;clear hW1 hs1 hm1 hb1;by_cases hc:bB E.bs E.l v.st [58]=true
 ·have aM:Hid (ib E.bs E.l v.st=qa E.bs E.l (ay E.l v.st)):=kH (by unfold ib;rw[if_pos hc])
  have Cs:Hid (bC E.bs E.l v.st [58]=ay E.l v.st):=kH (by unfold bC;rw[if_pos hc]);have Lv:=kH hc;clear hc;refine(fE E hE v [58] _ h1).mono ?_;rintro e w2 ⟨rfl,v2,hv2,h2,hm2⟩;rw[Lv.out];have gD:=kH hv2;have hR2:=hm2.blk h1 eD;have P2:=P1.trans hm2;clear hv2 hm2;rw[Cs.out]at gD;go_wp2_with fail
  refine(typ_any E hE v2 _ h2).mono ?_;rintro e w3 ⟨k3,t3,a3,z3,A3,n3,c3,rfl,j3,v3,hv3,h3,dR⟩;have fw:=kH hv3;have df:=dR.blk h2 hR2;have P3:=P2.trans dR;replace j3:=aB.weak (Q:=fun g=>w.heap.size+1<=g) (fun g _ hg=>aaE hR2.lt hg) _ _ j3
  clear hv3;rw[gD.out]at fw j3;obtain⟨⟨r0,r1,r2,r3,r4⟩,g0,g1,g2,g3,g4⟩:=df.five;go_wp2_with fail
  have aV:=kH (bF (v:=v) h3 P3 rfl df hgl j3);clear j3;rw[fw.out]at aV;refine bodyPost_ret (v:=.agg #[.int .i64 k3,.string t3,.int .i64 a3,.int .i64 z3,.slice A3 n3 c3]) (by simp[results,Tryz.results130,go_sem,r0,r1,r2,r3,r4]) rfl ?_;try rw[aM.out]
  exact aV.out
 ·have hc0:bB E.bs E.l v.st [58]=false:=by simpa using hc
  have aM:Hid (ib E.bs E.l v.st=(aH E.l v.st v.st.k 0 [] [],v.st)):=kH (by unfold ib;rw[if_neg hc]);have Cs:Hid (bC E.bs E.l v.st [58]=v.st):=kH (by unfold bC;rw[if_neg hc]);have Lv:=kH hc0;clear hc hc0;refine(fE E hE v [58] _ h1).mono ?_;rintro e w2 ⟨rfl,v2,hv2,h2,hm2⟩;rw[Lv.out];have gD:=kH hv2;have hR2:=hm2.blk h1 eD;have P2:=P1.trans hm2;clear hv2 hm2;rw[Cs.out]at gD;have hkc:w2.cell? ⟨E.gp,2,none⟩=some (.int .i64 (v2.st.k:Int)):=h2.blk.cell 2;have hks:v2.st.k=v.st.k:=by rw[gD.out]
  rw[hks]at hkc;clear hks;go_wp2_with fail
  refine(ig E hE v2 _ h2 v.st.k 0 [] (w.heap.size+1)).mono ?_;rintro e w3 ⟨rfl,hb3,j3⟩;have h3:=h2.below hb3;have df:=hR2.below hb3 hR2.lt;obtain⟨⟨r0,r1,r2,r3,r4⟩,g0,g1,g2,g3,g4⟩:=df.five;go_wp2_with fail
  have aV:=kH (bF (v:=v) h3 (P2.trans (PM.of_below hb3)) rfl df hgl j3);clear j3;refine bodyPost_ret (v:=.agg #[.int .i64 0,.string (aU []),.int .i64 (bN E.l v2.st v.st.k []),.int .i64 (v2.st.last:Int),.slice none 0 0]) (by simp[results,Tryz.results130,go_sem,r0,r1,r2,r3,r4]) rfl ?_;exact Eq.mp (congrArg (fun r=>bq E w v r _ _) (show(aH E.l v2.st v.st.k 0 [] [],v2.st)=_ by rw[gD.out,aM.out])) aV.out
theorem Ej(E:PE)(hE:E.Ok)(v:PV)(w:World)(hpw:PW w E v):Calls Tryz.prog 187 #[.pointer (some ⟨E.gp,0,none⟩)] w (bq E w v (jL E.bs E.l v.st)):=by
 have hgl:=hpw.blk.lt;have hk2:w.cell? ⟨E.gp,2,none⟩=some (.int .i64 (v.st.k:Int)):=hpw.blk.cell 2;go_enter Tryz.func187,Tryz.ntmps187
 go_wp2_with fail
 generalize hW1:w.alloc (.cells #[.int .i64 0,.string ⟨#[]⟩,.int .i64 0,.int .i64 0,.slice none 0 0] 24)=W1
 have hb1:Below w.heap.size w W1:=by rw[<- hW1];exact af _ _
 have eD:ai W1 w.heap.size 24 #[.int .i64 0,.string ⟨#[]⟩,.int .i64 0,.int .i64 0,.slice none 0 0]:=by rw[<- hW1];exact ai.new w _ _
 have hs1:W1.heap.size=w.heap.size+1:=by rw[<- hW1];simp
 have hm1:=PM.of_below (E:=E) (v:=v) hb1;have h1:=hpw.below hb1;have P1:=hm1;have nV:=kH hs1;have xq:=kH hm1;clear hW1 hs1 hm1 hb1;have aM:Hid (jL E.bs E.l v.st=(aH E.l (cK E.l v.st) v.st.k 20 (cB E.bs E.l v.st) [],cK E.l v.st)):=kH rfl;refine(sS E hE v _ h1).mono ?_;rintro e w2 ⟨rfl,v2,hv2,h2,hm2⟩;have gD:=kH hv2;have hR2:=hm2.blk h1 eD;have P2:=P1.trans hm2;clear hv2 hm2;go_wp2_with fail
 refine(ig E hE v2 _ h2 v.st.k 20 (cB E.bs E.l v.st) (w.heap.size+1)).mono ?_;rintro e w3 ⟨rfl,hb3,j3⟩;have h3:=h2.below hb3;have df:=hR2.below hb3 hR2.lt;obtain⟨⟨r0,r1,r2,r3,r4⟩,g0,g1,g2,g3,g4⟩:=df.five;go_wp2_with fail
 have aV:=kH (bF (v:=v) h3 (P2.trans (PM.of_below hb3)) rfl df hgl j3);clear j3;refine bodyPost_ret (v:=.agg #[.int .i64 20,.string (aU (cB E.bs E.l v.st)),.int .i64 (bN E.l v2.st v.st.k []),.int .i64 (v2.st.last:Int),.slice none 0 0]) (by simp[results,Tryz.results187,go_sem,r0,r1,r2,r3,r4]) rfl ?_;exact Eq.mp (congrArg (fun r=>bq E w v r _ _) (show(aH E.l v2.st v.st.k 20 (cB E.bs E.l v.st) [],v2.st)=_ by rw[gD.out,aM.out])) aV.out
end Go.Proofs.YtoepemlnlpamlaaGreat
