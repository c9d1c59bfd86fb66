/- The law NamesStand holds: for every text and every number the law returns true, and its arguments read as before. No condition. Part 6: Par4 Par5 Par6. -/
import Derived.Test.YtoepemlnlpamlaaGreatStand05
set_option maxRecDepth 100000
set_option maxHeartbeats 4000000
namespace Go.Proofs.YtoepemlnlpamlaaGreat
open Go.RowKit
def zh(E:PE)(w:World)(v:PV)(st:PS)(w':World):Prop:=∃v',v'.st=st/\PW w' E v'/\PM E w v w' v'
theorem gI(E:PE)(hE:E.Ok)(v:PV)(x:bE)(w:World)(hpw:PW w E v):
 Calls Tryz.prog 128 #[.pointer (some ⟨E.gp,0,none⟩),.string (bI x)] w fun e w'=>e= .returned (.bool (bM E.bs E.l v.st x))/\zh E w v (bN E.bs E.l v.st x) w':=by
 have his:=yu E hE v x w hpw;unfold bN;obtain⟨b,hb⟩:∃b,bM E.bs E.l v.st x=b:=⟨_,rfl⟩
 rw[hb]at his⊢;have HIS:=kH his;have HB:=kH hb;clear his hb;cases b
 ·go_enter Tryz.func128,Tryz.ntmps128
  go_wp2_with fail
  refine HIS.out.mono ?_;rintro e w1 ⟨rfl,hb1⟩;go_wp2_with fail
  go_ret
  exact⟨rfl,v,rfl,hpw.below hb1,PM.of_below hb1⟩
 ·go_enter Tryz.func128,Tryz.ntmps128
  go_wp2_with fail
  refine HIS.out.mono ?_;rintro e w1 ⟨rfl,hb1⟩;go_wp2_with fail
  refine(qN E hE v w1 (hpw.below hb1) (fF HB.out)).mono ?_;rintro e w2 ⟨rfl,h2,hm2⟩;go_wp2_with fail
  go_ret
  exact⟨rfl,_,rfl,h2,(PM.of_below hb1).trans hm2⟩
theorem kR(E:PE)(hE:E.Ok)(v:PV)(x:bE)(w:World)(hpw:PW w E v):
 Calls Tryz.prog 126 #[.pointer (some ⟨E.gp,0,none⟩),.string (bI x)] w fun e w'=>e= .returned (.bool (bM E.bs E.l v.st x))/\zh E w v (aH E.bs E.l v.st x) w':=by
 have hac:=gI E hE v x w hpw;unfold bN at hac;unfold aH;obtain⟨b,hb⟩:∃b,bM E.bs E.l v.st x=b:=⟨_,rfl⟩
 rw[hb]at hac⊢;have CO:=kH hac;clear hac hb;cases b
 ·go_enter Tryz.func126,Tryz.ntmps126
  go_wp2_with fail
  refine CO.out.mono ?_;rintro e w1 ⟨rfl,v1,hv1,h1,hm1⟩;have hst:v1.st=v.st:=by simpa using hv1
  have HST:=kH hst;clear hv1 hst;go_wp2_with fail
  refine(rW E hE v1 4 x w1 h1).mono ?_;rintro e w2 ⟨⟨u,rfl⟩,v2,hv2,h2,hm2⟩;have iw:=kH hv2;clear hv2;go_wp2_with fail
  go_ret
  exact⟨rfl,v2,by rw[iw.out,HST.out],h2,hm1.trans hm2⟩
 ·go_enter Tryz.func126,Tryz.ntmps126
  go_wp2_with fail
  refine CO.out.mono ?_;rintro e w1 ⟨rfl,v1,hv1,h1,hm1⟩;have HST:=kH hv1;clear hv1;go_wp2_with fail
  go_ret
  exact⟨rfl,v1,HST.out,h1,hm1⟩
theorem tJ(E:PE)(hE:E.Ok)(v:PV)(w:World)(hpw:PW w E v):
 Calls Tryz.prog 125 #[.pointer (some ⟨E.gp,0,none⟩)] w fun e w'=>e= .returned (.string (bI (dF E.bs E.l v.st)))/\zh E w v (dG E.l v.st) w':=by
 have hkd:=pY E hE v w hpw;unfold dF dG;obtain⟨k,hk⟩:∃x,bP E.l v.st=x:=⟨_,rfl⟩
 rw[hk]at hkd⊢;have rE:=kH hkd;have HK:=kH hk;clear hkd hk;by_cases h0:k=0
 ·subst h0
  go_enter Tryz.func125,Tryz.ntmps125
  go_wp2_with fail
  refine rE.out.mono ?_;rintro e w1 ⟨rfl,hb1⟩;go_wp2_with fail
  refine(qN E hE v w1 (hpw.below hb1) (by rw[HK.out];decide)).mono ?_;rintro e w2 ⟨rfl,h2,hm2⟩;go_wp2_with fail
  go_ret
  exact⟨rfl,_,rfl,h2,(PM.of_below hb1).trans hm2⟩
 ·have hki:((k:Int)==0)=false:=by simp;omega
  have hkn:(k==0)=false:=by simp[h0]
  rw[if_neg h0,if_neg h0];clear h0;go_enter Tryz.func125,Tryz.ntmps125
  go_wp2_with fail
  refine rE.out.mono ?_;rintro e w1 ⟨rfl,hb1⟩;go_wp2_with fail
  refine(rW E hE v 4 [110,97,109,101] w1 (hpw.below hb1)).mono ?_;rintro e w2 ⟨⟨u,rfl⟩,v2,hv2,h2,hm2⟩;have iw:=kH hv2;clear hv2;go_wp2_with fail
  go_ret
  exact⟨rfl,v2,iw.out,h2,(PM.of_below hb1).trans hm2⟩
theorem bT.first{w:World}{lo:Nat}{A:Option Addr}{n c:Nat}{t:aa}{ts:List aa}(h:bT w lo (.slice A n c) n (t::ts)):∃b off,A=some ⟨b,off,none⟩/\b<w.heap.size/\w.cell? ⟨b,off+2,none⟩=some (.int .i64 t.at_):=by
 obtain⟨vals,h1,h2,h3⟩:=h;obtain⟨v,vs,rfl,hv,-⟩:=h2;have hn:0<n:=by rw[<- h3];simp
 obtain⟨g,off,cap,hs,-,-,-,hlt,hc⟩:=h1.form hn;cases hs
 refine⟨g,off,rfl,hlt,?_⟩
 cases t with
 | node k x a e kids=>
  obtain⟨A',c',vals',rfl,-⟩:=hv;exact hc 2 _ rfl
theorem IL(E:PE)(hE:E.Ok)(v:PV)(w:World)(hpw:PW w E v)(first:Nat)(kind:Int)(t:bE)(lo:Nat)(A:Option Addr)(n c:Nat)(ts:List aa)(hk:bT w lo (.slice A n c) n ts):
 Calls Tryz.prog 71 #[.pointer (some ⟨E.gp,0,none⟩),.int .i64 (first:Int),.int .i64 kind,.string (bI t),.slice A n c] w fun e w'=>e= .returned (.agg #[.int .i64 kind,.string (bI t),.int .i64 (bW E.l v.st first ts),.int .i64 (v.st.last:Int),.slice A n c])/\Below w.heap.size w w':=by
 obtain⟨b,off,hEA,hb,-,c1,c2,c3,-,-,-,-,-⟩:=hpw.open hE;have hgl:=hpw.blk.lt;obtain⟨a1,ha1⟩:∃x:Int,(if first<v.st.k then((iG E.l first).at_:Int) else(v.st.last:Int))=x:=⟨_,rfl⟩
 obtain⟨a2,ha2⟩:∃x,bW E.l v.st first ts=x:=⟨_,rfl⟩
 have gz:∀w':World,Below w.heap.size w w'->w'.cell? ⟨E.gp,1,none⟩=some (.slice (some ⟨b,off,none⟩) E.n E.c)/\w'.cell? ⟨E.gp,2,none⟩=some (.int .i64 (v.st.k:Int))/\w'.cell? ⟨E.gp,3,none⟩=some (.int .i64 (v.st.last:Int)):=fun w' hb'=>⟨(hb'.cell (p:=⟨E.gp,_,none⟩) hgl).trans c1,(hb'.cell (p:=⟨E.gp,_,none⟩) hgl).trans c2,(hb'.cell (p:=⟨E.gp,_,none⟩) hgl).trans c3⟩
 have gm:=kH gz;have HA1:=kH ha1;have HA2:=kH ha2;have HK:=kH hk;rw[ha2];clear gz ha1 ha2 hk;go_enter Tryz.func71,Tryz.ntmps71
 go_wp2_with fail
 generalize hW1:w.alloc (.cells #[.int .i64 0,.string ⟨#[]⟩,.int .i64 0,.int .i64 0,.slice none 0 0] 24)=W1
 have hb1:Below w.heap.size w W1:=by rw[<- hW1];(repeat (first|exact Below.refl _ _|assumption|refine Below.trans ?_ (Below.mono (by assumption) (by first|omega|(simp;done)|(simp;omega)))|refine Below.alloc ?_ (by first|omega|(simp;done)|(simp;omega)) _|refine Below.setCell ?_ (by first|omega|(simp;done)|(simp;omega)) _|refine Below.drew ?_|refine bq ?_ _))
 have hT1:ak W1 w.heap.size 24 #[.int .i64 0,.string ⟨#[]⟩,.int .i64 0,.int .i64 0,.slice none 0 0]:=by rw[<- hW1];exact ak.new w _ _
 have hs1:W1.heap.size=w.heap.size+1:=by rw[<- hW1];simp
 have hBd:Below w.heap.size w W1.drew:=hb1.drew;clear hW1;go_region_held3 (fun w'=>w'.cell? ⟨E.gp,1,none⟩=some (.slice (some ⟨b,off,none⟩) E.n E.c)/\w'.cell? ⟨E.gp,2,none⟩=some (.int .i64 (v.st.k:Int))/\w'.cell? ⟨E.gp,3,none⟩=some (.int .i64 (v.st.last:Int))) ((refine gm.out _ ?_;(repeat (first|exact Below.refl _ _|assumption|refine Below.trans ?_ (Below.mono (by assumption) (by first|omega|(simp;done)|(simp;omega)))|refine Below.alloc ?_ (by first|omega|(simp;done)|(simp;omega)) _|refine Below.setCell ?_ (by first|omega|(simp;done)|(simp;omega)) _|refine Below.drew ?_|refine bq ?_ _)))) (fail)
 generalize hW2:(W1.alloc (.cells #[.int .i64 kind,.string (bI t),.int .i64 (v.st.last:Int),.int .i64 (v.st.last:Int),.slice A n c] 24)).drew=W2
 have hb2:Below W1.heap.size W1 W2:=by rw[<- hW2];(repeat (first|exact Below.refl _ _|assumption|refine Below.trans ?_ (Below.mono (by assumption) (by first|omega|(simp;done)|(simp;omega)))|refine Below.alloc ?_ (by first|omega|(simp;done)|(simp;omega)) _|refine Below.setCell ?_ (by first|omega|(simp;done)|(simp;omega)) _|refine Below.drew ?_|refine bq ?_ _))
 have rf:ak W2 W1.heap.size 24 #[.int .i64 kind,.string (bI t),.int .i64 (v.st.last:Int),.int .i64 (v.st.last:Int),.slice A n c]:=by rw[<- hW2];exact(ak.new W1 _ _).drew
 have hR2:ak W2 w.heap.size 24 #[.int .i64 0,.string ⟨#[]⟩,.int .i64 0,.int .i64 0,.slice none 0 0]:=hT1.below hb2 hT1.lt;have hbw2:Below w.heap.size w W2:=hb1.trans (hb2.mono (by omega));rw[hs1]at rf;have hs2:=rf.lt;have hp2:=hpw.below hbw2;have H2:=kH hp2;have d1:=(hbw2.cell (p:=⟨E.gp,1,none⟩) hgl).trans c1;have d2:=(hbw2.cell (p:=⟨E.gp,2,none⟩) hgl).trans c2;have n2:=rf.cell 2;have f2:=rf.frozen 2;have vS:=kH rf;have HR2:=kH hR2;have zb:=kH hbw2;have hk2:=hpw.at_;clear hW2 rf hR2 hbw2 hb2 hs1 gm hT1 hb1 hBd c1 c2 c3 hpw hp2;obtain⟨lk,hlk⟩:∃lk,v.st.k=lk:=⟨_,rfl⟩
 obtain⟨la,hla⟩:∃la,v.st.last=la:=⟨_,rfl⟩
 rw[hlk]at d2 hk2;have HLK:=kH hlk;have SK:=kH hla;go_upto_if 29 with fail
 clear hlk hla;go_cut [] (fun wx=>ak wx (w.heap.size+1) 24 #[.int .i64 kind,.string (bI t),.int .i64 a1,.int .i64 (la:Int),.slice A n c]/\aA (fun g=>g=w.heap.size+1) W2 wx)
 case first=>
  by_cases hlt:first<lk
  ·have hlti:(first:Int)<(lk:Int):=by omega
   have hfn:(first:Int)<E.n:=by omega
   obtain⟨b',off',hA',hb',-,-,t2,-⟩:=H2.out.tok hE (k:=first) (by omega);rw[hEA]at hA';cases hA'
   have hat:((iG E.l first).at_:Int)=a1:=by rw[<- HA1.out,if_pos (by rw[HLK.out];exact hlt)]
   rw[hat]at t2;have MG:((w.heap.size+1==E.gp)=false):=by simp;omega
   clear hat;go_wp2_with fail
   go_meet
   exact⟨by have:=vS.out.gY 2 (.int .i64 a1);simpa [SK.out] using this,(aA.refl (fun g=>g=w.heap.size+1) W2).setCell (.inl rfl) _⟩
  ·have hlti:¬(first:Int)<(lk:Int):=by omega
   have hat:(la:Int)=a1:=by rw[<- HA1.out,if_neg (by rw[HLK.out];exact hlt),SK.out]
   have HAT:=kH hat;clear hat;go_wp2_with fail
   go_meet
   exact⟨by have:=vS.out;rw[SK.out]at this;rw[<- HAT.out];exact this,aA.refl _ _⟩
 case rest=>
  obtain⟨mr,sQ⟩:=hcut;have hb3:Below w.heap.size w wc:=zb.out.trans (sQ.toBelow (by omega) (by intro g hg;omega));have hs3:=sQ.size;have hK3:=HK.out.keeps (dB.of_below hb3);have dD:=HR2.out.since sQ (by omega);have HR3:=kH dD;have lG:=kH mr;have HB3:=kH hb3;have n0:=mr.cell 0;have n1:=mr.cell 1;have n2:=mr.cell 2;have n3:=mr.cell 3;have n4:=mr.cell 4;have f2:=mr.frozen 2;have r0:=dD.cell 0;have r1:=dD.cell 1;have r2:=dD.cell 2;have r3:=dD.cell 3;have r4:=dD.cell 4;have g0:=dD.frozen 0;have g1:=dD.frozen 1;have g2:=dD.frozen 2;have g3:=dD.frozen 3;have g4:=dD.frozen 4;obtain⟨wz,rfl⟩:∃wz:World,wz=wc:=⟨_,rfl⟩
  clear sQ hb3 dD mr
  cases ts with
  | nil=>
   have hn0:n=0:=by
    obtain⟨_,_,_,h3⟩:=hK3;exact h3.symm
   subst hn0
   have PH:a1=a2:=by
    rw[<- HA2.out,<- HA1.out];rfl
   have HA:=kH PH;have hg1:decide ((0:Int)<((0:Nat):Int))=false:=by simp
   clear PH hK3;go_wp2_with fail
   go_quiet (fail)
   go_wp2_with fail
   have ha:=HA.out;subst ha;rw[SK.out];refine bodyPost_ret (v:=.agg #[.int .i64 kind,.string (bI t),.int .i64 a1,.int .i64 (la:Int),.slice A 0 c]) (by simp[results,Tryz.results71,go_sem, *]) rfl ⟨rfl,(((((bq HB3.out _).setCell (aab _) _).setCell (aab _) _).setCell (aab _) _).setCell (aab _) _).setCell (aab _) _⟩
  | cons t0 ts=>
   obtain⟨kb,koff,rfl,hkb,hka⟩:=hK3.first
   have hn0:0<n:=by
    obtain⟨_,_,_,h3⟩:=hK3;rw[<- h3];simp
   have hg1:decide ((0:Int)<(n:Int))=true:=decide_eq_true (by omega);have hn0i:(0:Int)<(n:Int):=by omega
   have PH:(if t0.at_<a1 then t0.at_ else a1)=a2:=by
    rw[<- HA2.out,<- HA1.out];rfl
   have HA:=kH PH;clear PH hK3;by_cases hlt:t0.at_<a1
   ·have hlb:decide (t0.at_<a1)=true:=decide_eq_true hlt
    go_wp2_with fail
    go_quiet (fail)
    go_wp2_with fail
    have ha:=HA.out;rw[if_pos hlt]at ha;subst ha;rw[SK.out];refine bodyPost_ret (v:=.agg #[.int .i64 kind,.string (bI t),.int .i64 t0.at_,.int .i64 (la:Int),.slice (some ⟨kb,koff,none⟩) n c]) (by simp[results,Tryz.results71,go_sem, *]) rfl ⟨rfl,((((((bq HB3.out _).setCell (p:=⟨w.heap.size+1,2,none⟩) (Nat.le_succ _) _).setCell (aab _) _).setCell (aab _) _).setCell (aab _) _).setCell (aab _) _).setCell (aab _) _⟩
   ·have hlb:decide (t0.at_<a1)=false:=decide_eq_false hlt
    go_wp2_with fail
    go_quiet (fail)
    go_wp2_with fail
    have ha:=HA.out;rw[if_neg (by omega)]at ha;subst ha;rw[SK.out];refine bodyPost_ret (v:=.agg #[.int .i64 kind,.string (bI t),.int .i64 a1,.int .i64 (la:Int),.slice (some ⟨kb,koff,none⟩) n c]) (by simp[results,Tryz.results71,go_sem, *]) rfl ⟨rfl,(((((bq HB3.out _).setCell (aab _) _).setCell (aab _) _).setCell (aab _) _).setCell (aab _) _).setCell (aab _) _⟩
def bK(E:PE)(w:World)(v:PV)(r:aa×PS)(e:Ending)(w':World):Prop:=
 ∃k t a z A n c,e= .returned (.agg #[.int .i64 k,.string t,.int .i64 a,.int .i64 z,.slice A n c])/\aF w' (fun g=>w.heap.size<=g) r.1 [.int .i64 k,.string t,.int .i64 a,.int .i64 z,.slice A n c]/\zh E w v r.2 w'
theorem PM.blk{E:PE}{w w':World}{v v':PV}(hm:PM E w v w' v')(h:PW w E v){g:Nat}{cs:Array Value}(hb:ak w g 24 cs):ak w' g 24 cs:=
 hb.keep (hm.dZ (P:=fun _=>True) h g cs trivial hb)
theorem ak.five{w:World}{g:Nat}{ty:TypeId}{a b c d e:Value}(h:ak w g ty #[a,b,c,d,e]):
 (w.cell? ⟨g,0,none⟩=some a/\w.cell? ⟨g,1,none⟩=some b/\w.cell? ⟨g,2,none⟩=some c/\w.cell? ⟨g,3,none⟩=some d/\w.cell? ⟨g,4,none⟩=some e) /\
 (w.frozen? ⟨g,0,none⟩=false/\w.frozen? ⟨g,1,none⟩=false/\w.frozen? ⟨g,2,none⟩=false/\w.frozen? ⟨g,3,none⟩=false/\w.frozen? ⟨g,4,none⟩=false):=
 ⟨⟨h.cell 0,h.cell 1,h.cell 2,h.cell 3,h.cell 4⟩,h.frozen 0,h.frozen 1,h.frozen 2,h.frozen 3,h.frozen 4⟩
def bZ(w:World)(g:Nat)(a b c d e:Value):World:=((((w.setCell ⟨g,0,none⟩ a).setCell ⟨g,1,none⟩ b).setCell ⟨g,2,none⟩ c).setCell ⟨g,3,none⟩ d).setCell ⟨g,4,none⟩ e
theorem bO{E:PE}{w wz:World}{v v':PV}{t:aa}{st:PS}{k a z:Int}{x:ByteArray}{A:Option Addr}{n c:Nat}{cs:Array Value}(hz:PW wz E v')(hm:PM E w v wz v')(hst:v'.st=st)(hR:ak wz w.heap.size 24 cs)(hgl:E.gp<w.heap.size)
 (hT:aF wz (fun g=>w.heap.size+1<=g) t [.int .i64 k,.string x,.int .i64 a,.int .i64 z,.slice A n c]):
 bK E w v (t,st) (.returned (.agg #[.int .i64 k,.string x,.int .i64 a,.int .i64 z,.slice A n c])) (bZ wz w.heap.size (.int .i64 k) (.string x) (.int .i64 a) (.int .i64 z) (.slice A n c)):=by
 have hs:aA (fun g=>g=w.heap.size) wz (bZ wz w.heap.size (.int .i64 k) (.string x) (.int .i64 a) (.int .i64 z) (.slice A n c)):=by
  unfold bZ;exact(((((aA.refl (fun g=>g=w.heap.size) wz).setCell (.inl rfl) _).setCell (.inl rfl) _).setCell (.inl rfl) _).setCell (.inl rfl) _).setCell (.inl rfl) _
 have hk:dB (fun g=>w.heap.size+1<=g) wz (bZ wz w.heap.size (.int .i64 k) (.string x) (.int .i64 a) (.int .i64 z) (.slice A n c)):=fun g _ hP hc=>hs.block g (aae.1 hc).1 (by omega)
 refine⟨k,x,a,z,A,n,c,rfl,aF.weak (fun g _ hg=>by omega) _ _ (aF.keeps hk _ _ hT),v',hst,⟨hz.blk.since hs (by omega),hz.own.since hs (fun g hg e1=>hz.own.fe hR (by decide) (by rw[hg,e1])),hz.toks.since hs (fun g hg e1=>hz.toks.fe hR (by decide) (by rw[hg,e1])),hz.at_,hz.good,hz.last⟩,hm.since.step hs (fun g hg=>.inr (by omega)),hm.fresh⟩
theorem iM(E:PE)(hE:E.Ok)(v:PV)(w:World)(hpw:PW w E v)(first:Nat)(kind:Int)(t:bE)(lo:Nat):
 Calls Tryz.prog 71 #[.pointer (some ⟨E.gp,0,none⟩),.int .i64 (first:Int),.int .i64 kind,.string (bI t),.slice none 0 0] w fun e w'=>e= .returned (.agg #[.int .i64 kind,.string (bI t),.int .i64 (bW E.l v.st first []),.int .i64 (v.st.last:Int),.slice none 0 0])/\Below w.heap.size w w'/\aF w' (fun g=>lo<=g) (aI E.l v.st first kind t []) [.int .i64 kind,.string (bI t),.int .i64 (bW E.l v.st first []),.int .i64 (v.st.last:Int),.slice none 0 0]:=by
 refine(IL E hE v w hpw first kind t lo none 0 0 [] (bT.nil w lo)).mono ?_;rintro e w' ⟨rfl,hb⟩;exact⟨rfl,hb,(bT.nil w' lo).node _ _ _ _⟩
theorem LW{E:PE}(hE:E.Ok)(k:Nat):(bI (bR E.bs E.l k)).size<=4096:=by
 have h1:(bI (bR E.bs E.l k)).size=(bR E.bs E.l k).length:=by simp[bI,ByteArray.size]
 have h2:=hE.size;have h3:E.bs.length=E.s.size:=by unfold PE.bs;simp
 rw[h1];unfold bR Bp tC;simp only[List.length_take,List.length_drop];omega
theorem typ_any(E:PE)(hE:E.Ok)(v:PV)(w:World)(hpw:PW w E v):Calls Tryz.prog 182 #[.pointer (some ⟨E.gp,0,none⟩)] w (bK E w v (qU E.bs E.l v.st)):=by
 have hgl:=hpw.blk.lt;have hk2:w.cell? ⟨E.gp,2,none⟩=some (.int .i64 (v.st.k:Int)):=hpw.blk.cell 2;go_enter Tryz.func182,Tryz.ntmps182
 go_wp2_with fail
 generalize hW1:w.alloc (.cells #[.int .i64 0,.string ⟨#[]⟩,.int .i64 0,.int .i64 0,.slice none 0 0] 24)=W1
 have hb1:Below w.heap.size w W1:=by rw[<- hW1];exact ae _ _
 have eP:ak W1 w.heap.size 24 #[.int .i64 0,.string ⟨#[]⟩,.int .i64 0,.int .i64 0,.slice none 0 0]:=by rw[<- hW1];exact ak.new w _ _
 have hs1:W1.heap.size=w.heap.size+1:=by rw[<- hW1];simp
 have hm1:=PM.of_below (E:=E) (v:=v) hb1;have h1:=hpw.below hb1;have P1:=hm1;have pJ:=kH hs1;have xB:=kH hm1;clear hW1 hs1 hm1 hb1;by_cases BD:bM E.bs E.l v.st [98,111,111,108]=true
 ·have aV:Hid (qU E.bs E.l v.st=(aI E.l (aC E.l v.st) v.st.k 9 [98,111,111,108] [],aC E.l v.st)):=kH (by unfold qU;rw[if_pos BD])
  have CO:Hid (bN E.bs E.l v.st [98,111,111,108]=aC E.l v.st):=kH (by unfold bN;rw[if_pos BD]);have Lb:=kH BD;clear BD;refine(gI E hE v [98,111,111,108] _ h1).mono ?_;rintro e w2 ⟨rfl,v2,hv2,h2,hm2⟩;rw[Lb.out];have iw:=kH hv2;have hR2:=hm2.blk h1 eP;have P2:=P1.trans hm2;clear hv2 hm2;rw[CO.out]at iw;go_wp2_with fail
  refine(iM E hE v2 _ h2 v.st.k 9 [98,111,111,108] (w.heap.size+1)).mono ?_;rintro e w3 ⟨rfl,hb3,kK⟩;have h3:=h2.below hb3;have dD:=hR2.below hb3 hR2.lt;obtain⟨⟨r0,r1,r2,r3,r4⟩,g0,g1,g2,g3,g4⟩:=dD.five;go_wp2_with fail
  have bC:=kH (bO (v:=v) h3 (P2.trans (PM.of_below hb3)) rfl dD hgl kK);clear kK;refine bodyPost_ret (v:=.agg #[.int .i64 9,.string (bI [98,111,111,108]),.int .i64 (bW E.l v2.st v.st.k []),.int .i64 (v2.st.last:Int),.slice none 0 0]) (by simp[results,Tryz.results182,go_sem,r0,r1,r2,r3,r4]) rfl ?_;exact Eq.mp (congrArg (fun r=>bK E w v r _ _) (show(aI E.l v2.st v.st.k 9 [98,111,111,108] [],v2.st)=_ by rw[iw.out,aV.out])) bC.out
 have hb0:bM E.bs E.l v.st [98,111,111,108]=false:=by simpa using BD
 have CO:Hid (bN E.bs E.l v.st [98,111,111,108]=v.st):=kH (by unfold bN;rw[if_neg BD]);have Lb:=kH hb0;have lV:=kH BD;clear BD hb0;refine(gI E hE v [98,111,111,108] _ h1).mono ?_;rintro e w2 ⟨rfl,v2,hv2,h2,hm2⟩;rw[Lb.out];have iw:=kH hv2;have hR2:=hm2.blk h1 eP;have P2:=P1.trans hm2;clear hv2 hm2;rw[CO.out]at iw;go_wp2_with fail
 by_cases hint:bM E.bs E.l v.st [105,110,116]=true
 ·have Bn:Hid (bM E.bs E.l v2.st [105,110,116]=true):=kH (by rw[iw.out];exact hint)
  have HAI:Hid (bN E.bs E.l v2.st [105,110,116]=aC E.l v.st):=kH (by rw[iw.out];unfold bN;rw[if_pos hint]);refine(gI E hE v2 [105,110,116] _ h2).mono ?_;rintro e w3 ⟨rfl,v3,hv3,h3,eH⟩;rw[Bn.out];have fU:=kH hv3;have dD:=eH.blk h2 hR2;have P3:=P2.trans eH;clear hv3 eH;rw[HAI.out]at fU;have LJ:=kH hint;clear hint;go_wp2_with fail
  by_cases hbr:bM E.bs E.l (aC E.l v.st) [91]=true
  ·have qm:Hid (bM E.bs E.l v3.st [91]=true):=kH (by rw[fU.out];exact hbr)
   have En:Hid (bN E.bs E.l v3.st [91]=aC E.l (aC E.l v.st)):=kH (by rw[fU.out];unfold bN;rw[if_pos hbr]);refine(gI E hE v3 [91] _ h3).mono ?_;rintro e w4 ⟨rfl,v4,hv4,h4,iI⟩;rw[qm.out];have iY:=kH hv4;have fB:=iI.blk h3 dD;have P4:=P3.trans iI;clear hv4 iI;rw[En.out]at iY;have Vs:=kH hbr;clear hbr;go_wp2_with fail
   have hkd:=pY E hE v4 _ h4;rw[iY.out]at hkd;obtain⟨k,hk⟩:∃x,bP E.l (aC E.l (aC E.l v.st))=x:=⟨_,rfl⟩
   rw[hk]at hkd;have HK:=kH hk;have rE:=kH hkd;clear hk hkd;by_cases UZ:k=2
   ·subst UZ
    refine rE.out.mono ?_;rintro e w5 ⟨rfl,hb5⟩;have h5:=h4.below hb5;have fK:=fB.below hb5 fB.lt;have P5:=P4.trans (PM.of_below hb5);go_wp2_with fail
    refine(qN E hE v4 _ h5 (by rw[iY.out,HK.out];decide)).mono ?_;rintro e w6 ⟨rfl,h6,dM⟩;have fI:=dM.blk h5 fK;have P6:=P5.trans dM;obtain⟨v6,hv6⟩:∃v6:PV,(⟨aC E.l v4.st,v4.lv⟩:PV)=v6:=⟨_,rfl⟩
    rw[hv6]at h6 P6;have lU:Hid (v6.st=aC E.l (aC E.l (aC E.l v.st))):=kH (by rw[<- hv6,iY.out]);clear hv6 dM;go_wp2_with fail
    refine(Kv (bI (bR E.bs E.l v4.st.k)) _ (LW hE _)).mono ?_;rintro e w7 ⟨rfl,rfl⟩;have hdt:bI (gV (bI (bR E.bs E.l v4.st.k)).data.toList)=bI (gV (bR E.bs E.l (aC E.l (aC E.l v.st)).k)):=by rw[iY.out];rfl
    rw[hdt];clear hdt;go_wp2_with fail
    refine(kR E hE v6 [93] _ h6).mono ?_;rintro e w8 ⟨rfl,v8,eX,h8,ed⟩;have ic:=kH eX;have eB:=ed.blk h6 fI;have P8:=P6.trans ed;clear eX ed;rw[lU.out]at ic;go_wp2_with fail
    have aV:Hid (qU E.bs E.l v.st=(aI E.l (aH E.bs E.l (aC E.l (aC E.l (aC E.l v.st))) [93]) v.st.k 10 (gV (bR E.bs E.l (aC E.l (aC E.l v.st)).k)) [],aH E.bs E.l (aC E.l (aC E.l (aC E.l v.st))) [93])):=kH (by
     unfold qU;rw[if_neg lV.out,if_pos LJ.out];simp only;rw[if_pos Vs.out]
     rw[HK.out,if_pos rfl,if_pos rfl])
    refine(iM E hE v8 _ h8 v.st.k 10 (gV (bR E.bs E.l (aC E.l (aC E.l v.st)).k)) (w.heap.size+1)).mono ?_;rintro e w9 ⟨rfl,ek,om⟩;have h9:=h8.below ek;have fA:=eB.below ek eB.lt;obtain⟨⟨r0,r1,r2,r3,r4⟩,g0,g1,g2,g3,g4⟩:=fA.five;go_wp2_with fail
    have bC:=kH (bO (v:=v) h9 (P8.trans (PM.of_below ek)) rfl fA hgl om);clear om;refine bodyPost_ret (v:=.agg #[.int .i64 10,.string (bI (gV (bR E.bs E.l (aC E.l (aC E.l v.st)).k))),.int .i64 (bW E.l v8.st v.st.k []),.int .i64 (v8.st.last:Int),.slice none 0 0]) (by simp[results,Tryz.results182,go_sem,r0,r1,r2,r3,r4]) rfl ?_;exact Eq.mp (congrArg (fun r=>bK E w v r _ _) (show(aI E.l v8.st v.st.k 10 (gV (bR E.bs E.l (aC E.l (aC E.l v.st)).k)) [],v8.st)=_ by rw[ic.out,aV.out])) bC.out
   ·have hki:((k:Int)==2)=false:=by simp;omega
    have hkn:(k==2)=false:=by simp[UZ]
    refine rE.out.mono ?_;rintro e w5 ⟨rfl,hb5⟩;have h5:=h4.below hb5;have fK:=fB.below hb5 fB.lt;have P5:=P4.trans (PM.of_below hb5);go_wp2_with fail
    refine(rW E hE v4 4 [110,117,109,98,101,114] _ h5).mono ?_;rintro e w6 ⟨⟨u6,rfl⟩,v6,hv6,h6,dM⟩;have lU:=kH hv6;rw[iY.out]at lU;have fI:=dM.blk h5 fK;have P6:=P5.trans dM;clear hv6 dM;go_wp2_with fail
    refine(kR E hE v6 [93] _ h6).mono ?_;rintro e w8 ⟨rfl,v8,eX,h8,ed⟩;have ic:=kH eX;have eB:=ed.blk h6 fI;have P8:=P6.trans ed;clear eX ed;rw[lU.out]at ic;go_wp2_with fail
    have aV:Hid (qU E.bs E.l v.st=(aI E.l (aH E.bs E.l (iK E.l (aC E.l (aC E.l v.st)) 4 [110,117,109,98,101,114]) [93]) v.st.k 10 [] [],aH E.bs E.l (iK E.l (aC E.l (aC E.l v.st)) 4 [110,117,109,98,101,114]) [93])):=kH (by
     unfold qU;rw[if_neg lV.out,if_pos LJ.out];simp only;rw[if_pos Vs.out]
     rw[HK.out,if_neg UZ,if_neg UZ])
    refine(iM E hE v8 _ h8 v.st.k 10 [] (w.heap.size+1)).mono ?_;rintro e w9 ⟨rfl,ek,om⟩;have h9:=h8.below ek;have fA:=eB.below ek eB.lt;obtain⟨⟨r0,r1,r2,r3,r4⟩,g0,g1,g2,g3,g4⟩:=fA.five;go_wp2_with fail
    have bC:=kH (bO (v:=v) h9 (P8.trans (PM.of_below ek)) rfl fA hgl om);clear om;refine bodyPost_ret (v:=.agg #[.int .i64 10,.string (bI []),.int .i64 (bW E.l v8.st v.st.k []),.int .i64 (v8.st.last:Int),.slice none 0 0]) (by simp[results,Tryz.results182,go_sem,r0,r1,r2,r3,r4]) rfl ?_;exact Eq.mp (congrArg (fun r=>bK E w v r _ _) (show(aI E.l v8.st v.st.k 10 [] [],v8.st)=_ by rw[ic.out,aV.out])) bC.out
  ·have Lu:bM E.bs E.l (aC E.l v.st) [91]=false:=by simpa using hbr
   have qm:Hid (bM E.bs E.l v3.st [91]=false):=kH (by rw[fU.out];exact Lu);have En:Hid (bN E.bs E.l v3.st [91]=aC E.l v.st):=kH (by rw[fU.out];unfold bN;rw[if_neg hbr]);have Vs:=kH hbr;clear hbr Lu;refine(gI E hE v3 [91] _ h3).mono ?_;rintro e w4 ⟨rfl,v4,hv4,h4,iI⟩;rw[qm.out];have iY:=kH hv4;have fB:=iI.blk h3 dD;have P4:=P3.trans iI;clear hv4 iI;rw[En.out]at iY;go_wp2_with fail
   have aV:Hid (qU E.bs E.l v.st=(aI E.l (aC E.l v.st) v.st.k 9 [105,110,116] [],aC E.l v.st)):=kH (by
    unfold qU;rw[if_neg lV.out,if_pos LJ.out];simp only
    rw[if_neg Vs.out])
   refine(iM E hE v4 _ h4 v.st.k 9 [105,110,116] (w.heap.size+1)).mono ?_;rintro e w5 ⟨rfl,hb5,jH⟩;have h5:=h4.below hb5;have fK:=fB.below hb5 fB.lt;obtain⟨⟨r0,r1,r2,r3,r4⟩,g0,g1,g2,g3,g4⟩:=fK.five;go_wp2_with fail
   have bC:=kH (bO (v:=v) h5 (P4.trans (PM.of_below hb5)) rfl fK hgl jH);clear jH;refine bodyPost_ret (v:=.agg #[.int .i64 9,.string (bI [105,110,116]),.int .i64 (bW E.l v4.st v.st.k []),.int .i64 (v4.st.last:Int),.slice none 0 0]) (by simp[results,Tryz.results182,go_sem,r0,r1,r2,r3,r4]) rfl ?_;exact Eq.mp (congrArg (fun r=>bK E w v r _ _) (show(aI E.l v4.st v.st.k 9 [105,110,116] [],v4.st)=_ by rw[iY.out,aV.out])) bC.out
 ·have hint0:bM E.bs E.l v.st [105,110,116]=false:=by simpa using hint
  have Bn:Hid (bM E.bs E.l v2.st [105,110,116]=false):=kH (by rw[iw.out];exact hint0);have HAI:Hid (bN E.bs E.l v2.st [105,110,116]=v.st):=kH (by rw[iw.out];unfold bN;rw[if_neg hint]);have LJ:=kH hint;clear hint hint0;refine(gI E hE v2 [105,110,116] _ h2).mono ?_;rintro e w3 ⟨rfl,v3,hv3,h3,eH⟩;rw[Bn.out];have fU:=kH hv3;have dD:=eH.blk h2 hR2;have P3:=P2.trans eH;clear hv3 eH;rw[HAI.out]at fU;go_wp2_with fail
  have hkd:=pY E hE v3 _ h3;rw[fU.out]at hkd;obtain⟨k,hk⟩:∃x,bP E.l v.st=x:=⟨_,rfl⟩
  rw[hk]at hkd;have HK:=kH hk;have rE:=kH hkd;clear hk hkd;by_cases hk0:k=0
  ·subst hk0
   refine rE.out.mono ?_;rintro e w4 ⟨rfl,hb4⟩;have h4:=h3.below hb4;have fB:=dD.below hb4 dD.lt;have P4:=P3.trans (PM.of_below hb4);go_wp2_with fail
   refine(qN E hE v3 _ h4 (by rw[fU.out,HK.out];decide)).mono ?_;rintro e w6 ⟨rfl,h6,dM⟩;have fI:=dM.blk h4 fB;have P6:=P4.trans dM;obtain⟨v6,hv6⟩:∃v6:PV,(⟨aC E.l v3.st,v3.lv⟩:PV)=v6:=⟨_,rfl⟩
   rw[hv6]at h6 P6;have lU:Hid (v6.st=aC E.l v.st):=kH (by rw[<- hv6,fU.out]);have hwd:bR E.bs E.l v3.st.k=bR E.bs E.l v.st.k:=by rw[fU.out]
   rw[hwd];clear hv6 dM hwd;go_wp2_with fail
   have aV:Hid (qU E.bs E.l v.st=(aI E.l (aC E.l v.st) v.st.k 9 (bR E.bs E.l v.st.k) [],aC E.l v.st)):=kH (by
    unfold qU
    rw[if_neg lV.out,if_neg LJ.out,if_pos HK.out])
   refine(iM E hE v6 _ h6 v.st.k 9 (bR E.bs E.l v.st.k) (w.heap.size+1)).mono ?_;rintro e w7 ⟨rfl,dQ,lQ⟩;have h7:=h6.below dQ;have fH:=fI.below dQ fI.lt;obtain⟨⟨r0,r1,r2,r3,r4⟩,g0,g1,g2,g3,g4⟩:=fH.five;go_wp2_with fail
   have bC:=kH (bO (v:=v) h7 (P6.trans (PM.of_below dQ)) rfl fH hgl lQ);clear lQ;refine bodyPost_ret (v:=.agg #[.int .i64 9,.string (bI (bR E.bs E.l v.st.k)),.int .i64 (bW E.l v6.st v.st.k []),.int .i64 (v6.st.last:Int),.slice none 0 0]) (by simp[results,Tryz.results182,go_sem,r0,r1,r2,r3,r4]) rfl ?_;exact Eq.mp (congrArg (fun r=>bK E w v r _ _) (show(aI E.l v6.st v.st.k 9 (bR E.bs E.l v.st.k) [],v6.st)=_ by rw[lU.out,aV.out])) bC.out
  ·have hki:((k:Int)==0)=false:=by simp;omega
   have hkn:(k==0)=false:=by simp[hk0]
   refine rE.out.mono ?_;rintro e w4 ⟨rfl,hb4⟩;have h4:=h3.below hb4;have fB:=dD.below hb4 dD.lt;have P4:=P3.trans (PM.of_below hb4);go_wp2_with fail
   refine(rW E hE v3 4 [116,121,112,101] _ h4).mono ?_;rintro e w6 ⟨⟨u6,rfl⟩,v6,hv6,h6,dM⟩;have lU:=kH hv6;rw[fU.out]at lU;have fI:=dM.blk h4 fB;have P6:=P4.trans dM;clear hv6 dM;go_wp2_with fail
   have aV:Hid (qU E.bs E.l v.st=(aI E.l (iK E.l v.st 4 [116,121,112,101]) v.st.k 1 [] [],iK E.l v.st 4 [116,121,112,101])):=kH (by
    unfold qU
    rw[if_neg lV.out,if_neg LJ.out,if_neg (by rw[HK.out];exact hk0)])
   refine(iM E hE v6 _ h6 v.st.k 1 [] (w.heap.size+1)).mono ?_;rintro e w7 ⟨rfl,dQ,lQ⟩;have h7:=h6.below dQ;have fH:=fI.below dQ fI.lt;obtain⟨⟨r0,r1,r2,r3,r4⟩,g0,g1,g2,g3,g4⟩:=fH.five;go_wp2_with fail
   have bC:=kH (bO (v:=v) h7 (P6.trans (PM.of_below dQ)) rfl fH hgl lQ);clear lQ;refine bodyPost_ret (v:=.agg #[.int .i64 1,.string (bI []),.int .i64 (bW E.l v6.st v.st.k []),.int .i64 (v6.st.last:Int),.slice none 0 0]) (by simp[results,Tryz.results182,go_sem,r0,r1,r2,r3,r4]) rfl ?_;exact Eq.mp (congrArg (fun r=>bK E w v r _ _) (show(aI E.l v6.st v.st.k 1 [] [],v6.st)=_ by rw[lU.out,aV.out])) bC.out
theorem wF(E:PE)(hE:E.Ok)(v:PV)(w:World)(hpw:PW w E v):Calls Tryz.prog 130 #[.pointer (some ⟨E.gp,0,none⟩)] w (bK E w v (jb E.bs E.l v.st)):=by
 have hgl:=hpw.blk.lt;go_enter Tryz.func130,Tryz.ntmps130
 go_wp2_with fail
 generalize hW1:w.alloc (.cells #[.int .i64 0,.string ⟨#[]⟩,.int .i64 0,.int .i64 0,.slice none 0 0] 24)=W1
 have hb1:Below w.heap.size w W1:=by rw[<- hW1];exact ae _ _
 have eP:ak W1 w.heap.size 24 #[.int .i64 0,.string ⟨#[]⟩,.int .i64 0,.int .i64 0,.slice none 0 0]:=by rw[<- hW1];exact ak.new w _ _
 have hs1:W1.heap.size=w.heap.size+1:=by rw[<- hW1];simp
 have hm1:=PM.of_below (E:=E) (v:=v) hb1;have h1:=hpw.below hb1;have P1:=hm1;have pJ:=kH hs1;have xB:=kH hm1;clear hW1 hs1 hm1 hb1;by_cases hc:bM E.bs E.l v.st [58]=true
 ·have aV:Hid (jb E.bs E.l v.st=qU E.bs E.l (aC E.l v.st)):=kH (by unfold jb;rw[if_pos hc])
  have CO:Hid (bN E.bs E.l v.st [58]=aC E.l v.st):=kH (by unfold bN;rw[if_pos hc]);have Lb:=kH hc;clear hc;refine(gI E hE v [58] _ h1).mono ?_;rintro e w2 ⟨rfl,v2,hv2,h2,hm2⟩;rw[Lb.out];have iw:=kH hv2;have hR2:=hm2.blk h1 eP;have P2:=P1.trans hm2;clear hv2 hm2;rw[CO.out]at iw;go_wp2_with fail
  refine(typ_any E hE v2 _ h2).mono ?_;rintro e w3 ⟨k3,t3,a3,z3,A3,n3,c3,rfl,kK,v3,hv3,h3,eH⟩;have fU:=kH hv3;have dD:=eH.blk h2 hR2;have P3:=P2.trans eH;replace kK:=aF.weak (Q:=fun g=>w.heap.size+1<=g) (fun g _ hg=>aac hR2.lt hg) _ _ kK
  clear hv3;rw[iw.out]at fU kK;obtain⟨⟨r0,r1,r2,r3,r4⟩,g0,g1,g2,g3,g4⟩:=dD.five;go_wp2_with fail
  have bC:=kH (bO (v:=v) h3 P3 rfl dD hgl kK);clear kK;rw[fU.out]at bC;refine bodyPost_ret (v:=.agg #[.int .i64 k3,.string t3,.int .i64 a3,.int .i64 z3,.slice A3 n3 c3]) (by simp[results,Tryz.results130,go_sem,r0,r1,r2,r3,r4]) rfl ?_;try rw[aV.out]
  exact bC.out
 ·have hc0:bM E.bs E.l v.st [58]=false:=by simpa using hc
  have aV:Hid (jb E.bs E.l v.st=(aI E.l v.st v.st.k 0 [] [],v.st)):=kH (by unfold jb;rw[if_neg hc]);have CO:Hid (bN E.bs E.l v.st [58]=v.st):=kH (by unfold bN;rw[if_neg hc]);have Lb:=kH hc0;clear hc hc0;refine(gI E hE v [58] _ h1).mono ?_;rintro e w2 ⟨rfl,v2,hv2,h2,hm2⟩;rw[Lb.out];have iw:=kH hv2;have hR2:=hm2.blk h1 eP;have P2:=P1.trans hm2;clear hv2 hm2;rw[CO.out]at iw;have hkc:w2.cell? ⟨E.gp,2,none⟩=some (.int .i64 (v2.st.k:Int)):=h2.blk.cell 2;have hks:v2.st.k=v.st.k:=by rw[iw.out]
  rw[hks]at hkc;clear hks;go_wp2_with fail
  refine(iM E hE v2 _ h2 v.st.k 0 [] (w.heap.size+1)).mono ?_;rintro e w3 ⟨rfl,hb3,kK⟩;have h3:=h2.below hb3;have dD:=hR2.below hb3 hR2.lt;obtain⟨⟨r0,r1,r2,r3,r4⟩,g0,g1,g2,g3,g4⟩:=dD.five;go_wp2_with fail
  have bC:=kH (bO (v:=v) h3 (P2.trans (PM.of_below hb3)) rfl dD hgl kK);clear kK;refine bodyPost_ret (v:=.agg #[.int .i64 0,.string (bI []),.int .i64 (bW E.l v2.st v.st.k []),.int .i64 (v2.st.last:Int),.slice none 0 0]) (by simp[results,Tryz.results130,go_sem,r0,r1,r2,r3,r4]) rfl ?_;exact Eq.mp (congrArg (fun r=>bK E w v r _ _) (show(aI E.l v2.st v.st.k 0 [] [],v2.st)=_ by rw[iw.out,aV.out])) bC.out
theorem Ew(E:PE)(hE:E.Ok)(v:PV)(w:World)(hpw:PW w E v):Calls Tryz.prog 187 #[.pointer (some ⟨E.gp,0,none⟩)] w (bK E w v (kW E.bs E.l v.st)):=by
 have hgl:=hpw.blk.lt;have hk2:w.cell? ⟨E.gp,2,none⟩=some (.int .i64 (v.st.k:Int)):=hpw.blk.cell 2;go_enter Tryz.func187,Tryz.ntmps187
 go_wp2_with fail
 generalize hW1:w.alloc (.cells #[.int .i64 0,.string ⟨#[]⟩,.int .i64 0,.int .i64 0,.slice none 0 0] 24)=W1
 have hb1:Below w.heap.size w W1:=by rw[<- hW1];exact ae _ _
 have eP:ak W1 w.heap.size 24 #[.int .i64 0,.string ⟨#[]⟩,.int .i64 0,.int .i64 0,.slice none 0 0]:=by rw[<- hW1];exact ak.new w _ _
 have hs1:W1.heap.size=w.heap.size+1:=by rw[<- hW1];simp
 have hm1:=PM.of_below (E:=E) (v:=v) hb1;have h1:=hpw.below hb1;have P1:=hm1;have pJ:=kH hs1;have xB:=kH hm1;clear hW1 hs1 hm1 hb1;have aV:Hid (kW E.bs E.l v.st=(aI E.l (dG E.l v.st) v.st.k 20 (dF E.bs E.l v.st) [],dG E.l v.st)):=kH rfl;refine(tJ E hE v _ h1).mono ?_;rintro e w2 ⟨rfl,v2,hv2,h2,hm2⟩;have iw:=kH hv2;have hR2:=hm2.blk h1 eP;have P2:=P1.trans hm2;clear hv2 hm2;go_wp2_with fail
 refine(iM E hE v2 _ h2 v.st.k 20 (dF E.bs E.l v.st) (w.heap.size+1)).mono ?_;rintro e w3 ⟨rfl,hb3,kK⟩;have h3:=h2.below hb3;have dD:=hR2.below hb3 hR2.lt;obtain⟨⟨r0,r1,r2,r3,r4⟩,g0,g1,g2,g3,g4⟩:=dD.five;go_wp2_with fail
 have bC:=kH (bO (v:=v) h3 (P2.trans (PM.of_below hb3)) rfl dD hgl kK);clear kK;refine bodyPost_ret (v:=.agg #[.int .i64 20,.string (bI (dF E.bs E.l v.st)),.int .i64 (bW E.l v2.st v.st.k []),.int .i64 (v2.st.last:Int),.slice none 0 0]) (by simp[results,Tryz.results187,go_sem,r0,r1,r2,r3,r4]) rfl ?_;exact Eq.mp (congrArg (fun r=>bK E w v r _ _) (show(aI E.l v2.st v.st.k 20 (dF E.bs E.l v.st) [],v2.st)=_ by rw[iw.out,aV.out])) bC.out
end Go.Proofs.YtoepemlnlpamlaaGreat
