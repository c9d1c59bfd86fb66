/- The law NamesBack holds for every text and every number: it returns true, and its arguments read as before. No condition. Part 8: Par7 Par8 Par9 ParA ParB ParC. -/
import Derived.Test.YtoepemlnlpamlaaGreatBakk07
set_option maxRecDepth 100000
set_option maxHeartbeats 4000000
namespace Go.Proofs.YtoepemlnlpamlaaGreat
open Go.RowKit
theorem dN(E:PE)(hE:E.Ok)(v:PV)(w:World)(hpw:PW w E v)(first:Nat)(kind:Int)(t:aP)(lo:Nat)(A:Option Addr)(n c:Nat)(ts:List aa)(hk:bL w lo (.slice A n c) n ts):
 Calls Tryz.prog 71 #[.pointer (some ⟨E.gp,0,none⟩),.int .i64 (first:Int),.int .i64 kind,.string (aU t),.slice A n c] w fun e w'=>e= .returned (.agg #[.int .i64 kind,.string (aU t),.int .i64 (bN E.l v.st first ts),.int .i64 (v.st.last:Int),.slice A n c])/\Below w.heap.size w w'/\aB w' (fun g=>lo<=g) (aH E.l v.st first kind t ts) [.int .i64 kind,.string (aU t),.int .i64 (bN E.l v.st first ts),.int .i64 (v.st.last:Int),.slice A n c]:=by
 refine(II E hE v w hpw first kind t lo A n c ts hk).mono ?_;rintro e w' ⟨rfl,hb⟩;exact⟨rfl,hb,(hk.keeps (bO.of_below hb)).node _ _ _ _⟩
theorem IM{w:World}{lo:Nat}{ts:List aa}{vals:List (List Value)}(h:bM w (fun g=>lo<=g) ts vals)(hlo:lo<=w.heap.size)(hm:ts.length<=1000):
 bL (w.alloc (.cells (List.flatten vals).toArray 24)) lo (.slice (some ⟨w.heap.size,0,none⟩) ts.length ts.length) ts.length ts:=by
 have hl:=(bM.lens h).2;refine⟨vals,?_,?_,rfl⟩
 ·have:=aL.block (base:=lo) (e:=24) (size:=5) (n:=ts.length) hlo (ai.new w 24 (List.flatten vals).toArray) (by simp only[maxLen];omega) (by simpa using hl)
  simpa using this
 ·refine bM.keeps (w:=w) (fun g _ _ hc=>Below.heap_alloc w _ g (aaG.1 hc).1) _ _ (bM.weak (fun g hg hP=>⟨hP,fun e1=>?_⟩) _ _ h)
  have:g=w.heap.size:=by simpa [Value.ownBlock] using e1
  omega
theorem jQ{w:World}{lo:Nat}{t:aa}{a b c d e:Value}(h:aB w (fun g=>lo<=g) t [a,b,c,d,e])(hlo:lo<=w.heap.size):
 bL (w.alloc (.cells #[a,b,c,d,e] 24)) lo (.slice (some ⟨w.heap.size,0,none⟩) 1 1) 1 [t]:=
 IM (ts:=[t]) (vals:=[[a,b,c,d,e]]) ⟨_,_,rfl,h,rfl⟩ hlo (by simp)
theorem Dv(E:PE)(hE:E.Ok)(v:PV)(w:World)(hpw:PW w E v):Calls Tryz.prog 181 #[.pointer (some ⟨E.gp,0,none⟩)] w (bq E w v (fH E.bs E.l v.st)):=by
 have hgl:=hpw.blk.lt;have hk2:w.cell? ⟨E.gp,2,none⟩=some (.int .i64 (v.st.k:Int)):=hpw.blk.cell 2;go_enter Tryz.func181,Tryz.ntmps181
 go_wp2_with fail
 generalize hW1:w.alloc (.cells #[.int .i64 0,.string ⟨#[]⟩,.int .i64 0,.int .i64 0,.slice none 0 0] 24)=W1
 have hb1:Below w.heap.size w W1:=by rw[<- hW1];exact af _ _
 have eD:ai W1 w.heap.size 24 #[.int .i64 0,.string ⟨#[]⟩,.int .i64 0,.int .i64 0,.slice none 0 0]:=by rw[<- hW1];exact ai.new w _ _
 have hs1:W1.heap.size=w.heap.size+1:=by rw[<- hW1];simp
 have hm1:=PM.of_below (E:=E) (v:=v) hb1;have h1:=hpw.below hb1;have P1:=hm1;have nV:=kH hs1;have xq:=kH hm1;clear hW1 hs1 hm1 hb1;obtain⟨bv,hbv⟩:∃x,bB E.bs E.l v.st [118,97,114]=x:=⟨_,rfl⟩
 have HBV:=kH hbv;clear hbv;refine(fE E hE v [118,97,114] _ h1).mono ?_;rintro e w2 ⟨rfl,v2,hv2,h2,hm2⟩;rw[HBV.out];have gD:=kH hv2;have hR2:=hm2.blk h1 eD;have P2:=P1.trans hm2;clear hv2 hm2;cases bv
 ·have aM:Hid (fH E.bs E.l v.st=(aH E.l (ib E.bs E.l (cK E.l (bC E.bs E.l v.st [118,97,114]))).2 v.st.k 7 (cB E.bs E.l (bC E.bs E.l v.st [118,97,114])) [(ib E.bs E.l (cK E.l (bC E.bs E.l v.st [118,97,114]))).1],(ib E.bs E.l (cK E.l (bC E.bs E.l v.st [118,97,114]))).2)):=kH (by unfold fH;rw[HBV.out];rfl)
  go_wp2_with fail
  refine(sS E hE v2 _ h2).mono ?_;rintro e w3 ⟨rfl,v3,hv3,h3,dR⟩;have fw:=kH hv3;have df:=dR.blk h2 hR2;have P3:=P2.trans dR;clear hv3 dR;have hnt:cB E.bs E.l v2.st=cB E.bs E.l (bC E.bs E.l v.st [118,97,114]):=by rw[gD.out]
  rw[hnt];rw[gD.out]at fw;clear hnt;go_wp2_with fail
  refine(vX E hE v3 _ h3).mono ?_;rintro e w4 ⟨k4,t4,a4,z4,A4,n4,c4,rfl,jC,v4,hv4,h4,gW⟩;have iU:=kH hv4;have dS:=gW.blk h3 df;have P4:=P3.trans gW;replace jC:=aB.weak (Q:=fun g=>w.heap.size+1<=g) (fun g _ hg=>aaE df.lt hg) _ _ jC
  clear hv4;rw[fw.out]at iU jC;go_wp2_with fail
  generalize oz:w4.alloc (.cells #[.int .i64 k4,.string t4,.int .i64 a4,.int .i64 z4,.slice A4 n4 c4] 24)=w5
  have hb5:Below w4.heap.size w4 w5:=by rw[<- oz];exact af _ _
  have hs5:w5.heap.size=w4.heap.size+1:=by rw[<- oz];simp
  have vM:ai w5 w4.heap.size 24 #[.int .i64 k4,.string t4,.int .i64 a4,.int .i64 z4,.slice A4 n4 c4]:=by rw[<- oz];exact ai.new w4 _ _
  have gT:=aB.keeps (bO.of_below hb5) _ _ jC;have h5:=h4.below hb5;have eT:=dS.below hb5 dS.lt;have P5:=P4.trans (PM.of_below hb5);clear oz;have Cr:=kH (jQ gT (by have:=eT.lt;omega));generalize tF:w5.alloc (.cells #[.int .i64 k4,.string t4,.int .i64 a4,.int .i64 z4,.slice A4 n4 c4] 24)=w6 at Cr⊢
  have hb6:Below w5.heap.size w5 w6:=by rw[<- tF];exact af _ _
  have h6:=h5.below hb6;have fK:=eT.below hb6 eT.lt;have P6:=P5.trans (PM.of_below hb6);clear tF;obtain⟨v6,hv6⟩:∃v6,v6=v4:=⟨_,rfl⟩
  rw[<- hv6]at h6 P6 iU;have kZ:=iU;rw[<- hs5];clear hv6 vM hs5;refine(dN E hE v6 _ h6 v.st.k 7 (cB E.bs E.l (bC E.bs E.l v.st [118,97,114])) (w.heap.size+1) (some ⟨w5.heap.size,0,none⟩) 1 1 [(ib E.bs E.l (cK E.l (bC E.bs E.l v.st [118,97,114]))).1] Cr.out).mono ?_;rintro e w7 ⟨rfl,dE,jS⟩;have h7:=h6.below dE;have ed:=fK.below dE fK.lt;obtain⟨⟨r0,r1,r2,r3,r4⟩,g0,g1,g2,g3,g4⟩:=ed.five;go_wp2_with fail
  have aV:=kH (bF (v:=v) h7 (P6.trans (PM.of_below dE)) rfl ed hgl jS);clear jS;refine bodyPost_ret (v:=.agg #[.int .i64 7,.string (aU (cB E.bs E.l (bC E.bs E.l v.st [118,97,114]))),.int .i64 (bN E.l v6.st v.st.k [(ib E.bs E.l (cK E.l (bC E.bs E.l v.st [118,97,114]))).1]),.int .i64 (v6.st.last:Int),.slice (some ⟨w5.heap.size,0,none⟩) 1 1]) (by simp[results,Tryz.results181,go_sem,r0,r1,r2,r3,r4]) rfl ?_;exact Eq.mp (congrArg (fun r=>bq E w v r _ _) (show(aH E.l v6.st v.st.k 7 (cB E.bs E.l (bC E.bs E.l v.st [118,97,114])) [(ib E.bs E.l (cK E.l (bC E.bs E.l v.st [118,97,114]))).1],v6.st)=_ by rw[aM.out,kZ.out])) aV.out
 ·have aM:Hid (fH E.bs E.l v.st=(aH E.l (ib E.bs E.l (cK E.l (bC E.bs E.l v.st [118,97,114]))).2 v.st.k 8 (cB E.bs E.l (bC E.bs E.l v.st [118,97,114])) [(ib E.bs E.l (cK E.l (bC E.bs E.l v.st [118,97,114]))).1],(ib E.bs E.l (cK E.l (bC E.bs E.l v.st [118,97,114]))).2)):=kH (by unfold fH;rw[HBV.out];rfl)
  go_wp2_with fail
  refine(sS E hE v2 _ h2).mono ?_;rintro e w3 ⟨rfl,v3,hv3,h3,dR⟩;have fw:=kH hv3;have df:=dR.blk h2 hR2;have P3:=P2.trans dR;clear hv3 dR;have hnt:cB E.bs E.l v2.st=cB E.bs E.l (bC E.bs E.l v.st [118,97,114]):=by rw[gD.out]
  rw[hnt];rw[gD.out]at fw;clear hnt;go_wp2_with fail
  refine(vX E hE v3 _ h3).mono ?_;rintro e w4 ⟨k4,t4,a4,z4,A4,n4,c4,rfl,jC,v4,hv4,h4,gW⟩;have iU:=kH hv4;have dS:=gW.blk h3 df;have P4:=P3.trans gW;replace jC:=aB.weak (Q:=fun g=>w.heap.size+1<=g) (fun g _ hg=>aaE df.lt hg) _ _ jC
  clear hv4;rw[fw.out]at iU jC;go_wp2_with fail
  generalize oz:w4.alloc (.cells #[.int .i64 k4,.string t4,.int .i64 a4,.int .i64 z4,.slice A4 n4 c4] 24)=w5
  have hb5:Below w4.heap.size w4 w5:=by rw[<- oz];exact af _ _
  have hs5:w5.heap.size=w4.heap.size+1:=by rw[<- oz];simp
  have vM:ai w5 w4.heap.size 24 #[.int .i64 k4,.string t4,.int .i64 a4,.int .i64 z4,.slice A4 n4 c4]:=by rw[<- oz];exact ai.new w4 _ _
  have gT:=aB.keeps (bO.of_below hb5) _ _ jC;have h5:=h4.below hb5;have eT:=dS.below hb5 dS.lt;have P5:=P4.trans (PM.of_below hb5);clear oz;have Cr:=kH (jQ gT (by have:=eT.lt;omega));generalize tF:w5.alloc (.cells #[.int .i64 k4,.string t4,.int .i64 a4,.int .i64 z4,.slice A4 n4 c4] 24)=w6 at Cr⊢
  have hb6:Below w5.heap.size w5 w6:=by rw[<- tF];exact af _ _
  have h6:=h5.below hb6;have fK:=eT.below hb6 eT.lt;have P6:=P5.trans (PM.of_below hb6);clear tF;obtain⟨v6,hv6⟩:∃v6,v6=v4:=⟨_,rfl⟩
  rw[<- hv6]at h6 P6 iU;have kZ:=iU;rw[<- hs5];clear hv6 vM hs5;refine(dN E hE v6 _ h6 v.st.k 8 (cB E.bs E.l (bC E.bs E.l v.st [118,97,114])) (w.heap.size+1) (some ⟨w5.heap.size,0,none⟩) 1 1 [(ib E.bs E.l (cK E.l (bC E.bs E.l v.st [118,97,114]))).1] Cr.out).mono ?_;rintro e w7 ⟨rfl,dE,jS⟩;have h7:=h6.below dE;have ed:=fK.below dE fK.lt;obtain⟨⟨r0,r1,r2,r3,r4⟩,g0,g1,g2,g3,g4⟩:=ed.five;go_wp2_with fail
  have aV:=kH (bF (v:=v) h7 (P6.trans (PM.of_below dE)) rfl ed hgl jS);clear jS;refine bodyPost_ret (v:=.agg #[.int .i64 8,.string (aU (cB E.bs E.l (bC E.bs E.l v.st [118,97,114]))),.int .i64 (bN E.l v6.st v.st.k [(ib E.bs E.l (cK E.l (bC E.bs E.l v.st [118,97,114]))).1]),.int .i64 (v6.st.last:Int),.slice (some ⟨w5.heap.size,0,none⟩) 1 1]) (by simp[results,Tryz.results181,go_sem,r0,r1,r2,r3,r4]) rfl ?_;exact Eq.mp (congrArg (fun r=>bq E w v r _ _) (show(aH E.l v6.st v.st.k 8 (cB E.bs E.l (bC E.bs E.l v.st [118,97,114])) [(ib E.bs E.l (cK E.l (bC E.bs E.l v.st [118,97,114]))).1],v6.st)=_ by rw[aM.out,kZ.out])) aV.out
theorem MB(E:PE)(hE:E.Ok)(v:PV)(w:World)(hpw:PW w E v):
 Calls Tryz.prog 183 #[.pointer (some ⟨E.gp,0,none⟩)] w fun e w'=>e= .returned (.bool (jN E.bs E.l v.st))/\Below w.heap.size w w':=by
 have hkd:=pz E hE v w hpw;have his:=fun x w' (h:PW w' E v)=>yj E hE v x w' h
 obtain⟨k,hk⟩:∃x,bG E.l v.st=x:=⟨_,rfl⟩
 rw[hk]at hkd;obtain⟨b1,hb1⟩:∃x,bB E.bs E.l v.st [125]=x:=⟨_,rfl⟩
 obtain⟨b2,hb2⟩:∃x,bB E.bs E.l v.st [112,114,111,99]=x:=⟨_,rfl⟩
 obtain⟨b3,hb3⟩:∃x,bB E.bs E.l v.st [114,101,99,111,114,100]=x:=⟨_,rfl⟩
 have hres:jN E.bs E.l v.st=(decide (k=5) || b1 || b2 || b3):=by unfold jN;rw[hk,hb1,hb2,hb3]
 rw[hres];have rq:=kH hkd;have HIS:=kH his;have HB1:=kH hb1;have HB2:=kH hb2;have HB3:=kH hb3;clear hres hk hkd his hb1 hb2 hb3;by_cases h5:k=5
 ·subst h5
  go_enter Tryz.func183,Tryz.ntmps183
  go_wp2_with fail
  refine rq.out.mono ?_;rintro e w1 ⟨rfl,hb⟩;go_wp2_with fail
  go_ret
  exact⟨rfl,hb⟩
 ·have hki:((k:Int)==5)=false:=by simp;omega
  have Qa:decide (k=5)=false:=decide_eq_false h5;rw[Qa];clear h5 Qa;go_enter Tryz.func183,Tryz.ntmps183
  go_wp2_with fail
  refine rq.out.mono ?_;rintro e w1 ⟨rfl,hb⟩;have h1:=hpw.below hb;go_wp2_with fail
  refine(HIS.out [125] w1 h1).mono ?_;rintro e w2 ⟨rfl,hb2⟩;rw[HB1.out];have lF:=hb.trans (hb2.mono hb.size);have h2:=h1.below hb2;clear hb hb2;cases b1
  ·go_wp2_with fail
   refine(HIS.out [112,114,111,99] w2 h2).mono ?_;rintro e w3 ⟨rfl,hb3⟩;rw[HB2.out];have wH:=lF.trans (hb3.mono lF.size);have h3:=h2.below hb3;clear lF hb3;cases b2
   ·go_wp2_with fail
    refine(HIS.out [114,101,99,111,114,100] w3 h3).mono ?_;rintro e w4 ⟨rfl,hb4⟩;rw[HB3.out];go_wp2_with fail
    go_ret
    exact⟨bH (by simp),wH.trans (hb4.mono wH.size)⟩
   ·go_wp2_with fail
    go_ret
    exact⟨rfl,wH⟩
  ·go_wp2_with fail
   go_ret
   exact⟨rfl,lF⟩
def Mf(w:World)(l:List aP)(e:Ending)(w':World):Prop:=
 ∃A n c,e= .returned (.slice A n c)/\l.length=n/\bW 1 eZ w' w'.heap.size A (l.map aU)/\Below w.heap.size w w'
theorem zH(w:World)(l:List aP):Mf w l (.returned (.slice (some ⟨w.heap.size,0,none⟩) l.length l.length)) (w.alloc (.cells (l.map fun b=>Value.string (aU b)).toArray 9)):=
 ⟨_,_,_,rfl,rfl,xA w 9 l,af _ _⟩
theorem NT(lv:Nat)(w:World)(h:lv<=7):Calls Tryz.prog 232 #[.int .i64 (lv:Int)] w (Mf w (zK lv)):=by
 have hnil:Mf w [] (.returned (.slice none 0 0)) w:=⟨none,0,0,rfl,rfl,fun k c hk=>by simp at hk,Below.refl _ _⟩
 match lv,h with
 | 0,_=>
  go_enter Tryz.func232,Tryz.ntmps232
  go_wp2_with fail
  go_ret
  exact hnil
 | 1,_=>
  go_enter Tryz.func232,Tryz.ntmps232
  go_wp2_with fail
  go_ret
  exact zH w (zK 1)
 | 2,_=>
  go_enter Tryz.func232,Tryz.ntmps232
  go_wp2_with fail
  go_ret
  exact zH w (zK 2)
 | 3,_=>
  go_enter Tryz.func232,Tryz.ntmps232
  go_wp2_with fail
  go_ret
  exact hnil
 | 4,_=>
  go_enter Tryz.func232,Tryz.ntmps232
  go_wp2_with fail
  go_ret
  exact zH w (zK 4)
 | 5,_=>
  go_enter Tryz.func232,Tryz.ntmps232
  go_wp2_with fail
  go_ret
  exact zH w (zK 5)
 | 6,_=>
  go_enter Tryz.func232,Tryz.ntmps232
  go_wp2_with fail
  go_ret
  exact zH w (zK 6)
 | 7,_=>
  go_enter Tryz.func232,Tryz.ntmps232
  go_wp2_with fail
  go_ret
  exact hnil
 | n+8,h=>exact absurd h (by omega)
theorem ops_len(lv:Nat):(zK lv).length<=6:=by
 unfold zK;repeat (split;· decide)
 decide
theorem M8(ws:List aP)(x:aP):nE (ws.map aU) (aU x)=rV ws x:=F5 ws (aU x)
theorem Pg(E:PE)(hE:E.Ok)(v:PV)(lv:Nat)(w:World)(hpw:PW w E v)(hlv:lv<=7):
 Calls Tryz.prog 186 #[.pointer (some ⟨E.gp,0,none⟩),.int .i64 (lv:Int)] w fun e w'=>e= .returned (.bool (xR E.bs E.l v.st lv))/\Below w.heap.size w w':=by
 have hkd:=pz E hE v w hpw;obtain⟨k,hk⟩:∃x,bG E.l v.st=x:=⟨_,rfl⟩
 rw[hk]at hkd;obtain⟨b1,hb1⟩:∃x,rV (zK lv) (bE E.bs E.l v.st.k)=x:=⟨_,rfl⟩
 have hres:xR E.bs E.l v.st lv=(decide (k≠5)&&b1):=by unfold xR;rw[hk,hb1]
 rw[hres];have hop:=fun w=>NT lv w hlv
 have HOP:=kH hop;have rq:=kH hkd;have HB1:=kH hb1;clear hres hk hkd hb1 hop;by_cases h5:k=5
 ·subst h5
  go_enter Tryz.func186,Tryz.ntmps186
  go_wp2_with fail
  refine rq.out.mono ?_;rintro e w1 ⟨rfl,hb⟩;go_wp2_with fail
  go_ret
  exact⟨rfl,hb⟩
 ·have hki:((k:Int) !=5)=true:=by simp;omega
  have Qa:decide (k≠5)=true:=decide_eq_true h5;rw[Qa];clear h5 Qa;go_enter Tryz.func186,Tryz.ntmps186
  go_wp2_with fail
  refine rq.out.mono ?_;rintro e w1 ⟨rfl,hb⟩;have h1:=hpw.below hb;go_wp2_with fail
  refine(HOP.out w1).mono ?_;rintro e w2 ⟨A,n,c,rfl,hn,hr,hb2⟩;have lF:=hb.trans (hb2.mono hb.size);have h2:=h1.below hb2;have HN:=kH hn;have HR:=kH hr;clear hb hb2 hn hr;go_wp2_with fail
  refine(CP E hE v w2 h2).mono ?_;rintro e w3 ⟨rfl,hb3⟩;have hr3:=(HR.out.below hb3 (aaD _)).mono hb3.size;have HR3:=kH hr3;have wH:=lF.trans (hb3.mono lF.size);clear lF hb3 hr3;go_wp2_with fail
  refine(zx A n c ((zK lv).map aU) (aU (bE E.bs E.l v.st.k)) w3 HR3.out (by rw[List.length_map];exact HN.out) (by have:=ops_len lv;rw[<- HN.out];omega)).mono ?_;rintro e w4 ⟨rfl,hb4⟩;rw[M8,HB1.out];go_wp2_with fail
  go_ret
  exact⟨bH (by simp),wH.trans (hb4.mono wH.size)⟩
theorem R7(E:PE)(hE:E.Ok)(v:PV)(w:World)(hpw:PW w E v):
 Calls Tryz.prog 188 #[.pointer (some ⟨E.gp,0,none⟩)] w fun e w'=>e= .returned (.bool (zq E.bs E.l v.st))/\Below w.heap.size w w':=by
 have hkd:=pz E hE v w hpw;obtain⟨k,hk⟩:∃x,bG E.l v.st=x:=⟨_,rfl⟩
 rw[hk]at hkd;obtain⟨b1,hb1⟩:∃x,rV Ck (bE E.bs E.l v.st.k)=x:=⟨_,rfl⟩
 have hres:zq E.bs E.l v.st=(decide (k=1)&&b1):=by unfold zq;rw[hk,hb1]
 rw[hres];have rq:=kH hkd;have HB1:=kH hb1;clear hres hk hkd hb1;have hal:∀w:World,Below w.heap.size w (w.alloc (.cells (Ck.map fun b=>Value.string (aU b)).toArray 9)):=fun w=>af _ _
 have HAL:=kH hal;clear hal;by_cases h1:k=1
 ·subst h1
  go_enter Tryz.func188,Tryz.ntmps188
  go_wp2_with fail
  refine rq.out.mono ?_;rintro e w1 ⟨rfl,hb⟩;have h1:=hpw.below hb;have h2:=h1.below (HAL.out w1);have hr:=xA w1 9 Ck;have HR:=kH hr;have H2:=kH h2;have hbn:=hb.trans ((HAL.out w1).mono hb.size);have Be:=kH hbn;clear hr h2 hbn;go_wp2_with fail
  refine(CP E hE v _ H2.out).mono ?_;rintro e w3 ⟨rfl,hb3⟩;have hr3:=(HR.out.below hb3 (aaD _)).mono hb3.size;have HR3:=kH hr3;have wH:=Be.out.trans (hb3.mono Be.out.size);have oo:=kH wH;clear wH hr3 hb3;go_wp2_with fail
  refine(zx (some ⟨w1.heap.size,0,none⟩) 6 6 (Ck.map aU) (aU (bE E.bs E.l v.st.k)) w3 HR3.out rfl (by omega)).mono ?_;rintro e w4 ⟨rfl,hb4⟩;rw[M8,HB1.out];go_wp2_with fail
  go_ret
  exact⟨bH (by simp),oo.out.trans (hb4.mono oo.out.size)⟩
 ·have hki:((k:Int)==1)=false:=by simp;omega
  have hkd1:decide (k=1)=false:=decide_eq_false h1;rw[hkd1];clear h1 hkd1;go_enter Tryz.func188,Tryz.ntmps188
  go_wp2_with fail
  refine rq.out.mono ?_;rintro e w1 ⟨rfl,hb⟩;go_wp2_with fail
  go_ret
  exact⟨rfl,hb⟩
theorem RD(E:PE)(hE:E.Ok)(v:PV)(w:World)(hpw:PW w E v):
 Calls Tryz.prog 136 #[.pointer (some ⟨E.gp,0,none⟩)] w fun e w'=>e= .returned (.bool (CF E.bs E.l v.st))/\Below w.heap.size w w':=by
 have hkd:=fun w' (h:PW w' E v)=>pz E hE v w' h
 have his:=fun x w' (h:PW w' E v)=>yj E hE v x w' h
 obtain⟨k,hk⟩:∃x,bG E.l v.st=x:=⟨_,rfl⟩
 rw[hk]at hkd;obtain⟨b1,hb1⟩:∃x,bB E.bs E.l v.st [116,114,117,101]=x:=⟨_,rfl⟩
 obtain⟨b2,hb2⟩:∃x,bB E.bs E.l v.st [102,97,108,115,101]=x:=⟨_,rfl⟩
 obtain⟨b3,hb3⟩:∃x,bB E.bs E.l v.st [108,101,110]=x:=⟨_,rfl⟩
 obtain⟨b4,hb4⟩:∃x,bB E.bs E.l v.st [40]=x:=⟨_,rfl⟩
 obtain⟨b5,hb5⟩:∃x,bB E.bs E.l v.st [91]=x:=⟨_,rfl⟩
 have hres:CF E.bs E.l v.st=(decide (k=0) || decide (k=2) || b1 || b2 || b3 || b4 || b5):=by unfold CF;rw[hk,hb1,hb2,hb3,hb4,hb5]
 rw[hres];have rq:=kH hkd;have HIS:=kH his;have HB1:=kH hb1;have HB2:=kH hb2;have HB3:=kH hb3;have p9:=kH hb4;have iQ:=kH hb5;clear hres hk hkd his hb1 hb2 hb3 hb4 hb5;by_cases h0:k=0
 ·subst h0
  go_enter Tryz.func136,Tryz.ntmps136
  go_wp2_with fail
  refine(rq.out w hpw).mono ?_;rintro e w1 ⟨rfl,hb⟩;go_wp2_with fail
  go_ret
  exact⟨rfl,hb⟩
 have hk0:((k:Int)==0)=false:=by simp;omega
 have hd0:decide (k=0)=false:=decide_eq_false h0;rw[hd0];clear h0 hd0;go_enter Tryz.func136,Tryz.ntmps136
 go_wp2_with fail
 refine(rq.out w hpw).mono ?_;rintro e w1 ⟨rfl,hb⟩;have h1:=hpw.below hb;go_wp2_with fail
 refine(rq.out w1 h1).mono ?_;rintro e w2 ⟨rfl,hbb⟩;have h2:=h1.below hbb;have c2:=hb.trans (hbb.mono hb.size);clear hb hbb;by_cases h22:k=2
 ·subst h22
  go_wp2_with fail
  go_ret
  exact⟨rfl,c2⟩
 have hk2:((k:Int)==2)=false:=by simp;omega
 have HD2:Hid (decide (k=2)=false):=kH (decide_eq_false h22);clear h22;go_wp2_with fail
 refine(HIS.out [116,114,117,101] w2 h2).mono ?_;rintro e w3 ⟨rfl,hbb⟩;rw[HB1.out];have h3:=h2.below hbb;have c3:=c2.trans (hbb.mono c2.size);clear hbb;cases b1
 case true=>
  go_wp2_with fail
  go_ret
  exact⟨bH (by simp),c3⟩
 go_wp2_with fail
 refine(HIS.out [102,97,108,115,101] w3 h3).mono ?_;rintro e w4 ⟨rfl,hbb⟩;rw[HB2.out];have h4:=h3.below hbb;have c4:=c3.trans (hbb.mono c3.size);clear hbb;cases b2
 case true=>
  go_wp2_with fail
  go_ret
  exact⟨bH (by simp),c4⟩
 go_wp2_with fail
 refine(HIS.out [108,101,110] w4 h4).mono ?_;rintro e w5 ⟨rfl,hbb⟩;rw[HB3.out];have h5:=h4.below hbb;have c5:=c4.trans (hbb.mono c4.size);clear hbb;cases b3
 case true=>
  go_wp2_with fail
  go_ret
  exact⟨bH (by simp),c5⟩
 go_wp2_with fail
 refine(HIS.out [40] w5 h5).mono ?_;rintro e w6 ⟨rfl,hbb⟩;rw[p9.out];have h6:=h5.below hbb;have c6:=c5.trans (hbb.mono c5.size);clear hbb;cases b4
 case true=>
  go_wp2_with fail
  go_ret
  exact⟨bH (by simp),c6⟩
 go_wp2_with fail
 refine(HIS.out [91] w6 h6).mono ?_;rintro e w7 ⟨rfl,hbb⟩;rw[iQ.out];have h7:=h6.below hbb;have c7:=c6.trans (hbb.mono c6.size);clear hbb;go_wp2_with fail
 go_ret
 exact⟨bH (by rw[HD2.out];simp),c7⟩
theorem Ry(E:PE)(hE:E.Ok)(v:PV)(w:World)(hpw:PW w E v)(f:Nat)(r:aa×PS)(hr:mR E.bs E.l f v.st=some r):Calls Tryz.prog 140 #[.pointer (some ⟨E.gp,0,none⟩)] w (bq E w v r):=by
 obtain⟨q,hq,hrq⟩:∃q,pU E.bs E.l v.st.k f (gZ E.l v.st 6 [])=some q/\r=(aH E.l q v.st.k 1 [] [],q):=by
  unfold mR at hr;split at hr
  ·cases hr
  ·rename_i q h
   cases hr
   exact⟨q,h,rfl⟩
 have HQ:=kH hq;have aM:=kH hrq;clear hr hq hrq;have hgl:=hpw.blk.lt;have hk2:w.cell? ⟨E.gp,2,none⟩=some (.int .i64 (v.st.k:Int)):=hpw.blk.cell 2;obtain⟨first,Qf⟩:∃x,v.st.k=x:=⟨_,rfl⟩
 rw[Qf]at hk2;have HF:=kH Qf;clear Qf;go_enter Tryz.func140,Tryz.ntmps140
 go_wp2_with fail
 generalize hW1:w.alloc (.cells #[.int .i64 0,.string ⟨#[]⟩,.int .i64 0,.int .i64 0,.slice none 0 0] 24)=W1
 have hb1:Below w.heap.size w W1:=by rw[<- hW1];exact af _ _
 have eD:ai W1 w.heap.size 24 #[.int .i64 0,.string ⟨#[]⟩,.int .i64 0,.int .i64 0,.slice none 0 0]:=by rw[<- hW1];exact ai.new w _ _
 have hs1:W1.heap.size=w.heap.size+1:=by rw[<- hW1];simp
 have hm1:=PM.of_below (E:=E) (v:=v) hb1;have h1:=hpw.below hb1;have P1:=hm1;have nV:=kH hs1;have xq:=kH hm1;clear hW1 hs1 hm1 hb1;refine(rM E hE v 6 [] _ h1).mono ?_;rintro e w2 ⟨⟨u2,rfl⟩,v2,hv2,h2,hm2⟩;have gD:=kH hv2;have hR2:=hm2.blk h1 eD;have P2:=P1.trans hm2;clear hv2 hm2;go_wp2_with fail
 go_loopg [] f (fun gk wr=> ∃vx,pU E.bs E.l first gk vx.st=some q/\PW wr E vx/\PM E w v wr vx/\ai wr w.heap.size 24 #[.int .i64 0,.string ⟨#[]⟩,.int .i64 0,.int .i64 0,.slice none 0 0])
 case atStart=>exact⟨v2,by rw[gD.out,<- HF.out];exact HQ.out,h2,P2,hR2⟩
 case round=>
  obtain⟨vx,hx,hpx,hmx,Te⟩:=hrel
  cases gk with
  | zero=>simp[pU]at hx
  | succ gk=>
   rw[pU]at hx;have hst:=fun w' (h:PW w' E vx)=>MB E hE vx w' h
   have hbg:=fun w' (h:PW w' E vx)=>R7 E hE vx w' h
   obtain⟨b1,hb1⟩:∃x,jN E.bs E.l vx.st=x:=⟨_,rfl⟩
   obtain⟨b2,hb2⟩:∃x,zq E.bs E.l vx.st=x:=⟨_,rfl⟩
   rw[hb1]at hst;rw[hb2]at hbg;have HB1:=kH hb1;rw[hb1,hb2]at hx;have HST:=kH hst;have YB:=kH hbg;have HX:=kH hx;clear hx hst hbg hb1 hb2;cases b1
   ·have hk5:bG E.l vx.st≠5:=by
     intro h5;have:=HB1.out;unfold jN at this;rw[h5]at this;simp at this
    obtain⟨bg,hbg⟩:∃x,(decide (vx.st.k=first) || !b2)=x:=⟨_,rfl⟩
    have hx2:=HX.out;rw[hbg]at hx2;have hkc:=hpx.blk.cell 2;simp at hkc;obtain⟨kx,hkx⟩:∃x,vx.st.k=x:=⟨_,rfl⟩
    rw[hkx]at hbg hkc;have yB:=kH hx2;have HG:=kH hbg;have mq:=kH hkx;have yX:=kH hk5;have hgx:=hpx.blk.lt;clear hx2 hbg hkx HX hk5;have HPX:=kH hpx;go_upto_region 3 with fail
    go_cut [25] (fun s25 wx=>s25= .bool bg/\Below wr.heap.size wr wx)
    case first=>
     by_cases oq:kx=first
     ·have e:bg=true:=by rw[<- HG.out];simp[oq]
      subst e;have hki:((kx:Int)==(first:Int))=true:=by simp[oq]
      have hkn:(kx==first)=true:=by simp[oq]
      clear oq;go_wp2_with fail
      refine(HST.out _ hpx).mono ?_;rintro e w4 ⟨rfl,hb4⟩;have hkc4:w4.cell? ⟨E.gp,2,none⟩=some (.int .i64 (kx:Int)):=(hb4.cell (p:=⟨E.gp,2,none⟩) hgx).trans hkc;clear hkc;go_wp2_with fail
      go_meet
      exact⟨rfl,hb4⟩
     ·have e:bg= !b2:=by rw[<- HG.out];simp[oq]
      subst e;have hki:((kx:Int)==(first:Int))=false:=by simp;omega
      have hkn:(kx==first)=false:=by simp[oq]
      clear oq;go_wp2_with fail
      refine(HST.out _ hpx).mono ?_;rintro e w4 ⟨rfl,hb4⟩;have hkc4:w4.cell? ⟨E.gp,2,none⟩=some (.int .i64 (kx:Int)):=(hb4.cell (p:=⟨E.gp,2,none⟩) hgx).trans hkc;have h4:=HPX.out.below hb4;clear hkc;go_wp2_with fail
      refine(YB.out _ h4).mono ?_;rintro e w5 ⟨rfl,hb5⟩;go_wp2_with fail
      go_meet
      exact⟨rfl,hb4.trans (hb5.mono hb4.size)⟩
    case rest=>
     obtain⟨rfl,hbw⟩:=hcut;have h4:=HPX.out.below hbw;have dS:=Te.below hbw Te.lt;have P4:=hmx.trans (PM.of_below hbw);cases bg
     ·have hq2:vx.st=q:=by simpa using yB.out
      obtain⟨v4,hv4⟩:∃v4,v4=vx:=⟨_,rfl⟩
      rw[<- hv4]at h4 P4 hq2;have iU:=kH hq2;obtain⟨w4,hw4⟩:∃w4:World,w4=wc:=⟨_,rfl⟩
      rw[HF.out]at aM;clear hv4 hq2;subst hw4;go_wp2_with fail
      refine(ig E hE v4 _ h4 first 1 [] (w.heap.size+1)).mono ?_;rintro e w5 ⟨rfl,hb5,gT⟩;have h5:=h4.below hb5;have eT:=dS.below hb5 dS.lt;obtain⟨⟨r0,r1,r2,r3,r4⟩,g0,g1,g2,g3,g4⟩:=eT.five;go_wp2_with fail
      have aV:=kH (bF (v:=v) h5 (P4.trans (PM.of_below hb5)) rfl eT hgl gT);clear gT;refine bodyPost_ret (v:=.agg #[.int .i64 1,.string (aU []),.int .i64 (bN E.l v4.st first []),.int .i64 (v4.st.last:Int),.slice none 0 0]) (by simp[results,Tryz.results140,go_sem,r0,r1,r2,r3,r4]) rfl ?_;exact Eq.mp (congrArg (fun r=>bq E w v r _ _) (show(aH E.l v4.st first 1 [] [],v4.st)=_ by rw[iU.out,aM.out])) aV.out
     ·go_wp2_with fail
      refine(qG E hE vx _ h4 yX.out).mono ?_;rintro e w6 ⟨rfl,h6,gu⟩;have fK:=gu.blk h4 dS;have P6:=P4.trans gu;by_cases hsc:bE E.bs E.l vx.st.k=[59]
      ·have hq2:ay E.l vx.st=q:=by
        have:=yB.out;rw[hsc]at this;simpa using this
       have hws:aU (bE E.bs E.l vx.st.k)=⟨#[59]⟩:=by rw[hsc];rfl
       rw[hws];obtain⟨v6,hv6⟩:∃v6:PV,(⟨ay E.l vx.st,vx.lv⟩:PV)=v6:=⟨_,rfl⟩
       rw[hv6]at h6 P6;have kZ:Hid (v6.st=q):=kH (by rw[<- hv6];exact hq2);rw[HF.out]at aM;clear hv6 hq2 hsc hws gu;go_wp2_with fail
       refine(ig E hE v6 _ h6 first 1 [] (w.heap.size+1)).mono ?_;rintro e w7 ⟨rfl,dE,jS⟩;have h7:=h6.below dE;have ed:=fK.below dE fK.lt;obtain⟨⟨r0,r1,r2,r3,r4⟩,g0,g1,g2,g3,g4⟩:=ed.five;go_wp2_with fail
       have aV:=kH (bF (v:=v) h7 (P6.trans (PM.of_below dE)) rfl ed hgl jS);clear jS;refine bodyPost_ret (v:=.agg #[.int .i64 1,.string (aU []),.int .i64 (bN E.l v6.st first []),.int .i64 (v6.st.last:Int),.slice none 0 0]) (by simp[results,Tryz.results140,go_sem,r0,r1,r2,r3,r4]) rfl ?_;exact Eq.mp (congrArg (fun r=>bq E w v r _ _) (show(aH E.l v6.st first 1 [] [],v6.st)=_ by rw[kZ.out,aM.out])) aV.out
      ·have hq2:pU E.bs E.l first gk (ay E.l vx.st)=some q:=by
        have:=yB.out;rw[if_pos (by simp),if_neg hsc]at this;exact this
       obtain⟨wd,hwd⟩:∃x,aU (bE E.bs E.l vx.st.k)=x:=⟨_,rfl⟩
       have hwf:(wd.data.toList==[59])=false:=by rw[<- hwd];simpa [aU] using hsc
       have hwf2:(wd.toList==[59])=false:=by rw[ByteArray.toList_eq];exact hwf
       rw[hwd];have oF:=kH hq2;have lh:=kH gu;clear hq2 hsc hwd gu;go_wp2_with fail
       go_roundg gk
       case measure=>omega
       case rel=>exact⟨_,oF.out,h6,P6,fK⟩
   ·have hq2:vx.st=q:=by simpa using HX.out
    have Co:=kH hq2;clear hq2;go_wp2_with fail
    refine(HST.out _ hpx).mono ?_;rintro e w4 ⟨rfl,hb4⟩;have h4:=hpx.below hb4;have dS:=Te.below hb4 Te.lt;have P4:=hmx.trans (PM.of_below hb4);go_wp2_with fail
    obtain⟨v4,hv4⟩:∃v4,v4=vx:=⟨_,rfl⟩
    rw[<- hv4]at h4 P4 Co;have iU:=Co;rw[HF.out]at aM;clear hv4;refine(ig E hE v4 _ h4 first 1 [] (w.heap.size+1)).mono ?_;rintro e w5 ⟨rfl,hb5,gT⟩;have h5:=h4.below hb5;have eT:=dS.below hb5 dS.lt;obtain⟨⟨r0,r1,r2,r3,r4⟩,g0,g1,g2,g3,g4⟩:=eT.five;go_wp2_with fail
    have aV:=kH (bF (v:=v) h5 (P4.trans (PM.of_below hb5)) rfl eT hgl gT);clear gT;refine bodyPost_ret (v:=.agg #[.int .i64 1,.string (aU []),.int .i64 (bN E.l v4.st first []),.int .i64 (v4.st.last:Int),.slice none 0 0]) (by simp[results,Tryz.results140,go_sem,r0,r1,r2,r3,r4]) rfl ?_;exact Eq.mp (congrArg (fun r=>bq E w v r _ _) (show(aH E.l v4.st first 1 [] [],v4.st)=_ by rw[iU.out,aM.out])) aV.out
theorem Nf(E:PE)(hE:E.Ok)(v:PV)(w:World)(hpw:PW w E v):Calls Tryz.prog 127 #[.pointer (some ⟨E.gp,0,none⟩)] w (bq E w v (ja E.bs E.l v.st)):=by
 have hgl:=hpw.blk.lt;have hk2:w.cell? ⟨E.gp,2,none⟩=some (.int .i64 (v.st.k:Int)):=hpw.blk.cell 2;go_enter Tryz.func127,Tryz.ntmps127
 go_wp2_with fail
 generalize hW1:w.alloc (.cells #[.int .i64 0,.string ⟨#[]⟩,.int .i64 0,.int .i64 0,.slice none 0 0] 24)=W1
 have hb1:Below w.heap.size w W1:=by rw[<- hW1];exact af _ _
 have eD:ai W1 w.heap.size 24 #[.int .i64 0,.string ⟨#[]⟩,.int .i64 0,.int .i64 0,.slice none 0 0]:=by rw[<- hW1];exact ai.new w _ _
 have hs1:W1.heap.size=w.heap.size+1:=by rw[<- hW1];simp
 have hm1:=PM.of_below (E:=E) (v:=v) hb1;have h1:=hpw.below hb1;have P1:=hm1;have nV:=kH hs1;have xq:=kH hm1;clear hW1 hs1 hm1 hb1;refine(sS E hE v _ h1).mono ?_;rintro e w2 ⟨rfl,v2,hv2,h2,hm2⟩;have gD:=kH hv2;have hR2:=hm2.blk h1 eD;have P2:=P1.trans hm2;clear hv2 hm2;go_wp2_with fail
 refine(ky E hE v2 [58] _ h2).mono ?_;rintro e w3 ⟨rfl,v3,hv3,h3,dR⟩;have fw:=kH hv3;have df:=dR.blk h2 hR2;have P3:=P2.trans dR;clear hv3 dR;rw[gD.out]at fw;have hkc:w3.cell? ⟨E.gp,2,none⟩=some (.int .i64 (v3.st.k:Int)):=h3.blk.cell 2;obtain⟨k3,hk3⟩:∃x,v3.st.k=x:=⟨_,rfl⟩
 rw[hk3]at hkc;have fZ:=kH hk3;clear hk3;have his:=fun x w' (h:PW w' E v3)=>yj E hE v3 x w' h
 obtain⟨b1,hb1⟩:∃x,bB E.bs E.l v3.st [105,110,116]=x:=⟨_,rfl⟩
 obtain⟨b2,hb2⟩:∃x,bB E.bs E.l v3.st [98,111,111,108]=x:=⟨_,rfl⟩
 have HIS:=kH his;have HB1:=kH hb1;have HB2:=kH hb2;clear his hb1 hb2;go_upto_region 5 with fail
 go_cut [26] (fun s26 wx=>s26= .bool (b1 || b2)/\Below w3.heap.size w3 wx)
 case first=>
  cases b1
  ·go_wp2_with fail
   refine(HIS.out [105,110,116] _ h3).mono ?_;rintro e w4 ⟨rfl,hb4⟩;rw[HB1.out];have h4:=h3.below hb4;go_wp2_with fail
   refine(HIS.out [98,111,111,108] _ h4).mono ?_;rintro e w5 ⟨rfl,hb5⟩;rw[HB2.out];go_wp2_with fail
   go_meet
   exact⟨by simp,hb4.trans (hb5.mono hb4.size)⟩
  ·go_wp2_with fail
   refine(HIS.out [105,110,116] _ h3).mono ?_;rintro e w4 ⟨rfl,hb4⟩;rw[HB1.out];go_wp2_with fail
   go_meet
   exact⟨by simp,hb4⟩
 case rest=>
  obtain⟨hs26,hbw⟩:=hcut;have h4:=h3.below hbw;have dS:=df.below hbw df.lt;have P4:=P3.trans (PM.of_below hbw);obtain⟨bb,hbb⟩:∃x,(b1 || b2)=x:=⟨_,rfl⟩
  rw[hbb]at hs26;subst hs26;have jc:=kH hbb;clear hbb hbw hkc hk2;cases bb
  ·go_wp2_with fail
   refine(rM E hE v3 4 [116,121,112,101] _ h4).mono ?_;rintro e w5 ⟨⟨u5x,rfl⟩,v5,hv5,h5,gV⟩;have HV5:=kH hv5;have eT:=gV.blk h4 dS;have P5:=P4.trans gV;clear hv5 gV;go_wp2_with fail
   have aM:Hid (ja E.bs E.l v.st=(aH E.l v5.st v.st.k 4 (cB E.bs E.l v.st) [aH E.l v5.st k3 1 [] []],v5.st)):=kH (by
    have hc:(bB E.bs E.l (aG E.bs E.l (cK E.l v.st) [58]) [105,110,116] || bB E.bs E.l (aG E.bs E.l (cK E.l v.st) [58]) [98,111,111,108])=false:=by rw[<- fw.out,HB1.out,HB2.out,jc.out]
    unfold ja;simp only
    rw[hc,if_neg (by simp),HV5.out,<- fw.out,fZ.out])
   refine(ig E hE v5 _ h5 k3 1 [] (w.heap.size+1)).mono ?_;rintro e w6 ⟨rfl,hb6,nQ⟩;have h6:=h5.below hb6;have fK:=eT.below hb6 eT.lt;have P6:=P5.trans (PM.of_below hb6);go_wp2_with fail
   generalize uC:w6.alloc (.cells #[.int .i64 1,.string (aU []),.int .i64 (bN E.l v5.st k3 []),.int .i64 (v5.st.last:Int),.slice none 0 0] 24)=w7
   have dE:Below w6.heap.size w6 w7:=by rw[<- uC];exact af _ _
   have hs7:w7.heap.size=w6.heap.size+1:=by rw[<- uC];simp
   have jS:=aB.keeps (bO.of_below dE) _ _ nQ;have h7:=h6.below dE;have ed:=fK.below dE fK.lt;have P7:=P6.trans (PM.of_below dE);clear uC;have mH:=kH (jQ jS (by have:=ed.lt;omega));generalize mY:w7.alloc (.cells #[.int .i64 1,.string (aU []),.int .i64 (bN E.l v5.st k3 []),.int .i64 (v5.st.last:Int),.slice none 0 0] 24)=w8 at mH⊢
   have dK:Below w7.heap.size w7 w8:=by rw[<- mY];exact af _ _
   have h8:=h7.below dK;have dW:=ed.below dK ed.lt;have P8:=P7.trans (PM.of_below dK);clear mY;obtain⟨v8,dZ⟩:∃v8,v8=v5:=⟨_,rfl⟩
   have fV:Hid (v8.st=v5.st):=kH (by rw[dZ]);rw[<- dZ]at h8 P8;rw[<- hs7];clear dZ hs7;refine(dN E hE v8 _ h8 v.st.k 4 (cB E.bs E.l v.st) (w.heap.size+1) (some ⟨w7.heap.size,0,none⟩) 1 1 [aH E.l v5.st k3 1 [] []] mH.out).mono ?_;rintro e w9 ⟨rfl,dx,nP⟩;have h9:=h8.below dx;have eQ:=dW.below dx dW.lt;obtain⟨⟨r0,r1,r2,r3,r4⟩,g0,g1,g2,g3,g4⟩:=eQ.five;go_wp2_with fail
   have aV:=kH (bF (v:=v) h9 (P8.trans (PM.of_below dx)) rfl eQ hgl nP);clear nP;refine bodyPost_ret (v:=.agg #[.int .i64 4,.string (aU (cB E.bs E.l v.st)),.int .i64 (bN E.l v8.st v.st.k [aH E.l v5.st k3 1 [] []]),.int .i64 (v8.st.last:Int),.slice (some ⟨w7.heap.size,0,none⟩) 1 1]) (by simp[results,Tryz.results127,go_sem,r0,r1,r2,r3,r4]) rfl ?_;exact Eq.mp (congrArg (fun r=>bq E w v r _ _) (show(aH E.l v8.st v.st.k 4 (cB E.bs E.l v.st) [aH E.l v5.st k3 1 [] []],v8.st)=_ by rw[aM.out,fV.out])) aV.out
  ·have hk5:bG E.l v3.st≠5:=by
    intro h5;have:=jc.out;rw[<- HB1.out,<- HB2.out]at this;unfold bB at this;rw[h5]at this;simp at this
   have yX:=kH hk5;clear hk5;go_wp2_with fail
   refine(qG E hE v3 _ h4 yX.out).mono ?_;rintro e w5 ⟨rfl,h5,gV⟩;have eT:=gV.blk h4 dS;have P5:=P4.trans gV;obtain⟨v5,hv5⟩:∃v5:PV,(⟨ay E.l v3.st,v3.lv⟩:PV)=v5:=⟨_,rfl⟩
   rw[hv5]at h5 P5;have HV5:Hid (v5.st=ay E.l v3.st):=kH (by rw[<- hv5]);obtain⟨wd,hwd⟩:∃x,bE E.bs E.l v3.st.k=x:=⟨_,rfl⟩
   rw[hwd];have HWD:=kH hwd;clear hv5 gV hwd
   have aM:Hid (ja E.bs E.l v.st=(aH E.l v5.st v.st.k 4 (cB E.bs E.l v.st) [aH E.l v5.st k3 9 wd []],v5.st)):=kH (by
    have hc:(bB E.bs E.l (aG E.bs E.l (cK E.l v.st) [58]) [105,110,116] || bB E.bs E.l (aG E.bs E.l (cK E.l v.st) [58]) [98,111,111,108])=true:=by rw[<- fw.out,HB1.out,HB2.out,jc.out]
    unfold ja;simp only
    rw[hc,if_pos rfl,HV5.out,<- fw.out,HWD.out,fZ.out])
   go_wp2_with fail
   refine(ig E hE v5 _ h5 k3 9 wd (w.heap.size+1)).mono ?_;rintro e w6 ⟨rfl,hb6,nQ⟩;have h6:=h5.below hb6;have fK:=eT.below hb6 eT.lt;have P6:=P5.trans (PM.of_below hb6);go_wp2_with fail
   generalize uC:w6.alloc (.cells #[.int .i64 9,.string (aU wd),.int .i64 (bN E.l v5.st k3 []),.int .i64 (v5.st.last:Int),.slice none 0 0] 24)=w7
   have dE:Below w6.heap.size w6 w7:=by rw[<- uC];exact af _ _
   have hs7:w7.heap.size=w6.heap.size+1:=by rw[<- uC];simp
   have jS:=aB.keeps (bO.of_below dE) _ _ nQ;have h7:=h6.below dE;have ed:=fK.below dE fK.lt;have P7:=P6.trans (PM.of_below dE);clear uC;have mH:=kH (jQ jS (by have:=ed.lt;omega));generalize mY:w7.alloc (.cells #[.int .i64 9,.string (aU wd),.int .i64 (bN E.l v5.st k3 []),.int .i64 (v5.st.last:Int),.slice none 0 0] 24)=w8 at mH⊢
   have dK:Below w7.heap.size w7 w8:=by rw[<- mY];exact af _ _
   have h8:=h7.below dK;have dW:=ed.below dK ed.lt;have P8:=P7.trans (PM.of_below dK);clear mY;obtain⟨v8,dZ⟩:∃v8,v8=v5:=⟨_,rfl⟩
   have fV:Hid (v8.st=v5.st):=kH (by rw[dZ]);rw[<- dZ]at h8 P8;rw[<- hs7];clear dZ hs7;refine(dN E hE v8 _ h8 v.st.k 4 (cB E.bs E.l v.st) (w.heap.size+1) (some ⟨w7.heap.size,0,none⟩) 1 1 [aH E.l v5.st k3 9 wd []] mH.out).mono ?_;rintro e w9 ⟨rfl,dx,nP⟩;have h9:=h8.below dx;have eQ:=dW.below dx dW.lt;obtain⟨⟨r0,r1,r2,r3,r4⟩,g0,g1,g2,g3,g4⟩:=eQ.five;go_wp2_with fail
   have aV:=kH (bF (v:=v) h9 (P8.trans (PM.of_below dx)) rfl eQ hgl nP);clear nP;refine bodyPost_ret (v:=.agg #[.int .i64 4,.string (aU (cB E.bs E.l v.st)),.int .i64 (bN E.l v8.st v.st.k [aH E.l v5.st k3 9 wd []]),.int .i64 (v8.st.last:Int),.slice (some ⟨w7.heap.size,0,none⟩) 1 1]) (by simp[results,Tryz.results127,go_sem,r0,r1,r2,r3,r4]) rfl ?_;exact Eq.mp (congrArg (fun r=>bq E w v r _ _) (show(aH E.l v8.st v.st.k 4 (cB E.bs E.l v.st) [aH E.l v5.st k3 9 wd []],v8.st)=_ by rw[aM.out,fV.out])) aV.out
theorem qp:(Tryz.prog.info? 24).map (fun i=>(i.zero,i.size,i.bytes))=some (some (.agg #[.int .i64 0,.string ⟨#[]⟩,.int .i64 0,.int .i64 0,.slice none 0 0]),5,64):=by kernel_rfl
theorem bL.pushed{w w1:World}{lo:Nat}{v v':Value}{n:Nat}{ts:List aa}{t:aa}{cs:List Value}{vals:List (List Value)}{o:Obj}
 (h2:bM w (fun g=>lo<=g/\some g≠v.ownBlock) ts vals) (hn:ts.length=n) (ht:aB w (fun g=>lo<=g/\some g≠v.ownBlock) t cs)
 (hown:aL w1 lo 24 5 v' (n+1) (List.flatten vals++cs)) (hgrow:(w.alloc o).grownBy w1 v.ownBlock) (hat:v'.ownBlock=v.ownBlock\/v'.ownBlock=some (w.alloc o).heap.size):bL w1 lo v' (n+1) (ts++[t]):=by
 refine bL.push h2 hn ht hown (fun g hg hne=>(hgrow.block g (by simp;omega) hne).trans (Below.heap_alloc w o g hg)) ?_;rcases hat with h|h
 ·exact .inl h
 ·exact .inr fun g hg=>by
   rw[h]at hg;simp at hg;omega
theorem kS{E:PE}{w wz w1:World}{v vz:PV}{lo:Nat}{kv:Value}{n:Nat}{xs:List Value}{o:Obj}(hz:PW wz E vz)(hP:PM E w v wz vz)(hO:aL wz lo 24 5 kv n xs)(hlo:w.heap.size<=lo)(hgrow:(wz.alloc o).grownBy w1 kv.ownBlock):
 PW w1 E vz/\PM E w v w1 vz/\∀g cs,ai wz g 24 cs->kv.ownBlock≠some g->ai w1 g 24 cs:=by
 have hs:az (fun g=>kv.ownBlock=some g) wz w1:=((az.refl (fun g=>kv.ownBlock=some g) wz).alloc o).grown hgrow (fun k hk=>.inl hk);refine⟨⟨hz.blk.since hs (hO.eu hz.blk (by decide)),hz.own.since hs (fun g hg=>hz.own.apart hO (by decide) g hg),hz.toks.since hs (fun g hg=>hz.toks.apart hO (by decide) g hg),hz.at_,hz.good,hz.last⟩,⟨hP.since.step hs (fun g hg=>.inr (by have:=(hO.lt g hg).1;omega)),hP.fresh⟩,fun g cs hb hne=>hb.since hs hne⟩
theorem IL{s:aP}{l:List jl}(he:mX l){p:PS}(hp:p.k<l.length):Le l p (fH s l p).2:=by
 have h1:=Xe (s:=s) (w:=[118,97,114]) he hp;have h2:=h1.trans (um he h1.2);exact h2.trans (Po he h2.2)
end Go.Proofs.YtoepemlnlpamlaaGreat
