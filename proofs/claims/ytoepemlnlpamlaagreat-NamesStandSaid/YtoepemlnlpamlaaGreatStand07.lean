/- The law NamesStand holds: for every text and every number the law returns true, and its arguments read as before. No condition. Part 7: Par7 Par8 Par9 ParA ParB ParC. -/
import Derived.Test.YtoepemlnlpamlaaGreatStand06
set_option maxRecDepth 100000
set_option maxHeartbeats 4000000
namespace Go.Proofs.YtoepemlnlpamlaaGreat
open Go.RowKit
theorem dY(E:PE)(hE:E.Ok)(v:PV)(w:World)(hpw:PW w E v)(first:Nat)(kind:Int)(t:bE)(lo:Nat)(A:Option Addr)(n c:Nat)(ts:List aa)(hk:bT w lo (.slice A n c) n ts):
 Calls Tryz.prog 71 #[.pointer (some ⟨E.gp,0,none⟩),.int .i64 (first:Int),.int .i64 kind,.string (bI t),.slice A n c] w fun e w'=>e= .returned (.agg #[.int .i64 kind,.string (bI t),.int .i64 (bW E.l v.st first ts),.int .i64 (v.st.last:Int),.slice A n c])/\Below w.heap.size w w'/\aF w' (fun g=>lo<=g) (aI E.l v.st first kind t ts) [.int .i64 kind,.string (bI t),.int .i64 (bW E.l v.st first ts),.int .i64 (v.st.last:Int),.slice A n c]:=by
 refine(IL E hE v w hpw first kind t lo A n c ts hk).mono ?_;rintro e w' ⟨rfl,hb⟩;exact⟨rfl,hb,(hk.keeps (dB.of_below hb)).node _ _ _ _⟩
theorem IU{w:World}{lo:Nat}{ts:List aa}{vals:List (List Value)}(h:bV w (fun g=>lo<=g) ts vals)(hlo:lo<=w.heap.size)(hm:ts.length<=1000):
 bT (w.alloc (.cells (List.flatten vals).toArray 24)) lo (.slice (some ⟨w.heap.size,0,none⟩) ts.length ts.length) ts.length ts:=by
 have hl:=(bV.lens h).2;refine⟨vals,?_,?_,rfl⟩
 ·have:=aP.block (base:=lo) (e:=24) (size:=5) (n:=ts.length) hlo (ak.new w 24 (List.flatten vals).toArray) (by simp only[maxLen];omega) (by simpa using hl)
  simpa using this
 ·refine bV.keeps (w:=w) (fun g _ _ hc=>Below.heap_alloc w _ g (aae.1 hc).1) _ _ (bV.weak (fun g hg hP=>⟨hP,fun e1=>?_⟩) _ _ h)
  have:g=w.heap.size:=by simpa [Value.ownBlock] using e1
  omega
theorem kE{w:World}{lo:Nat}{t:aa}{a b c d e:Value}(h:aF w (fun g=>lo<=g) t [a,b,c,d,e])(hlo:lo<=w.heap.size):
 bT (w.alloc (.cells #[a,b,c,d,e] 24)) lo (.slice (some ⟨w.heap.size,0,none⟩) 1 1) 1 [t]:=
 IU (ts:=[t]) (vals:=[[a,b,c,d,e]]) ⟨_,_,rfl,h,rfl⟩ hlo (by simp)
theorem DT(E:PE)(hE:E.Ok)(v:PV)(w:World)(hpw:PW w E v):Calls Tryz.prog 181 #[.pointer (some ⟨E.gp,0,none⟩)] w (bK E w v (gZ E.bs E.l v.st)):=by
 have hgl:=hpw.blk.lt;have hk2:w.cell? ⟨E.gp,2,none⟩=some (.int .i64 (v.st.k:Int)):=hpw.blk.cell 2;go_enter Tryz.func181,Tryz.ntmps181
 go_wp2_with fail
 generalize hW1:w.alloc (.cells #[.int .i64 0,.string ⟨#[]⟩,.int .i64 0,.int .i64 0,.slice none 0 0] 24)=W1
 have hb1:Below w.heap.size w W1:=by rw[<- hW1];exact ae _ _
 have eP:ak W1 w.heap.size 24 #[.int .i64 0,.string ⟨#[]⟩,.int .i64 0,.int .i64 0,.slice none 0 0]:=by rw[<- hW1];exact ak.new w _ _
 have hs1:W1.heap.size=w.heap.size+1:=by rw[<- hW1];simp
 have hm1:=PM.of_below (E:=E) (v:=v) hb1;have h1:=hpw.below hb1;have P1:=hm1;have pJ:=kH hs1;have xB:=kH hm1;clear hW1 hs1 hm1 hb1;obtain⟨bv,hbv⟩:∃x,bM E.bs E.l v.st [118,97,114]=x:=⟨_,rfl⟩
 have Nj:=kH hbv;clear hbv;refine(gI E hE v [118,97,114] _ h1).mono ?_;rintro e w2 ⟨rfl,v2,hv2,h2,hm2⟩;rw[Nj.out];have iw:=kH hv2;have hR2:=hm2.blk h1 eP;have P2:=P1.trans hm2;clear hv2 hm2;cases bv
 ·have aV:Hid (gZ E.bs E.l v.st=(aI E.l (jb E.bs E.l (dG E.l (bN E.bs E.l v.st [118,97,114]))).2 v.st.k 7 (dF E.bs E.l (bN E.bs E.l v.st [118,97,114])) [(jb E.bs E.l (dG E.l (bN E.bs E.l v.st [118,97,114]))).1],(jb E.bs E.l (dG E.l (bN E.bs E.l v.st [118,97,114]))).2)):=kH (by unfold gZ;rw[Nj.out];rfl)
  go_wp2_with fail
  refine(tJ E hE v2 _ h2).mono ?_;rintro e w3 ⟨rfl,v3,hv3,h3,eH⟩;have fU:=kH hv3;have dD:=eH.blk h2 hR2;have P3:=P2.trans eH;clear hv3 eH;have hnt:dF E.bs E.l v2.st=dF E.bs E.l (bN E.bs E.l v.st [118,97,114]):=by rw[iw.out]
  rw[hnt];rw[iw.out]at fU;clear hnt;go_wp2_with fail
  refine(wF E hE v3 _ h3).mono ?_;rintro e w4 ⟨k4,t4,a4,z4,A4,n4,c4,rfl,lD,v4,hv4,h4,iI⟩;have iY:=kH hv4;have fB:=iI.blk h3 dD;have P4:=P3.trans iI;replace lD:=aF.weak (Q:=fun g=>w.heap.size+1<=g) (fun g _ hg=>aac dD.lt hg) _ _ lD
  clear hv4;rw[fU.out]at iY lD;go_wp2_with fail
  generalize pI:w4.alloc (.cells #[.int .i64 k4,.string t4,.int .i64 a4,.int .i64 z4,.slice A4 n4 c4] 24)=w5
  have hb5:Below w4.heap.size w4 w5:=by rw[<- pI];exact ae _ _
  have hs5:w5.heap.size=w4.heap.size+1:=by rw[<- pI];simp
  have Ap:ak w5 w4.heap.size 24 #[.int .i64 k4,.string t4,.int .i64 a4,.int .i64 z4,.slice A4 n4 c4]:=by rw[<- pI];exact ak.new w4 _ _
  have jH:=aF.keeps (dB.of_below hb5) _ _ lD;have h5:=h4.below hb5;have fK:=fB.below hb5 fB.lt;have P5:=P4.trans (PM.of_below hb5);clear pI;have CJ:=kH (kE jH (by have:=fK.lt;omega));generalize tO:w5.alloc (.cells #[.int .i64 k4,.string t4,.int .i64 a4,.int .i64 z4,.slice A4 n4 c4] 24)=w6 at CJ⊢
  have hb6:Below w5.heap.size w5 w6:=by rw[<- tO];exact ae _ _
  have h6:=h5.below hb6;have fI:=fK.below hb6 fK.lt;have P6:=P5.trans (PM.of_below hb6);clear tO;obtain⟨v6,hv6⟩:∃v6,v6=v4:=⟨_,rfl⟩
  rw[<- hv6]at h6 P6 iY;have lU:=iY;rw[<- hs5];clear hv6 Ap hs5;refine(dY E hE v6 _ h6 v.st.k 7 (dF E.bs E.l (bN E.bs E.l v.st [118,97,114])) (w.heap.size+1) (some ⟨w5.heap.size,0,none⟩) 1 1 [(jb E.bs E.l (dG E.l (bN E.bs E.l v.st [118,97,114]))).1] CJ.out).mono ?_;rintro e w7 ⟨rfl,dQ,lQ⟩;have h7:=h6.below dQ;have fH:=fI.below dQ fI.lt;obtain⟨⟨r0,r1,r2,r3,r4⟩,g0,g1,g2,g3,g4⟩:=fH.five;go_wp2_with fail
  have bC:=kH (bO (v:=v) h7 (P6.trans (PM.of_below dQ)) rfl fH hgl lQ);clear lQ;refine bodyPost_ret (v:=.agg #[.int .i64 7,.string (bI (dF E.bs E.l (bN E.bs E.l v.st [118,97,114]))),.int .i64 (bW E.l v6.st v.st.k [(jb E.bs E.l (dG E.l (bN E.bs E.l v.st [118,97,114]))).1]),.int .i64 (v6.st.last:Int),.slice (some ⟨w5.heap.size,0,none⟩) 1 1]) (by simp[results,Tryz.results181,go_sem,r0,r1,r2,r3,r4]) rfl ?_;exact Eq.mp (congrArg (fun r=>bK E w v r _ _) (show(aI E.l v6.st v.st.k 7 (dF E.bs E.l (bN E.bs E.l v.st [118,97,114])) [(jb E.bs E.l (dG E.l (bN E.bs E.l v.st [118,97,114]))).1],v6.st)=_ by rw[aV.out,lU.out])) bC.out
 ·have aV:Hid (gZ E.bs E.l v.st=(aI E.l (jb E.bs E.l (dG E.l (bN E.bs E.l v.st [118,97,114]))).2 v.st.k 8 (dF E.bs E.l (bN E.bs E.l v.st [118,97,114])) [(jb E.bs E.l (dG E.l (bN E.bs E.l v.st [118,97,114]))).1],(jb E.bs E.l (dG E.l (bN E.bs E.l v.st [118,97,114]))).2)):=kH (by unfold gZ;rw[Nj.out];rfl)
  go_wp2_with fail
  refine(tJ E hE v2 _ h2).mono ?_;rintro e w3 ⟨rfl,v3,hv3,h3,eH⟩;have fU:=kH hv3;have dD:=eH.blk h2 hR2;have P3:=P2.trans eH;clear hv3 eH;have hnt:dF E.bs E.l v2.st=dF E.bs E.l (bN E.bs E.l v.st [118,97,114]):=by rw[iw.out]
  rw[hnt];rw[iw.out]at fU;clear hnt;go_wp2_with fail
  refine(wF E hE v3 _ h3).mono ?_;rintro e w4 ⟨k4,t4,a4,z4,A4,n4,c4,rfl,lD,v4,hv4,h4,iI⟩;have iY:=kH hv4;have fB:=iI.blk h3 dD;have P4:=P3.trans iI;replace lD:=aF.weak (Q:=fun g=>w.heap.size+1<=g) (fun g _ hg=>aac dD.lt hg) _ _ lD
  clear hv4;rw[fU.out]at iY lD;go_wp2_with fail
  generalize pI:w4.alloc (.cells #[.int .i64 k4,.string t4,.int .i64 a4,.int .i64 z4,.slice A4 n4 c4] 24)=w5
  have hb5:Below w4.heap.size w4 w5:=by rw[<- pI];exact ae _ _
  have hs5:w5.heap.size=w4.heap.size+1:=by rw[<- pI];simp
  have Ap:ak w5 w4.heap.size 24 #[.int .i64 k4,.string t4,.int .i64 a4,.int .i64 z4,.slice A4 n4 c4]:=by rw[<- pI];exact ak.new w4 _ _
  have jH:=aF.keeps (dB.of_below hb5) _ _ lD;have h5:=h4.below hb5;have fK:=fB.below hb5 fB.lt;have P5:=P4.trans (PM.of_below hb5);clear pI;have CJ:=kH (kE jH (by have:=fK.lt;omega));generalize tO:w5.alloc (.cells #[.int .i64 k4,.string t4,.int .i64 a4,.int .i64 z4,.slice A4 n4 c4] 24)=w6 at CJ⊢
  have hb6:Below w5.heap.size w5 w6:=by rw[<- tO];exact ae _ _
  have h6:=h5.below hb6;have fI:=fK.below hb6 fK.lt;have P6:=P5.trans (PM.of_below hb6);clear tO;obtain⟨v6,hv6⟩:∃v6,v6=v4:=⟨_,rfl⟩
  rw[<- hv6]at h6 P6 iY;have lU:=iY;rw[<- hs5];clear hv6 Ap hs5;refine(dY E hE v6 _ h6 v.st.k 8 (dF E.bs E.l (bN E.bs E.l v.st [118,97,114])) (w.heap.size+1) (some ⟨w5.heap.size,0,none⟩) 1 1 [(jb E.bs E.l (dG E.l (bN E.bs E.l v.st [118,97,114]))).1] CJ.out).mono ?_;rintro e w7 ⟨rfl,dQ,lQ⟩;have h7:=h6.below dQ;have fH:=fI.below dQ fI.lt;obtain⟨⟨r0,r1,r2,r3,r4⟩,g0,g1,g2,g3,g4⟩:=fH.five;go_wp2_with fail
  have bC:=kH (bO (v:=v) h7 (P6.trans (PM.of_below dQ)) rfl fH hgl lQ);clear lQ;refine bodyPost_ret (v:=.agg #[.int .i64 8,.string (bI (dF E.bs E.l (bN E.bs E.l v.st [118,97,114]))),.int .i64 (bW E.l v6.st v.st.k [(jb E.bs E.l (dG E.l (bN E.bs E.l v.st [118,97,114]))).1]),.int .i64 (v6.st.last:Int),.slice (some ⟨w5.heap.size,0,none⟩) 1 1]) (by simp[results,Tryz.results181,go_sem,r0,r1,r2,r3,r4]) rfl ?_;exact Eq.mp (congrArg (fun r=>bK E w v r _ _) (show(aI E.l v6.st v.st.k 8 (dF E.bs E.l (bN E.bs E.l v.st [118,97,114])) [(jb E.bs E.l (dG E.l (bN E.bs E.l v.st [118,97,114]))).1],v6.st)=_ by rw[aV.out,lU.out])) bC.out
theorem L8(E:PE)(hE:E.Ok)(v:PV)(w:World)(hpw:PW w E v):
 Calls Tryz.prog 183 #[.pointer (some ⟨E.gp,0,none⟩)] w fun e w'=>e= .returned (.bool (ko E.bs E.l v.st))/\Below w.heap.size w w':=by
 have hkd:=pY E hE v w hpw;have his:=fun x w' (h:PW w' E v)=>yu E hE v x w' h
 obtain⟨k,hk⟩:∃x,bP E.l v.st=x:=⟨_,rfl⟩
 rw[hk]at hkd;obtain⟨b1,hb1⟩:∃x,bM E.bs E.l v.st [125]=x:=⟨_,rfl⟩
 obtain⟨b2,hb2⟩:∃x,bM E.bs E.l v.st [112,114,111,99]=x:=⟨_,rfl⟩
 obtain⟨b3,hb3⟩:∃x,bM E.bs E.l v.st [114,101,99,111,114,100]=x:=⟨_,rfl⟩
 have hres:ko E.bs E.l v.st=(decide (k=5) || b1 || b2 || b3):=by unfold ko;rw[hk,hb1,hb2,hb3]
 rw[hres];have rE:=kH hkd;have HIS:=kH his;have HB1:=kH hb1;have HB2:=kH hb2;have HB3:=kH hb3;clear hres hk hkd his hb1 hb2 hb3;by_cases h5:k=5
 ·subst h5
  go_enter Tryz.func183,Tryz.ntmps183
  go_wp2_with fail
  refine rE.out.mono ?_;rintro e w1 ⟨rfl,hb⟩;go_wp2_with fail
  go_ret
  exact⟨rfl,hb⟩
 ·have hki:((k:Int)==5)=false:=by simp;omega
  have Pm:decide (k=5)=false:=decide_eq_false h5;rw[Pm];clear h5 Pm;go_enter Tryz.func183,Tryz.ntmps183
  go_wp2_with fail
  refine rE.out.mono ?_;rintro e w1 ⟨rfl,hb⟩;have h1:=hpw.below hb;go_wp2_with fail
  refine(HIS.out [125] w1 h1).mono ?_;rintro e w2 ⟨rfl,hb2⟩;rw[HB1.out];have lX:=hb.trans (hb2.mono hb.size);have h2:=h1.below hb2;clear hb hb2;cases b1
  ·go_wp2_with fail
   refine(HIS.out [112,114,111,99] w2 h2).mono ?_;rintro e w3 ⟨rfl,hb3⟩;rw[HB2.out];have wO:=lX.trans (hb3.mono lX.size);have h3:=h2.below hb3;clear lX hb3;cases b2
   ·go_wp2_with fail
    refine(HIS.out [114,101,99,111,114,100] w3 h3).mono ?_;rintro e w4 ⟨rfl,hb4⟩;rw[HB3.out];go_wp2_with fail
    go_ret
    exact⟨bQ (by simp),wO.trans (hb4.mono wO.size)⟩
   ·go_wp2_with fail
    go_ret
    exact⟨rfl,wO⟩
  ·go_wp2_with fail
   go_ret
   exact⟨rfl,lX⟩
def LB(w:World)(l:List bE)(e:Ending)(w':World):Prop:=
 ∃A n c,e= .returned (.slice A n c)/\l.length=n/\df 1 fP w' w'.heap.size A (l.map bI)/\Below w.heap.size w w'
theorem zU(w:World)(l:List bE):LB w l (.returned (.slice (some ⟨w.heap.size,0,none⟩) l.length l.length)) (w.alloc (.cells (l.map fun b=>Value.string (bI b)).toArray 9)):=
 ⟨_,_,_,rfl,rfl,xD w 9 l,ae _ _⟩
theorem Nz(lv:Nat)(w:World)(h:lv<=7):Calls Tryz.prog 232 #[.int .i64 (lv:Int)] w (LB w (zX lv)):=by
 have hnil:LB w [] (.returned (.slice none 0 0)) w:=⟨none,0,0,rfl,rfl,fun k c hk=>by simp at hk,Below.refl _ _⟩
 match lv,h with
 | 0,_=>
  go_enter Tryz.func232,Tryz.ntmps232
  go_wp2_with fail
  go_ret
  exact hnil
 | 1,_=>
  go_enter Tryz.func232,Tryz.ntmps232
  go_wp2_with fail
  go_ret
  exact zU w (zX 1)
 | 2,_=>
  go_enter Tryz.func232,Tryz.ntmps232
  go_wp2_with fail
  go_ret
  exact zU w (zX 2)
 | 3,_=>
  go_enter Tryz.func232,Tryz.ntmps232
  go_wp2_with fail
  go_ret
  exact hnil
 | 4,_=>
  go_enter Tryz.func232,Tryz.ntmps232
  go_wp2_with fail
  go_ret
  exact zU w (zX 4)
 | 5,_=>
  go_enter Tryz.func232,Tryz.ntmps232
  go_wp2_with fail
  go_ret
  exact zU w (zX 5)
 | 6,_=>
  go_enter Tryz.func232,Tryz.ntmps232
  go_wp2_with fail
  go_ret
  exact zU w (zX 6)
 | 7,_=>
  go_enter Tryz.func232,Tryz.ntmps232
  go_wp2_with fail
  go_ret
  exact hnil
 | n+8,h=>exact absurd h (by omega)
theorem ops_len(lv:Nat):(zX lv).length<=6:=by
 unfold zX;repeat (split;· decide)
 decide
theorem MH(ws:List bE)(x:bE):nW (ws.map bI) (bI x)=si ws x:=Gb ws (bI x)
theorem OM(E:PE)(hE:E.Ok)(v:PV)(lv:Nat)(w:World)(hpw:PW w E v)(hlv:lv<=7):
 Calls Tryz.prog 186 #[.pointer (some ⟨E.gp,0,none⟩),.int .i64 (lv:Int)] w fun e w'=>e= .returned (.bool (xX E.bs E.l v.st lv))/\Below w.heap.size w w':=by
 have hkd:=pY E hE v w hpw;obtain⟨k,hk⟩:∃x,bP E.l v.st=x:=⟨_,rfl⟩
 rw[hk]at hkd;obtain⟨b1,hb1⟩:∃x,si (zX lv) (bR E.bs E.l v.st.k)=x:=⟨_,rfl⟩
 have hres:xX E.bs E.l v.st lv=(decide (k≠5)&&b1):=by unfold xX;rw[hk,hb1]
 rw[hres];have hop:=fun w=>Nz lv w hlv
 have HOP:=kH hop;have rE:=kH hkd;have HB1:=kH hb1;clear hres hk hkd hb1 hop;by_cases h5:k=5
 ·subst h5
  go_enter Tryz.func186,Tryz.ntmps186
  go_wp2_with fail
  refine rE.out.mono ?_;rintro e w1 ⟨rfl,hb⟩;go_wp2_with fail
  go_ret
  exact⟨rfl,hb⟩
 ·have hki:((k:Int) !=5)=true:=by simp;omega
  have Pm:decide (k≠5)=true:=decide_eq_true h5;rw[Pm];clear h5 Pm;go_enter Tryz.func186,Tryz.ntmps186
  go_wp2_with fail
  refine rE.out.mono ?_;rintro e w1 ⟨rfl,hb⟩;have h1:=hpw.below hb;go_wp2_with fail
  refine(HOP.out w1).mono ?_;rintro e w2 ⟨A,n,c,rfl,hn,hr,hb2⟩;have lX:=hb.trans (hb2.mono hb.size);have h2:=h1.below hb2;have HN:=kH hn;have HR:=kH hr;clear hb hb2 hn hr;go_wp2_with fail
  refine(Da E hE v w2 h2).mono ?_;rintro e w3 ⟨rfl,hb3⟩;have hr3:=(HR.out.below hb3 (aab _)).mono hb3.size;have HR3:=kH hr3;have wO:=lX.trans (hb3.mono lX.size);clear lX hb3 hr3;go_wp2_with fail
  refine(zO A n c ((zX lv).map bI) (bI (bR E.bs E.l v.st.k)) w3 HR3.out (by rw[List.length_map];exact HN.out) (by have:=ops_len lv;rw[<- HN.out];omega)).mono ?_;rintro e w4 ⟨rfl,hb4⟩;rw[MH,HB1.out];go_wp2_with fail
  go_ret
  exact⟨bQ (by simp),wO.trans (hb4.mono wO.size)⟩
theorem Rt(E:PE)(hE:E.Ok)(v:PV)(w:World)(hpw:PW w E v):
 Calls Tryz.prog 188 #[.pointer (some ⟨E.gp,0,none⟩)] w fun e w'=>e= .returned (.bool (zL E.bs E.l v.st))/\Below w.heap.size w w':=by
 have hkd:=pY E hE v w hpw;obtain⟨k,hk⟩:∃x,bP E.l v.st=x:=⟨_,rfl⟩
 rw[hk]at hkd;obtain⟨b1,hb1⟩:∃x,si Cz (bR E.bs E.l v.st.k)=x:=⟨_,rfl⟩
 have hres:zL E.bs E.l v.st=(decide (k=1)&&b1):=by unfold zL;rw[hk,hb1]
 rw[hres];have rE:=kH hkd;have HB1:=kH hb1;clear hres hk hkd hb1;have hal:∀w:World,Below w.heap.size w (w.alloc (.cells (Cz.map fun b=>Value.string (bI b)).toArray 9)):=fun w=>ae _ _
 have HAL:=kH hal;clear hal;by_cases h1:k=1
 ·subst h1
  go_enter Tryz.func188,Tryz.ntmps188
  go_wp2_with fail
  refine rE.out.mono ?_;rintro e w1 ⟨rfl,hb⟩;have h1:=hpw.below hb;have h2:=h1.below (HAL.out w1);have hr:=xD w1 9 Cz;have HR:=kH hr;have H2:=kH h2;have hbn:=hb.trans ((HAL.out w1).mono hb.size);have CL:=kH hbn;clear hr h2 hbn;go_wp2_with fail
  refine(Da E hE v _ H2.out).mono ?_;rintro e w3 ⟨rfl,hb3⟩;have hr3:=(HR.out.below hb3 (aab _)).mono hb3.size;have HR3:=kH hr3;have wO:=CL.out.trans (hb3.mono CL.out.size);have oO:=kH wO;clear wO hr3 hb3;go_wp2_with fail
  refine(zO (some ⟨w1.heap.size,0,none⟩) 6 6 (Cz.map bI) (bI (bR E.bs E.l v.st.k)) w3 HR3.out rfl (by omega)).mono ?_;rintro e w4 ⟨rfl,hb4⟩;rw[MH,HB1.out];go_wp2_with fail
  go_ret
  exact⟨bQ (by simp),oO.out.trans (hb4.mono oO.out.size)⟩
 ·have hki:((k:Int)==1)=false:=by simp;omega
  have hkd1:decide (k=1)=false:=decide_eq_false h1;rw[hkd1];clear h1 hkd1;go_enter Tryz.func188,Tryz.ntmps188
  go_wp2_with fail
  refine rE.out.mono ?_;rintro e w1 ⟨rfl,hb⟩;go_wp2_with fail
  go_ret
  exact⟨rfl,hb⟩
theorem Q6(E:PE)(hE:E.Ok)(v:PV)(w:World)(hpw:PW w E v):
 Calls Tryz.prog 136 #[.pointer (some ⟨E.gp,0,none⟩)] w fun e w'=>e= .returned (.bool (C8 E.bs E.l v.st))/\Below w.heap.size w w':=by
 have hkd:=fun w' (h:PW w' E v)=>pY E hE v w' h
 have his:=fun x w' (h:PW w' E v)=>yu E hE v x w' h
 obtain⟨k,hk⟩:∃x,bP E.l v.st=x:=⟨_,rfl⟩
 rw[hk]at hkd;obtain⟨b1,hb1⟩:∃x,bM E.bs E.l v.st [116,114,117,101]=x:=⟨_,rfl⟩
 obtain⟨b2,hb2⟩:∃x,bM E.bs E.l v.st [102,97,108,115,101]=x:=⟨_,rfl⟩
 obtain⟨b3,hb3⟩:∃x,bM E.bs E.l v.st [108,101,110]=x:=⟨_,rfl⟩
 obtain⟨b4,hb4⟩:∃x,bM E.bs E.l v.st [40]=x:=⟨_,rfl⟩
 obtain⟨b5,hb5⟩:∃x,bM E.bs E.l v.st [91]=x:=⟨_,rfl⟩
 have hres:C8 E.bs E.l v.st=(decide (k=0) || decide (k=2) || b1 || b2 || b3 || b4 || b5):=by unfold C8;rw[hk,hb1,hb2,hb3,hb4,hb5]
 rw[hres];have rE:=kH hkd;have HIS:=kH his;have HB1:=kH hb1;have HB2:=kH hb2;have HB3:=kH hb3;have pK:=kH hb4;have fT:=kH hb5;clear hres hk hkd his hb1 hb2 hb3 hb4 hb5;by_cases h0:k=0
 ·subst h0
  go_enter Tryz.func136,Tryz.ntmps136
  go_wp2_with fail
  refine(rE.out w hpw).mono ?_;rintro e w1 ⟨rfl,hb⟩;go_wp2_with fail
  go_ret
  exact⟨rfl,hb⟩
 have hk0:((k:Int)==0)=false:=by simp;omega
 have hd0:decide (k=0)=false:=decide_eq_false h0;rw[hd0];clear h0 hd0;go_enter Tryz.func136,Tryz.ntmps136
 go_wp2_with fail
 refine(rE.out w hpw).mono ?_;rintro e w1 ⟨rfl,hb⟩;have h1:=hpw.below hb;go_wp2_with fail
 refine(rE.out w1 h1).mono ?_;rintro e w2 ⟨rfl,hbb⟩;have h2:=h1.below hbb;have c2:=hb.trans (hbb.mono hb.size);clear hb hbb;by_cases h22:k=2
 ·subst h22
  go_wp2_with fail
  go_ret
  exact⟨rfl,c2⟩
 have hk2:((k:Int)==2)=false:=by simp;omega
 have HD2:Hid (decide (k=2)=false):=kH (decide_eq_false h22);clear h22;go_wp2_with fail
 refine(HIS.out [116,114,117,101] w2 h2).mono ?_;rintro e w3 ⟨rfl,hbb⟩;rw[HB1.out];have h3:=h2.below hbb;have c3:=c2.trans (hbb.mono c2.size);clear hbb;cases b1
 case true=>
  go_wp2_with fail
  go_ret
  exact⟨bQ (by simp),c3⟩
 go_wp2_with fail
 refine(HIS.out [102,97,108,115,101] w3 h3).mono ?_;rintro e w4 ⟨rfl,hbb⟩;rw[HB2.out];have h4:=h3.below hbb;have c4:=c3.trans (hbb.mono c3.size);clear hbb;cases b2
 case true=>
  go_wp2_with fail
  go_ret
  exact⟨bQ (by simp),c4⟩
 go_wp2_with fail
 refine(HIS.out [108,101,110] w4 h4).mono ?_;rintro e w5 ⟨rfl,hbb⟩;rw[HB3.out];have h5:=h4.below hbb;have c5:=c4.trans (hbb.mono c4.size);clear hbb;cases b3
 case true=>
  go_wp2_with fail
  go_ret
  exact⟨bQ (by simp),c5⟩
 go_wp2_with fail
 refine(HIS.out [40] w5 h5).mono ?_;rintro e w6 ⟨rfl,hbb⟩;rw[pK.out];have h6:=h5.below hbb;have c6:=c5.trans (hbb.mono c5.size);clear hbb;cases b4
 case true=>
  go_wp2_with fail
  go_ret
  exact⟨bQ (by simp),c6⟩
 go_wp2_with fail
 refine(HIS.out [91] w6 h6).mono ?_;rintro e w7 ⟨rfl,hbb⟩;rw[fT.out];have h7:=h6.below hbb;have c7:=c6.trans (hbb.mono c6.size);clear hbb;go_wp2_with fail
 go_ret
 exact⟨bQ (by rw[HD2.out];simp),c7⟩
theorem Q4(E:PE)(hE:E.Ok)(v:PV)(w:World)(hpw:PW w E v)(f:Nat)(r:aa×PS)(hr:pU E.bs E.l f v.st=some r):Calls Tryz.prog 140 #[.pointer (some ⟨E.gp,0,none⟩)] w (bK E w v r):=by
 obtain⟨q,hq,hrq⟩:∃q,qp E.bs E.l v.st.k f (iK E.l v.st 6 [])=some q/\r=(aI E.l q v.st.k 1 [] [],q):=by
  unfold pU at hr;split at hr
  ·cases hr
  ·rename_i q h
   cases hr
   exact⟨q,h,rfl⟩
 have HQ:=kH hq;have aV:=kH hrq;clear hr hq hrq;have hgl:=hpw.blk.lt;have hk2:w.cell? ⟨E.gp,2,none⟩=some (.int .i64 (v.st.k:Int)):=hpw.blk.cell 2;obtain⟨first,Pq⟩:∃x,v.st.k=x:=⟨_,rfl⟩
 rw[Pq]at hk2;have HF:=kH Pq;clear Pq;go_enter Tryz.func140,Tryz.ntmps140
 go_wp2_with fail
 generalize hW1:w.alloc (.cells #[.int .i64 0,.string ⟨#[]⟩,.int .i64 0,.int .i64 0,.slice none 0 0] 24)=W1
 have hb1:Below w.heap.size w W1:=by rw[<- hW1];exact ae _ _
 have eP:ak W1 w.heap.size 24 #[.int .i64 0,.string ⟨#[]⟩,.int .i64 0,.int .i64 0,.slice none 0 0]:=by rw[<- hW1];exact ak.new w _ _
 have hs1:W1.heap.size=w.heap.size+1:=by rw[<- hW1];simp
 have hm1:=PM.of_below (E:=E) (v:=v) hb1;have h1:=hpw.below hb1;have P1:=hm1;have pJ:=kH hs1;have xB:=kH hm1;clear hW1 hs1 hm1 hb1;refine(rW E hE v 6 [] _ h1).mono ?_;rintro e w2 ⟨⟨u2,rfl⟩,v2,hv2,h2,hm2⟩;have iw:=kH hv2;have hR2:=hm2.blk h1 eP;have P2:=P1.trans hm2;clear hv2 hm2;go_wp2_with fail
 go_loopg [] f (fun gk wr=> ∃vx,qp E.bs E.l first gk vx.st=some q/\PW wr E vx/\PM E w v wr vx/\ak wr w.heap.size 24 #[.int .i64 0,.string ⟨#[]⟩,.int .i64 0,.int .i64 0,.slice none 0 0])
 case atStart=>exact⟨v2,by rw[iw.out,<- HF.out];exact HQ.out,h2,P2,hR2⟩
 case round=>
  obtain⟨vx,hx,hpx,hmx,R9⟩:=hrel
  cases gk with
  | zero=>simp[qp]at hx
  | succ gk=>
   rw[qp]at hx;have hst:=fun w' (h:PW w' E vx)=>L8 E hE vx w' h
   have hbg:=fun w' (h:PW w' E vx)=>Rt E hE vx w' h
   obtain⟨b1,hb1⟩:∃x,ko E.bs E.l vx.st=x:=⟨_,rfl⟩
   obtain⟨b2,hb2⟩:∃x,zL E.bs E.l vx.st=x:=⟨_,rfl⟩
   rw[hb1]at hst;rw[hb2]at hbg;have HB1:=kH hb1;rw[hb1,hb2]at hx;have HST:=kH hst;have XO:=kH hbg;have HX:=kH hx;clear hx hst hbg hb1 hb2;cases b1
   ·have hk5:bP E.l vx.st≠5:=by
     intro h5;have:=HB1.out;unfold ko at this;rw[h5]at this;simp at this
    obtain⟨bg,hbg⟩:∃x,(decide (vx.st.k=first) || !b2)=x:=⟨_,rfl⟩
    have hx2:=HX.out;rw[hbg]at hx2;have hkc:=hpx.blk.cell 2;simp at hkc;obtain⟨kx,hkx⟩:∃x,vx.st.k=x:=⟨_,rfl⟩
    rw[hkx]at hbg hkc;have yI:=kH hx2;have HG:=kH hbg;have fQ:=kH hkx;have zo:=kH hk5;have hgx:=hpx.blk.lt;clear hx2 hbg hkx HX hk5;have HPX:=kH hpx;go_upto_region 3 with fail
    go_cut [25] (fun s25 wx=>s25= .bool bg/\Below wr.heap.size wr wx)
    case first=>
     by_cases nM:kx=first
     ·have e:bg=true:=by rw[<- HG.out];simp[nM]
      subst e;have hki:((kx:Int)==(first:Int))=true:=by simp[nM]
      have hkn:(kx==first)=true:=by simp[nM]
      clear nM;go_wp2_with fail
      refine(HST.out _ hpx).mono ?_;rintro e w4 ⟨rfl,hb4⟩;have hkc4:w4.cell? ⟨E.gp,2,none⟩=some (.int .i64 (kx:Int)):=(hb4.cell (p:=⟨E.gp,2,none⟩) hgx).trans hkc;clear hkc;go_wp2_with fail
      go_meet
      exact⟨rfl,hb4⟩
     ·have e:bg= !b2:=by rw[<- HG.out];simp[nM]
      subst e;have hki:((kx:Int)==(first:Int))=false:=by simp;omega
      have hkn:(kx==first)=false:=by simp[nM]
      clear nM;go_wp2_with fail
      refine(HST.out _ hpx).mono ?_;rintro e w4 ⟨rfl,hb4⟩;have hkc4:w4.cell? ⟨E.gp,2,none⟩=some (.int .i64 (kx:Int)):=(hb4.cell (p:=⟨E.gp,2,none⟩) hgx).trans hkc;have h4:=HPX.out.below hb4;clear hkc;go_wp2_with fail
      refine(XO.out _ h4).mono ?_;rintro e w5 ⟨rfl,hb5⟩;go_wp2_with fail
      go_meet
      exact⟨rfl,hb4.trans (hb5.mono hb4.size)⟩
    case rest=>
     obtain⟨rfl,hbw⟩:=hcut;have h4:=HPX.out.below hbw;have fB:=R9.below hbw R9.lt;have P4:=hmx.trans (PM.of_below hbw);cases bg
     ·have hq2:vx.st=q:=by simpa using yI.out
      obtain⟨v4,hv4⟩:∃v4,v4=vx:=⟨_,rfl⟩
      rw[<- hv4]at h4 P4 hq2;have iY:=kH hq2;obtain⟨w4,hw4⟩:∃w4:World,w4=wc:=⟨_,rfl⟩
      rw[HF.out]at aV;clear hv4 hq2;subst hw4;go_wp2_with fail
      refine(iM E hE v4 _ h4 first 1 [] (w.heap.size+1)).mono ?_;rintro e w5 ⟨rfl,hb5,jH⟩;have h5:=h4.below hb5;have fK:=fB.below hb5 fB.lt;obtain⟨⟨r0,r1,r2,r3,r4⟩,g0,g1,g2,g3,g4⟩:=fK.five;go_wp2_with fail
      have bC:=kH (bO (v:=v) h5 (P4.trans (PM.of_below hb5)) rfl fK hgl jH);clear jH;refine bodyPost_ret (v:=.agg #[.int .i64 1,.string (bI []),.int .i64 (bW E.l v4.st first []),.int .i64 (v4.st.last:Int),.slice none 0 0]) (by simp[results,Tryz.results140,go_sem,r0,r1,r2,r3,r4]) rfl ?_;exact Eq.mp (congrArg (fun r=>bK E w v r _ _) (show(aI E.l v4.st first 1 [] [],v4.st)=_ by rw[iY.out,aV.out])) bC.out
     ·go_wp2_with fail
      refine(qN E hE vx _ h4 zo.out).mono ?_;rintro e w6 ⟨rfl,h6,dM⟩;have fI:=dM.blk h4 fB;have P6:=P4.trans dM;by_cases hsc:bR E.bs E.l vx.st.k=[59]
      ·have hq2:aC E.l vx.st=q:=by
        have:=yI.out;rw[hsc]at this;simpa using this
       have hws:bI (bR E.bs E.l vx.st.k)=⟨#[59]⟩:=by rw[hsc];rfl
       rw[hws];obtain⟨v6,hv6⟩:∃v6:PV,(⟨aC E.l vx.st,vx.lv⟩:PV)=v6:=⟨_,rfl⟩
       rw[hv6]at h6 P6;have lU:Hid (v6.st=q):=kH (by rw[<- hv6];exact hq2);rw[HF.out]at aV;clear hv6 hq2 hsc hws dM;go_wp2_with fail
       refine(iM E hE v6 _ h6 first 1 [] (w.heap.size+1)).mono ?_;rintro e w7 ⟨rfl,dQ,lQ⟩;have h7:=h6.below dQ;have fH:=fI.below dQ fI.lt;obtain⟨⟨r0,r1,r2,r3,r4⟩,g0,g1,g2,g3,g4⟩:=fH.five;go_wp2_with fail
       have bC:=kH (bO (v:=v) h7 (P6.trans (PM.of_below dQ)) rfl fH hgl lQ);clear lQ;refine bodyPost_ret (v:=.agg #[.int .i64 1,.string (bI []),.int .i64 (bW E.l v6.st first []),.int .i64 (v6.st.last:Int),.slice none 0 0]) (by simp[results,Tryz.results140,go_sem,r0,r1,r2,r3,r4]) rfl ?_;exact Eq.mp (congrArg (fun r=>bK E w v r _ _) (show(aI E.l v6.st first 1 [] [],v6.st)=_ by rw[lU.out,aV.out])) bC.out
      ·have hq2:qp E.bs E.l first gk (aC E.l vx.st)=some q:=by
        have:=yI.out;rw[if_pos (by simp),if_neg hsc]at this;exact this
       obtain⟨wd,hwd⟩:∃x,bI (bR E.bs E.l vx.st.k)=x:=⟨_,rfl⟩
       have hwf:(wd.data.toList==[59])=false:=by rw[<- hwd];simpa [bI] using hsc
       have hwf2:(wd.toList==[59])=false:=by rw[ByteArray.toList_eq];exact hwf
       rw[hwd];have oW:=kH hq2;have HM6:=kH dM;clear hq2 hsc hwd dM;go_wp2_with fail
       go_roundg gk
       case measure=>omega
       case rel=>exact⟨_,oW.out,h6,P6,fI⟩
   ·have hq2:vx.st=q:=by simpa using HX.out
    have CB:=kH hq2;clear hq2;go_wp2_with fail
    refine(HST.out _ hpx).mono ?_;rintro e w4 ⟨rfl,hb4⟩;have h4:=hpx.below hb4;have fB:=R9.below hb4 R9.lt;have P4:=hmx.trans (PM.of_below hb4);go_wp2_with fail
    obtain⟨v4,hv4⟩:∃v4,v4=vx:=⟨_,rfl⟩
    rw[<- hv4]at h4 P4 CB;have iY:=CB;rw[HF.out]at aV;clear hv4;refine(iM E hE v4 _ h4 first 1 [] (w.heap.size+1)).mono ?_;rintro e w5 ⟨rfl,hb5,jH⟩;have h5:=h4.below hb5;have fK:=fB.below hb5 fB.lt;obtain⟨⟨r0,r1,r2,r3,r4⟩,g0,g1,g2,g3,g4⟩:=fK.five;go_wp2_with fail
    have bC:=kH (bO (v:=v) h5 (P4.trans (PM.of_below hb5)) rfl fK hgl jH);clear jH;refine bodyPost_ret (v:=.agg #[.int .i64 1,.string (bI []),.int .i64 (bW E.l v4.st first []),.int .i64 (v4.st.last:Int),.slice none 0 0]) (by simp[results,Tryz.results140,go_sem,r0,r1,r2,r3,r4]) rfl ?_;exact Eq.mp (congrArg (fun r=>bK E w v r _ _) (show(aI E.l v4.st first 1 [] [],v4.st)=_ by rw[iY.out,aV.out])) bC.out
theorem MS(E:PE)(hE:E.Ok)(v:PV)(w:World)(hpw:PW w E v):Calls Tryz.prog 127 #[.pointer (some ⟨E.gp,0,none⟩)] w (bK E w v (jS E.bs E.l v.st)):=by
 have hgl:=hpw.blk.lt;have hk2:w.cell? ⟨E.gp,2,none⟩=some (.int .i64 (v.st.k:Int)):=hpw.blk.cell 2;go_enter Tryz.func127,Tryz.ntmps127
 go_wp2_with fail
 generalize hW1:w.alloc (.cells #[.int .i64 0,.string ⟨#[]⟩,.int .i64 0,.int .i64 0,.slice none 0 0] 24)=W1
 have hb1:Below w.heap.size w W1:=by rw[<- hW1];exact ae _ _
 have eP:ak W1 w.heap.size 24 #[.int .i64 0,.string ⟨#[]⟩,.int .i64 0,.int .i64 0,.slice none 0 0]:=by rw[<- hW1];exact ak.new w _ _
 have hs1:W1.heap.size=w.heap.size+1:=by rw[<- hW1];simp
 have hm1:=PM.of_below (E:=E) (v:=v) hb1;have h1:=hpw.below hb1;have P1:=hm1;have pJ:=kH hs1;have xB:=kH hm1;clear hW1 hs1 hm1 hb1;refine(tJ E hE v _ h1).mono ?_;rintro e w2 ⟨rfl,v2,hv2,h2,hm2⟩;have iw:=kH hv2;have hR2:=hm2.blk h1 eP;have P2:=P1.trans hm2;clear hv2 hm2;go_wp2_with fail
 refine(kR E hE v2 [58] _ h2).mono ?_;rintro e w3 ⟨rfl,v3,hv3,h3,eH⟩;have fU:=kH hv3;have dD:=eH.blk h2 hR2;have P3:=P2.trans eH;clear hv3 eH;rw[iw.out]at fU;have hkc:w3.cell? ⟨E.gp,2,none⟩=some (.int .i64 (v3.st.k:Int)):=h3.blk.cell 2;obtain⟨k3,hk3⟩:∃x,v3.st.k=x:=⟨_,rfl⟩
 rw[hk3]at hkc;have gq:=kH hk3;clear hk3;have his:=fun x w' (h:PW w' E v3)=>yu E hE v3 x w' h
 obtain⟨b1,hb1⟩:∃x,bM E.bs E.l v3.st [105,110,116]=x:=⟨_,rfl⟩
 obtain⟨b2,hb2⟩:∃x,bM E.bs E.l v3.st [98,111,111,108]=x:=⟨_,rfl⟩
 have HIS:=kH his;have HB1:=kH hb1;have HB2:=kH hb2;clear his hb1 hb2;go_upto_region 5 with fail
 go_cut [26] (fun s26 wx=>s26= .bool (b1 || b2)/\Below w3.heap.size w3 wx)
 case first=>
  cases b1
  ·go_wp2_with fail
   refine(HIS.out [105,110,116] _ h3).mono ?_;rintro e w4 ⟨rfl,hb4⟩;rw[HB1.out];have h4:=h3.below hb4;go_wp2_with fail
   refine(HIS.out [98,111,111,108] _ h4).mono ?_;rintro e w5 ⟨rfl,hb5⟩;rw[HB2.out];go_wp2_with fail
   go_meet
   exact⟨by simp,hb4.trans (hb5.mono hb4.size)⟩
  ·go_wp2_with fail
   refine(HIS.out [105,110,116] _ h3).mono ?_;rintro e w4 ⟨rfl,hb4⟩;rw[HB1.out];go_wp2_with fail
   go_meet
   exact⟨by simp,hb4⟩
 case rest=>
  obtain⟨hs26,hbw⟩:=hcut;have h4:=h3.below hbw;have fB:=dD.below hbw dD.lt;have P4:=P3.trans (PM.of_below hbw);obtain⟨bb,hbb⟩:∃x,(b1 || b2)=x:=⟨_,rfl⟩
  rw[hbb]at hs26;subst hs26;have oZ:=kH hbb;clear hbb hbw hkc hk2;cases bb
  ·go_wp2_with fail
   refine(rW E hE v3 4 [116,121,112,101] _ h4).mono ?_;rintro e w5 ⟨⟨u5x,rfl⟩,v5,hv5,h5,iH⟩;have HV5:=kH hv5;have fK:=iH.blk h4 fB;have P5:=P4.trans iH;clear hv5 iH;go_wp2_with fail
   have aV:Hid (jS E.bs E.l v.st=(aI E.l v5.st v.st.k 4 (dF E.bs E.l v.st) [aI E.l v5.st k3 1 [] []],v5.st)):=kH (by
    have hc:(bM E.bs E.l (aH E.bs E.l (dG E.l v.st) [58]) [105,110,116] || bM E.bs E.l (aH E.bs E.l (dG E.l v.st) [58]) [98,111,111,108])=false:=by rw[<- fU.out,HB1.out,HB2.out,oZ.out]
    unfold jS;simp only
    rw[hc,if_neg (by simp),HV5.out,<- fU.out,gq.out])
   refine(iM E hE v5 _ h5 k3 1 [] (w.heap.size+1)).mono ?_;rintro e w6 ⟨rfl,hb6,qR⟩;have h6:=h5.below hb6;have fI:=fK.below hb6 fK.lt;have P6:=P5.trans (PM.of_below hb6);go_wp2_with fail
   generalize uF:w6.alloc (.cells #[.int .i64 1,.string (bI []),.int .i64 (bW E.l v5.st k3 []),.int .i64 (v5.st.last:Int),.slice none 0 0] 24)=w7
   have dQ:Below w6.heap.size w6 w7:=by rw[<- uF];exact ae _ _
   have hs7:w7.heap.size=w6.heap.size+1:=by rw[<- uF];simp
   have lQ:=aF.keeps (dB.of_below dQ) _ _ qR;have h7:=h6.below dQ;have fH:=fI.below dQ fI.lt;have P7:=P6.trans (PM.of_below dQ);clear uF;have nC:=kH (kE lQ (by have:=fH.lt;omega));generalize qd:w7.alloc (.cells #[.int .i64 1,.string (bI []),.int .i64 (bW E.l v5.st k3 []),.int .i64 (v5.st.last:Int),.slice none 0 0] 24)=w8 at nC⊢
   have fJ:Below w7.heap.size w7 w8:=by rw[<- qd];exact ae _ _
   have h8:=h7.below fJ;have eB:=fH.below fJ fH.lt;have P8:=P7.trans (PM.of_below fJ);clear qd;obtain⟨v8,eX⟩:∃v8,v8=v5:=⟨_,rfl⟩
   have ic:Hid (v8.st=v5.st):=kH (by rw[eX]);rw[<- eX]at h8 P8;rw[<- hs7];clear eX hs7;refine(dY E hE v8 _ h8 v.st.k 4 (dF E.bs E.l v.st) (w.heap.size+1) (some ⟨w7.heap.size,0,none⟩) 1 1 [aI E.l v5.st k3 1 [] []] nC.out).mono ?_;rintro e w9 ⟨rfl,ek,om⟩;have h9:=h8.below ek;have fA:=eB.below ek eB.lt;obtain⟨⟨r0,r1,r2,r3,r4⟩,g0,g1,g2,g3,g4⟩:=fA.five;go_wp2_with fail
   have bC:=kH (bO (v:=v) h9 (P8.trans (PM.of_below ek)) rfl fA hgl om);clear om;refine bodyPost_ret (v:=.agg #[.int .i64 4,.string (bI (dF E.bs E.l v.st)),.int .i64 (bW E.l v8.st v.st.k [aI E.l v5.st k3 1 [] []]),.int .i64 (v8.st.last:Int),.slice (some ⟨w7.heap.size,0,none⟩) 1 1]) (by simp[results,Tryz.results127,go_sem,r0,r1,r2,r3,r4]) rfl ?_;exact Eq.mp (congrArg (fun r=>bK E w v r _ _) (show(aI E.l v8.st v.st.k 4 (dF E.bs E.l v.st) [aI E.l v5.st k3 1 [] []],v8.st)=_ by rw[aV.out,ic.out])) bC.out
  ·have hk5:bP E.l v3.st≠5:=by
    intro h5;have:=oZ.out;rw[<- HB1.out,<- HB2.out]at this;unfold bM at this;rw[h5]at this;simp at this
   have zo:=kH hk5;clear hk5;go_wp2_with fail
   refine(qN E hE v3 _ h4 zo.out).mono ?_;rintro e w5 ⟨rfl,h5,iH⟩;have fK:=iH.blk h4 fB;have P5:=P4.trans iH;obtain⟨v5,hv5⟩:∃v5:PV,(⟨aC E.l v3.st,v3.lv⟩:PV)=v5:=⟨_,rfl⟩
   rw[hv5]at h5 P5;have HV5:Hid (v5.st=aC E.l v3.st):=kH (by rw[<- hv5]);obtain⟨wd,hwd⟩:∃x,bR E.bs E.l v3.st.k=x:=⟨_,rfl⟩
   rw[hwd];have HWD:=kH hwd;clear hv5 iH hwd
   have aV:Hid (jS E.bs E.l v.st=(aI E.l v5.st v.st.k 4 (dF E.bs E.l v.st) [aI E.l v5.st k3 9 wd []],v5.st)):=kH (by
    have hc:(bM E.bs E.l (aH E.bs E.l (dG E.l v.st) [58]) [105,110,116] || bM E.bs E.l (aH E.bs E.l (dG E.l v.st) [58]) [98,111,111,108])=true:=by rw[<- fU.out,HB1.out,HB2.out,oZ.out]
    unfold jS;simp only
    rw[hc,if_pos rfl,HV5.out,<- fU.out,HWD.out,gq.out])
   go_wp2_with fail
   refine(iM E hE v5 _ h5 k3 9 wd (w.heap.size+1)).mono ?_;rintro e w6 ⟨rfl,hb6,qR⟩;have h6:=h5.below hb6;have fI:=fK.below hb6 fK.lt;have P6:=P5.trans (PM.of_below hb6);go_wp2_with fail
   generalize uF:w6.alloc (.cells #[.int .i64 9,.string (bI wd),.int .i64 (bW E.l v5.st k3 []),.int .i64 (v5.st.last:Int),.slice none 0 0] 24)=w7
   have dQ:Below w6.heap.size w6 w7:=by rw[<- uF];exact ae _ _
   have hs7:w7.heap.size=w6.heap.size+1:=by rw[<- uF];simp
   have lQ:=aF.keeps (dB.of_below dQ) _ _ qR;have h7:=h6.below dQ;have fH:=fI.below dQ fI.lt;have P7:=P6.trans (PM.of_below dQ);clear uF;have nC:=kH (kE lQ (by have:=fH.lt;omega));generalize qd:w7.alloc (.cells #[.int .i64 9,.string (bI wd),.int .i64 (bW E.l v5.st k3 []),.int .i64 (v5.st.last:Int),.slice none 0 0] 24)=w8 at nC⊢
   have fJ:Below w7.heap.size w7 w8:=by rw[<- qd];exact ae _ _
   have h8:=h7.below fJ;have eB:=fH.below fJ fH.lt;have P8:=P7.trans (PM.of_below fJ);clear qd;obtain⟨v8,eX⟩:∃v8,v8=v5:=⟨_,rfl⟩
   have ic:Hid (v8.st=v5.st):=kH (by rw[eX]);rw[<- eX]at h8 P8;rw[<- hs7];clear eX hs7;refine(dY E hE v8 _ h8 v.st.k 4 (dF E.bs E.l v.st) (w.heap.size+1) (some ⟨w7.heap.size,0,none⟩) 1 1 [aI E.l v5.st k3 9 wd []] nC.out).mono ?_;rintro e w9 ⟨rfl,ek,om⟩;have h9:=h8.below ek;have fA:=eB.below ek eB.lt;obtain⟨⟨r0,r1,r2,r3,r4⟩,g0,g1,g2,g3,g4⟩:=fA.five;go_wp2_with fail
   have bC:=kH (bO (v:=v) h9 (P8.trans (PM.of_below ek)) rfl fA hgl om);clear om;refine bodyPost_ret (v:=.agg #[.int .i64 4,.string (bI (dF E.bs E.l v.st)),.int .i64 (bW E.l v8.st v.st.k [aI E.l v5.st k3 9 wd []]),.int .i64 (v8.st.last:Int),.slice (some ⟨w7.heap.size,0,none⟩) 1 1]) (by simp[results,Tryz.results127,go_sem,r0,r1,r2,r3,r4]) rfl ?_;exact Eq.mp (congrArg (fun r=>bK E w v r _ _) (show(aI E.l v8.st v.st.k 4 (dF E.bs E.l v.st) [aI E.l v5.st k3 9 wd []],v8.st)=_ by rw[aV.out,ic.out])) bC.out
theorem pF:(Tryz.prog.info? 24).map (fun i=>(i.zero,i.size,i.bytes))=some (some (.agg #[.int .i64 0,.string ⟨#[]⟩,.int .i64 0,.int .i64 0,.slice none 0 0]),5,64):=by kernel_rfl
theorem bT.pushed{w w1:World}{lo:Nat}{v v':Value}{n:Nat}{ts:List aa}{t:aa}{cs:List Value}{vals:List (List Value)}{o:Obj}
 (h2:bV w (fun g=>lo<=g/\some g≠v.ownBlock) ts vals) (hn:ts.length=n) (ht:aF w (fun g=>lo<=g/\some g≠v.ownBlock) t cs)
 (hown:aP w1 lo 24 5 v' (n+1) (List.flatten vals++cs)) (hgrow:(w.alloc o).grownBy w1 v.ownBlock) (hat:v'.ownBlock=v.ownBlock\/v'.ownBlock=some (w.alloc o).heap.size):bT w1 lo v' (n+1) (ts++[t]):=by
 refine bT.push h2 hn ht hown (fun g hg hne=>(hgrow.block g (by simp;omega) hne).trans (Below.heap_alloc w o g hg)) ?_;rcases hat with h|h
 ·exact .inl h
 ·exact .inr fun g hg=>by
   rw[h]at hg;simp at hg;omega
theorem lK{E:PE}{w wz w1:World}{v vz:PV}{lo:Nat}{kv:Value}{n:Nat}{xs:List Value}{o:Obj}(hz:PW wz E vz)(hP:PM E w v wz vz)(hO:aP wz lo 24 5 kv n xs)(hlo:w.heap.size<=lo)(hgrow:(wz.alloc o).grownBy w1 kv.ownBlock):
 PW w1 E vz/\PM E w v w1 vz/\∀g cs,ak wz g 24 cs->kv.ownBlock≠some g->ak w1 g 24 cs:=by
 have hs:aA (fun g=>kv.ownBlock=some g) wz w1:=((aA.refl (fun g=>kv.ownBlock=some g) wz).alloc o).grown hgrow (fun k hk=>.inl hk);refine⟨⟨hz.blk.since hs (hO.fe hz.blk (by decide)),hz.own.since hs (fun g hg=>hz.own.apart hO (by decide) g hg),hz.toks.since hs (fun g hg=>hz.toks.apart hO (by decide) g hg),hz.at_,hz.good,hz.last⟩,⟨hP.since.step hs (fun g hg=>.inr (by have:=(hO.lt g hg).1;omega)),hP.fresh⟩,fun g cs hb hne=>hb.since hs hne⟩
theorem IQ{s:bE}{l:List jP}(he:nL l){p:PS}(hp:p.k<l.length):Le l p (gZ s l p).2:=by
 have h1:=Wm (s:=s) (w:=[118,97,114]) he hp;have h2:=h1.trans (uw he h1.2);exact h2.trans (OT he h2.2)
end Go.Proofs.YtoepemlnlpamlaaGreat
