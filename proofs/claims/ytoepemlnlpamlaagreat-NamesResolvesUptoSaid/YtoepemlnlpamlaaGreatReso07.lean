/- The law NamesResolves holds where what it reads is of bulk at most 1048576: it returns true, and its argument reads as before. Part 7: Par6 Par7 Par8 Par9 ParA. -/
import Derived.Test.YtoepemlnlpamlaaGreatReso06
set_option maxRecDepth 100000
set_option maxHeartbeats 4000000
namespace Go.Proofs.YtoepemlnlpamlaaGreat
open Go.RowKit
theorem wJ(E:PE)(hE:E.Ok)(v:PV)(w:World)(hpw:PW w E v):Calls Tryz.prog 130 #[.pointer (some ⟨E.gp,0,none⟩)] w (bB E w v (jB E.bs E.l v.st)):=by
 have hgl:=hpw.blk.lt;go_enter Tryz.func130,Tryz.ntmps130
 go_wp2_with fail
 generalize hW1:w.alloc (.cells #[.int .i64 0,.string ⟨#[]⟩,.int .i64 0,.int .i64 0,.slice none 0 0] 24)=W1
 have hb1:Below w.heap.size w W1:=by rw[<- hW1];exact ag _ _
 have gJ:ai W1 w.heap.size 24 #[.int .i64 0,.string ⟨#[]⟩,.int .i64 0,.int .i64 0,.slice none 0 0]:=by rw[<- hW1];exact ai.new w _ _
 have hs1:W1.heap.size=w.heap.size+1:=by rw[<- hW1];simp
 have hm1:=PM.of_below (E:=E) (v:=v) hb1;have h1:=hpw.below hb1;have P1:=hm1;have o5:=kH hs1;have jv:=kH hm1;clear hW1 hs1 hm1 hb1;by_cases hc:bE E.bs E.l v.st [58]=true
 ·have aM:Hid (jB E.bs E.l v.st=tO E.bs E.l (ay E.l v.st)):=kH (by unfold jB;rw[if_pos hc])
  have Dw:Hid (bI E.bs E.l v.st [58]=ay E.l v.st):=kH (by unfold bI;rw[if_pos hc]);have MG:=kH hc;clear hc;refine(fV E hE v [58] _ h1).mono ?_;rintro e w2 ⟨rfl,v2,hv2,h2,hm2⟩;rw[MG.out];have gF:=kH hv2;have hR2:=hm2.blk h1 gJ;have P2:=P1.trans hm2;clear hv2 hm2;rw[Dw.out]at gF;go_wp2_with fail
  refine(typ_any E hE v2 _ h2).mono ?_;rintro e w3 ⟨k3,t3,a3,z3,A3,n3,c3,rfl,jX,v3,hv3,h3,eu⟩;have fI:=kH hv3;have bT:=eu.blk h2 hR2;have P3:=P2.trans eu;replace jX:=aB.weak (Q:=fun g=>w.heap.size+1<=g) (fun g _ hg=>abF hR2.lt hg) _ _ jX
  clear hv3;rw[gF.out]at fI jX;obtain⟨⟨r0,r1,r2,r3,r4⟩,g0,g1,g2,g3,g4⟩:=bT.five;go_wp2_with fail
  have aO:=kH (bJ (v:=v) h3 P3 rfl bT hgl jX);clear jX;rw[fI.out]at aO;refine bodyPost_ret (v:=.agg #[.int .i64 k3,.string t3,.int .i64 a3,.int .i64 z3,.slice A3 n3 c3]) (by simp[results,Tryz.results130,go_sem,r0,r1,r2,r3,r4]) rfl ?_;try rw[aM.out]
  exact aO.out
 ·have hc0:bE E.bs E.l v.st [58]=false:=by simpa using hc
  have aM:Hid (jB E.bs E.l v.st=(aH E.l v.st v.st.k 0 [] [],v.st)):=kH (by unfold jB;rw[if_neg hc]);have Dw:Hid (bI E.bs E.l v.st [58]=v.st):=kH (by unfold bI;rw[if_neg hc]);have MG:=kH hc0;clear hc hc0;refine(fV E hE v [58] _ h1).mono ?_;rintro e w2 ⟨rfl,v2,hv2,h2,hm2⟩;rw[MG.out];have gF:=kH hv2;have hR2:=hm2.blk h1 gJ;have P2:=P1.trans hm2;clear hv2 hm2;rw[Dw.out]at gF;have hkc:w2.cell? ⟨E.gp,2,none⟩=some (.int .i64 (v2.st.k:Int)):=h2.blk.cell 2;have hks:v2.st.k=v.st.k:=by rw[gF.out]
  rw[hks]at hkc;clear hks;go_wp2_with fail
  refine(iG E hE v2 _ h2 v.st.k 0 [] (w.heap.size+1)).mono ?_;rintro e w3 ⟨rfl,hb3,jX⟩;have h3:=h2.below hb3;have bT:=hR2.below hb3 hR2.lt;obtain⟨⟨r0,r1,r2,r3,r4⟩,g0,g1,g2,g3,g4⟩:=bT.five;go_wp2_with fail
  have aO:=kH (bJ (v:=v) h3 (P2.trans (PM.of_below hb3)) rfl bT hgl jX);clear jX;refine bodyPost_ret (v:=.agg #[.int .i64 0,.string (aX []),.int .i64 (bO E.l v2.st v.st.k []),.int .i64 (v2.st.last:Int),.slice none 0 0]) (by simp[results,Tryz.results130,go_sem,r0,r1,r2,r3,r4]) rfl ?_;exact Eq.mp (congrArg (fun r=>bB E w v r _ _) (show(aH E.l v2.st v.st.k 0 [] [],v2.st)=_ by rw[gF.out,aM.out])) aO.out
theorem Fb(E:PE)(hE:E.Ok)(v:PV)(w:World)(hpw:PW w E v):Calls Tryz.prog 187 #[.pointer (some ⟨E.gp,0,none⟩)] w (bB E w v (ny E.bs E.l v.st)):=by
 have hgl:=hpw.blk.lt;have hk2:w.cell? ⟨E.gp,2,none⟩=some (.int .i64 (v.st.k:Int)):=hpw.blk.cell 2;go_enter Tryz.func187,Tryz.ntmps187
 go_wp2_with fail
 generalize hW1:w.alloc (.cells #[.int .i64 0,.string ⟨#[]⟩,.int .i64 0,.int .i64 0,.slice none 0 0] 24)=W1
 have hb1:Below w.heap.size w W1:=by rw[<- hW1];exact ag _ _
 have gJ:ai W1 w.heap.size 24 #[.int .i64 0,.string ⟨#[]⟩,.int .i64 0,.int .i64 0,.slice none 0 0]:=by rw[<- hW1];exact ai.new w _ _
 have hs1:W1.heap.size=w.heap.size+1:=by rw[<- hW1];simp
 have hm1:=PM.of_below (E:=E) (v:=v) hb1;have h1:=hpw.below hb1;have P1:=hm1;have o5:=kH hs1;have jv:=kH hm1;clear hW1 hs1 hm1 hb1;have aM:Hid (ny E.bs E.l v.st=(aH E.l (dI E.l v.st) v.st.k 20 (cK E.bs E.l v.st) [],dI E.l v.st)):=kH rfl;refine(tV E hE v _ h1).mono ?_;rintro e w2 ⟨rfl,v2,hv2,h2,hm2⟩;have gF:=kH hv2;have hR2:=hm2.blk h1 gJ;have P2:=P1.trans hm2;clear hv2 hm2;go_wp2_with fail
 refine(iG E hE v2 _ h2 v.st.k 20 (cK E.bs E.l v.st) (w.heap.size+1)).mono ?_;rintro e w3 ⟨rfl,hb3,jX⟩;have h3:=h2.below hb3;have bT:=hR2.below hb3 hR2.lt;obtain⟨⟨r0,r1,r2,r3,r4⟩,g0,g1,g2,g3,g4⟩:=bT.five;go_wp2_with fail
 have aO:=kH (bJ (v:=v) h3 (P2.trans (PM.of_below hb3)) rfl bT hgl jX);clear jX;refine bodyPost_ret (v:=.agg #[.int .i64 20,.string (aX (cK E.bs E.l v.st)),.int .i64 (bO E.l v2.st v.st.k []),.int .i64 (v2.st.last:Int),.slice none 0 0]) (by simp[results,Tryz.results187,go_sem,r0,r1,r2,r3,r4]) rfl ?_;exact Eq.mp (congrArg (fun r=>bB E w v r _ _) (show(aH E.l v2.st v.st.k 20 (cK E.bs E.l v.st) [],v2.st)=_ by rw[gF.out,aM.out])) aO.out
theorem dP(E:PE)(hE:E.Ok)(v:PV)(w:World)(hpw:PW w E v)(first:Nat)(kind:Int)(t:aZ)(lo:Nat)(A:Option Addr)(n c:Nat)(ts:List ae)(hk:bV w lo (.slice A n c) n ts):
 Calls Tryz.prog 71 #[.pointer (some ⟨E.gp,0,none⟩),.int .i64 (first:Int),.int .i64 kind,.string (aX t),.slice A n c] w fun e w'=>e= .returned (.agg #[.int .i64 kind,.string (aX t),.int .i64 (bO E.l v.st first ts),.int .i64 (v.st.last:Int),.slice A n c])/\Below w.heap.size w w'/\aB w' (fun g=>lo<=g) (aH E.l v.st first kind t ts) [.int .i64 kind,.string (aX t),.int .i64 (bO E.l v.st first ts),.int .i64 (v.st.last:Int),.slice A n c]:=by
 refine(JE E hE v w hpw first kind t lo A n c ts hk).mono ?_;rintro e w' ⟨rfl,hb⟩;exact⟨rfl,hb,(hk.keeps (bW.of_below hb)).node _ _ _ _⟩
theorem JH{w:World}{lo:Nat}{ts:List ae}{vals:List (List Value)}(h:bU w (fun g=>lo<=g) ts vals)(hlo:lo<=w.heap.size)(hm:ts.length<=1000):
 bV (w.alloc (.cells (List.flatten vals).toArray 24)) lo (.slice (some ⟨w.heap.size,0,none⟩) ts.length ts.length) ts.length ts:=by
 have hl:=(bU.lens h).2;refine⟨vals,?_,?_,rfl⟩
 ·have:=aL.block (base:=lo) (e:=24) (size:=5) (n:=ts.length) hlo (ai.new w 24 (List.flatten vals).toArray) (by simp only[maxLen];omega) (by simpa using hl)
  simpa using this
 ·refine bU.keeps (w:=w) (fun g _ _ hc=>Below.heap_alloc w _ g (abH.1 hc).1) _ _ (bU.weak (fun g hg hP=>⟨hP,fun e1=>?_⟩) _ _ h)
  have:g=w.heap.size:=by simpa [Value.ownBlock] using e1
  omega
theorem jP{w:World}{lo:Nat}{t:ae}{a b c d e:Value}(h:aB w (fun g=>lo<=g) t [a,b,c,d,e])(hlo:lo<=w.heap.size):
 bV (w.alloc (.cells #[a,b,c,d,e] 24)) lo (.slice (some ⟨w.heap.size,0,none⟩) 1 1) 1 [t]:=
 JH (ts:=[t]) (vals:=[[a,b,c,d,e]]) ⟨_,_,rfl,h,rfl⟩ hlo (by simp)
theorem EF(E:PE)(hE:E.Ok)(v:PV)(w:World)(hpw:PW w E v):Calls Tryz.prog 181 #[.pointer (some ⟨E.gp,0,none⟩)] w (bB E w v (iK E.bs E.l v.st)):=by
 have hgl:=hpw.blk.lt;have hk2:w.cell? ⟨E.gp,2,none⟩=some (.int .i64 (v.st.k:Int)):=hpw.blk.cell 2;go_enter Tryz.func181,Tryz.ntmps181
 go_wp2_with fail
 generalize hW1:w.alloc (.cells #[.int .i64 0,.string ⟨#[]⟩,.int .i64 0,.int .i64 0,.slice none 0 0] 24)=W1
 have hb1:Below w.heap.size w W1:=by rw[<- hW1];exact ag _ _
 have gJ:ai W1 w.heap.size 24 #[.int .i64 0,.string ⟨#[]⟩,.int .i64 0,.int .i64 0,.slice none 0 0]:=by rw[<- hW1];exact ai.new w _ _
 have hs1:W1.heap.size=w.heap.size+1:=by rw[<- hW1];simp
 have hm1:=PM.of_below (E:=E) (v:=v) hb1;have h1:=hpw.below hb1;have P1:=hm1;have o5:=kH hs1;have jv:=kH hm1;clear hW1 hs1 hm1 hb1;obtain⟨bv,hbv⟩:∃x,bE E.bs E.l v.st [118,97,114]=x:=⟨_,rfl⟩
 have HBV:=kH hbv;clear hbv;refine(fV E hE v [118,97,114] _ h1).mono ?_;rintro e w2 ⟨rfl,v2,hv2,h2,hm2⟩;rw[HBV.out];have gF:=kH hv2;have hR2:=hm2.blk h1 gJ;have P2:=P1.trans hm2;clear hv2 hm2;cases bv
 ·have aM:Hid (iK E.bs E.l v.st=(aH E.l (jB E.bs E.l (dI E.l (bI E.bs E.l v.st [118,97,114]))).2 v.st.k 7 (cK E.bs E.l (bI E.bs E.l v.st [118,97,114])) [(jB E.bs E.l (dI E.l (bI E.bs E.l v.st [118,97,114]))).1],(jB E.bs E.l (dI E.l (bI E.bs E.l v.st [118,97,114]))).2)):=kH (by unfold iK;rw[HBV.out];rfl)
  go_wp2_with fail
  refine(tV E hE v2 _ h2).mono ?_;rintro e w3 ⟨rfl,v3,hv3,h3,eu⟩;have fI:=kH hv3;have bT:=eu.blk h2 hR2;have P3:=P2.trans eu;clear hv3 eu;have hnt:cK E.bs E.l v2.st=cK E.bs E.l (bI E.bs E.l v.st [118,97,114]):=by rw[gF.out]
  rw[hnt];rw[gF.out]at fI;clear hnt;go_wp2_with fail
  refine(wJ E hE v3 _ h3).mono ?_;rintro e w4 ⟨k4,t4,a4,z4,A4,n4,c4,rfl,kE,v4,hv4,h4,iB⟩;have ja:=kH hv4;have dX:=iB.blk h3 bT;have P4:=P3.trans iB;replace kE:=aB.weak (Q:=fun g=>w.heap.size+1<=g) (fun g _ hg=>abF bT.lt hg) _ _ kE
  clear hv4;rw[fI.out]at ja kE;go_wp2_with fail
  generalize jk:w4.alloc (.cells #[.int .i64 k4,.string t4,.int .i64 a4,.int .i64 z4,.slice A4 n4 c4] 24)=w5
  have hb5:Below w4.heap.size w4 w5:=by rw[<- jk];exact ag _ _
  have hs5:w5.heap.size=w4.heap.size+1:=by rw[<- jk];simp
  have AP:ai w5 w4.heap.size 24 #[.int .i64 k4,.string t4,.int .i64 a4,.int .i64 z4,.slice A4 n4 c4]:=by rw[<- jk];exact ai.new w4 _ _
  have jF:=aB.keeps (bW.of_below hb5) _ _ kE;have h5:=h4.below hb5;have fw:=dX.below hb5 dX.lt;have P5:=P4.trans (PM.of_below hb5);clear jk;have Bn:=kH (jP jF (by have:=fw.lt;omega));generalize uf:w5.alloc (.cells #[.int .i64 k4,.string t4,.int .i64 a4,.int .i64 z4,.slice A4 n4 c4] 24)=w6 at Bn⊢
  have hb6:Below w5.heap.size w5 w6:=by rw[<- uf];exact ag _ _
  have h6:=h5.below hb6;have gD:=fw.below hb6 fw.lt;have P6:=P5.trans (PM.of_below hb6);clear uf;obtain⟨v6,hv6⟩:∃v6,v6=v4:=⟨_,rfl⟩
  rw[<- hv6]at h6 P6 ja;have ll:=ja;rw[<- hs5];clear hv6 AP hs5;refine(dP E hE v6 _ h6 v.st.k 7 (cK E.bs E.l (bI E.bs E.l v.st [118,97,114])) (w.heap.size+1) (some ⟨w5.heap.size,0,none⟩) 1 1 [(jB E.bs E.l (dI E.l (bI E.bs E.l v.st [118,97,114]))).1] Bn.out).mono ?_;rintro e w7 ⟨rfl,dB,kY⟩;have h7:=h6.below dB;have eZ:=gD.below dB gD.lt;obtain⟨⟨r0,r1,r2,r3,r4⟩,g0,g1,g2,g3,g4⟩:=eZ.five;go_wp2_with fail
  have aO:=kH (bJ (v:=v) h7 (P6.trans (PM.of_below dB)) rfl eZ hgl kY);clear kY;refine bodyPost_ret (v:=.agg #[.int .i64 7,.string (aX (cK E.bs E.l (bI E.bs E.l v.st [118,97,114]))),.int .i64 (bO E.l v6.st v.st.k [(jB E.bs E.l (dI E.l (bI E.bs E.l v.st [118,97,114]))).1]),.int .i64 (v6.st.last:Int),.slice (some ⟨w5.heap.size,0,none⟩) 1 1]) (by simp[results,Tryz.results181,go_sem,r0,r1,r2,r3,r4]) rfl ?_;exact Eq.mp (congrArg (fun r=>bB E w v r _ _) (show(aH E.l v6.st v.st.k 7 (cK E.bs E.l (bI E.bs E.l v.st [118,97,114])) [(jB E.bs E.l (dI E.l (bI E.bs E.l v.st [118,97,114]))).1],v6.st)=_ by rw[aM.out,ll.out])) aO.out
 ·have aM:Hid (iK E.bs E.l v.st=(aH E.l (jB E.bs E.l (dI E.l (bI E.bs E.l v.st [118,97,114]))).2 v.st.k 8 (cK E.bs E.l (bI E.bs E.l v.st [118,97,114])) [(jB E.bs E.l (dI E.l (bI E.bs E.l v.st [118,97,114]))).1],(jB E.bs E.l (dI E.l (bI E.bs E.l v.st [118,97,114]))).2)):=kH (by unfold iK;rw[HBV.out];rfl)
  go_wp2_with fail
  refine(tV E hE v2 _ h2).mono ?_;rintro e w3 ⟨rfl,v3,hv3,h3,eu⟩;have fI:=kH hv3;have bT:=eu.blk h2 hR2;have P3:=P2.trans eu;clear hv3 eu;have hnt:cK E.bs E.l v2.st=cK E.bs E.l (bI E.bs E.l v.st [118,97,114]):=by rw[gF.out]
  rw[hnt];rw[gF.out]at fI;clear hnt;go_wp2_with fail
  refine(wJ E hE v3 _ h3).mono ?_;rintro e w4 ⟨k4,t4,a4,z4,A4,n4,c4,rfl,kE,v4,hv4,h4,iB⟩;have ja:=kH hv4;have dX:=iB.blk h3 bT;have P4:=P3.trans iB;replace kE:=aB.weak (Q:=fun g=>w.heap.size+1<=g) (fun g _ hg=>abF bT.lt hg) _ _ kE
  clear hv4;rw[fI.out]at ja kE;go_wp2_with fail
  generalize jk:w4.alloc (.cells #[.int .i64 k4,.string t4,.int .i64 a4,.int .i64 z4,.slice A4 n4 c4] 24)=w5
  have hb5:Below w4.heap.size w4 w5:=by rw[<- jk];exact ag _ _
  have hs5:w5.heap.size=w4.heap.size+1:=by rw[<- jk];simp
  have AP:ai w5 w4.heap.size 24 #[.int .i64 k4,.string t4,.int .i64 a4,.int .i64 z4,.slice A4 n4 c4]:=by rw[<- jk];exact ai.new w4 _ _
  have jF:=aB.keeps (bW.of_below hb5) _ _ kE;have h5:=h4.below hb5;have fw:=dX.below hb5 dX.lt;have P5:=P4.trans (PM.of_below hb5);clear jk;have Bn:=kH (jP jF (by have:=fw.lt;omega));generalize uf:w5.alloc (.cells #[.int .i64 k4,.string t4,.int .i64 a4,.int .i64 z4,.slice A4 n4 c4] 24)=w6 at Bn⊢
  have hb6:Below w5.heap.size w5 w6:=by rw[<- uf];exact ag _ _
  have h6:=h5.below hb6;have gD:=fw.below hb6 fw.lt;have P6:=P5.trans (PM.of_below hb6);clear uf;obtain⟨v6,hv6⟩:∃v6,v6=v4:=⟨_,rfl⟩
  rw[<- hv6]at h6 P6 ja;have ll:=ja;rw[<- hs5];clear hv6 AP hs5;refine(dP E hE v6 _ h6 v.st.k 8 (cK E.bs E.l (bI E.bs E.l v.st [118,97,114])) (w.heap.size+1) (some ⟨w5.heap.size,0,none⟩) 1 1 [(jB E.bs E.l (dI E.l (bI E.bs E.l v.st [118,97,114]))).1] Bn.out).mono ?_;rintro e w7 ⟨rfl,dB,kY⟩;have h7:=h6.below dB;have eZ:=gD.below dB gD.lt;obtain⟨⟨r0,r1,r2,r3,r4⟩,g0,g1,g2,g3,g4⟩:=eZ.five;go_wp2_with fail
  have aO:=kH (bJ (v:=v) h7 (P6.trans (PM.of_below dB)) rfl eZ hgl kY);clear kY;refine bodyPost_ret (v:=.agg #[.int .i64 8,.string (aX (cK E.bs E.l (bI E.bs E.l v.st [118,97,114]))),.int .i64 (bO E.l v6.st v.st.k [(jB E.bs E.l (dI E.l (bI E.bs E.l v.st [118,97,114]))).1]),.int .i64 (v6.st.last:Int),.slice (some ⟨w5.heap.size,0,none⟩) 1 1]) (by simp[results,Tryz.results181,go_sem,r0,r1,r2,r3,r4]) rfl ?_;exact Eq.mp (congrArg (fun r=>bB E w v r _ _) (show(aH E.l v6.st v.st.k 8 (cK E.bs E.l (bI E.bs E.l v.st [118,97,114])) [(jB E.bs E.l (dI E.l (bI E.bs E.l v.st [118,97,114]))).1],v6.st)=_ by rw[aM.out,ll.out])) aO.out
theorem Nr(E:PE)(hE:E.Ok)(v:PV)(w:World)(hpw:PW w E v):
 Calls Tryz.prog 183 #[.pointer (some ⟨E.gp,0,none⟩)] w fun e w'=>e= .returned (.bool (lZ E.bs E.l v.st))/\Below w.heap.size w w':=by
 have hkd:=pI E hE v w hpw;have his:=fun x w' (h:PW w' E v)=>yI E hE v x w' h
 obtain⟨k,hk⟩:∃x,bM E.l v.st=x:=⟨_,rfl⟩
 rw[hk]at hkd;obtain⟨b1,hb1⟩:∃x,bE E.bs E.l v.st [125]=x:=⟨_,rfl⟩
 obtain⟨b2,hb2⟩:∃x,bE E.bs E.l v.st [112,114,111,99]=x:=⟨_,rfl⟩
 obtain⟨b3,hb3⟩:∃x,bE E.bs E.l v.st [114,101,99,111,114,100]=x:=⟨_,rfl⟩
 have hres:lZ E.bs E.l v.st=(decide (k=5) || b1 || b2 || b3):=by unfold lZ;rw[hk,hb1,hb2,hb3]
 rw[hres];have qG:=kH hkd;have HIS:=kH his;have HB1:=kH hb1;have HB2:=kH hb2;have HB3:=kH hb3;clear hres hk hkd his hb1 hb2 hb3;by_cases h5:k=5
 ·subst h5
  go_enter Tryz.func183,Tryz.ntmps183
  go_wp2_with fail
  refine qG.out.mono ?_;rintro e w1 ⟨rfl,hb⟩;go_wp2_with fail
  go_ret
  exact⟨rfl,hb⟩
 ·have hki:((k:Int)==5)=false:=by simp;omega
  have Q3:decide (k=5)=false:=decide_eq_false h5;rw[Q3];clear h5 Q3;go_enter Tryz.func183,Tryz.ntmps183
  go_wp2_with fail
  refine qG.out.mono ?_;rintro e w1 ⟨rfl,hb⟩;have h1:=hpw.below hb;go_wp2_with fail
  refine(HIS.out [125] w1 h1).mono ?_;rintro e w2 ⟨rfl,hb2⟩;rw[HB1.out];have lH:=hb.trans (hb2.mono hb.size);have h2:=h1.below hb2;clear hb hb2;cases b1
  ·go_wp2_with fail
   refine(HIS.out [112,114,111,99] w2 h2).mono ?_;rintro e w3 ⟨rfl,hb3⟩;rw[HB2.out];have wX:=lH.trans (hb3.mono lH.size);have h3:=h2.below hb3;clear lH hb3;cases b2
   ·go_wp2_with fail
    refine(HIS.out [114,101,99,111,114,100] w3 h3).mono ?_;rintro e w4 ⟨rfl,hb4⟩;rw[HB3.out];go_wp2_with fail
    go_ret
    exact⟨bH (by simp),wX.trans (hb4.mono wX.size)⟩
   ·go_wp2_with fail
    go_ret
    exact⟨rfl,wX⟩
  ·go_wp2_with fail
   go_ret
   exact⟨rfl,lH⟩
def M4(w:World)(l:List aZ)(e:Ending)(w':World):Prop:=
 ∃A n c,e= .returned (.slice A n c)/\l.length=n/\bN 1 fE w' w'.heap.size A (l.map aX)/\Below w.heap.size w w'
theorem Ae(w:World)(l:List aZ):M4 w l (.returned (.slice (some ⟨w.heap.size,0,none⟩) l.length l.length)) (w.alloc (.cells (l.map fun b=>Value.string (aX b)).toArray 9)):=
 ⟨_,_,_,rfl,rfl,xN w 9 l,ag _ _⟩
theorem OX(lv:Nat)(w:World)(h:lv<=7):Calls Tryz.prog 232 #[.int .i64 (lv:Int)] w (M4 w (Aj lv)):=by
 have hnil:M4 w [] (.returned (.slice none 0 0)) w:=⟨none,0,0,rfl,rfl,fun k c hk=>by simp at hk,Below.refl _ _⟩
 match lv,h with
 | 0,_=>
  go_enter Tryz.func232,Tryz.ntmps232
  go_wp2_with fail
  go_ret
  exact hnil
 | 1,_=>
  go_enter Tryz.func232,Tryz.ntmps232
  go_wp2_with fail
  go_ret
  exact Ae w (Aj 1)
 | 2,_=>
  go_enter Tryz.func232,Tryz.ntmps232
  go_wp2_with fail
  go_ret
  exact Ae w (Aj 2)
 | 3,_=>
  go_enter Tryz.func232,Tryz.ntmps232
  go_wp2_with fail
  go_ret
  exact hnil
 | 4,_=>
  go_enter Tryz.func232,Tryz.ntmps232
  go_wp2_with fail
  go_ret
  exact Ae w (Aj 4)
 | 5,_=>
  go_enter Tryz.func232,Tryz.ntmps232
  go_wp2_with fail
  go_ret
  exact Ae w (Aj 5)
 | 6,_=>
  go_enter Tryz.func232,Tryz.ntmps232
  go_wp2_with fail
  go_ret
  exact Ae w (Aj 6)
 | 7,_=>
  go_enter Tryz.func232,Tryz.ntmps232
  go_wp2_with fail
  go_ret
  exact hnil
 | n+8,h=>exact absurd h (by omega)
theorem ops_len(lv:Nat):(Aj lv).length<=6:=by
 unfold Aj;repeat (split;· decide)
 decide
theorem NY(ws:List aZ)(x:aZ):lT (ws.map aX) (aX x)=sK ws x:=G7 ws (aX x)
theorem Qv(E:PE)(hE:E.Ok)(v:PV)(lv:Nat)(w:World)(hpw:PW w E v)(hlv:lv<=7):
 Calls Tryz.prog 186 #[.pointer (some ⟨E.gp,0,none⟩),.int .i64 (lv:Int)] w fun e w'=>e= .returned (.bool (yu E.bs E.l v.st lv))/\Below w.heap.size w w':=by
 have hkd:=pI E hE v w hpw;obtain⟨k,hk⟩:∃x,bM E.l v.st=x:=⟨_,rfl⟩
 rw[hk]at hkd;obtain⟨b1,hb1⟩:∃x,sK (Aj lv) (bK E.bs E.l v.st.k)=x:=⟨_,rfl⟩
 have hres:yu E.bs E.l v.st lv=(decide (k≠5)&&b1):=by unfold yu;rw[hk,hb1]
 rw[hres];have hop:=fun w=>OX lv w hlv
 have HOP:=kH hop;have qG:=kH hkd;have HB1:=kH hb1;clear hres hk hkd hb1 hop;by_cases h5:k=5
 ·subst h5
  go_enter Tryz.func186,Tryz.ntmps186
  go_wp2_with fail
  refine qG.out.mono ?_;rintro e w1 ⟨rfl,hb⟩;go_wp2_with fail
  go_ret
  exact⟨rfl,hb⟩
 ·have hki:((k:Int) !=5)=true:=by simp;omega
  have Q3:decide (k≠5)=true:=decide_eq_true h5;rw[Q3];clear h5 Q3;go_enter Tryz.func186,Tryz.ntmps186
  go_wp2_with fail
  refine qG.out.mono ?_;rintro e w1 ⟨rfl,hb⟩;have h1:=hpw.below hb;go_wp2_with fail
  refine(HOP.out w1).mono ?_;rintro e w2 ⟨A,n,c,rfl,hn,hr,hb2⟩;have lH:=hb.trans (hb2.mono hb.size);have h2:=h1.below hb2;have HN:=kH hn;have HR:=kH hr;clear hb hb2 hn hr;go_wp2_with fail
  refine(DR E hE v w2 h2).mono ?_;rintro e w3 ⟨rfl,hb3⟩;have hr3:=(HR.out.below hb3 (abE _)).mono hb3.size;have HR3:=kH hr3;have wX:=lH.trans (hb3.mono lH.size);clear lH hb3 hr3;go_wp2_with fail
  refine(yh A n c ((Aj lv).map aX) (aX (bK E.bs E.l v.st.k)) w3 HR3.out (by rw[List.length_map];exact HN.out) (by have:=ops_len lv;rw[<- HN.out];omega)).mono ?_;rintro e w4 ⟨rfl,hb4⟩;rw[NY,HB1.out];go_wp2_with fail
  go_ret
  exact⟨bH (by simp),wX.trans (hb4.mono wX.size)⟩
theorem Tq(E:PE)(hE:E.Ok)(v:PV)(w:World)(hpw:PW w E v):
 Calls Tryz.prog 188 #[.pointer (some ⟨E.gp,0,none⟩)] w fun e w'=>e= .returned (.bool (zS E.bs E.l v.st))/\Below w.heap.size w w':=by
 have hkd:=pI E hE v w hpw;obtain⟨k,hk⟩:∃x,bM E.l v.st=x:=⟨_,rfl⟩
 rw[hk]at hkd;obtain⟨b1,hb1⟩:∃x,sK Dl (bK E.bs E.l v.st.k)=x:=⟨_,rfl⟩
 have hres:zS E.bs E.l v.st=(decide (k=1)&&b1):=by unfold zS;rw[hk,hb1]
 rw[hres];have qG:=kH hkd;have HB1:=kH hb1;clear hres hk hkd hb1;have hal:∀w:World,Below w.heap.size w (w.alloc (.cells (Dl.map fun b=>Value.string (aX b)).toArray 9)):=fun w=>ag _ _
 have HAL:=kH hal;clear hal;by_cases h1:k=1
 ·subst h1
  go_enter Tryz.func188,Tryz.ntmps188
  go_wp2_with fail
  refine qG.out.mono ?_;rintro e w1 ⟨rfl,hb⟩;have h1:=hpw.below hb;have h2:=h1.below (HAL.out w1);have hr:=xN w1 9 Dl;have HR:=kH hr;have H2:=kH h2;have hbn:=hb.trans ((HAL.out w1).mono hb.size);have MH:=kH hbn;clear hr h2 hbn;go_wp2_with fail
  refine(DR E hE v _ H2.out).mono ?_;rintro e w3 ⟨rfl,hb3⟩;have hr3:=(HR.out.below hb3 (abE _)).mono hb3.size;have HR3:=kH hr3;have wX:=MH.out.trans (hb3.mono MH.out.size);have oF:=kH wX;clear wX hr3 hb3;go_wp2_with fail
  refine(yh (some ⟨w1.heap.size,0,none⟩) 6 6 (Dl.map aX) (aX (bK E.bs E.l v.st.k)) w3 HR3.out rfl (by omega)).mono ?_;rintro e w4 ⟨rfl,hb4⟩;rw[NY,HB1.out];go_wp2_with fail
  go_ret
  exact⟨bH (by simp),oF.out.trans (hb4.mono oF.out.size)⟩
 ·have hki:((k:Int)==1)=false:=by simp;omega
  have hkd1:decide (k=1)=false:=decide_eq_false h1;rw[hkd1];clear h1 hkd1;go_enter Tryz.func188,Tryz.ntmps188
  go_wp2_with fail
  refine qG.out.mono ?_;rintro e w1 ⟨rfl,hb⟩;go_wp2_with fail
  go_ret
  exact⟨rfl,hb⟩
theorem SQ(E:PE)(hE:E.Ok)(v:PV)(w:World)(hpw:PW w E v):
 Calls Tryz.prog 136 #[.pointer (some ⟨E.gp,0,none⟩)] w fun e w'=>e= .returned (.bool (DJ E.bs E.l v.st))/\Below w.heap.size w w':=by
 have hkd:=fun w' (h:PW w' E v)=>pI E hE v w' h
 have his:=fun x w' (h:PW w' E v)=>yI E hE v x w' h
 obtain⟨k,hk⟩:∃x,bM E.l v.st=x:=⟨_,rfl⟩
 rw[hk]at hkd;obtain⟨b1,hb1⟩:∃x,bE E.bs E.l v.st [116,114,117,101]=x:=⟨_,rfl⟩
 obtain⟨b2,hb2⟩:∃x,bE E.bs E.l v.st [102,97,108,115,101]=x:=⟨_,rfl⟩
 obtain⟨b3,hb3⟩:∃x,bE E.bs E.l v.st [108,101,110]=x:=⟨_,rfl⟩
 obtain⟨b4,hb4⟩:∃x,bE E.bs E.l v.st [40]=x:=⟨_,rfl⟩
 obtain⟨b5,hb5⟩:∃x,bE E.bs E.l v.st [91]=x:=⟨_,rfl⟩
 have hres:DJ E.bs E.l v.st=(decide (k=0) || decide (k=2) || b1 || b2 || b3 || b4 || b5):=by unfold DJ;rw[hk,hb1,hb2,hb3,hb4,hb5]
 rw[hres];have qG:=kH hkd;have HIS:=kH his;have HB1:=kH hb1;have HB2:=kH hb2;have HB3:=kH hb3;have sV:=kH hb4;have jb:=kH hb5;clear hres hk hkd his hb1 hb2 hb3 hb4 hb5;by_cases h0:k=0
 ·subst h0
  go_enter Tryz.func136,Tryz.ntmps136
  go_wp2_with fail
  refine(qG.out w hpw).mono ?_;rintro e w1 ⟨rfl,hb⟩;go_wp2_with fail
  go_ret
  exact⟨rfl,hb⟩
 have hk0:((k:Int)==0)=false:=by simp;omega
 have hd0:decide (k=0)=false:=decide_eq_false h0;rw[hd0];clear h0 hd0;go_enter Tryz.func136,Tryz.ntmps136
 go_wp2_with fail
 refine(qG.out w hpw).mono ?_;rintro e w1 ⟨rfl,hb⟩;have h1:=hpw.below hb;go_wp2_with fail
 refine(qG.out w1 h1).mono ?_;rintro e w2 ⟨rfl,hbb⟩;have h2:=h1.below hbb;have c2:=hb.trans (hbb.mono hb.size);clear hb hbb;by_cases h22:k=2
 ·subst h22
  go_wp2_with fail
  go_ret
  exact⟨rfl,c2⟩
 have hk2:((k:Int)==2)=false:=by simp;omega
 have HD2:Hid (decide (k=2)=false):=kH (decide_eq_false h22);clear h22;go_wp2_with fail
 refine(HIS.out [116,114,117,101] w2 h2).mono ?_;rintro e w3 ⟨rfl,hbb⟩;rw[HB1.out];have h3:=h2.below hbb;have c3:=c2.trans (hbb.mono c2.size);clear hbb;cases b1
 case true=>
  go_wp2_with fail
  go_ret
  exact⟨bH (by simp),c3⟩
 go_wp2_with fail
 refine(HIS.out [102,97,108,115,101] w3 h3).mono ?_;rintro e w4 ⟨rfl,hbb⟩;rw[HB2.out];have h4:=h3.below hbb;have c4:=c3.trans (hbb.mono c3.size);clear hbb;cases b2
 case true=>
  go_wp2_with fail
  go_ret
  exact⟨bH (by simp),c4⟩
 go_wp2_with fail
 refine(HIS.out [108,101,110] w4 h4).mono ?_;rintro e w5 ⟨rfl,hbb⟩;rw[HB3.out];have h5:=h4.below hbb;have c5:=c4.trans (hbb.mono c4.size);clear hbb;cases b3
 case true=>
  go_wp2_with fail
  go_ret
  exact⟨bH (by simp),c5⟩
 go_wp2_with fail
 refine(HIS.out [40] w5 h5).mono ?_;rintro e w6 ⟨rfl,hbb⟩;rw[sV.out];have h6:=h5.below hbb;have c6:=c5.trans (hbb.mono c5.size);clear hbb;cases b4
 case true=>
  go_wp2_with fail
  go_ret
  exact⟨bH (by simp),c6⟩
 go_wp2_with fail
 refine(HIS.out [91] w6 h6).mono ?_;rintro e w7 ⟨rfl,hbb⟩;rw[jb.out];have h7:=h6.below hbb;have c7:=c6.trans (hbb.mono c6.size);clear hbb;go_wp2_with fail
 go_ret
 exact⟨bH (by rw[HD2.out];simp),c7⟩
theorem SL(E:PE)(hE:E.Ok)(v:PV)(w:World)(hpw:PW w E v)(f:Nat)(r:ae×PS)(hr:sw E.bs E.l f v.st=some r):Calls Tryz.prog 140 #[.pointer (some ⟨E.gp,0,none⟩)] w (bB E w v r):=by
 obtain⟨q,hq,hrq⟩:∃q,sD E.bs E.l v.st.k f (iE E.l v.st 6 [])=some q/\r=(aH E.l q v.st.k 1 [] [],q):=by
  unfold sw at hr;split at hr
  ·cases hr
  ·rename_i q h
   cases hr
   exact⟨q,h,rfl⟩
 have HQ:=kH hq;have aM:=kH hrq;clear hr hq hrq;have hgl:=hpw.blk.lt;have hk2:w.cell? ⟨E.gp,2,none⟩=some (.int .i64 (v.st.k:Int)):=hpw.blk.cell 2;obtain⟨first,Q7⟩:∃x,v.st.k=x:=⟨_,rfl⟩
 rw[Q7]at hk2;have HF:=kH Q7;clear Q7;go_enter Tryz.func140,Tryz.ntmps140
 go_wp2_with fail
 generalize hW1:w.alloc (.cells #[.int .i64 0,.string ⟨#[]⟩,.int .i64 0,.int .i64 0,.slice none 0 0] 24)=W1
 have hb1:Below w.heap.size w W1:=by rw[<- hW1];exact ag _ _
 have gJ:ai W1 w.heap.size 24 #[.int .i64 0,.string ⟨#[]⟩,.int .i64 0,.int .i64 0,.slice none 0 0]:=by rw[<- hW1];exact ai.new w _ _
 have hs1:W1.heap.size=w.heap.size+1:=by rw[<- hW1];simp
 have hm1:=PM.of_below (E:=E) (v:=v) hb1;have h1:=hpw.below hb1;have P1:=hm1;have o5:=kH hs1;have jv:=kH hm1;clear hW1 hs1 hm1 hb1;refine(sF E hE v 6 [] _ h1).mono ?_;rintro e w2 ⟨⟨u2,rfl⟩,v2,hv2,h2,hm2⟩;have gF:=kH hv2;have hR2:=hm2.blk h1 gJ;have P2:=P1.trans hm2;clear hv2 hm2;go_wp2_with fail
 go_loopg [] f (fun gk wr=> ∃vx,sD E.bs E.l first gk vx.st=some q/\PW wr E vx/\PM E w v wr vx/\ai wr w.heap.size 24 #[.int .i64 0,.string ⟨#[]⟩,.int .i64 0,.int .i64 0,.slice none 0 0])
 case atStart=>exact⟨v2,by rw[gF.out,<- HF.out];exact HQ.out,h2,P2,hR2⟩
 case round=>
  obtain⟨vx,hx,hpx,hmx,Ue⟩:=hrel
  cases gk with
  | zero=>simp[sD]at hx
  | succ gk=>
   rw[sD]at hx;have hst:=fun w' (h:PW w' E vx)=>Nr E hE vx w' h
   have hbg:=fun w' (h:PW w' E vx)=>Tq E hE vx w' h
   obtain⟨b1,hb1⟩:∃x,lZ E.bs E.l vx.st=x:=⟨_,rfl⟩
   obtain⟨b2,hb2⟩:∃x,zS E.bs E.l vx.st=x:=⟨_,rfl⟩
   rw[hb1]at hst;rw[hb2]at hbg;have HB1:=kH hb1;rw[hb1,hb2]at hx;have HST:=kH hst;have ZI:=kH hbg;have HX:=kH hx;clear hx hst hbg hb1 hb2;cases b1
   ·have hk5:bM E.l vx.st≠5:=by
     intro h5;have:=HB1.out;unfold lZ at this;rw[h5]at this;simp at this
    obtain⟨bg,hbg⟩:∃x,(decide (vx.st.k=first) || !b2)=x:=⟨_,rfl⟩
    have hx2:=HX.out;rw[hbg]at hx2;have hkc:=hpx.blk.cell 2;simp at hkc;obtain⟨kx,hkx⟩:∃x,vx.st.k=x:=⟨_,rfl⟩
    rw[hkx]at hbg hkc;have yU:=kH hx2;have HG:=kH hbg;have mH:=kH hkx;have xL:=kH hk5;have hgx:=hpx.blk.lt;clear hx2 hbg hkx HX hk5;have HPX:=kH hpx;go_upto_region 3 with fail
    go_cut [25] (fun s25 wx=>s25= .bool bg/\Below wr.heap.size wr wx)
    case first=>
     by_cases oG:kx=first
     ·have e:bg=true:=by rw[<- HG.out];simp[oG]
      subst e;have hki:((kx:Int)==(first:Int))=true:=by simp[oG]
      have hkn:(kx==first)=true:=by simp[oG]
      clear oG;go_wp2_with fail
      refine(HST.out _ hpx).mono ?_;rintro e w4 ⟨rfl,hb4⟩;have hkc4:w4.cell? ⟨E.gp,2,none⟩=some (.int .i64 (kx:Int)):=(hb4.cell (p:=⟨E.gp,2,none⟩) hgx).trans hkc;clear hkc;go_wp2_with fail
      go_meet
      exact⟨rfl,hb4⟩
     ·have e:bg= !b2:=by rw[<- HG.out];simp[oG]
      subst e;have hki:((kx:Int)==(first:Int))=false:=by simp;omega
      have hkn:(kx==first)=false:=by simp[oG]
      clear oG;go_wp2_with fail
      refine(HST.out _ hpx).mono ?_;rintro e w4 ⟨rfl,hb4⟩;have hkc4:w4.cell? ⟨E.gp,2,none⟩=some (.int .i64 (kx:Int)):=(hb4.cell (p:=⟨E.gp,2,none⟩) hgx).trans hkc;have h4:=HPX.out.below hb4;clear hkc;go_wp2_with fail
      refine(ZI.out _ h4).mono ?_;rintro e w5 ⟨rfl,hb5⟩;go_wp2_with fail
      go_meet
      exact⟨rfl,hb4.trans (hb5.mono hb4.size)⟩
    case rest=>
     obtain⟨rfl,hbw⟩:=hcut;have h4:=HPX.out.below hbw;have dX:=Ue.below hbw Ue.lt;have P4:=hmx.trans (PM.of_below hbw);cases bg
     ·have hq2:vx.st=q:=by simpa using yU.out
      obtain⟨v4,hv4⟩:∃v4,v4=vx:=⟨_,rfl⟩
      rw[<- hv4]at h4 P4 hq2;have ja:=kH hq2;obtain⟨w4,hw4⟩:∃w4:World,w4=wc:=⟨_,rfl⟩
      rw[HF.out]at aM;clear hv4 hq2;subst hw4;go_wp2_with fail
      refine(iG E hE v4 _ h4 first 1 [] (w.heap.size+1)).mono ?_;rintro e w5 ⟨rfl,hb5,jF⟩;have h5:=h4.below hb5;have fw:=dX.below hb5 dX.lt;obtain⟨⟨r0,r1,r2,r3,r4⟩,g0,g1,g2,g3,g4⟩:=fw.five;go_wp2_with fail
      have aO:=kH (bJ (v:=v) h5 (P4.trans (PM.of_below hb5)) rfl fw hgl jF);clear jF;refine bodyPost_ret (v:=.agg #[.int .i64 1,.string (aX []),.int .i64 (bO E.l v4.st first []),.int .i64 (v4.st.last:Int),.slice none 0 0]) (by simp[results,Tryz.results140,go_sem,r0,r1,r2,r3,r4]) rfl ?_;exact Eq.mp (congrArg (fun r=>bB E w v r _ _) (show(aH E.l v4.st first 1 [] [],v4.st)=_ by rw[ja.out,aM.out])) aO.out
     ·go_wp2_with fail
      refine(qJ E hE vx _ h4 xL.out).mono ?_;rintro e w6 ⟨rfl,h6,gQ⟩;have gD:=gQ.blk h4 dX;have P6:=P4.trans gQ;by_cases hsc:bK E.bs E.l vx.st.k=[59]
      ·have hq2:ay E.l vx.st=q:=by
        have:=yU.out;rw[hsc]at this;simpa using this
       have hws:aX (bK E.bs E.l vx.st.k)=⟨#[59]⟩:=by rw[hsc];rfl
       rw[hws];obtain⟨v6,hv6⟩:∃v6:PV,(⟨ay E.l vx.st,vx.lv⟩:PV)=v6:=⟨_,rfl⟩
       rw[hv6]at h6 P6;have ll:Hid (v6.st=q):=kH (by rw[<- hv6];exact hq2);rw[HF.out]at aM;clear hv6 hq2 hsc hws gQ;go_wp2_with fail
       refine(iG E hE v6 _ h6 first 1 [] (w.heap.size+1)).mono ?_;rintro e w7 ⟨rfl,dB,kY⟩;have h7:=h6.below dB;have eZ:=gD.below dB gD.lt;obtain⟨⟨r0,r1,r2,r3,r4⟩,g0,g1,g2,g3,g4⟩:=eZ.five;go_wp2_with fail
       have aO:=kH (bJ (v:=v) h7 (P6.trans (PM.of_below dB)) rfl eZ hgl kY);clear kY;refine bodyPost_ret (v:=.agg #[.int .i64 1,.string (aX []),.int .i64 (bO E.l v6.st first []),.int .i64 (v6.st.last:Int),.slice none 0 0]) (by simp[results,Tryz.results140,go_sem,r0,r1,r2,r3,r4]) rfl ?_;exact Eq.mp (congrArg (fun r=>bB E w v r _ _) (show(aH E.l v6.st first 1 [] [],v6.st)=_ by rw[ll.out,aM.out])) aO.out
      ·have hq2:sD E.bs E.l first gk (ay E.l vx.st)=some q:=by
        have:=yU.out;rw[if_pos (by simp),if_neg hsc]at this;exact this
       obtain⟨wd,hwd⟩:∃x,aX (bK E.bs E.l vx.st.k)=x:=⟨_,rfl⟩
       have hwf:(wd.data.toList==[59])=false:=by rw[<- hwd];simpa [aX] using hsc
       have hwf2:(wd.toList==[59])=false:=by rw[ByteArray.toList_eq];exact hwf
       rw[hwd];have kR:=kH hq2;have lF:=kH gQ;clear hq2 hsc hwd gQ;go_wp2_with fail
       go_roundg gk
       case measure=>omega
       case rel=>exact⟨_,kR.out,h6,P6,gD⟩
   ·have hq2:vx.st=q:=by simpa using HX.out
    have Dp:=kH hq2;clear hq2;go_wp2_with fail
    refine(HST.out _ hpx).mono ?_;rintro e w4 ⟨rfl,hb4⟩;have h4:=hpx.below hb4;have dX:=Ue.below hb4 Ue.lt;have P4:=hmx.trans (PM.of_below hb4);go_wp2_with fail
    obtain⟨v4,hv4⟩:∃v4,v4=vx:=⟨_,rfl⟩
    rw[<- hv4]at h4 P4 Dp;have ja:=Dp;rw[HF.out]at aM;clear hv4;refine(iG E hE v4 _ h4 first 1 [] (w.heap.size+1)).mono ?_;rintro e w5 ⟨rfl,hb5,jF⟩;have h5:=h4.below hb5;have fw:=dX.below hb5 dX.lt;obtain⟨⟨r0,r1,r2,r3,r4⟩,g0,g1,g2,g3,g4⟩:=fw.five;go_wp2_with fail
    have aO:=kH (bJ (v:=v) h5 (P4.trans (PM.of_below hb5)) rfl fw hgl jF);clear jF;refine bodyPost_ret (v:=.agg #[.int .i64 1,.string (aX []),.int .i64 (bO E.l v4.st first []),.int .i64 (v4.st.last:Int),.slice none 0 0]) (by simp[results,Tryz.results140,go_sem,r0,r1,r2,r3,r4]) rfl ?_;exact Eq.mp (congrArg (fun r=>bB E w v r _ _) (show(aH E.l v4.st first 1 [] [],v4.st)=_ by rw[ja.out,aM.out])) aO.out
end Go.Proofs.YtoepemlnlpamlaaGreat
