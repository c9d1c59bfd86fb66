/- The law NamesResolves holds where what it reads is of bulk at most 1048576: it returns true, and its argument reads as before. Part 8: ParB ParC ParD ParF ParG. -/
import Derived.Test.YtoepemlnlpamlaaGreatReso07
set_option maxRecDepth 100000
set_option maxHeartbeats 4000000
namespace Go.Proofs.YtoepemlnlpamlaaGreat
open Go.RowKit
theorem Oe(E:PE)(hE:E.Ok)(v:PV)(w:World)(hpw:PW w E v):Calls Tryz.prog 127 #[.pointer (some ⟨E.gp,0,none⟩)] w (bB E w v (kK E.bs E.l v.st)):=by
 have hgl:=hpw.blk.lt;have hk2:w.cell? ⟨E.gp,2,none⟩=some (.int .i64 (v.st.k:Int)):=hpw.blk.cell 2;go_enter Tryz.func127,Tryz.ntmps127
 go_wp2_with fail
 generalize hW1:w.alloc (.cells #[.int .i64 0,.string ⟨#[]⟩,.int .i64 0,.int .i64 0,.slice none 0 0] 24)=W1
 have hb1:Below w.heap.size w W1:=by rw[<- hW1];exact ag _ _
 have gJ:ai W1 w.heap.size 24 #[.int .i64 0,.string ⟨#[]⟩,.int .i64 0,.int .i64 0,.slice none 0 0]:=by rw[<- hW1];exact ai.new w _ _
 have hs1:W1.heap.size=w.heap.size+1:=by rw[<- hW1];simp
 have hm1:=PM.of_below (E:=E) (v:=v) hb1;have h1:=hpw.below hb1;have P1:=hm1;have o5:=kH hs1;have jv:=kH hm1;clear hW1 hs1 hm1 hb1;refine(tV E hE v _ h1).mono ?_;rintro e w2 ⟨rfl,v2,hv2,h2,hm2⟩;have gF:=kH hv2;have hR2:=hm2.blk h1 gJ;have P2:=P1.trans hm2;clear hv2 hm2;go_wp2_with fail
 refine(j6 E hE v2 [58] _ h2).mono ?_;rintro e w3 ⟨rfl,v3,hv3,h3,eu⟩;have fI:=kH hv3;have bT:=eu.blk h2 hR2;have P3:=P2.trans eu;clear hv3 eu;rw[gF.out]at fI;have hkc:w3.cell? ⟨E.gp,2,none⟩=some (.int .i64 (v3.st.k:Int)):=h3.blk.cell 2;obtain⟨k3,hk3⟩:∃x,v3.st.k=x:=⟨_,rfl⟩
 rw[hk3]at hkc;have gM:=kH hk3;clear hk3;have his:=fun x w' (h:PW w' E v3)=>yI E hE v3 x w' h
 obtain⟨b1,hb1⟩:∃x,bE E.bs E.l v3.st [105,110,116]=x:=⟨_,rfl⟩
 obtain⟨b2,hb2⟩:∃x,bE E.bs E.l v3.st [98,111,111,108]=x:=⟨_,rfl⟩
 have HIS:=kH his;have HB1:=kH hb1;have HB2:=kH hb2;clear his hb1 hb2;go_upto_region 5 with fail
 go_cut [26] (fun s26 wx=>s26= .bool (b1 || b2)/\Below w3.heap.size w3 wx)
 case first=>
  cases b1
  ·go_wp2_with fail
   refine(HIS.out [105,110,116] _ h3).mono ?_;rintro e w4 ⟨rfl,hb4⟩;rw[HB1.out];have h4:=h3.below hb4;go_wp2_with fail
   refine(HIS.out [98,111,111,108] _ h4).mono ?_;rintro e w5 ⟨rfl,hb5⟩;rw[HB2.out];go_wp2_with fail
   go_meet
   exact⟨by simp,hb4.trans (hb5.mono hb4.size)⟩
  ·go_wp2_with fail
   refine(HIS.out [105,110,116] _ h3).mono ?_;rintro e w4 ⟨rfl,hb4⟩;rw[HB1.out];go_wp2_with fail
   go_meet
   exact⟨by simp,hb4⟩
 case rest=>
  obtain⟨hs26,hbw⟩:=hcut;have h4:=h3.below hbw;have dX:=bT.below hbw bT.lt;have P4:=P3.trans (PM.of_below hbw);obtain⟨bb,hbb⟩:∃x,(b1 || b2)=x:=⟨_,rfl⟩
  rw[hbb]at hs26;subst hs26;have oK:=kH hbb;clear hbb hbw hkc hk2;cases bb
  ·go_wp2_with fail
   refine(sF E hE v3 4 [116,121,112,101] _ h4).mono ?_;rintro e w5 ⟨⟨u5x,rfl⟩,v5,hv5,h5,iA⟩;have HV5:=kH hv5;have fw:=iA.blk h4 dX;have P5:=P4.trans iA;clear hv5 iA;go_wp2_with fail
   have aM:Hid (kK E.bs E.l v.st=(aH E.l v5.st v.st.k 4 (cK E.bs E.l v.st) [aH E.l v5.st k3 1 [] []],v5.st)):=kH (by
    have hc:(bE E.bs E.l (aI E.bs E.l (dI E.l v.st) [58]) [105,110,116] || bE E.bs E.l (aI E.bs E.l (dI E.l v.st) [58]) [98,111,111,108])=false:=by rw[<- fI.out,HB1.out,HB2.out,oK.out]
    unfold kK;simp only
    rw[hc,if_neg (by simp),HV5.out,<- fI.out,gM.out])
   refine(iG E hE v5 _ h5 k3 1 [] (w.heap.size+1)).mono ?_;rintro e w6 ⟨rfl,hb6,qN⟩;have h6:=h5.below hb6;have gD:=fw.below hb6 fw.lt;have P6:=P5.trans (PM.of_below hb6);go_wp2_with fail
   generalize uM:w6.alloc (.cells #[.int .i64 1,.string (aX []),.int .i64 (bO E.l v5.st k3 []),.int .i64 (v5.st.last:Int),.slice none 0 0] 24)=w7
   have dB:Below w6.heap.size w6 w7:=by rw[<- uM];exact ag _ _
   have hs7:w7.heap.size=w6.heap.size+1:=by rw[<- uM];simp
   have kY:=aB.keeps (bW.of_below dB) _ _ qN;have h7:=h6.below dB;have eZ:=gD.below dB gD.lt;have P7:=P6.trans (PM.of_below dB);clear uM;have ng:=kH (jP kY (by have:=eZ.lt;omega));generalize nQ:w7.alloc (.cells #[.int .i64 1,.string (aX []),.int .i64 (bO E.l v5.st k3 []),.int .i64 (v5.st.last:Int),.slice none 0 0] 24)=w8 at ng⊢
   have dW:Below w7.heap.size w7 w8:=by rw[<- nQ];exact ag _ _
   have h8:=h7.below dW;have eB:=eZ.below dW eZ.lt;have P8:=P7.trans (PM.of_below dW);clear nQ;obtain⟨v8,dV⟩:∃v8,v8=v5:=⟨_,rfl⟩
   have gL:Hid (v8.st=v5.st):=kH (by rw[dV]);rw[<- dV]at h8 P8;rw[<- hs7];clear dV hs7;refine(dP E hE v8 _ h8 v.st.k 4 (cK E.bs E.l v.st) (w.heap.size+1) (some ⟨w7.heap.size,0,none⟩) 1 1 [aH E.l v5.st k3 1 [] []] ng.out).mono ?_;rintro e w9 ⟨rfl,fA,nX⟩;have h9:=h8.below fA;have eY:=eB.below fA eB.lt;obtain⟨⟨r0,r1,r2,r3,r4⟩,g0,g1,g2,g3,g4⟩:=eY.five;go_wp2_with fail
   have aO:=kH (bJ (v:=v) h9 (P8.trans (PM.of_below fA)) rfl eY hgl nX);clear nX;refine bodyPost_ret (v:=.agg #[.int .i64 4,.string (aX (cK E.bs E.l v.st)),.int .i64 (bO E.l v8.st v.st.k [aH E.l v5.st k3 1 [] []]),.int .i64 (v8.st.last:Int),.slice (some ⟨w7.heap.size,0,none⟩) 1 1]) (by simp[results,Tryz.results127,go_sem,r0,r1,r2,r3,r4]) rfl ?_;exact Eq.mp (congrArg (fun r=>bB E w v r _ _) (show(aH E.l v8.st v.st.k 4 (cK E.bs E.l v.st) [aH E.l v5.st k3 1 [] []],v8.st)=_ by rw[aM.out,gL.out])) aO.out
  ·have hk5:bM E.l v3.st≠5:=by
    intro h5;have:=oK.out;rw[<- HB1.out,<- HB2.out]at this;unfold bE at this;rw[h5]at this;simp at this
   have xL:=kH hk5;clear hk5;go_wp2_with fail
   refine(qJ E hE v3 _ h4 xL.out).mono ?_;rintro e w5 ⟨rfl,h5,iA⟩;have fw:=iA.blk h4 dX;have P5:=P4.trans iA;obtain⟨v5,hv5⟩:∃v5:PV,(⟨ay E.l v3.st,v3.lv⟩:PV)=v5:=⟨_,rfl⟩
   rw[hv5]at h5 P5;have HV5:Hid (v5.st=ay E.l v3.st):=kH (by rw[<- hv5]);obtain⟨wd,hwd⟩:∃x,bK E.bs E.l v3.st.k=x:=⟨_,rfl⟩
   rw[hwd];have HWD:=kH hwd;clear hv5 iA hwd
   have aM:Hid (kK E.bs E.l v.st=(aH E.l v5.st v.st.k 4 (cK E.bs E.l v.st) [aH E.l v5.st k3 9 wd []],v5.st)):=kH (by
    have hc:(bE E.bs E.l (aI E.bs E.l (dI E.l v.st) [58]) [105,110,116] || bE E.bs E.l (aI E.bs E.l (dI E.l v.st) [58]) [98,111,111,108])=true:=by rw[<- fI.out,HB1.out,HB2.out,oK.out]
    unfold kK;simp only
    rw[hc,if_pos rfl,HV5.out,<- fI.out,HWD.out,gM.out])
   go_wp2_with fail
   refine(iG E hE v5 _ h5 k3 9 wd (w.heap.size+1)).mono ?_;rintro e w6 ⟨rfl,hb6,qN⟩;have h6:=h5.below hb6;have gD:=fw.below hb6 fw.lt;have P6:=P5.trans (PM.of_below hb6);go_wp2_with fail
   generalize uM:w6.alloc (.cells #[.int .i64 9,.string (aX wd),.int .i64 (bO E.l v5.st k3 []),.int .i64 (v5.st.last:Int),.slice none 0 0] 24)=w7
   have dB:Below w6.heap.size w6 w7:=by rw[<- uM];exact ag _ _
   have hs7:w7.heap.size=w6.heap.size+1:=by rw[<- uM];simp
   have kY:=aB.keeps (bW.of_below dB) _ _ qN;have h7:=h6.below dB;have eZ:=gD.below dB gD.lt;have P7:=P6.trans (PM.of_below dB);clear uM;have ng:=kH (jP kY (by have:=eZ.lt;omega));generalize nQ:w7.alloc (.cells #[.int .i64 9,.string (aX wd),.int .i64 (bO E.l v5.st k3 []),.int .i64 (v5.st.last:Int),.slice none 0 0] 24)=w8 at ng⊢
   have dW:Below w7.heap.size w7 w8:=by rw[<- nQ];exact ag _ _
   have h8:=h7.below dW;have eB:=eZ.below dW eZ.lt;have P8:=P7.trans (PM.of_below dW);clear nQ;obtain⟨v8,dV⟩:∃v8,v8=v5:=⟨_,rfl⟩
   have gL:Hid (v8.st=v5.st):=kH (by rw[dV]);rw[<- dV]at h8 P8;rw[<- hs7];clear dV hs7;refine(dP E hE v8 _ h8 v.st.k 4 (cK E.bs E.l v.st) (w.heap.size+1) (some ⟨w7.heap.size,0,none⟩) 1 1 [aH E.l v5.st k3 9 wd []] ng.out).mono ?_;rintro e w9 ⟨rfl,fA,nX⟩;have h9:=h8.below fA;have eY:=eB.below fA eB.lt;obtain⟨⟨r0,r1,r2,r3,r4⟩,g0,g1,g2,g3,g4⟩:=eY.five;go_wp2_with fail
   have aO:=kH (bJ (v:=v) h9 (P8.trans (PM.of_below fA)) rfl eY hgl nX);clear nX;refine bodyPost_ret (v:=.agg #[.int .i64 4,.string (aX (cK E.bs E.l v.st)),.int .i64 (bO E.l v8.st v.st.k [aH E.l v5.st k3 9 wd []]),.int .i64 (v8.st.last:Int),.slice (some ⟨w7.heap.size,0,none⟩) 1 1]) (by simp[results,Tryz.results127,go_sem,r0,r1,r2,r3,r4]) rfl ?_;exact Eq.mp (congrArg (fun r=>bB E w v r _ _) (show(aH E.l v8.st v.st.k 4 (cK E.bs E.l v.st) [aH E.l v5.st k3 9 wd []],v8.st)=_ by rw[aM.out,gL.out])) aO.out
theorem rP:(Tryz.prog.info? 24).map (fun i=>(i.zero,i.size,i.bytes))=some (some (.agg #[.int .i64 0,.string ⟨#[]⟩,.int .i64 0,.int .i64 0,.slice none 0 0]),5,64):=by kernel_rfl
theorem bV.pushed{w w1:World}{lo:Nat}{v v':Value}{n:Nat}{ts:List ae}{t:ae}{cs:List Value}{vals:List (List Value)}{o:Obj}
 (h2:bU w (fun g=>lo<=g/\some g≠v.ownBlock) ts vals) (hn:ts.length=n) (ht:aB w (fun g=>lo<=g/\some g≠v.ownBlock) t cs)
 (hown:aL w1 lo 24 5 v' (n+1) (List.flatten vals++cs)) (hgrow:(w.alloc o).grownBy w1 v.ownBlock) (hat:v'.ownBlock=v.ownBlock\/v'.ownBlock=some (w.alloc o).heap.size):bV w1 lo v' (n+1) (ts++[t]):=by
 refine bV.push h2 hn ht hown (fun g hg hne=>(hgrow.block g (by simp;omega) hne).trans (Below.heap_alloc w o g hg)) ?_;rcases hat with h|h
 ·exact .inl h
 ·exact .inr fun g hg=>by
   rw[h]at hg;simp at hg;omega
theorem kM{E:PE}{w wz w1:World}{v vz:PV}{lo:Nat}{kv:Value}{n:Nat}{xs:List Value}{o:Obj}(hz:PW wz E vz)(hP:PM E w v wz vz)(hO:aL wz lo 24 5 kv n xs)(hlo:w.heap.size<=lo)(hgrow:(wz.alloc o).grownBy w1 kv.ownBlock):
 PW w1 E vz/\PM E w v w1 vz/\∀g cs,ai wz g 24 cs->kv.ownBlock≠some g->ai w1 g 24 cs:=by
 have hs:aF (fun g=>kv.ownBlock=some g) wz w1:=((aF.refl (fun g=>kv.ownBlock=some g) wz).alloc o).grown hgrow (fun k hk=>.inl hk);refine⟨⟨hz.blk.since hs (hO.bZ hz.blk (by decide)),hz.own.since hs (fun g hg=>hz.own.apart hO (by decide) g hg),hz.toks.since hs (fun g hg=>hz.toks.apart hO (by decide) g hg),hz.at_,hz.good,hz.last⟩,⟨hP.since.step hs (fun g hg=>.inr (by have:=(hO.lt g hg).1;omega)),hP.fresh⟩,fun g cs hb hne=>hb.since hs hne⟩
theorem JG{s:aZ}{l:List jY}(he:nU l){p:PS}(hp:p.k<l.length):Le l p (iK s l p).2:=by
 have h1:=Yh (s:=s) (w:=[118,97,114]) he hp;have h2:=h1.trans (uI he h1.2);exact h2.trans (QE he h2.2)
theorem MR(E:PE)(hE:E.Ok)(v:PV)(w:World)(hpw:PW w E v)(f:Nat)(r:ae×PS)(hr:sW E.bs E.l f v.st=some r):Calls Tryz.prog 129 #[.pointer (some ⟨E.gp,0,none⟩)] w (bB E w v r):=by
 obtain⟨i0,hi0,hz0,hz1,hz2⟩:=info_parts rP
 obtain⟨kids,q,hkq,hrq⟩:∃kids q,(if bE E.bs E.l (aI E.bs E.l v.st [40]) [41] then some ([],aI E.bs E.l v.st [40]) else lL E.bs E.l f (iK E.bs E.l (aI E.bs E.l v.st [40])).2 [(iK E.bs E.l (aI E.bs E.l v.st [40])).1])=some (kids,q)/\r=(aH E.l (aI E.bs E.l q [41]) v.st.k 6 [] kids,aI E.bs E.l q [41]):=by
  unfold sW at hr;simp only at hr;split at hr
  ·cases hr
  ·rename_i kids q h
   cases hr
   exact⟨kids,q,h,rfl⟩
 have UE:=kH hkq;have aM:=kH hrq;clear hr hkq hrq;have hgl:=hpw.blk.lt;have hk2:w.cell? ⟨E.gp,2,none⟩=some (.int .i64 (v.st.k:Int)):=hpw.blk.cell 2;go_enter Tryz.func129,Tryz.ntmps129
 go_wp2_with fail
 generalize hW1:w.alloc (.cells #[.int .i64 0,.string ⟨#[]⟩,.int .i64 0,.int .i64 0,.slice none 0 0] 24)=W1
 have hb1:Below w.heap.size w W1:=by rw[<- hW1];exact ag _ _
 have gJ:ai W1 w.heap.size 24 #[.int .i64 0,.string ⟨#[]⟩,.int .i64 0,.int .i64 0,.slice none 0 0]:=by rw[<- hW1];exact ai.new w _ _
 have hs1:W1.heap.size=w.heap.size+1:=by rw[<- hW1];simp
 have hm1:=PM.of_below (E:=E) (v:=v) hb1;have h1:=hpw.below hb1;have P1:=hm1;have o5:=kH hs1;have jv:=kH hm1;clear hW1 hs1 hm1 hb1;generalize AQ:W1.alloc (.cells #[] 24)=w2
 have hb2:Below W1.heap.size W1 w2:=by rw[<- AQ];exact ag _ _
 have hK2:bV w2 (w.heap.size+1) (.slice (some ⟨w.heap.size+1,0,none⟩) 0 0) 0 []:=by
  refine⟨[],?_,rfl,rfl⟩;have hn:=ai.new W1 24 #[];rw[o5.out,AQ]at hn;exact aL.block (n:=0) (cur:=#[]) (abE _) hn (by simp[maxLen]) rfl
 have h2:=h1.below hb2;have hR2:=gJ.below hb2 gJ.lt;have P2:=P1.trans (PM.of_below hb2);clear AQ;refine(j6 E hE v [40] _ h2).mono ?_;rintro e w3 ⟨rfl,v3,hv3,h3,eu⟩;have fI:=kH hv3;have bT:=eu.blk h2 hR2;have P3:=P2.trans eu;have hK3:=hK2.keeps (eu.dR h2);have gM:=kH hK3;clear hv3 eu hK2 hK3;have his:=fun x w' (h:PW w' E v3)=>yI E hE v3 x w' h
 obtain⟨b1,hb1⟩:∃x,bE E.bs E.l v3.st [41]=x:=⟨_,rfl⟩
 have HIS:=kH his;have HB1:=kH hb1;clear his hb1 hk2;go_wp2_with fail
 refine(HIS.out [41] _ h3).mono ?_;rintro e w4 ⟨rfl,hb4⟩;rw[HB1.out];have h4:=h3.below hb4;have dX:=bT.below hb4 bT.lt;have P4:=P3.trans (PM.of_below hb4);have MB:=kH (gM.out.keeps (bW.of_below hb4));clear gM;go_upto_if 14 with fail
 go_cut [4] (fun s4 wx=> ∃A n c vx,s4= .slice A n c/\bV wx (w.heap.size+1) (.slice A n c) n kids/\vx.st=q/\PW wx E vx/\PM E w v wx vx/\ai wx w.heap.size 24 #[.int .i64 0,.string ⟨#[]⟩,.int .i64 0,.int .i64 0,.slice none 0 0])
 case first=>
  cases b1
  ·have hx:lL E.bs E.l f (iK E.bs E.l v3.st).2 [(iK E.bs E.l v3.st).1]=some (kids,q):=by
    have:=UE.out;rw[<- fI.out,HB1.out,if_neg (by simp)]at this;exact this
   have HX:=kH hx;clear hx UE;go_wp2_with fail
   refine(EF E hE v3 _ h4).mono ?_;rintro e w5 ⟨k5,t5,a5,z5,A5,n5,c5,rfl,jF,v5,hv5,h5,iA⟩;have HV5:=kH hv5;have fw:=iA.blk h4 dX;have P5:=P4.trans iA;clear hv5;obtain⟨U0,LJ,Ro,Lt⟩:=MB.out.keeps (iA.dR h4);have Rp:aB w5 (fun g=>w.heap.size+1<=g/\some g≠(Value.slice (some ⟨w.heap.size+1,0,none⟩) 0 0).ownBlock) _ _:=aB.weak (fun g _ hg=>⟨abF dX.lt hg,fun e1=>by obtain⟨_,hO4,_,_⟩:=MB.out;have:=(hO4.lt g e1.symm).2;omega⟩) _ _ jF;have hro6:(Value.slice (some ⟨w.heap.size+1,0,none⟩) 0 0).ownBlock≠some w.heap.size:=fun e1=>by have:=(LJ.lt _ e1).1;omega
   have hrz6:=fw.lt;have Dq:=kH LJ;have abn:=kH Ro;have abo:=kH Rp;have Hn6:=kH Lt;have HRO6:=kH hro6;clear LJ Ro Rp Lt hro6 jF;go_wp2_with (at_builtin;go_must (refine dm _ rfl (.tmp 15) (.tmp 18) _ rfl (w.heap.size+1) 24 i0 _ 5 64 Tryz.underlying22 hi0 hz0 hz1 hz2 rfl (.slice (some ⟨w.heap.size+1,0,none⟩) 0 0) 0 (List.flatten U0) rfl (Dq.out.alloc _) ⟨w5.heap.size,0,none⟩ 1 1 [.int .i64 k5,.string t5,.int .i64 a5,.int .i64 z5,.slice A5 n5 c5] rfl rfl (jd _ _ _ _ _ _ _ (by go_simp) (by go_simp) (by go_simp) (by go_simp) (by go_simp)) (by simp[Value.oneCell']) (by simp only[maxLen];omega) (by omega) (by simp;omega) ?_);intro vn w6 hown hgrow hat;obtain⟨A6,c6,nC,-,-⟩:=hown.shape;subst nC;have Xj:=kH hown;have GA:=kH hgrow;have abA:=kH hat;clear hown hgrow hat)
   have Bn:=kH (bV.pushed abn.out Hn6.out abo.out Xj.out GA.out abA.out);obtain⟨h6,P6,Lv⟩:=kM h5 P5 Dq.out (Nat.le_succ _) GA.out;have gD:=Lv _ _ fw HRO6.out;clear Lv;rw[<- HV5.out]at HX;have hts5:(iK E.bs E.l v3.st).1=(iK E.bs E.l v3.st).1:=rfl;clear hts5;go_loopg [4] f (fun gk s4 wr=> ∃A n c vx ts,s4= .slice A n c/\bV wr (w.heap.size+1) (.slice A n c) n ts/\lL E.bs E.l gk vx.st ts=some (kids,q)/\n<=vx.st.k+1/\PW wr E vx/\PM E w v wr vx/\ai wr w.heap.size 24 #[.int .i64 0,.string ⟨#[]⟩,.int .i64 0,.int .i64 0,.slice none 0 0])
   case atStart=>exact⟨A6,1,c6,v5,[(iK E.bs E.l v3.st).1],rfl,Bn.out,HX.out,by omega,h6,P6,gD⟩
   case round=>
    obtain⟨A7,n7,c7,v7,pq,rfl,BN,hx7,xI,h7,P7,eZ⟩:=hrel
    cases gk with
    | zero=>simp[lL]at hx7
    | succ gk=>
     rw[lL]at hx7;have rF:=kH hx7;have Mx:=kH BN;have JR:=h7.at_;have zJ:=hE.most;clear hx7 BN;obtain⟨b7,dB⟩:∃x,bE E.bs E.l v7.st [44]=x:=⟨_,rfl⟩
     have gN:=kH dB;clear dB;go_wp2_with fail
     refine(fV E hE v7 [44] _ h7).mono ?_;rintro e w8 ⟨rfl,v8,dV,h8,dS⟩;rw[gN.out];have gL:=kH dV;have eB:=dS.blk h7 eZ;have P8:=P7.trans dS;have ng:=kH (Mx.out.keeps (dS.dR h7));clear dV dS;cases b7
     ·have hst:v8.st=v7.st:=by
       rw[gL.out];unfold bI;rw[gN.out,if_neg (by simp)]
      have hkk:pq=kids/\v7.st=q:=by
       have:=rF.out;rw[gN.out,if_neg (by simp)]at this;simpa using this
      obtain⟨rfl,yL⟩:=hkk;have Gt:=kH (hst.trans yL);clear hst yL;go_wp2_with fail
      go_meet
      exact⟨_,_,_,v8,rfl,ng.out,Gt.out,h8,P8,eB⟩
     ·have hst:v8.st=ay E.l v7.st:=by
       rw[gL.out];unfold bI;rw[gN.out,if_pos rfl]
      have hnx:lL E.bs E.l gk (iK E.bs E.l v8.st).2 (pq++[(iK E.bs E.l v8.st).1])=some (kids,q):=by
       have:=rF.out;rw[gN.out,if_pos rfl,<- hst]at this;exact this
      have AJ:v8.st.k=v7.st.k+1:=by rw[hst];rfl
      have bF:=kH hnx;have QX:n7<=5001:=by omega
      have Kn:=kH AJ;clear hst hnx AJ;go_wp2_with fail
      refine(EF E hE v8 _ h8).mono ?_;rintro e w9 ⟨k9,t9,a9,z9,A9,n9,c9,rfl,nX,v9,gV,h9,fU⟩;have jZ:=kH gV;have eY:=fU.blk h8 eB;have P9:=P8.trans fU;clear gV;obtain⟨zZ,oC,wY,pJ⟩:=ng.out.keeps (fU.dR h8);have wZ:aB w9 (fun g=>w.heap.size+1<=g/\some g≠(Value.slice A7 n7 c7).ownBlock) _ _:=aB.weak (fun g _ hg=>⟨abF eB.lt hg,fun e1=>by obtain⟨_,hO4,_,_⟩:=ng.out;have:=(hO4.lt g e1.symm).2;omega⟩) _ _ nX;have BI:(Value.slice A7 n7 c7).ownBlock≠some w.heap.size:=fun e1=>by have:=(oC.lt _ e1).1;omega
      have Wq:=eY.lt;have Bi:=kH oC;have Ex:=kH wY;have Ey:=kH wZ;have Kh:=kH pJ;have Mq:=kH BI;clear oC wY wZ pJ BI nX;go_wp2_with (at_builtin;go_must (refine dm _ rfl (.tmp 22) (.tmp 25) _ rfl (w.heap.size+1) 24 i0 _ 5 64 Tryz.underlying22 hi0 hz0 hz1 hz2 rfl (.slice A7 n7 c7) n7 (List.flatten zZ) rfl (Bi.out.alloc _) ⟨w9.heap.size,0,none⟩ 1 1 [.int .i64 k9,.string t9,.int .i64 a9,.int .i64 z9,.slice A9 n9 c9] rfl rfl (jd _ _ _ _ _ _ _ (by go_simp) (by go_simp) (by go_simp) (by go_simp) (by go_simp)) (by simp[Value.oneCell']) (by simp only[maxLen];omega) (by omega) (by simp;omega) ?_);intro vn bA hown hgrow hat;obtain⟨oL,c10,nC,-,-⟩:=hown.shape;subst nC;have Bh:=kH hown;have rJ:=kH hgrow;have EC:=kH hat;clear hown hgrow hat)
      have rG:=kH (bV.pushed Ex.out Kh.out Ey.out Bh.out rJ.out EC.out);obtain⟨h10,jG,tC⟩:=kM h9 P9 Bi.out (Nat.le_succ _) rJ.out;have dK:=tC _ _ eY Mq.out;clear tC;go_roundg gk
      case measure=>omega
      case rel=>
       refine⟨oL,n7+1,c10,v9,pq++[(iK E.bs E.l v8.st).1],rfl,rG.out,by rw[jZ.out];exact bF.out,?_,h10,jG,dK⟩;have hle:=(JG (s:=E.bs) hE.ends (p:=v8.st) (by rw[hE.len];exact h8.at_)).1;rw[jZ.out];have:=Kn.out;omega
  ·have hx:([],v3.st)=(kids,q):=by
    have:=UE.out;rw[<- fI.out,HB1.out,if_pos rfl]at this;exact Option.some.inj this
   cases hx
   go_wp2_with fail
   go_meet
   exact⟨_,_,_,v3,rfl,MB.out,rfl,h4,P4,dX⟩
 case rest=>
  obtain⟨Ak,nk,ck,vx,rfl,hK,Iu,hx,hmx,Ue⟩:=hcut;have HKx:=kH hK;have Dp:=kH Iu;clear hK Iu;go_wp2_with fail
  refine(j6 E hE vx [41] _ hx).mono ?_;rintro e mJ ⟨rfl,v12,kI,h12,iH⟩;have nA:=kH kI;rw[Dp.out]at nA;have iW:=iH.blk hx Ue;have mO:=hmx.trans iH;have oV:=kH (HKx.out.keeps (iH.dR hx));clear kI iH;go_wp2_with fail
  refine(dP E hE v12 _ h12 v.st.k 6 [] (w.heap.size+1) Ak nk ck kids oV.out).mono ?_;rintro e uL ⟨rfl,ic,ru⟩;have pR:=h12.below ic;have lI:=iW.below ic iW.lt;obtain⟨⟨r0,r1,r2,r3,r4⟩,g0,g1,g2,g3,g4⟩:=lI.five;go_wp2_with fail
  have aO:=kH (bJ (v:=v) pR (mO.trans (PM.of_below ic)) rfl lI hgl ru);clear ru;refine bodyPost_ret (v:=.agg #[.int .i64 6,.string (aX []),.int .i64 (bO E.l v12.st v.st.k kids),.int .i64 (v12.st.last:Int),.slice Ak nk ck]) (by simp[results,Tryz.results129,go_sem,r0,r1,r2,r3,r4]) rfl ?_;exact Eq.mp (congrArg (fun r=>bB E w v r _ _) (show(aH E.l v12.st v.st.k 6 [] kids,v12.st)=_ by rw[aM.out,nA.out])) aO.out
theorem DV{s:aZ}{l:List jY}(he:nU l){p:PS}(hp:p.k<l.length):Le l p (kK s l p).2:=by
 have h1:=uI he hp;have h2:=h1.trans (eF (s:=s) (w:=[58]) he h1.2);unfold kK;simp only;split
 ·rename_i hb
  refine h2.trans (dF he h2.2 ?_).1;rw[Bool.or_eq_true]at hb;rcases hb with hb|hb<;>exact eU hb
 ·exact h2.trans (wN h2.2)
theorem Va(E:PE)(hE:E.Ok)(v:PV)(w:World)(hpw:PW w E v)(f:Nat)(r:ae×PS)(hr:o7 E.bs E.l f v.st=some r)(h5:bM E.l v.st≠5):Calls Tryz.prog 67 #[.pointer (some ⟨E.gp,0,none⟩)] w (bB E w v r):=by
 obtain⟨i0,hi0,hz0,hz1,hz2⟩:=info_parts rP
 obtain⟨kids,q,hkq,hrq⟩:∃kids q,nZ E.bs E.l f (kK E.bs E.l (aI E.bs E.l (dI E.l (ay E.l v.st)) [123])).2 [(kK E.bs E.l (aI E.bs E.l (dI E.l (ay E.l v.st)) [123])).1]=some (kids,q)/\r=(aH E.l (aI E.bs E.l q [125]) v.st.k 3 (cK E.bs E.l (ay E.l v.st)) kids,aI E.bs E.l q [125]):=by
  unfold o7 at hr;simp only at hr;split at hr
  ·cases hr
  ·rename_i kids q h
   cases hr
   exact⟨kids,q,h,rfl⟩
 have UE:=kH hkq;have aM:=kH hrq;have Sq:=kH h5;clear hr hkq hrq h5;have hgl:=hpw.blk.lt;have hk2:w.cell? ⟨E.gp,2,none⟩=some (.int .i64 (v.st.k:Int)):=hpw.blk.cell 2;go_enter Tryz.func67,Tryz.ntmps67
 go_wp2_with fail
 generalize hW1:w.alloc (.cells #[.int .i64 0,.string ⟨#[]⟩,.int .i64 0,.int .i64 0,.slice none 0 0] 24)=W1
 have hb1:Below w.heap.size w W1:=by rw[<- hW1];exact ag _ _
 have gJ:ai W1 w.heap.size 24 #[.int .i64 0,.string ⟨#[]⟩,.int .i64 0,.int .i64 0,.slice none 0 0]:=by rw[<- hW1];exact ai.new w _ _
 have hs1:W1.heap.size=w.heap.size+1:=by rw[<- hW1];simp
 have hm1:=PM.of_below (E:=E) (v:=v) hb1;have h1:=hpw.below hb1;have P1:=hm1;have o5:=kH hs1;have jv:=kH hm1;clear hW1 hs1 hm1 hb1;refine(qJ E hE v _ h1 Sq.out).mono ?_;rintro e w2 ⟨rfl,h2,hm2⟩;have hR2:=hm2.blk h1 gJ;have P2:=P1.trans hm2;obtain⟨v2,hv2⟩:∃vv:PV,(⟨ay E.l v.st,v.lv⟩:PV)=vv:=⟨_,rfl⟩
 rw[hv2]at h2 P2;have gF:Hid (v2.st=ay E.l v.st):=kH (by rw[<- hv2]);clear hv2 hm2;go_wp2_with fail
 refine(tV E hE v2 _ h2).mono ?_;rintro e w3 ⟨rfl,v3,hv3,h3,eu⟩;have fI:=kH hv3;have bT:=eu.blk h2 hR2;have P3:=P2.trans eu;clear hv3 eu;have hnt:cK E.bs E.l v2.st=cK E.bs E.l (ay E.l v.st):=by rw[gF.out]
 rw[hnt];rw[gF.out]at fI;clear hnt hk2;go_wp2_with fail
 refine(j6 E hE v3 [123] _ h3).mono ?_;rintro e w4 ⟨rfl,v4,hv4,h4,iB⟩;have ja:=kH hv4;have dX:=iB.blk h3 bT;have P4:=P3.trans iB;clear hv4 iB;rw[fI.out]at ja;go_wp2_with fail
 refine(Oe E hE v4 _ h4).mono ?_;rintro e w5 ⟨k5,t5,a5,z5,A5,n5,c5,rfl,jF,v5,hv5,h5,iA⟩;have HV5:=kH hv5;have fw:=iA.blk h4 dX;have P5:=P4.trans iA;replace jF:=aB.weak (Q:=fun g=>w.heap.size+1<=g) (fun g _ hg=>abF dX.lt hg) _ _ jF
 clear hv5;rw[ja.out]at HV5 jF;have hx:=UE.out;rw[<- HV5.out]at hx;have HX:=kH hx
 have hle5:v4.st.k<=v5.st.k:=by
  have:=(DV (s:=E.bs) hE.ends (p:=v4.st) (by rw[hE.len];exact h4.at_)).1;rw[HV5.out,<- ja.out];exact this
 clear hx UE;go_wp2_with fail
 have Bn:=kH (jP jF (by have:=fw.lt;omega));generalize uf:w5.alloc (.cells #[.int .i64 k5,.string t5,.int .i64 a5,.int .i64 z5,.slice A5 n5 c5] 24)=w6 at Bn⊢
 have hb6:Below w5.heap.size w5 w6:=by rw[<- uf];exact ag _ _
 have h6:=h5.below hb6;have gD:=fw.below hb6 fw.lt;have P6:=P5.trans (PM.of_below hb6);clear uf;obtain⟨fld,hfld⟩:∃x,(kK E.bs E.l (aI E.bs E.l (dI E.l (ay E.l v.st)) [123])).1=x:=⟨_,rfl⟩
 rw[hfld]at HX Bn;clear hfld;go_loopg [5] f (fun gk s5 wr=> ∃A n c vx ts,s5= .slice A n c/\bV wr (w.heap.size+1) (.slice A n c) n ts/\nZ E.bs E.l gk vx.st ts=some (kids,q)/\n<=vx.st.k+1/\PW wr E vx/\PM E w v wr vx/\ai wr w.heap.size 24 #[.int .i64 0,.string ⟨#[]⟩,.int .i64 0,.int .i64 0,.slice none 0 0])
 case atStart=>exact⟨_,1,_,v5,[fld],rfl,Bn.out,HX.out,by omega,h6,P6,gD⟩
 case round=>
  obtain⟨A7,n7,c7,v7,pq,rfl,BN,hx7,xI,h7,P7,eZ⟩:=hrel
  cases gk with
  | zero=>simp[nZ]at hx7
  | succ gk=>
   rw[nZ]at hx7;have rF:=kH hx7;have Mx:=kH BN;have JR:=h7.at_;have zJ:=hE.most;clear hx7 BN;obtain⟨b7,dB⟩:∃x,bE E.bs E.l v7.st [44]=x:=⟨_,rfl⟩
   have gN:=kH dB;clear dB;go_wp2_with fail
   refine(fV E hE v7 [44] _ h7).mono ?_;rintro e w8 ⟨rfl,v8,dV,h8,dS⟩;rw[gN.out];have gL:=kH dV;have eB:=dS.blk h7 eZ;have P8:=P7.trans dS;have ng:=kH (Mx.out.keeps (dS.dR h7));clear dV dS;cases b7
   ·have hst:v8.st=v7.st:=by
     rw[gL.out];unfold bI;rw[gN.out,if_neg (by simp)]
    have hkk:pq=kids/\v7.st=q:=by
     have:=rF.out;rw[gN.out,if_neg (by simp)]at this;simpa using this
    obtain⟨rfl,yL⟩:=hkk;have Gt:=kH (hst.trans yL);clear hst yL;go_wp2_with fail
    refine(j6 E hE v8 [125] _ h8).mono ?_;rintro e mJ ⟨rfl,v12,kI,h12,iH⟩;have nA:=kH kI;rw[Gt.out]at nA;have iW:=iH.blk h8 eB;have mO:=P8.trans iH;have oV:=kH (ng.out.keeps (iH.dR h8));clear kI iH;go_wp2_with fail
    refine(dP E hE v12 _ h12 v.st.k 3 (cK E.bs E.l (ay E.l v.st)) (w.heap.size+1) A7 n7 c7 pq oV.out).mono ?_;rintro e uL ⟨rfl,ic,ru⟩;have pR:=h12.below ic;have lI:=iW.below ic iW.lt;obtain⟨⟨r0,r1,r2,r3,r4⟩,g0,g1,g2,g3,g4⟩:=lI.five;go_wp2_with fail
    have aO:=kH (bJ (v:=v) pR (mO.trans (PM.of_below ic)) rfl lI hgl ru);clear ru;refine bodyPost_ret (v:=.agg #[.int .i64 3,.string (aX (cK E.bs E.l (ay E.l v.st))),.int .i64 (bO E.l v12.st v.st.k pq),.int .i64 (v12.st.last:Int),.slice A7 n7 c7]) (by simp[results,Tryz.results67,go_sem,r0,r1,r2,r3,r4]) rfl ?_;exact Eq.mp (congrArg (fun r=>bB E w v r _ _) (show(aH E.l v12.st v.st.k 3 (cK E.bs E.l (ay E.l v.st)) pq,v12.st)=_ by rw[aM.out,nA.out])) aO.out
   ·have hst:v8.st=ay E.l v7.st:=by
     rw[gL.out];unfold bI;rw[gN.out,if_pos rfl]
    have hnx:nZ E.bs E.l gk (kK E.bs E.l v8.st).2 (pq++[(kK E.bs E.l v8.st).1])=some (kids,q):=by
     have:=rF.out;rw[gN.out,if_pos rfl,<- hst]at this;exact this
    have AJ:v8.st.k=v7.st.k+1:=by rw[hst];rfl
    have bF:=kH hnx;have QX:n7<=5001:=by omega
    have Kn:=kH AJ;clear hst hnx AJ;go_wp2_with fail
    refine(Oe E hE v8 _ h8).mono ?_;rintro e w9 ⟨k9,t9,a9,z9,A9,n9,c9,rfl,nX,v9,gV,h9,fU⟩;have jZ:=kH gV;have eY:=fU.blk h8 eB;have P9:=P8.trans fU;clear gV;obtain⟨zZ,oC,wY,pJ⟩:=ng.out.keeps (fU.dR h8);have wZ:aB w9 (fun g=>w.heap.size+1<=g/\some g≠(Value.slice A7 n7 c7).ownBlock) _ _:=aB.weak (fun g _ hg=>⟨abF eB.lt hg,fun e1=>by obtain⟨_,hO4,_,_⟩:=ng.out;have:=(hO4.lt g e1.symm).2;omega⟩) _ _ nX;have BI:(Value.slice A7 n7 c7).ownBlock≠some w.heap.size:=fun e1=>by have:=(oC.lt _ e1).1;omega
    have Wq:=eY.lt;have Bi:=kH oC;have Ex:=kH wY;have Ey:=kH wZ;have Kh:=kH pJ;have Mq:=kH BI;clear oC wY wZ pJ BI nX;go_wp2_with (at_builtin;go_must (refine dm _ rfl (.tmp 21) (.tmp 24) _ rfl (w.heap.size+1) 24 i0 _ 5 64 Tryz.underlying22 hi0 hz0 hz1 hz2 rfl (.slice A7 n7 c7) n7 (List.flatten zZ) rfl (Bi.out.alloc _) ⟨w9.heap.size,0,none⟩ 1 1 [.int .i64 k9,.string t9,.int .i64 a9,.int .i64 z9,.slice A9 n9 c9] rfl rfl (jd _ _ _ _ _ _ _ (by go_simp) (by go_simp) (by go_simp) (by go_simp) (by go_simp)) (by simp[Value.oneCell']) (by simp only[maxLen];omega) (by omega) (by simp;omega) ?_);intro vn bA hown hgrow hat;obtain⟨oL,c10,nC,-,-⟩:=hown.shape;subst nC;have Bh:=kH hown;have rJ:=kH hgrow;have EC:=kH hat;clear hown hgrow hat)
    have rG:=kH (bV.pushed Ex.out Kh.out Ey.out Bh.out rJ.out EC.out);obtain⟨h10,jG,tC⟩:=kM h9 P9 Bi.out (Nat.le_succ _) rJ.out;have dK:=tC _ _ eY Mq.out;clear tC;go_roundg gk
    case measure=>omega
    case rel=>
     refine⟨oL,n7+1,c10,v9,pq++[(kK E.bs E.l v8.st).1],rfl,rG.out,by rw[jZ.out];exact bF.out,?_,h10,jG,dK⟩;have hle:=(DV (s:=E.bs) hE.ends (p:=v8.st) (by rw[hE.len];exact h8.at_)).1;rw[jZ.out];have:=Kn.out;omega
theorem BB{s:aZ}{l:List jY}(he:nU l)(hend:qH s l){f:Nat}{fn:Fn}{p:PS}{x:List ae}{q:PS}(h:aN s l f fn p=some (x,q))(hp:p.k<l.length)(hr:Zk l p fn):Le l p q/\Zh x fn/\Mj s l p q fn:=by
 obtain⟨f0,x0,q0,h0,h1,h2,h3⟩:=XY he hend _ fn p hp hr (Nat.lt_succ_self _);have e1:=GR (Nat.le_max_left f f0) h;have e2:=GR (Nat.le_max_right f f0) h0;rw[e1]at e2;cases e2
 exact⟨h1,h2,h3⟩
def Ur(E:PE)(w:World)(v:PV)(kids:List ae)(q:PS)(e:Ending)(w':World):Prop:=
 ∃A n c,e= .returned (.slice A n c)/\bV w' w.heap.size (.slice A n c) n kids/\zq E w v q w'
structure yl (E:PE) (f:Nat):Prop where
 expr:∀(lv:Nat) (v:PV) (w:World) (t:ae) (q:PS),PW w E v->1<=lv->lv<=7->aN E.bs E.l f (.expr lv) v.st=some ([t],q)->Calls Tryz.prog 134 #[.pointer (some ⟨E.gp,0,none⟩),.int .i64 (lv:Int)] w (bB E w v (t,q))
 operand:∀(v:PV) (w:World) (t:ae) (q:PS),PW w E v->aN E.bs E.l f .operand v.st=some ([t],q)->Calls Tryz.prog 185 #[.pointer (some ⟨E.gp,0,none⟩)] w (bB E w v (t,q))
 args:∀(v:PV) (w:World) (kids:List ae) (q:PS),PW w E v->bM E.l v.st≠5->aN E.bs E.l f .args v.st=some (kids,q)->Calls Tryz.prog 138 #[.pointer (some ⟨E.gp,0,none⟩)] w (Ur E w v kids q)
 place:∀(v:PV) (w:World) (t:ae) (q:PS),PW w E v->aN E.bs E.l f .place v.st=some ([t],q)->Calls Tryz.prog 139 #[.pointer (some ⟨E.gp,0,none⟩)] w (bB E w v (t,q))
 stmt:∀(v:PV) (w:World) (t:ae) (q:PS),PW w E v->aN E.bs E.l f .stmt v.st=some ([t],q)->Calls Tryz.prog 74 #[.pointer (some ⟨E.gp,0,none⟩)] w (bB E w v (t,q))
 block:∀(v:PV) (w:World) (t:ae) (q:PS),PW w E v->aN E.bs E.l f .block v.st=some ([t],q)->Calls Tryz.prog 131 #[.pointer (some ⟨E.gp,0,none⟩)] w (bB E w v (t,q))
 branch:∀(v:PV) (w:World) (t:ae) (q:PS),PW w E v->bM E.l v.st≠5->aN E.bs E.l f .branch v.st=some ([t],q)->Calls Tryz.prog 135 #[.pointer (some ⟨E.gp,0,none⟩)] w (bB E w v (t,q))
theorem Y8(E:PE)(hE:E.Ok)(f:Nat)(IH:∀f',f'<=f->yl E f')(v:PV)(w:World)(t:ae)(q:PS)(hpw:PW w E v)(hr:aN E.bs E.l (f+1) .block v.st=some ([t],q)):Calls Tryz.prog 131 #[.pointer (some ⟨E.gp,0,none⟩)] w (bB E w v (t,q)):=by
 obtain⟨i0,hi0,hz0,hz1,hz2⟩:=info_parts rP;rw[aN]at hr;have HR:=kH hr;have fD:=kH IH;clear hr IH;have hgl:=hpw.blk.lt;have hk2:w.cell? ⟨E.gp,2,none⟩=some (.int .i64 (v.st.k:Int)):=hpw.blk.cell 2;go_enter Tryz.func131,Tryz.ntmps131
 go_wp2_with fail
 generalize hW1:w.alloc (.cells #[.int .i64 0,.string ⟨#[]⟩,.int .i64 0,.int .i64 0,.slice none 0 0] 24)=W1
 have hb1:Below w.heap.size w W1:=by rw[<- hW1];exact ag _ _
 have gJ:ai W1 w.heap.size 24 #[.int .i64 0,.string ⟨#[]⟩,.int .i64 0,.int .i64 0,.slice none 0 0]:=by rw[<- hW1];exact ai.new w _ _
 have hs1:W1.heap.size=w.heap.size+1:=by rw[<- hW1];simp
 have hm1:=PM.of_below (E:=E) (v:=v) hb1;have h1:=hpw.below hb1;have P1:=hm1;have o5:=kH hs1;have jv:=kH hm1;clear hW1 hs1 hm1 hb1;generalize AQ:W1.alloc (.cells #[] 24)=w2
 have hb2:Below W1.heap.size W1 w2:=by rw[<- AQ];exact ag _ _
 have hK2:bV w2 (w.heap.size+1) (.slice (some ⟨w.heap.size+1,0,none⟩) 0 0) 0 []:=by
  refine⟨[],?_,rfl,rfl⟩;have hn:=ai.new W1 24 #[];rw[o5.out,AQ]at hn;exact aL.block (n:=0) (cur:=#[]) (abE _) hn (by simp[maxLen]) rfl
 have h2:=h1.below hb2;have hR2:=gJ.below hb2 gJ.lt;have P2:=P1.trans (PM.of_below hb2);clear AQ;obtain⟨b0,hb0⟩:∃x,bE E.bs E.l v.st [123]=x:=⟨_,rfl⟩
 have HB0:=kH hb0;clear hb0;refine(j6 E hE v [123] _ h2).mono ?_;rintro e w3 ⟨rfl,v3,hv3,h3,eu⟩;rw[HB0.out];have fI:=kH hv3;have bT:=eu.blk h2 hR2;have P3:=P2.trans eu;have gM:=kH (hK2.keeps (eu.dR h2));clear hv3 eu hK2 hk2;cases b0
 ·have hst:v3.st=iE E.l v.st 4 [123]:=by
   rw[fI.out];unfold aI;rw[HB0.out,if_neg (by simp)]
  have aM:Hid ((t,q)=(aH E.l (iE E.l v.st 4 [123]) v.st.k 11 [] [],iE E.l v.st 4 [123])):=kH (by
   have:=HR.out;rw[HB0.out,if_neg (by simp)]at this;simp at this
   rw[<- this.1,<- this.2])
  replace fI:=kH hst
  clear hst;go_wp2_with fail
  refine(iG E hE v3 _ h3 v.st.k 11 [] (w.heap.size+1)).mono ?_;rintro e w4 ⟨rfl,hb4,kE⟩;have h4:=h3.below hb4;have dX:=bT.below hb4 bT.lt;obtain⟨⟨r0,r1,r2,r3,r4⟩,g0,g1,g2,g3,g4⟩:=dX.five;go_wp2_with fail
  have aO:=kH (bJ (v:=v) h4 (P3.trans (PM.of_below hb4)) rfl dX hgl kE);clear kE;refine bodyPost_ret (v:=.agg #[.int .i64 11,.string (aX []),.int .i64 (bO E.l v3.st v.st.k []),.int .i64 (v3.st.last:Int),.slice none 0 0]) (by simp[results,Tryz.results131,go_sem,r0,r1,r2,r3,r4]) rfl ?_;exact Eq.mp (congrArg (fun r=>bB E w v r _ _) (show(aH E.l v3.st v.st.k 11 [] [],v3.st)=_ by rw[fI.out,aM.out])) aO.out
 ·have hst:v3.st=ay E.l v.st:=by
   rw[fI.out];unfold aI;rw[HB0.out,if_pos rfl]
  obtain⟨kids,q1,hx,hrq⟩:∃kids q1,aN E.bs E.l f (.sS []) v3.st=some (kids,q1)/\(t,q)=(aH E.l (aI E.bs E.l q1 [125]) v.st.k 11 [] kids,aI E.bs E.l q1 [125]):=by
   have:=HR.out;rw[HB0.out,if_pos rfl]at this;obtain⟨x,p,h1,h2⟩:=vS this;simp at h2;exact⟨x,p,by rw[hst];exact h1,by rw[<- h2.1,<- h2.2]⟩
  have HX:=kH hx;have aM:=kH hrq;clear hst hx hrq;go_wp2_with fail
  go_loopg [4] f (fun gk s4 wr=> ∃A n c vx ts,s4= .slice A n c/\bV wr (w.heap.size+1) (.slice A n c) n ts/\gk<=f/\aN E.bs E.l gk (.sS ts) vx.st=some (kids,q1)/\n<=vx.st.k/\PW wr E vx/\PM E w v wr vx/\ai wr w.heap.size 24 #[.int .i64 0,.string ⟨#[]⟩,.int .i64 0,.int .i64 0,.slice none 0 0])
  case atStart=>exact⟨_,0,_,v3,[],rfl,gM.out,abE _,HX.out,Nat.zero_le _,h3,P3,bT⟩
  case round=>
   obtain⟨A7,n7,c7,v7,pq,rfl,BN,hgf,hx7,xI,h7,P7,eZ⟩:=hrel
   cases gk with
   | zero=>simp[aN]at hx7
   | succ gk=>
    rw[aN]at hx7;have rF:=kH hx7;have Mx:=kH BN;have JR:=h7.at_;have zJ:=hE.most;clear hx7 BN;have hst:=Nr E hE v7 wr h7;obtain⟨b7,dB⟩:∃x,lZ E.bs E.l v7.st=x:=⟨_,rfl⟩
    rw[dB]at hst;have gN:=kH dB;have HST:=kH hst;clear dB hst;go_wp2_with fail
    refine HST.out.mono ?_;rintro e w8 ⟨rfl,dW⟩;have h8:=h7.below dW;have eB:=eZ.below dW eZ.lt;have P8:=P7.trans (PM.of_below dW);have ng:=kH (Mx.out.keeps (bW.of_below dW));cases b7
    ·obtain⟨x9,q9,FL,hnx⟩:∃x9 q9,aN E.bs E.l gk .stmt v7.st=some ([x9],q9)/\aN E.bs E.l gk (.sS (pq++[x9])) q9=some (kids,q1):=by
      have:=rF.out;rw[gN.out,if_neg (by simp)]at this;obtain⟨x,p,h1,h2⟩:=eT this;exact⟨x,p,h1,h2⟩
     have hpr:=BB hE.ends hE.empty FL (by rw[hE.len];exact h7.at_) trivial;have hlt:v7.st.k<q9.k:=hpr.2.2 gN.out;have hcall:=(fD.out gk (by omega)).stmt v7 w8 x9 q9 h8 FL;have jo:=kH hcall;have bF:=kH hnx;have QX:n7<=5001:=by omega
     clear hpr FL hcall hnx;go_wp2_with fail
     refine jo.out.mono ?_;rintro e w9 ⟨k9,t9,a9,z9,A9,n9,c9,rfl,nX,v9,gV,h9,fU⟩;have jZ:=kH gV;have eY:=fU.blk h8 eB;have P9:=P8.trans fU;clear gV;obtain⟨zZ,oC,wY,pJ⟩:=ng.out.keeps (fU.dR h8);have wZ:aB w9 (fun g=>w.heap.size+1<=g/\some g≠(Value.slice A7 n7 c7).ownBlock) _ _:=aB.weak (fun g _ hg=>⟨abF eB.lt hg,fun e1=>by obtain⟨_,hO4,_,_⟩:=ng.out;have:=(hO4.lt g e1.symm).2;omega⟩) _ _ nX;have BI:(Value.slice A7 n7 c7).ownBlock≠some w.heap.size:=fun e1=>by have:=(oC.lt _ e1).1;omega
     have Wq:=eY.lt;have Bi:=kH oC;have Ex:=kH wY;have Ey:=kH wZ;have Kh:=kH pJ;have Mq:=kH BI;clear oC wY wZ pJ BI nX;go_wp2_with (at_builtin;go_must (refine dm _ rfl (.tmp 19) (.tmp 22) _ rfl (w.heap.size+1) 24 i0 _ 5 64 Tryz.underlying22 hi0 hz0 hz1 hz2 rfl (.slice A7 n7 c7) n7 (List.flatten zZ) rfl (Bi.out.alloc _) ⟨w9.heap.size,0,none⟩ 1 1 [.int .i64 k9,.string t9,.int .i64 a9,.int .i64 z9,.slice A9 n9 c9] rfl rfl (jd _ _ _ _ _ _ _ (by go_simp) (by go_simp) (by go_simp) (by go_simp) (by go_simp)) (by simp[Value.oneCell']) (by simp only[maxLen];omega) (by omega) (by simp;omega) ?_);intro vn bA hown hgrow hat;obtain⟨oL,c10,nC,-,-⟩:=hown.shape;subst nC;have Bh:=kH hown;have rJ:=kH hgrow;have EC:=kH hat;clear hown hgrow hat)
     have rG:=kH (bV.pushed Ex.out Kh.out Ey.out Bh.out rJ.out EC.out);obtain⟨h10,jG,tC⟩:=kM h9 P9 Bi.out (Nat.le_succ _) rJ.out;have dK:=tC _ _ eY Mq.out;clear tC;go_roundg gk
     case measure=>omega
     case rel=>
      refine⟨oL,n7+1,c10,v9,pq++[x9],rfl,rG.out,by omega,by rw[jZ.out];exact bF.out,?_,h10,jG,dK⟩;rw[jZ.out];show n7+1<=q9.k;omega
    ·have hkk:pq=kids/\v7.st=q1:=by
      have:=rF.out;rw[gN.out,if_pos rfl]at this;simpa using this
     obtain⟨rfl,yL⟩:=hkk;have Gt:=kH yL;clear yL;go_wp2_with fail
     refine(j6 E hE v7 [125] _ h8).mono ?_;rintro e mJ ⟨rfl,v12,kI,h12,iH⟩;have nA:=kH kI;rw[Gt.out]at nA;have iW:=iH.blk h8 eB;have mO:=P8.trans iH;have oV:=kH (ng.out.keeps (iH.dR h8));clear kI iH;go_wp2_with fail
     refine(dP E hE v12 _ h12 v.st.k 11 [] (w.heap.size+1) A7 n7 c7 pq oV.out).mono ?_;rintro e uL ⟨rfl,ic,ru⟩;have pR:=h12.below ic;have lI:=iW.below ic iW.lt;obtain⟨⟨r0,r1,r2,r3,r4⟩,g0,g1,g2,g3,g4⟩:=lI.five;go_wp2_with fail
     have aO:=kH (bJ (v:=v) pR (mO.trans (PM.of_below ic)) rfl lI hgl ru);clear ru;refine bodyPost_ret (v:=.agg #[.int .i64 11,.string (aX []),.int .i64 (bO E.l v12.st v.st.k pq),.int .i64 (v12.st.last:Int),.slice A7 n7 c7]) (by simp[results,Tryz.results131,go_sem,r0,r1,r2,r3,r4]) rfl ?_;exact Eq.mp (congrArg (fun r=>bB E w v r _ _) (show(aH E.l v12.st v.st.k 11 [] pq,v12.st)=_ by rw[aM.out,nA.out])) aO.out
end Go.Proofs.YtoepemlnlpamlaaGreat
