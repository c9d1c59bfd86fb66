/- The law NamesFreeAt holds: for every text and every number the law returns true, and its arguments read as before. No condition. Part 8: ParD ParF ParG ParH. -/
import Derived.Test.YtoepemlnlpamlaaGreatFreeAt07
namespace Go.Proofs.YtoepemlnlpamlaaGreat
set_option maxRecDepth 100000
set_option maxHeartbeats 4000000
open Go.RowKit
theorem parameters_any (E:PE) (hE:E.Ok) (v:PV) (w:World) (hpw:PW w E v) (f:Nat) (r:Tree × PS) (hr:paramsM E.bs E.l f v.st=some r):Calls Tryz.prog 129 #[.pointer (some ⟨E.gp,0,none⟩)] w (TreeRes E w v r):=by
 obtain⟨i0,hi0,hz0,hz1,hz2⟩:=info_parts node_info
 obtain⟨kids,q,hkq,hrq⟩:∃ kids q,(if isM E.bs E.l (expectM E.bs E.l v.st [40]) [41] then some ([],expectM E.bs E.l v.st [40]) else paramsL E.bs E.l f (paramM E.bs E.l (expectM E.bs E.l v.st [40])).2 [(paramM E.bs E.l (expectM E.bs E.l v.st [40])).1])=some (kids,q)∧r=(nodeM E.l (expectM E.bs E.l q [41]) v.st.k 6 [] kids,expectM E.bs E.l q [41]):=by
  unfold paramsM at hr;simp only at hr;split at hr
  ·cases hr
  ·rename_i kids q h
   cases hr
   exact⟨kids,q,h,rfl⟩
 have HKQ:=kH hkq;have HRES:=kH hrq;clear hr hkq hrq;have hgl:=hpw.blk.lt;have hk2:w.cell? ⟨E.gp,2,none⟩=some (.int .i64 (v.st.k:Int)):=hpw.blk.cell 2
 go_enter Tryz.func129,Tryz.ntmps129
 go_wp2_with fail
 generalize hW1:w.alloc (.cells #[.int .i64 0,.string ⟨#[]⟩,.int .i64 0,.int .i64 0,.slice none 0 0] 24)=W1
 have hb1:Below w.heap.size w W1:=by rw[← hW1];exact below_alloc _ _
 have hR1:Blk W1 w.heap.size 24 #[.int .i64 0,.string ⟨#[]⟩,.int .i64 0,.int .i64 0,.slice none 0 0]:=by rw[← hW1];exact Blk.new w _ _
 have hs1:W1.heap.size=w.heap.size+1:=by rw[← hW1];simp
 have hm1:=PM.of_below (E:=E) (v:=v) hb1;have h1:=hpw.below hb1;have P1:=hm1;have HS1:=kH hs1;have HM1:=kH hm1;clear hW1 hs1 hm1 hb1
 generalize hWk:W1.alloc (.cells #[] 24)=w2
 have hb2:Below W1.heap.size W1 w2:=by rw[← hWk];exact below_alloc _ _
 have hK2:KidsOwn w2 (w.heap.size+1) (.slice (some ⟨w.heap.size+1,0,none⟩) 0 0) 0 []:=by
  refine⟨[],?_,rfl,rfl⟩;have hn:=Blk.new W1 24 #[];rw[HS1.out,hWk]at hn;exact OwnS.block (n:=0) (cur:=#[]) (Nat.le_refl _) hn (by simp[maxLen]) rfl
 have h2:=h1.below hb2;have hR2:=hR1.below hb2 hR1.lt;have P2:=P1.trans (PM.of_below hb2);clear hWk;refine(expect_any E hE v [40] _ h2).mono ?_;rintro e w3 ⟨rfl,v3,hv3,h3,hm3⟩;have HV3:=kH hv3;have hR3:=hm3.blk h2 hR2;have P3:=P2.trans hm3;have hK3:=hK2.keeps (hm3.keepsN h2);have HK3:=kH hK3;clear hv3 hm3 hK2 hK3
 have his:=fun x w' (h:PW w' E v3)=>is_any E hE v3 x w' h
 obtain⟨b1,hb1⟩:∃ x,isM E.bs E.l v3.st [41] = x:=⟨_,rfl⟩
 have HIS:=kH his;have HB1:=kH hb1;clear his hb1 hk2
 go_wp2_with fail
 refine(HIS.out [41] _ h3).mono ?_;rintro e w4 ⟨rfl,hb4⟩;rw[HB1.out];have h4:=h3.below hb4;have hR4:=hR3.below hb4 hR3.lt;have P4:=P3.trans (PM.of_below hb4);have HK4:=kH (HK3.out.keeps (KeepsN.of_below hb4));clear HK3
 go_upto_if 14 with fail
 go_cut [4] (fun s4 wx => ∃ A n c vx,s4 = .slice A n c∧KidsOwn wx (w.heap.size+1) (.slice A n c) n kids∧vx.st=q∧PW wx E vx∧PM E w v wx vx∧Blk wx w.heap.size 24 #[.int .i64 0,.string ⟨#[]⟩,.int .i64 0,.int .i64 0,.slice none 0 0])
 case first =>
  cases b1
  ·have hx:paramsL E.bs E.l f (paramM E.bs E.l v3.st).2 [(paramM E.bs E.l v3.st).1] = some (kids,q):=by
    have:=HKQ.out;rw[← HV3.out,HB1.out,if_neg (by simp)]at this;exact this
   have HX:=kH hx;clear hx HKQ
   go_wp2_with fail
   refine(parameter_any E hE v3 _ h4).mono ?_;rintro e w5 ⟨k5,t5,a5,z5,A5,n5,c5,rfl,hT5,v5,hv5,h5,hm5⟩;have HV5:=kH hv5;have hR5:=hm5.blk h4 hR4;have P5:=P4.trans hm5;clear hv5;obtain⟨vals6,hO6,hTs6,hn6⟩:=HK4.out.keeps (hm5.keepsN h4);have hTn6:TreeOwn w5 (fun g=>w.heap.size+1≤g∧some g≠(Value.slice (some ⟨w.heap.size+1,0,none⟩) 0 0).ownBlock) _ _:=TreeOwn.weak (fun g _ hg=>⟨Nat.le_trans hR4.lt hg,fun e1=>by obtain⟨_,hO4,_,_⟩:=HK4.out;have:=(hO4.lt g e1.symm).2;omega⟩) _ _ hT5
   have hro6:(Value.slice (some ⟨w.heap.size+1,0,none⟩) 0 0).ownBlock≠some w.heap.size:=fun e1=>by have:=(hO6.lt _ e1).1;omega
   have hrz6:=hR5.lt;have HO6:=kH hO6;have HTs6:=kH hTs6;have HTn6:=kH hTn6;have Hn6:=kH hn6;have HRO6:=kH hro6;clear hO6 hTs6 hTn6 hn6 hro6 hT5
   go_wp2_with (at_builtin;go_must (refine wpList_append_S _ rfl (.tmp 15) (.tmp 18) _ rfl (w.heap.size+1) 24 i0 _ 5 64 Tryz.underlying22 hi0 hz0 hz1 hz2 rfl (.slice (some ⟨w.heap.size+1,0,none⟩) 0 0) 0 (List.flatten vals6) rfl (HO6.out.alloc _) ⟨w5.heap.size,0,none⟩ 1 1 [.int .i64 k5,.string t5,.int .i64 a5,.int .i64 z5,.slice A5 n5 c5] rfl rfl (news_five _ _ _ _ _ _ _ (by go_simp) (by go_simp) (by go_simp) (by go_simp) (by go_simp)) (by simp[Value.oneCell']) (by simp only[maxLen];omega) (by omega) (by simp;omega) ?_);intro vn w6 hown hgrow hat;obtain⟨A6,c6,hvn,-,-⟩:=hown.shape;subst hvn;have HOWN6:=kH hown;have HGROW6:=kH hgrow;have HAT6:=kH hat;clear hown hgrow hat)
   have HK6:=kH (KidsOwn.pushed HTs6.out Hn6.out HTn6.out HOWN6.out HGROW6.out HAT6.out);obtain⟨h6,P6,hkeep6⟩:=append_keeps h5 P5 HO6.out (Nat.le_succ _) HGROW6.out;have hR6:=hkeep6 _ _ hR5 HRO6.out;clear hkeep6;rw[← HV5.out]at HX;have hts5:(paramM E.bs E.l v3.st).1=(paramM E.bs E.l v3.st).1:=rfl;clear hts5
   go_loopg [4] f (fun gk s4 wr => ∃ A n c vx ts,s4 = .slice A n c∧KidsOwn wr (w.heap.size+1) (.slice A n c) n ts∧paramsL E.bs E.l gk vx.st ts=some (kids,q)∧n≤vx.st.k+1∧PW wr E vx∧PM E w v wr vx∧Blk wr w.heap.size 24 #[.int .i64 0,.string ⟨#[]⟩,.int .i64 0,.int .i64 0,.slice none 0 0])
   case atStart=>exact⟨A6,1,c6,v5,[(paramM E.bs E.l v3.st).1],rfl,HK6.out,HX.out,by omega,h6,P6,hR6⟩
   case round =>
    obtain⟨A7,n7,c7,v7,ts7,rfl,hK7,hx7,hn7,h7,P7,hR7⟩:=hrel
    cases gk with
    | zero=>simp[paramsL]at hx7
    | succ gk =>
     rw[paramsL]at hx7;have HX7:=kH hx7;have HK7:=kH hK7;have hat7:=h7.at_;have hmost:=hE.most;clear hx7 hK7
     obtain⟨b7,hb7⟩:∃ x,isM E.bs E.l v7.st [44] = x:=⟨_,rfl⟩
     have HB7:=kH hb7;clear hb7
     go_wp2_with fail
     refine(accept_any E hE v7 [44] _ h7).mono ?_;rintro e w8 ⟨rfl,v8,hv8,h8,hm8⟩;rw[HB7.out];have HV8:=kH hv8;have hR8:=hm8.blk h7 hR7;have P8:=P7.trans hm8;have HK8:=kH (HK7.out.keeps (hm8.keepsN h7));clear hv8 hm8
     cases b7
     ·have hst:v8.st=v7.st:=by
       rw[HV8.out];unfold acceptM;rw[HB7.out,if_neg (by simp)]
      have hkk:ts7=kids∧v7.st=q:=by
       have:=HX7.out;rw[HB7.out,if_neg (by simp)]at this
       simpa using this
      obtain⟨rfl,hq7⟩:=hkk;have HQ7:=kH (hst.trans hq7);clear hst hq7
      go_wp2_with fail
      go_meet
      exact⟨_,_,_,v8,rfl,HK8.out,HQ7.out,h8,P8,hR8⟩
     ·have hst:v8.st=readM E.l v7.st:=by
       rw[HV8.out];unfold acceptM;rw[HB7.out,if_pos rfl]
      have hnx:paramsL E.bs E.l gk (paramM E.bs E.l v8.st).2 (ts7 ++ [(paramM E.bs E.l v8.st).1])=some (kids,q):=by
       have:=HX7.out;rw[HB7.out,if_pos rfl,← hst]at this;exact this
      have hk8:v8.st.k=v7.st.k+1:=by rw[hst];rfl
      have HNX:=kH hnx
      have hn7b:n7≤5001:=by omega
      have HK8K:=kH hk8;clear hst hnx hk8
      go_wp2_with fail
      refine(parameter_any E hE v8 _ h8).mono ?_;rintro e w9 ⟨k9,t9,a9,z9,A9,n9,c9,rfl,hT9,v9,hv9,h9,hm9⟩;have HV9:=kH hv9;have hR9:=hm9.blk h8 hR8;have P9:=P8.trans hm9;clear hv9;obtain⟨vals10,hO10,hTs10,hn10⟩:=HK8.out.keeps (hm9.keepsN h8);have hTn10:TreeOwn w9 (fun g=>w.heap.size+1≤g∧some g≠(Value.slice A7 n7 c7).ownBlock) _ _:=TreeOwn.weak (fun g _ hg=>⟨Nat.le_trans hR8.lt hg,fun e1=>by obtain⟨_,hO4,_,_⟩:=HK8.out;have:=(hO4.lt g e1.symm).2;omega⟩) _ _ hT9
      have hro10:(Value.slice A7 n7 c7).ownBlock≠some w.heap.size:=fun e1=>by have:=(hO10.lt _ e1).1;omega
      have hrz10:=hR9.lt;have HO10:=kH hO10;have HTs10:=kH hTs10;have HTn10:=kH hTn10;have Hn10:=kH hn10;have HRO10:=kH hro10;clear hO10 hTs10 hTn10 hn10 hro10 hT9
      go_wp2_with (at_builtin;go_must (refine wpList_append_S _ rfl (.tmp 22) (.tmp 25) _ rfl (w.heap.size+1) 24 i0 _ 5 64 Tryz.underlying22 hi0 hz0 hz1 hz2 rfl (.slice A7 n7 c7) n7 (List.flatten vals10) rfl (HO10.out.alloc _) ⟨w9.heap.size,0,none⟩ 1 1 [.int .i64 k9,.string t9,.int .i64 a9,.int .i64 z9,.slice A9 n9 c9] rfl rfl (news_five _ _ _ _ _ _ _ (by go_simp) (by go_simp) (by go_simp) (by go_simp) (by go_simp)) (by simp[Value.oneCell']) (by simp only[maxLen];omega) (by omega) (by simp;omega) ?_);intro vn w10 hown hgrow hat;obtain⟨A10,c10,hvn,-,-⟩:=hown.shape;subst hvn;have HOWN10:=kH hown;have HGROW10:=kH hgrow;have HAT10:=kH hat;clear hown hgrow hat)
      have HK10:=kH (KidsOwn.pushed HTs10.out Hn10.out HTn10.out HOWN10.out HGROW10.out HAT10.out);obtain⟨h10,P10,hkeep10⟩:=append_keeps h9 P9 HO10.out (Nat.le_succ _) HGROW10.out;have hR10:=hkeep10 _ _ hR9 HRO10.out;clear hkeep10
      go_roundg gk
      case measure=>omega
      case rel =>
       refine⟨A10,n7+1,c10,v9,ts7 ++ [(paramM E.bs E.l v8.st).1],rfl,HK10.out,by rw[HV9.out];exact HNX.out,?_,h10,P10,hR10⟩;have hle:=(le_param (s:=E.bs) hE.ends (p:=v8.st) (by rw[hE.len];exact h8.at_)).1;rw[HV9.out];have:=HK8K.out;omega
  ·have hx:([],v3.st)=(kids,q):=by
    have:=HKQ.out;rw[← HV3.out,HB1.out,if_pos rfl]at this;exact Option.some.inj this
   cases hx
   go_wp2_with fail
   go_meet
   exact⟨_,_,_,v3,rfl,HK4.out,rfl,h4,P4,hR4⟩
 case rest =>
  obtain⟨Ak,nk,ck,vx,rfl,hK,hvx,hx,hmx,hRx⟩:=hcut;have HKx:=kH hK;have HVX:=kH hvx;clear hK hvx
  go_wp2_with fail
  refine(expect_any E hE vx [41] _ hx).mono ?_;rintro e w12 ⟨rfl,v12,hv12,h12,hm12⟩;have HV12:=kH hv12;rw[HVX.out]at HV12;have hR12:=hm12.blk hx hRx;have P12:=hmx.trans hm12;have HK12:=kH (HKx.out.keeps (hm12.keepsN hx));clear hv12 hm12
  go_wp2_with fail
  refine(nodek_any E hE v12 _ h12 v.st.k 6 [] (w.heap.size+1) Ak nk ck kids HK12.out).mono ?_;rintro e w13 ⟨rfl,hb13,hT13⟩;have h13:=h12.below hb13;have hR13:=hR12.below hb13 hR12.lt;obtain⟨⟨r0,r1,r2,r3,r4⟩,g0,g1,g2,g3,g4⟩:=hR13.five
  go_wp2_with fail
  have HEND:=kH (tree_end (v:=v) h13 (P12.trans (PM.of_below hb13)) rfl hR13 hgl hT13);clear hT13;refine bodyPost_ret (v:=.agg #[.int .i64 6,.string (mkS []),.int .i64 (nodeAt E.l v12.st v.st.k kids),.int .i64 (v12.st.last:Int),.slice Ak nk ck]) (by simp[results,Tryz.results129,go_sem,r0,r1,r2,r3,r4]) rfl ?_;exact Eq.mp (congrArg (fun r=>TreeRes E w v r _ _) (show (nodeM E.l v12.st v.st.k 6 [] kids,v12.st)=_ by rw[HRES.out,HV12.out])) HEND.out
end Go.Proofs.YtoepemlnlpamlaaGreat
namespace Go.Proofs.YtoepemlnlpamlaaGreat
set_option maxRecDepth 100000
set_option maxHeartbeats 4000000
open Go.RowKit
theorem le_field {s:Bytes} {l:List Tok} (he:Ends l) {p:PS} (hp:p.k < l.length):Le l p (fieldM s l p).2:=by
 have h1:=le_name he hp;have h2:=h1.trans (le_expect (s:=s) (w:=[58]) he h1.2);unfold fieldM;simp only;split
 ·rename_i hb
  refine h2.trans (le_read he h2.2 ?_).1;rw[Bool.or_eq_true]at hb
  rcases hb with hb | hb <;> exact isM_kind hb
 ·exact h2.trans (le_rep h2.2)
theorem record_any (E:PE) (hE:E.Ok) (v:PV) (w:World) (hpw:PW w E v) (f:Nat) (r:Tree × PS) (hr:recordM E.bs E.l f v.st=some r) (h5:kindM E.l v.st≠5):Calls Tryz.prog 67 #[.pointer (some ⟨E.gp,0,none⟩)] w (TreeRes E w v r):=by
 obtain⟨i0,hi0,hz0,hz1,hz2⟩:=info_parts node_info
 obtain⟨kids,q,hkq,hrq⟩:∃ kids q,fieldsM E.bs E.l f (fieldM E.bs E.l (expectM E.bs E.l (nameP E.l (readM E.l v.st)) [123])).2 [(fieldM E.bs E.l (expectM E.bs E.l (nameP E.l (readM E.l v.st)) [123])).1] = some (kids,q)∧r=(nodeM E.l (expectM E.bs E.l q [125]) v.st.k 3 (nameT E.bs E.l (readM E.l v.st)) kids,expectM E.bs E.l q [125]):=by
  unfold recordM at hr;simp only at hr;split at hr
  ·cases hr
  ·rename_i kids q h
   cases hr
   exact⟨kids,q,h,rfl⟩
 have HKQ:=kH hkq;have HRES:=kH hrq;have HH5:=kH h5;clear hr hkq hrq h5;have hgl:=hpw.blk.lt;have hk2:w.cell? ⟨E.gp,2,none⟩=some (.int .i64 (v.st.k:Int)):=hpw.blk.cell 2
 go_enter Tryz.func67,Tryz.ntmps67
 go_wp2_with fail
 generalize hW1:w.alloc (.cells #[.int .i64 0,.string ⟨#[]⟩,.int .i64 0,.int .i64 0,.slice none 0 0] 24)=W1
 have hb1:Below w.heap.size w W1:=by rw[← hW1];exact below_alloc _ _
 have hR1:Blk W1 w.heap.size 24 #[.int .i64 0,.string ⟨#[]⟩,.int .i64 0,.int .i64 0,.slice none 0 0]:=by rw[← hW1];exact Blk.new w _ _
 have hs1:W1.heap.size=w.heap.size+1:=by rw[← hW1];simp
 have hm1:=PM.of_below (E:=E) (v:=v) hb1;have h1:=hpw.below hb1;have P1:=hm1;have HS1:=kH hs1;have HM1:=kH hm1;clear hW1 hs1 hm1 hb1;refine(read_any E hE v _ h1 HH5.out).mono ?_;rintro e w2 ⟨rfl,h2,hm2⟩;have hR2:=hm2.blk h1 hR1;have P2:=P1.trans hm2
 obtain⟨v2,hv2⟩:∃ vv:PV,(⟨readM E.l v.st,v.lv⟩:PV)=vv:=⟨_,rfl⟩
 rw[hv2]at h2 P2;have HV2:Hid (v2.st=readM E.l v.st):=kH (by rw[← hv2]);clear hv2 hm2
 go_wp2_with fail
 refine(name_any E hE v2 _ h2).mono ?_;rintro e w3 ⟨rfl,v3,hv3,h3,hm3⟩;have HV3:=kH hv3;have hR3:=hm3.blk h2 hR2;have P3:=P2.trans hm3;clear hv3 hm3
 have hnt:nameT E.bs E.l v2.st=nameT E.bs E.l (readM E.l v.st):=by rw[HV2.out]
 rw[hnt];rw[HV2.out]at HV3;clear hnt hk2
 go_wp2_with fail
 refine(expect_any E hE v3 [123] _ h3).mono ?_;rintro e w4 ⟨rfl,v4,hv4,h4,hm4⟩;have HV4:=kH hv4;have hR4:=hm4.blk h3 hR3;have P4:=P3.trans hm4;clear hv4 hm4;rw[HV3.out]at HV4
 go_wp2_with fail
 refine(field_any E hE v4 _ h4).mono ?_;rintro e w5 ⟨k5,t5,a5,z5,A5,n5,c5,rfl,hT5,v5,hv5,h5,hm5⟩;have HV5:=kH hv5;have hR5:=hm5.blk h4 hR4;have P5:=P4.trans hm5
 replace hT5:=TreeOwn.weak (Q:=fun g=>w.heap.size+1≤g) (fun g _ hg=>Nat.le_trans hR4.lt hg) _ _ hT5
 clear hv5;rw[HV4.out]at HV5 hT5;have hx:=HKQ.out;rw[← HV5.out]at hx;have HX:=kH hx
 have hle5:v4.st.k≤v5.st.k:=by
  have:=(le_field (s:=E.bs) hE.ends (p:=v4.st) (by rw[hE.len];exact h4.at_)).1;rw[HV5.out,← HV4.out];exact this
 clear hx HKQ
 go_wp2_with fail
 have HK6:=kH (kids_lit1 hT5 (by have:=hR5.lt;omega))
 generalize hW6:w5.alloc (.cells #[.int .i64 k5,.string t5,.int .i64 a5,.int .i64 z5,.slice A5 n5 c5] 24)=w6 at HK6 ⊢
 have hb6:Below w5.heap.size w5 w6:=by rw[← hW6];exact below_alloc _ _
 have h6:=h5.below hb6;have hR6:=hR5.below hb6 hR5.lt;have P6:=P5.trans (PM.of_below hb6);clear hW6
 obtain⟨fld,hfld⟩:∃ x,(fieldM E.bs E.l (expectM E.bs E.l (nameP E.l (readM E.l v.st)) [123])).1=x:=⟨_,rfl⟩
 rw[hfld]at HX HK6;clear hfld
 go_loopg [5] f (fun gk s5 wr => ∃ A n c vx ts,s5 = .slice A n c∧KidsOwn wr (w.heap.size+1) (.slice A n c) n ts∧fieldsM E.bs E.l gk vx.st ts=some (kids,q)∧n≤vx.st.k+1∧PW wr E vx∧PM E w v wr vx∧Blk wr w.heap.size 24 #[.int .i64 0,.string ⟨#[]⟩,.int .i64 0,.int .i64 0,.slice none 0 0])
 case atStart=>exact⟨_,1,_,v5,[fld],rfl,HK6.out,HX.out,by omega,h6,P6,hR6⟩
 case round =>
  obtain⟨A7,n7,c7,v7,ts7,rfl,hK7,hx7,hn7,h7,P7,hR7⟩:=hrel
  cases gk with
  | zero=>simp[fieldsM]at hx7
  | succ gk =>
   rw[fieldsM]at hx7;have HX7:=kH hx7;have HK7:=kH hK7;have hat7:=h7.at_;have hmost:=hE.most;clear hx7 hK7
   obtain⟨b7,hb7⟩:∃ x,isM E.bs E.l v7.st [44] = x:=⟨_,rfl⟩
   have HB7:=kH hb7;clear hb7
   go_wp2_with fail
   refine(accept_any E hE v7 [44] _ h7).mono ?_;rintro e w8 ⟨rfl,v8,hv8,h8,hm8⟩;rw[HB7.out];have HV8:=kH hv8;have hR8:=hm8.blk h7 hR7;have P8:=P7.trans hm8;have HK8:=kH (HK7.out.keeps (hm8.keepsN h7));clear hv8 hm8
   cases b7
   ·have hst:v8.st=v7.st:=by
     rw[HV8.out];unfold acceptM;rw[HB7.out,if_neg (by simp)]
    have hkk:ts7=kids∧v7.st=q:=by
     have:=HX7.out;rw[HB7.out,if_neg (by simp)]at this
     simpa using this
    obtain⟨rfl,hq7⟩:=hkk;have HQ7:=kH (hst.trans hq7);clear hst hq7
    go_wp2_with fail
    refine(expect_any E hE v8 [125] _ h8).mono ?_;rintro e w12 ⟨rfl,v12,hv12,h12,hm12⟩;have HV12:=kH hv12;rw[HQ7.out]at HV12;have hR12:=hm12.blk h8 hR8;have P12:=P8.trans hm12;have HK12:=kH (HK8.out.keeps (hm12.keepsN h8));clear hv12 hm12
    go_wp2_with fail
    refine(nodek_any E hE v12 _ h12 v.st.k 3 (nameT E.bs E.l (readM E.l v.st)) (w.heap.size+1) A7 n7 c7 ts7 HK12.out).mono ?_;rintro e w13 ⟨rfl,hb13,hT13⟩;have h13:=h12.below hb13;have hR13:=hR12.below hb13 hR12.lt;obtain⟨⟨r0,r1,r2,r3,r4⟩,g0,g1,g2,g3,g4⟩:=hR13.five
    go_wp2_with fail
    have HEND:=kH (tree_end (v:=v) h13 (P12.trans (PM.of_below hb13)) rfl hR13 hgl hT13);clear hT13;refine bodyPost_ret (v:=.agg #[.int .i64 3,.string (mkS (nameT E.bs E.l (readM E.l v.st))),.int .i64 (nodeAt E.l v12.st v.st.k ts7),.int .i64 (v12.st.last:Int),.slice A7 n7 c7]) (by simp[results,Tryz.results67,go_sem,r0,r1,r2,r3,r4]) rfl ?_;exact Eq.mp (congrArg (fun r=>TreeRes E w v r _ _) (show (nodeM E.l v12.st v.st.k 3 (nameT E.bs E.l (readM E.l v.st)) ts7,v12.st)=_ by rw[HRES.out,HV12.out])) HEND.out
   ·have hst:v8.st=readM E.l v7.st:=by
     rw[HV8.out];unfold acceptM;rw[HB7.out,if_pos rfl]
    have hnx:fieldsM E.bs E.l gk (fieldM E.bs E.l v8.st).2 (ts7 ++ [(fieldM E.bs E.l v8.st).1])=some (kids,q):=by
     have:=HX7.out;rw[HB7.out,if_pos rfl,← hst]at this;exact this
    have hk8:v8.st.k=v7.st.k+1:=by rw[hst];rfl
    have HNX:=kH hnx
    have hn7b:n7≤5001:=by omega
    have HK8K:=kH hk8;clear hst hnx hk8
    go_wp2_with fail
    refine(field_any E hE v8 _ h8).mono ?_;rintro e w9 ⟨k9,t9,a9,z9,A9,n9,c9,rfl,hT9,v9,hv9,h9,hm9⟩;have HV9:=kH hv9;have hR9:=hm9.blk h8 hR8;have P9:=P8.trans hm9;clear hv9;obtain⟨vals10,hO10,hTs10,hn10⟩:=HK8.out.keeps (hm9.keepsN h8);have hTn10:TreeOwn w9 (fun g=>w.heap.size+1≤g∧some g≠(Value.slice A7 n7 c7).ownBlock) _ _:=TreeOwn.weak (fun g _ hg=>⟨Nat.le_trans hR8.lt hg,fun e1=>by obtain⟨_,hO4,_,_⟩:=HK8.out;have:=(hO4.lt g e1.symm).2;omega⟩) _ _ hT9
    have hro10:(Value.slice A7 n7 c7).ownBlock≠some w.heap.size:=fun e1=>by have:=(hO10.lt _ e1).1;omega
    have hrz10:=hR9.lt;have HO10:=kH hO10;have HTs10:=kH hTs10;have HTn10:=kH hTn10;have Hn10:=kH hn10;have HRO10:=kH hro10;clear hO10 hTs10 hTn10 hn10 hro10 hT9
    go_wp2_with (at_builtin;go_must (refine wpList_append_S _ rfl (.tmp 21) (.tmp 24) _ rfl (w.heap.size+1) 24 i0 _ 5 64 Tryz.underlying22 hi0 hz0 hz1 hz2 rfl (.slice A7 n7 c7) n7 (List.flatten vals10) rfl (HO10.out.alloc _) ⟨w9.heap.size,0,none⟩ 1 1 [.int .i64 k9,.string t9,.int .i64 a9,.int .i64 z9,.slice A9 n9 c9] rfl rfl (news_five _ _ _ _ _ _ _ (by go_simp) (by go_simp) (by go_simp) (by go_simp) (by go_simp)) (by simp[Value.oneCell']) (by simp only[maxLen];omega) (by omega) (by simp;omega) ?_);intro vn w10 hown hgrow hat;obtain⟨A10,c10,hvn,-,-⟩:=hown.shape;subst hvn;have HOWN10:=kH hown;have HGROW10:=kH hgrow;have HAT10:=kH hat;clear hown hgrow hat)
    have HK10:=kH (KidsOwn.pushed HTs10.out Hn10.out HTn10.out HOWN10.out HGROW10.out HAT10.out);obtain⟨h10,P10,hkeep10⟩:=append_keeps h9 P9 HO10.out (Nat.le_succ _) HGROW10.out;have hR10:=hkeep10 _ _ hR9 HRO10.out;clear hkeep10
    go_roundg gk
    case measure=>omega
    case rel =>
     refine⟨A10,n7+1,c10,v9,ts7 ++ [(fieldM E.bs E.l v8.st).1],rfl,HK10.out,by rw[HV9.out];exact HNX.out,?_,h10,P10,hR10⟩;have hle:=(le_field (s:=E.bs) hE.ends (p:=v8.st) (by rw[hE.len];exact h8.at_)).1;rw[HV9.out];have:=HK8K.out;omega
end Go.Proofs.YtoepemlnlpamlaaGreat
namespace Go.Proofs.YtoepemlnlpamlaaGreat
set_option maxRecDepth 100000
set_option maxHeartbeats 4000000
open Go.RowKit
theorem par_props {s:Bytes} {l:List Tok} (he:Ends l) (hend:EndsEmpty s l) {f:Nat} {fn:Fn} {p:PS} {x:List Tree} {q:PS} (h:parM s l f fn p=some (x,q)) (hp:p.k < l.length) (hr:ReadyF l p fn):Le l p q∧ShapeF x fn∧ProgF s l p q fn:=by
 obtain⟨f0,x0,q0,h0,h1,h2,h3⟩:=par_ex he hend _ fn p hp hr (Nat.lt_succ_self _);have e1:=parM_le (Nat.le_max_left f f0) h;have e2:=parM_le (Nat.le_max_right f f0) h0;rw[e1]at e2
 cases e2
 exact⟨h1,h2,h3⟩
def KidsRes (E:PE) (w:World) (v:PV) (kids:List Tree) (q:PS) (e:Ending) (w':World):Prop :=
 ∃ A n c,e = .returned (.slice A n c)∧KidsOwn w' w.heap.size (.slice A n c) n kids∧PTo E w v q w'
structure AnsW (E:PE) (f:Nat):Prop where
 expr:∀ (lv:Nat) (v:PV) (w:World) (t:Tree) (q:PS),PW w E v→1≤lv→lv≤7→parM E.bs E.l f (.expr lv) v.st=some ([t],q)→Calls Tryz.prog 134 #[.pointer (some ⟨E.gp,0,none⟩),.int .i64 (lv:Int)] w (TreeRes E w v (t,q))
 operand:∀ (v:PV) (w:World) (t:Tree) (q:PS),PW w E v→parM E.bs E.l f .operand v.st=some ([t],q)→Calls Tryz.prog 185 #[.pointer (some ⟨E.gp,0,none⟩)] w (TreeRes E w v (t,q))
 args:∀ (v:PV) (w:World) (kids:List Tree) (q:PS),PW w E v→kindM E.l v.st≠5→parM E.bs E.l f .args v.st=some (kids,q)→Calls Tryz.prog 138 #[.pointer (some ⟨E.gp,0,none⟩)] w (KidsRes E w v kids q)
 place:∀ (v:PV) (w:World) (t:Tree) (q:PS),PW w E v→parM E.bs E.l f .place v.st=some ([t],q)→Calls Tryz.prog 139 #[.pointer (some ⟨E.gp,0,none⟩)] w (TreeRes E w v (t,q))
 stmt:∀ (v:PV) (w:World) (t:Tree) (q:PS),PW w E v→parM E.bs E.l f .stmt v.st=some ([t],q)→Calls Tryz.prog 74 #[.pointer (some ⟨E.gp,0,none⟩)] w (TreeRes E w v (t,q))
 block:∀ (v:PV) (w:World) (t:Tree) (q:PS),PW w E v→parM E.bs E.l f .block v.st=some ([t],q)→Calls Tryz.prog 131 #[.pointer (some ⟨E.gp,0,none⟩)] w (TreeRes E w v (t,q))
 branch:∀ (v:PV) (w:World) (t:Tree) (q:PS),PW w E v→kindM E.l v.st≠5→parM E.bs E.l f .branch v.st=some ([t],q)→Calls Tryz.prog 135 #[.pointer (some ⟨E.gp,0,none⟩)] w (TreeRes E w v (t,q))
theorem block_any (E:PE) (hE:E.Ok) (f:Nat) (IH:∀ f',f'≤f→AnsW E f') (v:PV) (w:World) (t:Tree) (q:PS) (hpw:PW w E v) (hr:parM E.bs E.l (f+1) .block v.st=some ([t],q)):Calls Tryz.prog 131 #[.pointer (some ⟨E.gp,0,none⟩)] w (TreeRes E w v (t,q)):=by
 obtain⟨i0,hi0,hz0,hz1,hz2⟩:=info_parts node_info;rw[parM]at hr;have HR:=kH hr;have HIH:=kH IH;clear hr IH;have hgl:=hpw.blk.lt;have hk2:w.cell? ⟨E.gp,2,none⟩=some (.int .i64 (v.st.k:Int)):=hpw.blk.cell 2
 go_enter Tryz.func131,Tryz.ntmps131
 go_wp2_with fail
 generalize hW1:w.alloc (.cells #[.int .i64 0,.string ⟨#[]⟩,.int .i64 0,.int .i64 0,.slice none 0 0] 24)=W1
 have hb1:Below w.heap.size w W1:=by rw[← hW1];exact below_alloc _ _
 have hR1:Blk W1 w.heap.size 24 #[.int .i64 0,.string ⟨#[]⟩,.int .i64 0,.int .i64 0,.slice none 0 0]:=by rw[← hW1];exact Blk.new w _ _
 have hs1:W1.heap.size=w.heap.size+1:=by rw[← hW1];simp
 have hm1:=PM.of_below (E:=E) (v:=v) hb1;have h1:=hpw.below hb1;have P1:=hm1;have HS1:=kH hs1;have HM1:=kH hm1;clear hW1 hs1 hm1 hb1
 generalize hWk:W1.alloc (.cells #[] 24)=w2
 have hb2:Below W1.heap.size W1 w2:=by rw[← hWk];exact below_alloc _ _
 have hK2:KidsOwn w2 (w.heap.size+1) (.slice (some ⟨w.heap.size+1,0,none⟩) 0 0) 0 []:=by
  refine⟨[],?_,rfl,rfl⟩;have hn:=Blk.new W1 24 #[];rw[HS1.out,hWk]at hn;exact OwnS.block (n:=0) (cur:=#[]) (Nat.le_refl _) hn (by simp[maxLen]) rfl
 have h2:=h1.below hb2;have hR2:=hR1.below hb2 hR1.lt;have P2:=P1.trans (PM.of_below hb2);clear hWk
 obtain⟨b0,hb0⟩:∃ x,isM E.bs E.l v.st [123] = x:=⟨_,rfl⟩
 have HB0:=kH hb0;clear hb0;refine(expect_any E hE v [123] _ h2).mono ?_;rintro e w3 ⟨rfl,v3,hv3,h3,hm3⟩;rw[HB0.out];have HV3:=kH hv3;have hR3:=hm3.blk h2 hR2;have P3:=P2.trans hm3;have HK3:=kH (hK2.keeps (hm3.keepsN h2));clear hv3 hm3 hK2 hk2
 cases b0
 ·have hst:v3.st=repM E.l v.st 4 [123]:=by
   rw[HV3.out];unfold expectM;rw[HB0.out,if_neg (by simp)]
  have HRES:Hid ((t,q)=(nodeM E.l (repM E.l v.st 4 [123]) v.st.k 11 [] [],repM E.l v.st 4 [123])):=kH (by
   have:=HR.out;rw[HB0.out,if_neg (by simp)]at this;simp at this
   rw[← this.1,← this.2])
  replace HV3:=kH hst
  clear hst
  go_wp2_with fail
  refine(leaf_any E hE v3 _ h3 v.st.k 11 [] (w.heap.size+1)).mono ?_;rintro e w4 ⟨rfl,hb4,hT4⟩;have h4:=h3.below hb4;have hR4:=hR3.below hb4 hR3.lt;obtain⟨⟨r0,r1,r2,r3,r4⟩,g0,g1,g2,g3,g4⟩:=hR4.five
  go_wp2_with fail
  have HEND:=kH (tree_end (v:=v) h4 (P3.trans (PM.of_below hb4)) rfl hR4 hgl hT4);clear hT4;refine bodyPost_ret (v:=.agg #[.int .i64 11,.string (mkS []),.int .i64 (nodeAt E.l v3.st v.st.k []),.int .i64 (v3.st.last:Int),.slice none 0 0]) (by simp[results,Tryz.results131,go_sem,r0,r1,r2,r3,r4]) rfl ?_;exact Eq.mp (congrArg (fun r=>TreeRes E w v r _ _) (show (nodeM E.l v3.st v.st.k 11 [] [],v3.st)=_ by rw[HV3.out,HRES.out])) HEND.out
 ·have hst:v3.st=readM E.l v.st:=by
   rw[HV3.out];unfold expectM;rw[HB0.out,if_pos rfl]
  obtain⟨kids,q1,hx,hrq⟩:∃ kids q1,parM E.bs E.l f (.blockL []) v3.st=some (kids,q1)∧(t,q)=(nodeM E.l (expectM E.bs E.l q1 [125]) v.st.k 11 [] kids,expectM E.bs E.l q1 [125]):=by
   have:=HR.out;rw[HB0.out,if_pos rfl]at this;obtain⟨x,p,h1,h2⟩:=many_some this;simp at h2;exact⟨x,p,by rw[hst];exact h1,by rw[← h2.1,← h2.2]⟩
  have HX:=kH hx;have HRES:=kH hrq;clear hst hx hrq
  go_wp2_with fail
  go_loopg [4] f (fun gk s4 wr => ∃ A n c vx ts,s4 = .slice A n c∧KidsOwn wr (w.heap.size+1) (.slice A n c) n ts∧gk≤f∧parM E.bs E.l gk (.blockL ts) vx.st=some (kids,q1)∧n≤vx.st.k∧PW wr E vx∧PM E w v wr vx∧Blk wr w.heap.size 24 #[.int .i64 0,.string ⟨#[]⟩,.int .i64 0,.int .i64 0,.slice none 0 0])
  case atStart=>exact⟨_,0,_,v3,[],rfl,HK3.out,Nat.le_refl _,HX.out,Nat.zero_le _,h3,P3,hR3⟩
  case round =>
   obtain⟨A7,n7,c7,v7,ts7,rfl,hK7,hgf,hx7,hn7,h7,P7,hR7⟩:=hrel
   cases gk with
   | zero=>simp[parM]at hx7
   | succ gk =>
    rw[parM]at hx7;have HX7:=kH hx7;have HK7:=kH hK7;have hat7:=h7.at_;have hmost:=hE.most;clear hx7 hK7;have hst:=stops_any E hE v7 wr h7
    obtain⟨b7,hb7⟩:∃ x,stopsM E.bs E.l v7.st=x:=⟨_,rfl⟩
    rw[hb7]at hst;have HB7:=kH hb7;have HST:=kH hst;clear hb7 hst
    go_wp2_with fail
    refine HST.out.mono ?_;rintro e w8 ⟨rfl,hb8⟩;have h8:=h7.below hb8;have hR8:=hR7.below hb8 hR7.lt;have P8:=P7.trans (PM.of_below hb8);have HK8:=kH (HK7.out.keeps (KeepsN.of_below hb8))
    cases b7
    ·obtain⟨x9,q9,hx9,hnx⟩:∃ x9 q9,parM E.bs E.l gk .stmt v7.st=some ([x9],q9)∧parM E.bs E.l gk (.blockL (ts7 ++ [x9])) q9=some (kids,q1):=by
      have:=HX7.out;rw[HB7.out,if_neg (by simp)]at this;obtain⟨x,p,h1,h2⟩:=one_some this;exact⟨x,p,h1,h2⟩
     have hpr:=par_props hE.ends hE.empty hx9 (by rw[hE.len];exact h7.at_) trivial;have hlt:v7.st.k < q9.k:=hpr.2.2 HB7.out;have hcall:=(HIH.out gk (by omega)).stmt v7 w8 x9 q9 h8 hx9;have HCALL:=kH hcall;have HNX:=kH hnx
     have hn7b:n7≤5001:=by omega
     clear hpr hx9 hcall hnx
     go_wp2_with fail
     refine HCALL.out.mono ?_;rintro e w9 ⟨k9,t9,a9,z9,A9,n9,c9,rfl,hT9,v9,hv9,h9,hm9⟩;have HV9:=kH hv9;have hR9:=hm9.blk h8 hR8;have P9:=P8.trans hm9;clear hv9;obtain⟨vals10,hO10,hTs10,hn10⟩:=HK8.out.keeps (hm9.keepsN h8);have hTn10:TreeOwn w9 (fun g=>w.heap.size+1≤g∧some g≠(Value.slice A7 n7 c7).ownBlock) _ _:=TreeOwn.weak (fun g _ hg=>⟨Nat.le_trans hR8.lt hg,fun e1=>by obtain⟨_,hO4,_,_⟩:=HK8.out;have:=(hO4.lt g e1.symm).2;omega⟩) _ _ hT9
     have hro10:(Value.slice A7 n7 c7).ownBlock≠some w.heap.size:=fun e1=>by have:=(hO10.lt _ e1).1;omega
     have hrz10:=hR9.lt;have HO10:=kH hO10;have HTs10:=kH hTs10;have HTn10:=kH hTn10;have Hn10:=kH hn10;have HRO10:=kH hro10;clear hO10 hTs10 hTn10 hn10 hro10 hT9
     go_wp2_with (at_builtin;go_must (refine wpList_append_S _ rfl (.tmp 19) (.tmp 22) _ rfl (w.heap.size+1) 24 i0 _ 5 64 Tryz.underlying22 hi0 hz0 hz1 hz2 rfl (.slice A7 n7 c7) n7 (List.flatten vals10) rfl (HO10.out.alloc _) ⟨w9.heap.size,0,none⟩ 1 1 [.int .i64 k9,.string t9,.int .i64 a9,.int .i64 z9,.slice A9 n9 c9] rfl rfl (news_five _ _ _ _ _ _ _ (by go_simp) (by go_simp) (by go_simp) (by go_simp) (by go_simp)) (by simp[Value.oneCell']) (by simp only[maxLen];omega) (by omega) (by simp;omega) ?_);intro vn w10 hown hgrow hat;obtain⟨A10,c10,hvn,-,-⟩:=hown.shape;subst hvn;have HOWN10:=kH hown;have HGROW10:=kH hgrow;have HAT10:=kH hat;clear hown hgrow hat)
     have HK10:=kH (KidsOwn.pushed HTs10.out Hn10.out HTn10.out HOWN10.out HGROW10.out HAT10.out);obtain⟨h10,P10,hkeep10⟩:=append_keeps h9 P9 HO10.out (Nat.le_succ _) HGROW10.out;have hR10:=hkeep10 _ _ hR9 HRO10.out;clear hkeep10
     go_roundg gk
     case measure=>omega
     case rel =>
      refine⟨A10,n7+1,c10,v9,ts7 ++ [x9],rfl,HK10.out,by omega,by rw[HV9.out];exact HNX.out,?_,h10,P10,hR10⟩;rw[HV9.out];show n7+1≤q9.k;omega
    ·have hkk:ts7=kids∧v7.st=q1:=by
      have:=HX7.out;rw[HB7.out,if_pos rfl]at this
      simpa using this
     obtain⟨rfl,hq7⟩:=hkk;have HQ7:=kH hq7;clear hq7
     go_wp2_with fail
     refine(expect_any E hE v7 [125] _ h8).mono ?_;rintro e w12 ⟨rfl,v12,hv12,h12,hm12⟩;have HV12:=kH hv12;rw[HQ7.out]at HV12;have hR12:=hm12.blk h8 hR8;have P12:=P8.trans hm12;have HK12:=kH (HK8.out.keeps (hm12.keepsN h8));clear hv12 hm12
     go_wp2_with fail
     refine(nodek_any E hE v12 _ h12 v.st.k 11 [] (w.heap.size+1) A7 n7 c7 ts7 HK12.out).mono ?_;rintro e w13 ⟨rfl,hb13,hT13⟩;have h13:=h12.below hb13;have hR13:=hR12.below hb13 hR12.lt;obtain⟨⟨r0,r1,r2,r3,r4⟩,g0,g1,g2,g3,g4⟩:=hR13.five
     go_wp2_with fail
     have HEND:=kH (tree_end (v:=v) h13 (P12.trans (PM.of_below hb13)) rfl hR13 hgl hT13);clear hT13;refine bodyPost_ret (v:=.agg #[.int .i64 11,.string (mkS []),.int .i64 (nodeAt E.l v12.st v.st.k ts7),.int .i64 (v12.st.last:Int),.slice A7 n7 c7]) (by simp[results,Tryz.results131,go_sem,r0,r1,r2,r3,r4]) rfl ?_;exact Eq.mp (congrArg (fun r=>TreeRes E w v r _ _) (show (nodeM E.l v12.st v.st.k 11 [] ts7,v12.st)=_ by rw[HRES.out,HV12.out])) HEND.out
end Go.Proofs.YtoepemlnlpamlaaGreat
namespace Go.Proofs.YtoepemlnlpamlaaGreat
set_option maxRecDepth 100000
set_option maxHeartbeats 4000000
open Go.RowKit
theorem arguments_any (E:PE) (hE:E.Ok) (f:Nat) (IH:∀ f',f'≤f→AnsW E f') (v:PV) (w:World) (kids:List Tree) (q:PS) (hpw:PW w E v) (h5:kindM E.l v.st≠5) (hr:parM E.bs E.l (f+1) .args v.st=some (kids,q)):Calls Tryz.prog 138 #[.pointer (some ⟨E.gp,0,none⟩)] w (KidsRes E w v kids q):=by
 obtain⟨i0,hi0,hz0,hz1,hz2⟩:=info_parts node_info;rw[parM]at hr;have HR:=kH hr;have HIH:=kH IH;have HH5:=kH h5;clear hr IH h5
 go_enter Tryz.func138,Tryz.ntmps138
 go_wp2_with fail
 generalize hWk:w.alloc (.cells #[] 24)=w2
 have hb2:Below w.heap.size w w2:=by rw[← hWk];exact below_alloc _ _
 have hK2:KidsOwn w2 w.heap.size (.slice (some ⟨w.heap.size,0,none⟩) 0 0) 0 []:=by
  refine⟨[],?_,rfl,rfl⟩;have hn:=Blk.new w 24 #[];rw[hWk]at hn;exact OwnS.block (n:=0) (cur:=#[]) (Nat.le_refl _) hn (by simp[maxLen]) rfl
 have h2:=hpw.below hb2;have P2:=PM.of_below (E:=E) (v:=v) hb2;clear hWk;refine(read_any E hE v _ h2 HH5.out).mono ?_;rintro e w3 ⟨rfl,h3,hm3⟩;have P3:=P2.trans hm3
 obtain⟨v3,hv3⟩:∃ vv:PV,(⟨readM E.l v.st,v.lv⟩:PV)=vv:=⟨_,rfl⟩
 rw[hv3]at h3 P3 hm3;have HV3:Hid (v3.st=readM E.l v.st):=kH (by rw[← hv3]);have HK3:=kH (hK2.keeps (hm3.keepsN h2));clear hv3 hm3 hK2
 have his:=fun x w' (h:PW w' E v3)=>is_any E hE v3 x w' h
 obtain⟨b1,hb1⟩:∃ x,isM E.bs E.l v3.st [41] = x:=⟨_,rfl⟩
 have HIS:=kH his;have HB1:=kH hb1;clear his hb1
 go_wp2_with fail
 refine(HIS.out [41] _ h3).mono ?_;rintro e w4 ⟨rfl,hb4⟩;rw[HB1.out];have h4:=h3.below hb4;have P4:=P3.trans (PM.of_below hb4);have HK4:=kH (HK3.out.keeps (KeepsN.of_below hb4));clear HK3
 obtain⟨q1,hq1,hx1⟩:∃ q1,q=expectM E.bs E.l q1 [41]∧(if isM E.bs E.l v3.st [41] then kids = []∧q1=v3.st else ∃ x p,parM E.bs E.l f (.expr 1) v3.st=some ([x],p)∧parM E.bs E.l f (.argsL [x]) p=some (kids,q1)):=by
  have:=HR.out;rw[← HV3.out,HB1.out]at this;rw[HB1.out]
  cases b1
  ·rw[if_neg (by simp)]at this
   obtain⟨x,p,h1,h2⟩:=one_some this;obtain⟨ks,p2,h3,h4⟩:=many_some h2;simp at h4;exact⟨p2,h4.2.symm,by rw[if_neg (by simp)];exact⟨x,p,h1,by rw[h3,h4.1]⟩⟩
  ·rw[if_pos rfl]at this
   injection this with this
   injection this with e1 e2
   exact⟨v3.st,e2.symm,by rw[if_pos rfl];exact⟨e1.symm,rfl⟩⟩
 have HQ1:=kH hq1;have HX1:=kH hx1;clear hq1 hx1 HR
 go_upto_if 9 with fail
 go_cut [3] (fun s3 wx => ∃ A n c vx,s3 = .slice A n c∧KidsOwn wx w.heap.size (.slice A n c) n kids∧vx.st=q1∧PW wx E vx∧PM E w v wx vx)
 case first =>
  cases b1
  ·have hx:=HX1.out
   rw[HB1.out,if_neg (by simp)]at hx;obtain⟨x5,p5,hx5,hxl⟩:=hx;have hcall:=(HIH.out f (Nat.le_refl _)).expr 1 v3 w4 x5 p5 h4 (by omega) (by omega) hx5;have HCALL:=kH hcall;have HXL:=kH hxl;have hpr:=par_props hE.ends hE.empty hx5 (by rw[hE.len];exact h4.at_) ⟨by omega,by omega⟩;have hle:=hpr.1.1;clear hcall hxl hx5 hpr HX1
   go_wp2_with fail
   refine HCALL.out.mono ?_;rintro e w5 ⟨k5,t5,a5,z5,A5,n5,c5,rfl,hT5,v5,hv5,h5,hm5⟩;have HV5:=kH hv5;have P5:=P4.trans hm5;clear hv5;obtain⟨vals6,hO6,hTs6,hn6⟩:=HK4.out.keeps (hm5.keepsN h4);have hTn6:TreeOwn w5 (fun g=>w.heap.size≤g∧some g≠(Value.slice (some ⟨w.heap.size,0,none⟩) 0 0).ownBlock) _ _:=TreeOwn.weak (fun g _ hg=>⟨Nat.le_trans P4.since.size hg,fun e1=>by obtain⟨_,hO4,_,_⟩:=HK4.out;have:=(hO4.lt g e1.symm).2;omega⟩) _ _ hT5;have hrz6:=P5.since.size;have HO6:=kH hO6;have HTs6:=kH hTs6;have HTn6:=kH hTn6;have Hn6:=kH hn6;clear hO6 hTs6 hTn6 hn6 hT5
   go_wp2_with (at_builtin;go_must (refine wpList_append_S _ rfl (.tmp 10) (.tmp 13) _ rfl (w.heap.size) 24 i0 _ 5 64 Tryz.underlying22 hi0 hz0 hz1 hz2 rfl (.slice (some ⟨w.heap.size,0,none⟩) 0 0) 0 (List.flatten vals6) rfl (HO6.out.alloc _) ⟨w5.heap.size,0,none⟩ 1 1 [.int .i64 k5,.string t5,.int .i64 a5,.int .i64 z5,.slice A5 n5 c5] rfl rfl (news_five _ _ _ _ _ _ _ (by go_simp) (by go_simp) (by go_simp) (by go_simp) (by go_simp)) (by simp[Value.oneCell']) (by simp only[maxLen];omega) (by omega) (by simp;omega) ?_);intro vn w6 hown hgrow hat;obtain⟨A6,c6,hvn,-,-⟩:=hown.shape;subst hvn;have HOWN6:=kH hown;have HGROW6:=kH hgrow;have HAT6:=kH hat;clear hown hgrow hat)
   have HK6:=kH (KidsOwn.pushed HTs6.out Hn6.out HTn6.out HOWN6.out HGROW6.out HAT6.out);obtain⟨h6,P6,hkeep6⟩:=append_keeps h5 P5 HO6.out (Nat.le_refl _) HGROW6.out;clear hkeep6
   go_loopg [3] f (fun gk s3 wr => ∃ A n c vx ts,s3 = .slice A n c∧KidsOwn wr w.heap.size (.slice A n c) n ts∧gk≤f∧parM E.bs E.l gk (.argsL ts) vx.st=some (kids,q1)∧n≤vx.st.k+1∧PW wr E vx∧PM E w v wr vx)
   case atStart=>exact⟨A6,1,c6,v5,[x5],rfl,HK6.out,Nat.le_refl _,by rw[HV5.out];exact HXL.out,by omega,h6,P6⟩
   case round =>
    obtain⟨A7,n7,c7,v7,ts7,rfl,hK7,hgf,hx7,hn7,h7,P7⟩:=hrel
    cases gk with
    | zero=>simp[parM]at hx7
    | succ gk =>
     rw[parM]at hx7;have HX7:=kH hx7;have HK7:=kH hK7;have hat7:=h7.at_;have hmost:=hE.most;clear hx7 hK7
     obtain⟨b7,hb7⟩:∃ x,isM E.bs E.l v7.st [44] = x:=⟨_,rfl⟩
     have HB7:=kH hb7;clear hb7
     go_wp2_with fail
     refine(accept_any E hE v7 [44] _ h7).mono ?_;rintro e w8 ⟨rfl,v8,hv8,h8,hm8⟩;rw[HB7.out];have HV8:=kH hv8;have P8:=P7.trans hm8;have HK8:=kH (HK7.out.keeps (hm8.keepsN h7));clear hv8 hm8
     cases b7
     ·have hst:v8.st=v7.st:=by
       rw[HV8.out];unfold acceptM;rw[HB7.out,if_neg (by simp)]
      have hkk:ts7=kids∧v7.st=q1:=by
       have:=HX7.out;rw[HB7.out,if_neg (by simp)]at this
       simpa using this
      obtain⟨rfl,hq7⟩:=hkk;have HQ7:=kH (hst.trans hq7);clear hst hq7
      go_wp2_with fail
      go_meet
      exact⟨_,_,_,v8,rfl,HK8.out,HQ7.out,h8,P8⟩
     ·have hst:v8.st=readM E.l v7.st:=by
       rw[HV8.out];unfold acceptM;rw[HB7.out,if_pos rfl]
      obtain⟨x9,q9,hx9,hnx⟩:∃ x9 q9,parM E.bs E.l gk (.expr 1) v8.st=some ([x9],q9)∧parM E.bs E.l gk (.argsL (ts7 ++ [x9])) q9=some (kids,q1):=by
       have:=HX7.out;rw[HB7.out,if_pos rfl,← hst]at this;exact one_some this
      have hk8:v8.st.k=v7.st.k+1:=by rw[hst];rfl
      have hpr:=par_props hE.ends hE.empty hx9 (by rw[hE.len];exact h8.at_) ⟨by omega,by omega⟩;have hlt:=hpr.1.1;have hcall:=(HIH.out gk (by omega)).expr 1 v8 w8 x9 q9 h8 (by omega) (by omega) hx9;have HCALL:=kH hcall;have HNX:=kH hnx;have HK8K:=kH hk8
      have hn7b:n7≤5001:=by omega
      clear hst hpr hx9 hcall hnx hk8
      go_wp2_with fail
      refine HCALL.out.mono ?_;rintro e w9 ⟨k9,t9,a9,z9,A9,n9,c9,rfl,hT9,v9,hv9,h9,hm9⟩;have HV9:=kH hv9;have P9:=P8.trans hm9;clear hv9;obtain⟨vals10,hO10,hTs10,hn10⟩:=HK8.out.keeps (hm9.keepsN h8);have hTn10:TreeOwn w9 (fun g=>w.heap.size≤g∧some g≠(Value.slice A7 n7 c7).ownBlock) _ _:=TreeOwn.weak (fun g _ hg=>⟨Nat.le_trans P8.since.size hg,fun e1=>by obtain⟨_,hO4,_,_⟩:=HK8.out;have:=(hO4.lt g e1.symm).2;omega⟩) _ _ hT9;have hrz10:=P9.since.size;have HO10:=kH hO10;have HTs10:=kH hTs10;have HTn10:=kH hTn10;have Hn10:=kH hn10;clear hO10 hTs10 hTn10 hn10 hT9
      go_wp2_with (at_builtin;go_must (refine wpList_append_S _ rfl (.tmp 17) (.tmp 20) _ rfl (w.heap.size) 24 i0 _ 5 64 Tryz.underlying22 hi0 hz0 hz1 hz2 rfl (.slice A7 n7 c7) n7 (List.flatten vals10) rfl (HO10.out.alloc _) ⟨w9.heap.size,0,none⟩ 1 1 [.int .i64 k9,.string t9,.int .i64 a9,.int .i64 z9,.slice A9 n9 c9] rfl rfl (news_five _ _ _ _ _ _ _ (by go_simp) (by go_simp) (by go_simp) (by go_simp) (by go_simp)) (by simp[Value.oneCell']) (by simp only[maxLen];omega) (by omega) (by simp;omega) ?_);intro vn w10 hown hgrow hat;obtain⟨A10,c10,hvn,-,-⟩:=hown.shape;subst hvn;have HOWN10:=kH hown;have HGROW10:=kH hgrow;have HAT10:=kH hat;clear hown hgrow hat)
      have HK10:=kH (KidsOwn.pushed HTs10.out Hn10.out HTn10.out HOWN10.out HGROW10.out HAT10.out);obtain⟨h10,P10,hkeep10⟩:=append_keeps h9 P9 HO10.out (Nat.le_refl _) HGROW10.out;clear hkeep10
      go_roundg gk
      case measure=>omega
      case rel =>
       refine⟨A10,n7+1,c10,v9,ts7 ++ [x9],rfl,HK10.out,by omega,by rw[HV9.out];exact HNX.out,?_,h10,P10⟩;rw[HV9.out];have:=HK8K.out;show n7+1≤q9.k+1;omega
  ·have hx:=HX1.out
   rw[HB1.out,if_pos rfl]at hx;obtain⟨rfl,hq⟩:=hx;have HQ:=kH hq.symm;clear hq
   go_wp2_with fail
   go_meet
   exact⟨_,_,_,v3,rfl,HK4.out,HQ.out,h4,P4⟩
 case rest =>
  obtain⟨Ak,nk,ck,vx,rfl,hK,hvx,hx,hmx⟩:=hcut;have HKx:=kH hK;have HVX:=kH hvx;clear hK hvx
  go_wp2_with fail
  refine(expect_any E hE vx [41] _ hx).mono ?_;rintro e w12 ⟨rfl,v12,hv12,h12,hm12⟩
  have hst:v12.st=q:=by rw[hv12,HVX.out,HQ1.out]
  have P12:=hmx.trans hm12;have HK12:=kH (HKx.out.keeps (hm12.keepsN hx));have HST:=kH hst;clear hv12 hm12 hst
  go_wp2_with fail
  go_ret
  exact⟨Ak,nk,ck,rfl,HK12.out,v12,HST.out,h12,P12⟩
end Go.Proofs.YtoepemlnlpamlaaGreat
