/- The law NamesFreeAt holds: for every text and every number the law returns true, and its arguments read as before. No condition. Part 35: Res2. -/
import Derived.Test.YtoepemlnlpamlaaGreatFreeAt34
namespace Go.Proofs.YtoepemlnlpamlaaGreat
set_option maxRecDepth 100000
set_option maxHeartbeats 4000000
open Go.RowKit
theorem res_start (w:World) (k0:Int) (x0:ByteArray) (a0 z0:Int) (A:Option Addr) (n0 c:Nat):∃ W1,
 (((((w.alloc (.cells #[.int .i64 k0,.string x0,.int .i64 a0,.int .i64 z0,.slice A n0 c] 24)).alloc (.map #[] 0)).alloc (.map #[] 0)).alloc (.map #[] 0)).alloc (.map #[] 0)).alloc (.cells #[.map (some (w.heap.size+1)),.map (some (w.heap.size+1+1)),.map (some (w.heap.size+1+1+1)),.slice none 0 0,.slice none 0 0,.map (some (w.heap.size+1+1+1+1)),.slice none 0 0,.int .i64 0,.int .i64 0] 75)=W1 ∧
 RSAt ⟨w.heap.size,w.heap.size+1+1+1+1+1,w.heap.size+1,w.heap.size+1+1,w.heap.size+1+1+1,w.heap.size+1+1+1+1,none,0⟩ ⟨[],[],[]⟩ ⟨[],[],[],[],0,0⟩ ⟨none,0,none,0,[]⟩ W1 ∧
 Blk W1 w.heap.size 24 #[.int .i64 k0,.string x0,.int .i64 a0,.int .i64 z0,.slice A n0 c]∧Below w.heap.size w W1:=by
 refine⟨_,rfl,⟨?_,?_,?_,?_,?_,rfl,OwnS.nil _ _ _ _,OwnS.nil _ _ _ _,OwnS.nil _ _ _ _,⟨by simp;omega,by simp;omega⟩,⟨by simp;omega,by simp;omega,by simp⟩⟩,?_,?_⟩
 ·have:=Blk.new (((((w.alloc (.cells #[.int .i64 k0,.string x0,.int .i64 a0,.int .i64 z0,.slice A n0 c] 24)).alloc (.map #[] 0)).alloc (.map #[] 0)).alloc (.map #[] 0)).alloc (.map #[] 0)) 75 #[.map (some (w.heap.size+1)),.map (some (w.heap.size+1+1)),.map (some (w.heap.size+1+1+1)),.slice none 0 0,.slice none 0 0,.map (some (w.heap.size+1+1+1+1)),.slice none 0 0,.int .i64 0,.int .i64 0]
  simpa using this
 ·have:=((((AMap.made (KK:=strK) (w.alloc (.cells #[.int .i64 k0,.string x0,.int .i64 a0,.int .i64 z0,.slice A n0 c] 24))).alloc (.map #[] 0)).alloc (.map #[] 0)).alloc (.map #[] 0)).alloc (.cells #[.map (some (w.heap.size+1)),.map (some (w.heap.size+1+1)),.map (some (w.heap.size+1+1+1)),.slice none 0 0,.slice none 0 0,.map (some (w.heap.size+1+1+1+1)),.slice none 0 0,.int .i64 0,.int .i64 0] 75)
  simpa [layV] using this
 ·have:=(((AMap.made (KK:=strK) ((w.alloc (.cells #[.int .i64 k0,.string x0,.int .i64 a0,.int .i64 z0,.slice A n0 c] 24)).alloc (.map #[] 0))).alloc (.map #[] 0)).alloc (.map #[] 0)).alloc (.cells #[.map (some (w.heap.size+1)),.map (some (w.heap.size+1+1)),.map (some (w.heap.size+1+1+1)),.slice none 0 0,.slice none 0 0,.map (some (w.heap.size+1+1+1+1)),.slice none 0 0,.int .i64 0,.int .i64 0] 75)
  simpa [layV] using this
 ·have:=((AMap.made (KK:=intK) (((w.alloc (.cells #[.int .i64 k0,.string x0,.int .i64 a0,.int .i64 z0,.slice A n0 c] 24)).alloc (.map #[] 0)).alloc (.map #[] 0))).alloc (.map #[] 0)).alloc (.cells #[.map (some (w.heap.size+1)),.map (some (w.heap.size+1+1)),.map (some (w.heap.size+1+1+1)),.slice none 0 0,.slice none 0 0,.map (some (w.heap.size+1+1+1+1)),.slice none 0 0,.int .i64 0,.int .i64 0] 75)
  simpa [intV] using this
 ·have:=(AMap.made (KK:=intK) ((((w.alloc (.cells #[.int .i64 k0,.string x0,.int .i64 a0,.int .i64 z0,.slice A n0 c] 24)).alloc (.map #[] 0)).alloc (.map #[] 0)).alloc (.map #[] 0))).alloc (.cells #[.map (some (w.heap.size+1)),.map (some (w.heap.size+1+1)),.map (some (w.heap.size+1+1+1)),.slice none 0 0,.slice none 0 0,.map (some (w.heap.size+1+1+1+1)),.slice none 0 0,.int .i64 0,.int .i64 0] 75)
  simpa using this
 ·exact((((Blk.new w _ _).alloc _).alloc _).alloc _ |>.alloc _).alloc _
 ·exact((((((Below.refl _ w).alloc (Nat.le_refl _) _).alloc (by simp) _).alloc (by simp;omega) _).alloc (by simp;omega) _).alloc (by simp;omega) _).alloc (by simp;omega) _
theorem idxL_snoc:∀ (a:List Dc) (d:Dc) (i:Nat) (l:List (Int × Int)),idxL (a ++ [d]) i l=setL (idxL a i l) d.node ((i+a.length:Nat):Int)
 | [],d,i,l=>rfl
 | x :: a,d,i,l=>by
  rw[List.cons_append,idxL,idxL_snoc a d (i+1) _,idxL,List.length_cons]
  congr 2
  omega
def Resolved (t:Tree) (w:World) (e:Ending) (w':World):Prop:=∃ E V,e = .returned (.pointer (some ⟨E.rp,0,none⟩))∧E.base=w.heap.size∧RSAt E (collectM t) (resolveM t) V w'∧Below w.heap.size w w'
theorem resolve_any (t:Tree) (A:Option Addr) (c:Nat) (w:World) (hv:VOk true t=true) (hN:countM t≤1000000) (hcap:t.kids.length≤c) (hk:KidsAt w w.heap.size A 0 t.kids) :
 Calls Tryz.prog 41 #[nodeV t A c] w (Resolved t w):=by
 obtain⟨k0,x0,a0,z0,n0,-,-,-,-,hn0,hnv⟩:=node_named t A c;obtain⟨i0,hi0,hz0,hz1,hz2⟩:=info_parts int_info;obtain⟨W1,hW1,h1,hnb,hb1⟩:=res_start w k0 x0 a0 z0 A n0 c;have hcnt:=count_any t A c W1 (by omega) (KidsAt.mono hb1.size _ _ _ (KidsAt.below hb1 (Nat.le_refl _) _ _ _ hk));rw[hnv]at hcnt ⊢
 obtain⟨N,hNN⟩:∃ N,countM t=N:=⟨_,rfl⟩
 rw[hNN]at hcnt hN;have hmm:=@run_makeMap Tryz.prog;have HCN:=kH hcnt;have HNN:=kH hNN;have H1:=kH h1;have HNB:=kH hnb;have HB1:=kH hb1;have HNV:=kH hnv;have HVO:=kH hv;have HCAP:=kH hcap;have HK:=kH hk;have m0:=hnb.cell 0;have m1:=hnb.cell 1;have m2:=hnb.cell 2;have m3:=hnb.cell 3;have m4:=hnb.cell 4;have lm:=hnb.lt;clear hcnt hNN h1 hnb hb1 hnv hv hcap hk hn0
 go_enter Tryz.func41,Tryz.ntmps41
 go_wp2_with fail
 clear hW1 m0 m1 m2 m3 m4 lm;refine HCN.out.mono ?_;rintro e2 w2 ⟨rfl,hb2⟩
 obtain⟨rp,hrp⟩:∃ q,w.heap.size+1+1+1+1+1=q:=⟨_,rfl⟩
 rw[hrp]at H1 ⊢
 obtain⟨vi,hvi⟩:∃ q,w.heap.size+1+1+1+1=q:=⟨_,rfl⟩
 rw[hvi]at H1 ⊢
 obtain⟨kk,hkk⟩:∃ q,w.heap.size+1+1+1=q:=⟨_,rfl⟩
 rw[hkk]at H1 ⊢
 obtain⟨ff,hff⟩:∃ q,w.heap.size+1+1=q:=⟨_,rfl⟩
 rw[hff]at H1 ⊢
 obtain⟨gg,hgg⟩:∃ q,w.heap.size+1=q:=⟨_,rfl⟩
 rw[hgg]at H1 ⊢;have HAD:Hid (w.heap.size+1=gg∧gg+1=ff∧ff+1=kk∧kk+1=vi∧vi+1=rp):=kH (by omega);have HR2:Hid (RSAt ⟨w.heap.size,rp,gg,ff,kk,vi,none,0⟩ ⟨[],[],[]⟩ ⟨[],List.replicate 0 (-1),[],[],0,0⟩ ⟨none,0,none,0,[]⟩ w2):=kH (H1.out.below hb2);have HB2:Hid (Below w.heap.size w w2):=kH (HB1.out.trans (hb2.mono HB1.out.size));have HNB2:Hid (Blk w2 w.heap.size 24 #[.int .i64 k0,.string x0,.int .i64 a0,.int .i64 z0,.slice A n0 c]):=kH (HNB.out.below hb2 HNB.out.lt);clear hrp hvi hkk hff hgg hb2 HCN H1 HB1 HNB
 go_wp2_with fail
 go_loopg [21] N (fun gk s21 wr => ∃ (j:Nat) (A1:Option Addr) (c1:Nat),s21 = .int .i64 (j:Int)∧j+gk=N∧Hid (RSAt ⟨w.heap.size,rp,gg,ff,kk,vi,A1,c1⟩ ⟨[],[],[]⟩ ⟨[],List.replicate j (-1),[],[],0,0⟩ ⟨none,0,none,0,[]⟩ wr)∧Hid (Below w.heap.size w wr)∧Hid (Blk wr w.heap.size 24 #[.int .i64 k0,.string x0,.int .i64 a0,.int .i64 z0,.slice A n0 c]))
 case atStart=>exact⟨0,none,0,rfl,by omega,HR2,HB2,HNB2⟩
 case round =>
  obtain⟨j,A1,c1,rfl,hj,HR,HB,HNB⟩:=hrel
  by_cases hlt:j < N
  ·have hlt':(j:Int) < (N:Int):=by omega
   have hw:IntKind.i64.wrap ((j:Int)+1)=(j:Int)+1:=IntWalk.i64_in _ (by omega)
   have c4:wr.cell? ⟨rp,4,none⟩=some (.slice A1 j c1):=by have:=HR.out.blk.cell 4;simpa using this
   have lr:rp < wr.heap.size:=HR.out.blk.lt;have ho:=HR.out.us;simp only[List.length_replicate]at ho;have HO:=kH ho;clear ho
   go_wp2_with (at_builtin;go_must (refine wpList_append_S _ rfl (.tmp 27) (.tmp 28) _ rfl w.heap.size 3 i0 _ 1 8 Tryz.underlying28 hi0 hz0 hz1 hz2 rfl (.slice A1 j c1) j (ivs (List.replicate j (-1))) rfl (HO.out.alloc _) ⟨wr.heap.size,0,none⟩ 1 1 [.int .i64 (-1)] rfl rfl (news_one _ _ _ (by go_simp)) (by simp[Value.oneCell']) (by simp only[maxLen];omega) (by omega) (by have:=HB.out.size;simp;omega) ?_);intro vn w6 hown hgrow hat;obtain⟨A6,c6,hvn,-,-⟩:=hown.shape;subst hvn;have HOWN:=kH hown;have HGROW:=kH hgrow;have hB6:=Blk.grown (Blk.alloc HR.out.blk _) hgrow (fun e1=>HO.out.ne_blk HR.out.blk (by decide) e1.symm);have q4:=hB6.cell 4;have q5:=hB6.frozen 4;have q6:=hB6.lt;clear hown hgrow hat hB6)
   have hal:=HR.out.below (below_alloc wr (.cells #[.int .i64 (-1)] 3));have hpu:=hal.pushU rfl rfl (-1) (A3:=A6) (c3:=c6) (by simp only[List.length_replicate];exact HOWN.out) (by simp only[List.length_replicate];exact HGROW.out)
   have hrs:List.replicate j (-1:Int) ++ [-1] = List.replicate (j+1) (-1):=by rw[List.replicate_succ']
   have hpu1:=hpu.1;simp only[hrs,List.length_replicate]at hpu1;have HP:=kH hpu1
   have HPB:Hid (Below w.heap.size w (w6.setCell ⟨rp,4,none⟩ (.slice A6 (j+1) c6))):=kH (by
    have h5:=hpu.2;simp only[List.length_replicate]at h5;have h6:Below w.heap.size (wr.alloc (.cells #[.int .i64 (-1)] 3)) (w6.setCell ⟨rp,4,none⟩ (.slice A6 (j+1) c6)):=h5.toBelow (by have:=HB.out.size;simp;omega) (fun g hg=>hg)
    exact(HB.out.trans ((below_alloc wr (.cells #[.int .i64 (-1)] 3)).mono HB.out.size)).trans h6)
   have HPN:Hid (Blk (w6.setCell ⟨rp,4,none⟩ (.slice A6 (j+1) c6)) w.heap.size 24 #[.int .i64 k0,.string x0,.int .i64 a0,.int .i64 z0,.slice A n0 c]):=kH
    (((HNB.out.alloc (.cells #[.int .i64 (-1)] 3)).grown HGROW.out (fun e1=>HO.out.ne_blk HNB.out (by decide) e1.symm)).far (p:=⟨rp,4,none⟩) (by have:=HAD.out;show w.heap.size≠rp;omega) _)
   clear hal hpu hpu1 hrs
   go_roundg (gk - 1)
   case measure=>omega
   case rel=>exact⟨j+1,A6,c6,by simp,by omega,HP,HPB,HPN⟩
  ·have hjN:j=N:=by omega
   subst hjN
   have hge:¬ ((j:Int) < (j:Int)):=by omega
   have m0:=HNB.out.cell 0;have m1:=HNB.out.cell 1;have m2:=HNB.out.cell 2;have m3:=HNB.out.cell 3;have m4:=HNB.out.cell 4;have lm:=HNB.out.lt;have hcol:=collect_any rp gg ff kk w.heap.size _ _ _ _ _ _ wr HR.out.blk ⟨HR.out.gl,HR.out.fl,HR.out.kn⟩ (by have:=HAD.out;omega) (by have:=HAD.out;have:=HB.out.size;omega) t A c (by rw[HNN.out];omega) (KidsAt.below HB.out (Nat.le_refl _) _ _ _ HK.out);rw[HNV.out]at hcol;have HCO:=kH hcol;clear hcol
   go_wp2_with fail
   clear m0 m1 m2 m3 m4 lm;refine HCO.out.mono ?_;rintro e3 w3 ⟨rfl,hc3,hs3⟩;have HR3:=kH (HR.out.collected hs3 hc3);have HNB3:=kH (HNB.out.since hs3 (by have:=HAD.out;omega));have HB3:Hid (Below w.heap.size w w3):=kH (HB.out.trans (hs3.toBelow HB.out.size (fun g hg=>by have:=HAD.out;omega)));have m0:=HNB3.out.cell 0;have m1:=HNB3.out.cell 1;have m2:=HNB3.out.cell 2;have m3:=HNB3.out.cell 3;have m4:=HNB3.out.cell 4;have lm:=HNB3.out.lt
   obtain⟨r0,hr0⟩:∃ r0:RS,(⟨[],List.replicate j (-1),[],[],0,0⟩:RS)=r0:=⟨_,rfl⟩
   have hrb:RB r0 [] (countM t):=by
    rw[← hr0,HNN.out];exact⟨Nat.le_refl _,Nat.le_refl _,Nat.le_refl _,(fun x hx=>by cases hx),(by simp),(by simpa using hN)⟩
   obtain⟨E,hE⟩:∃ E:RC,(⟨w.heap.size,rp,gg,ff,kk,vi,A1,c1⟩:RC)=E:=⟨_,rfl⟩
   have hEb:E.base=w.heap.size:=by rw[← hE]
   have hEr:E.rp=rp:=by rw[← hE]
   rw[hr0,hE]at HR3;have hvis:=visit_all E (collectM t) w.heap.size (by rw[hEb];exact Nat.le_refl _) t false [] none [] r0 _ w3 A c HR3.out ⟨rfl,rfl⟩ ⟨List.nodup_nil,fun m hm=>by cases hm⟩ (KidsAt.below HB3.out (Nat.le_refl _) _ _ _ HK.out) HCAP.out (by rw[hEb];exact HB3.out.size) HVO.out hrb
   have hres:resolveM t = { (visitM (collectM t) false t [] r0).1 with uses:=(visitM (collectM t) false t [] r0).1.uses.map (toIdx (visitM (collectM t) false t [] r0).1.ds),vis:=(visitM (collectM t) false t [] r0).1.vis.map fun x=>(x.1,x.2.map (toIdx (visitM (collectM t) false t [] r0).1.ds)) }:=by
    unfold resolveM;rw[HNN.out,hr0]
   have hslow:=visit_slow (collectM t) t false [] r0;have hnle:=next_le (collectM t) t false [] r0;have hrng:=visit_rng (collectM t) t false [] r0;have hkeys:=visit_keys (collectM t) t false [] r0 (by rw[← hr0];exact List.nodup_nil)
   obtain⟨R,hR⟩:∃ R,(visitM (collectM t) false t [] r0).1=R:=⟨_,rfl⟩
   rw[hR]at hvis hres hslow hnle hrng hkeys;rw[HNN.out]at hnle
   have hr0n:r0.next=0:=by rw[← hr0]
   have hnd:R.ds.length≤1000000:=by
    have h1:=hslow.ds
    have h2:r0.ds.length=0:=by rw[← hr0];rfl
    omega
   have hnp:R.probs.length≤1000000:=by
    have h1:=hslow.probs
    have h2:r0.probs.length=0:=by rw[← hr0];rfl
    omega
   have hnu:R.uses.length=j:=by rw[hslow.ulen,← hr0];simp
   have hrise:Rise R.probs:=by
    obtain⟨l,e1,e2,-⟩:=hrng.probs;rw[show r0.probs = [] by rw[← hr0],List.nil_append]at e1;rw[e1];exact e2
   rw[HNV.out,hEr]at hvis;have HVI:=kH hvis;have HRES:=kH hres;have HKEYS:=kH hkeys;have HRISE:=kH hrise;have HND:=kH hnd;have HNP:=kH hnp;have HNU:=kH hnu;have HE:Hid (E.base=w.heap.size∧E.rp=rp∧E.vi=vi):=kH ⟨hEb,hEr,by rw[← hE]⟩;clear hvis hres hkeys hrise hslow hnle hrng hrb hR hr0n hnd hnp hnu hE hEb hEr hr0 HR3 HCO
   go_wp2_with fail
   clear m0 m1 m2 m3 m4 lm;refine HVI.out.mono ?_;rintro e4 w4 ⟨rfl,V4,h4,-,k4⟩
   have HB4:Hid (Below w.heap.size w w4):=kH (by
    have:=KX.low k4 (by rw[HE.out.1];exact HB3.out.size);rw[HE.out.1]at this
    exact HB3.out.trans this)
   have H4:=kH h4;clear h4 k4 HVI HNB3 HB3 HNB HB HR
   have c3:w4.cell? ⟨rp,3,none⟩=some (.slice V4.dA R.ds.length V4.dc):=by have:=H4.out.blk.cell 3;rw[HE.out.2.1]at this;exact this
   have lr4:rp < w4.heap.size:=by have:=H4.out.blk.lt;rw[HE.out.2.1]at this;exact this
   obtain⟨nd,hnd⟩:∃ q,R.ds.length=q:=⟨_,rfl⟩
   rw[hnd]at c3;have HNDD:=kH hnd
   obtain⟨dA,hdA⟩:∃ q,V4.dA=q:=⟨_,rfl⟩
   rw[hdA]at c3;have HDA:=kH hdA
   have hndm:nd≤1000000:=by rw[← hnd];exact HND.out
   clear hnd hdA
   go_wp2_with (refine wpList_insert_am (KK:=intK) _ rfl _ _ _ 71 rfl 3 3 Tryz.underlying71 Tryz.underlying3 w4.heap.size [] (-1) (.int .i64 (-1)) rfl rfl rfl (AMap.made w4) (below_alloc w4 _) (Nat.le_refl _) ?_;intro w5 hm5 hb5;have d3:w5.cell? ⟨rp,3,none⟩=some (.slice dA nd V4.dc):=(hb5.cell (p:=⟨rp,3,none⟩) lr4).trans c3;have HM5:=kH hm5;have HB5:=kH hb5;clear hm5 hb5)
   clear c3 d3 hmm;have HIX:Hid (w.heap.size≤w4.heap.size):=kH HB4.out.size
   obtain⟨ix,hix⟩:∃ q,w4.heap.size=q:=⟨_,rfl⟩
   rw[hix]at HM5 HB5 HIX ⊢;have HIXE:=kH hix;clear hix
   go_loopg [46] nd (fun gk s46 wr => ∃ i:Nat,s46 = .int .i64 (i:Int)∧i+gk=nd∧Hid (AMap intK wr ix (intV (idxL (R.ds.take i) 0 [(-1,-1)])))∧Hid (Below ix w4 wr))
   case atStart=>exact⟨0,rfl,by omega,by have:=HM5.out;rw[List.take_zero];exact kH this,HB5⟩
   case round =>
    obtain⟨i,rfl,hi,HM,HBx⟩:=hrel
    by_cases hlt:i < nd
    ·have hlt':(i:Int) < (nd:Int):=by omega
     have hw:IntKind.i64.wrap ((i:Int)+1)=(i:Int)+1:=IntWalk.i64_in _ (by omega)
     obtain⟨d,hd⟩:∃ d,R.ds[i]? = some d:=⟨_,List.getElem?_eq_getElem (by rw[HNDD.out];exact hlt)⟩
     have hb4:Below w4.heap.size w4 wr:=by rw[HIXE.out];exact HBx.out
     have hrow:=(H4.out.ds.below hb4 (fun g hg=>(H4.out.ds.lt g hg).2)).rowAt (cells:=dcCells) (l:=R.ds) rfl rfl (fun c _=>rfl) rfl;rw[HDA.out]at hrow;obtain⟨b,off,hA,hbl,hcs⟩:=hrow i d hd;subst hA;obtain⟨dk,dn,dv,dw⟩:=d
     have t0:wr.cell? ⟨b,off+i * 4,none⟩=some (.int .i64 dk):=by simpa using hcs 0 _ rfl
     have t1:wr.cell? ⟨b,off+i * 4+1,none⟩=some (.string dn):=by simpa using hcs 1 _ rfl
     have t2:wr.cell? ⟨b,off+i * 4+2,none⟩=some (.int .i64 dv):=by simpa using hcs 2 _ rfl
     have t3:wr.cell? ⟨b,off+i * 4+3,none⟩=some (.int .i64 dw):=by simpa using hcs 3 _ rfl
     clear hcs hrow hb4;obtain⟨w7,hrun,hm7,hg7,hz7⟩:=run_mapUpdate_am (P:=Tryz.prog) (KK:=intK) (t:=71) (kt:=3) (et:=3) Tryz.underlying71 Tryz.underlying3 (HM.out.alloc (.cells #[.int .i64 dk,.string dn,.int .i64 dv,.int .i64 dw] 49)) dv (.int .i64 (i:Int));change (Instr.mapUpdate 71 (.map (some ix)) (.int .i64 dv) (.int .i64 (i:Int))).run Tryz.prog (wr.alloc (.cells #[.int .i64 dk,.string dn,.int .i64 dv,.int .i64 dw] 49))=_ at hrun;rw[setM_int]at hm7;have hs7:Since (fun g=>g=ix) (wr.alloc (.cells #[.int .i64 dk,.string dn,.int .i64 dv,.int .i64 dw] 49)) w7:=(Since.refl _ _).grown hg7 (fun k hk=>by cases hk;exact .inl rfl)
     have hixw:ix≤wr.heap.size:=by have:=HBx.out.size;rw[HIXE.out]at this;exact this
     have HB7:Hid (Below ix w4 w7):=kH ((HBx.out.trans ((below_alloc wr _).mono hixw)).trans (hs7.toBelow (by simp;omega) (fun g hg=>by omega)))
     have HM7:Hid (AMap intK w7 ix (intV (idxL (R.ds.take (i+1)) 0 [(-1,-1)]))):=kH (by
      rw[take_snoc hd,idxL_snoc]
      have:0+(R.ds.take i).length=i:=by
       have:=(List.getElem?_eq_some_iff.1 hd).1;simp;omega
      rw[this]
      exact hm7)
     clear hm7 hg7 hz7 hs7 hixw hd
     go_wp2_with fail
     go_roundg (gk - 1)
     case measure=>omega
     case rel=>exact⟨i+1,by simp,by omega,HM7,HB7⟩
    ·have hin:i=nd:=by omega
     subst hin
     have hge:¬ ((i:Int) < (i:Int)):=by omega
     have hb4:Below w4.heap.size w4 wr:=by rw[HIXE.out];exact HBx.out
     obtain⟨L,hL⟩:∃ L,idxL R.ds 0 [(-1,-1)] = L:=⟨_,rfl⟩
     have HF:Hid (∀ u,(lookL L u).getD 0=toIdx R.ds u):=kH (fun u=>by rw[← hL];rfl)
     have HML:Hid (AMap intK wr ix (intV L)):=kH (by
      have:=HM.out;rw[List.take_of_length_le (by rw[HNDD.out];exact Nat.le_refl _),hL]at this
      exact this)
     obtain⟨F,hF⟩:∃ F:Int→Int,toIdx R.ds=F:=⟨_,rfl⟩
     rw[hF]at HF HRES;have HRU:Hid (RSAt E (collectM t) { R with uses:=(R.uses.take 0).map F ++ R.uses.drop 0 } V4 wr):=kH (H4.out.below hb4);have HBW:Hid (Below w.heap.size w wr):=kH (HB4.out.trans (hb4.mono HB4.out.size))
     obtain⟨uA,huA⟩:∃ q,E.uA=q:=⟨_,rfl⟩
     obtain⟨uc,huc⟩:∃ q,E.uc=q:=⟨_,rfl⟩
     have c4:wr.cell? ⟨rp,4,none⟩=some (.slice uA j uc):=by
      have:=(H4.out.below hb4).blk.cell 4;rw[HE.out.2.1]at this;rw[← huA,← huc,← HNU.out];exact this
     have lr:rp < wr.heap.size:=by have:=(H4.out.below hb4).blk.lt;rw[HE.out.2.1]at this;exact this
     have HUA:Hid (E.uA=uA∧E.uc=uc):=kH ⟨huA,huc⟩;clear hL hF hb4 huA huc HM HBx
     go_wp2_with fail
     clear c4
     go_loopg [61] j (fun gk s61 wr => ∃ q:Nat,s61 = .int .i64 (q:Int)∧q+gk=j∧Hid (RSAt E (collectM t) { R with uses:=(R.uses.take q).map F ++ R.uses.drop q } V4 wr)∧Hid (AMap intK wr ix (intV L))∧Hid (Below w.heap.size w wr))
     case atStart=>exact⟨0,rfl,by omega,HRU,HML,HBW⟩
     case round =>
      obtain⟨q,rfl,hq,HR,HMX,HB⟩:=hrel
      by_cases hlt2:q < j
      ·have hlt2':(q:Int) < (j:Int):=by omega
       have hw2:IntKind.i64.wrap ((q:Int)+1)=(q:Int)+1:=IntWalk.i64_in _ (by omega)
       obtain⟨u,hu⟩:∃ u,R.uses[q]? = some u:=⟨_,List.getElem?_eq_getElem (by rw[HNU.out];exact hlt2)⟩
       obtain⟨hs1,hs2⟩:=step_map (F:=F) hu;have hdr:=HR.out.below ((Below.refl _ wr).drew)
       have hll:((R.uses.take q).map F ++ R.uses.drop q).length=j:=by have:=HNU.out;simp;omega
       obtain⟨b,off,hA,hbl,-,hfz,hset⟩:=hdr.useAt q (by show q < ((R.uses.take q).map F ++ R.uses.drop q).length;rw[hll];exact hlt2) (fun _=>False);rw[HUA.out.1]at hA;subst hA;obtain⟨b',off',cap',hv',-,-,hlo',-,hcs'⟩:=HR.out.us.form (by show 0 < ((R.uses.take q).map F ++ R.uses.drop q).length;rw[hll];omega)
       have hA':some (⟨b,off,none⟩:Addr)=some ⟨b',off',none⟩:=by rw[← HUA.out.1];injection hv'
       simp only[Option.some.injEq,Addr.mk.injEq,and_true]at hA';obtain⟨rfl,rfl⟩:=hA';have cu:wr.cell? ⟨b,off+q,none⟩=some (.int .i64 u):=hcs' q _ (by show (ivs ((R.uses.take q).map F ++ R.uses.drop q))[q]? = _;unfold ivs;rw[List.getElem?_map,hs1];rfl);have fu:wr.frozen? ⟨b,off+q,none⟩=false:=hfz
       have c4:wr.cell? ⟨rp,4,none⟩=some (.slice (some ⟨b,off,none⟩) j uc):=by
        have:=HR.out.blk.cell 4;rw[HE.out.2.1]at this;rw[← HUA.out.1,← HUA.out.2,← hll];exact this
       have lr2:rp < wr.heap.size:=by have:=HR.out.blk.lt;rw[HE.out.2.1]at this;exact this
       have lb2:b < wr.heap.size:=hbl;have hlook:=lookup_int wr.drew ix L HMX.out.drew u;rw[HF.out u]at hlook
       have hixb:ix≠b:=fun e1=>HMX.out.not_own HR.out.us (by rw[HUA.out.1];show some b=some ix;rw[e1])
       have HSET:=kH (hset (F u));have HS2:=kH hs2;have HLO:=kH hlo'
       obtain⟨y,hy⟩:∃ y,F u=y:=⟨_,rfl⟩
       rw[hy]at HSET HS2 hlook;have hq0:q < j:=hlt2;clear hs1 hs2 hdr hset hcs' hv' hlo' hu hy hll hfz hbl
       go_wp2_with fail
       refine wp_region_HS (fun w'=>w'.cell? ⟨rp,4,none⟩=some (.slice (some ⟨b,off,none⟩) j uc)∧(Instr.lookup 71 (.map (some ix)) (.int .i64 u) false).run Tryz.prog w' = .ok (.int .i64 y) w') [9] [true,true,true,true,true,true,true,true,true,false] (by kernel_rfl) (by kernel_rfl) rfl (by kernel_rfl) ?_
       have hS0:wr.drew.cell? ⟨rp,4,none⟩=some (.slice (some ⟨b,off,none⟩) j uc)∧(Instr.lookup 71 (.map (some ix)) (.int .i64 u) false).run Tryz.prog wr.drew = .ok (.int .i64 y) wr.drew:=⟨c4,hlook⟩
       iterate 9(refine wpHS_soft rfl hS0 (by intro w' hSw;obtain⟨hs1,hs2⟩:=hSw;go_simp;rfl) ?_;simp only[Act.put,sA,sZ,sC])
       refine wpHS_skip (w':=wr.drew.setCell ⟨b,off+q,none⟩ (.int .i64 y)) rfl (by go_simp) (by simp) ?_;refine wpHS_nil ?_;simp only[Act.put]
       have HP1:Hid (RSAt E (collectM t) { R with uses:=(R.uses.take (q+1)).map F ++ R.uses.drop (q+1) } V4 (wr.drew.setCell ⟨b,off+q,none⟩ (.int .i64 y))):=kH (by
        have:=HSET.out.1;rw[HS2.out]at this
        exact this)
       have HP2:Hid (AMap intK (wr.drew.setCell ⟨b,off+q,none⟩ (.int .i64 y)) ix (intV L)):=kH (HMX.out.drew.setCell (p:=⟨b,off+q,none⟩) hixb _);have HP3:Hid (Below w.heap.size w (wr.drew.setCell ⟨b,off+q,none⟩ (.int .i64 y))):=kH ((HB.out.drew).setCell (p:=⟨b,off+q,none⟩) (by have:=HLO.out;rw[HE.out.1]at this;exact this) _);clear hS0 hlook c4 cu fu HSET HS2
       go_wp2_with fail
       go_roundg (gk - 1)
       case measure=>omega
       case rel=>exact⟨q+1,by simp,by omega,HP1,HP2,HP3⟩
      ·have hqj:q=j:=by omega
       subst hqj
       have hge2:¬ ((q:Int) < (q:Int)):=by omega
       have c5:wr.cell? ⟨rp,5,none⟩=some (.map (some vi)):=by
        have:=HR.out.blk.cell 5;rw[HE.out.2.1,HE.out.2.2]at this;exact this
       have lr2:rp < wr.heap.size:=by have:=HR.out.blk.lt;rw[HE.out.2.1]at this;exact this
       have hvi:=HR.out.vi;rw[HE.out.2.2]at hvi;have hkv:V4.vals.map (·.1)=R.vis.map (·.1):=VisAt.keys HR.out.vis;obtain⟨w8,hr8,hit8,hb8,hz8⟩:=run_range_am (P:=Tryz.prog) (t:=72) (kt:=3) (et:=28) Tryz.underlying72 hvi;have HIT8:=kH hit8
       have HR8:Hid (RSAt E (collectM t) { R with uses:=R.uses.map F,vis:=visP F (fun _=>true) R.vis } V4 w8):=kH (by
        have:=HR.out.below hb8;rw[List.take_of_length_le (by rw[HNU.out];exact Nat.le_refl _),List.drop_eq_nil_of_le (by rw[HNU.out];exact Nat.le_refl _),List.append_nil]at this;rw[visP_start]
        exact this)
       have HM8:Hid (AMap intK w8 ix (intV L)):=kH (HMX.out.beh hb8);have HB8:Hid (Below w.heap.size w w8):=kH (HB.out.trans (hb8.mono HB.out.size));have HKV:=kH hkv;have hvil:=hvi.lt;have HWS:Hid (w.heap.size≤wr.heap.size):=kH HB.out.size;clear hvi hkv hit8 hb8 hz8
       go_wp2_with fail
       obtain⟨it,hite⟩:∃ it,wr.heap.size=it:=⟨_,rfl⟩
       rw[hite]at HIT8 hvil HWS ⊢;clear c5 hite
       go_loopg [] R.vis.length (fun gk wx => ∃ (left:List (Value × Value)) (f:Int→Bool),gk=left.length∧Hid (AIter intK wx vi it V4.vals left)∧Hid (RSAt E (collectM t) { R with uses:=R.uses.map F,vis:=visP F f R.vis } V4 wx)∧Hid (AMap intK wx ix (intV L))∧Hid (Below w.heap.size w wx)∧Hid ((left.map (·.1)).Nodup∧∀ k ∈ R.vis.map (·.1),(f k=true↔Value.int .i64 k ∈ left.map (·.1))))
       case atStart =>
        refine⟨_,fun _=>true,?_,HIT8,HR8,HM8,HB8,kH ⟨?_,fun k hk=>?_⟩⟩
        ·have:=congrArg List.length HKV.out
         simp at this;simp;omega
        ·rw[List.map_map]
         have e1:(V4.vals.map ((fun x=>x.1) ∘ fun x:Int × Value=>(intK.con x.1,x.2)))=(V4.vals.map (·.1)).map (fun k=>Value.int .i64 k):=by rw[List.map_map];rfl
         rw[e1,HKV.out];exact List.Pairwise.map _ (fun a b hab e2=>hab (by injection e2)) HKEYS.out
        ·rw[← HKV.out]at hk
         obtain⟨y,hy,rfl⟩:=List.mem_map.1 hk;exact⟨fun _=>List.mem_map.2 ⟨_,List.mem_map.2 ⟨y,hy,rfl⟩,rfl⟩,fun _=>rfl⟩
       case round =>
        obtain⟨left,f,hgl,HI,HRX,HMY,HBY,HFF⟩:=hrel
        rcases run_next_am (P:=Tryz.prog) 0 HI.out (by omega) with ⟨hl0,hnx⟩ | ⟨kv,vv,left',w9,hperm,hmem,hnx,hit9,hsn9,hsz9,hent⟩
        ·subst hl0
         have hvp:visP F f R.vis=R.vis.map fun x=>(x.1,x.2.map F):=visP_end (fun k hk=>by
          have h:=HFF.out.2 k hk
          cases hf:f k with
          | false=>rfl
          | true=>exact absurd (h.1 hf) (by simp))
         have hrow:=HRX.out.ps.rowAt (cells:=pbCells) (l:=R.probs) rfl rfl (fun c _=>rfl) rfl
         obtain⟨np,hnp⟩:∃ q,R.probs.length=q:=⟨_,rfl⟩
         have c6:wr.cell? ⟨rp,6,none⟩=some (.slice V4.pA np V4.pc):=by
          have:=HRX.out.blk.cell 6;rw[HE.out.2.1]at this;rw[← hnp];exact this
         have lr3:rp < wr.heap.size:=by have:=HRX.out.blk.lt;rw[HE.out.2.1]at this;exact this
         have hsrt:=sortStable_any R.probs V4.pA np V4.pc wr hnp hrow HRISE.out (by rw[← hnp];exact HNP.out);have HSRT:=kH hsrt;have HVP:=kH hvp;clear hvp hrow hnp hsrt
         go_wp2_with fail
         refine HSRT.out.mono ?_;rintro e10 w10 ⟨rfl,hb10⟩;have HEND:Hid (Resolved t w (.returned (.pointer (some ⟨rp,0,none⟩))) w10):=kH ⟨E,V4,by rw[HE.out.2.1],HE.out.1,by rw[HRES.out,← HVP.out];exact HRX.out.below hb10,HBY.out.trans (hb10.mono HBY.out.size)⟩;clear hb10 c6
         go_wp2_with fail
         go_ret
         exact HEND.out
        ·obtain⟨y,hy,he⟩:=List.mem_map.1 hmem
         obtain⟨k1,v0⟩:=y;simp only[Prod.mk.injEq]at he;obtain⟨rfl,rfl⟩:=he;obtain⟨v1,v2,hsp⟩:=List.append_of_mem hy;obtain⟨oa,ob,oc,od,hio⟩:=HI.out.obj;have hr9:=HRX.out.sinceO hsn9 (fun g cs t fr hg e=>by subst e;rw[hio]at hg;cases hg) (fun g es ck hg e=>by subst e;rw[hio]at hg;cases hg);obtain⟨l1,lx,l2,hvis,hown,hupd⟩:=hr9.setVis hsp
         have hk1:k1 ∈ R.vis.map (·.1):=by rw[← HKV.out];exact List.mem_map.2 ⟨_,hy,rfl⟩
         have hpk:(left.map (·.1)).Perm (Value.int .i64 k1 :: left'.map (·.1)):=hperm.map (·.1);have hfk:f k1=true:=(HFF.out.2 k1 hk1).2 (hpk.mem_iff.2 (by simp));have hstep:=visP_step HKEYS.out hvis hfk;obtain⟨A8,c8,hv8,hc8,hm8⟩:=hown.shape
         obtain⟨n8,hn8⟩:∃ q,lx.length=q:=⟨_,rfl⟩
         rw[hn8]at hv8 hown hc8;subst hv8;have hn8m:n8≤maxLen:=Nat.le_trans hc8 hm8;simp only[maxLen]at hn8m
         have hixi:ix≠it:=fun e=>by
          obtain⟨es,ck,ho⟩:=HMY.out.isMap;rw[e,hio]at ho
          cases ho
         have HM9:Hid (AMap intK w9 ix (intV L)):=kH (HMY.out.since hsn9 hixi);have HB9:Hid (Below w.heap.size w w9):=kH (HBY.out.trans (hsn9.toBelow HBY.out.size (fun g e=>by rw[e];exact HWS.out)))
         have HFF':Hid ((left'.map (·.1)).Nodup∧∀ k ∈ R.vis.map (·.1),((f k && decide (k≠k1))=true↔Value.int .i64 k ∈ left'.map (·.1))):=kH (by
          have hnd:=hpk.nodup_iff.1 HFF.out.1;rw[List.nodup_cons]at hnd;refine⟨hnd.2,fun k hk=>?_⟩;rw[Bool.and_eq_true,decide_eq_true_eq,HFF.out.2 k hk,hpk.mem_iff,List.mem_cons]
          constructor
          ·rintro⟨h1 | h1,h2⟩
           ·exact absurd (by injection h1) h2
           ·exact h1
          ·intro h1
           exact⟨.inr h1,fun e=>hnd.1 (by rw[← e];exact h1)⟩)
         have HST:=kH hstep;have HUPD:=kH hupd;have HOW:=kH hown;have HIT9:=kH hit9;have HPM:=kH hperm;have HN8:=kH hn8;have HBS:Hid (E.base=w.heap.size∧w.heap.size≤w9.heap.size):=kH ⟨HE.out.1,HB9.out.size⟩;clear hmem hy hsp hio hr9 hvis hown hupd hk1 hpk hfk hstep hc8 hm8 hn8 hixi hit9 hperm hsn9 hsz9
         go_wp2_with fail
         obtain⟨go,hgo⟩:∃ go:Nat,go=gk:=⟨_,rfl⟩
         subst hgo
         obtain⟨wo,hwo⟩:∃ wo:World,wo=wr:=⟨_,rfl⟩
         subst hwo
         go_loopg [87] n8 (fun gk s87 wy => ∃ q2:Nat,s87 = .int .i64 (q2:Int)∧q2+gk=n8∧Hid (OwnS wy E.base 3 1 (.slice A8 n8 c8) n8 (ivs ((lx.take q2).map F ++ lx.drop q2)))∧Hid (Since (fun g=>(Value.slice A8 n8 c8).ownBlock=some g) w9 wy))
         case atStart=>exact⟨0,rfl,by omega,by simpa using HOW,kH (Since.refl _ _)⟩
         case round =>
          obtain⟨q2,rfl,hq2,HOy,HSy⟩:=hrel;have hmy:AMap intK wr ix (intV L):=HM9.out.since HSy.out (fun h1=>HM9.out.not_own HOW.out h1);have HMYY:=kH hmy
          by_cases hlt3:q2 < n8
          ·have hlt3':(q2:Int) < (n8:Int):=by omega
           have hw3:IntKind.i64.wrap ((q2:Int)+1)=(q2:Int)+1:=IntWalk.i64_in _ (by omega)
           obtain⟨u,hu⟩:∃ u,lx[q2]? = some u:=⟨_,List.getElem?_eq_getElem (by rw[HN8.out];exact hlt3)⟩
           obtain⟨hs1,hs2⟩:=step_map (F:=F) hu;obtain⟨b,off,cap',hv',-,-,hlo',hbl,hcs'⟩:=HOy.out.form (by omega);simp only[Value.slice.injEq,true_and]at hv';obtain⟨rfl,rfl⟩:=hv';have cu:wr.cell? ⟨b,off+q2,none⟩=some (.int .i64 u):=hcs' q2 _ (by unfold ivs;rw[List.getElem?_map,hs1];rfl)
           have fu:wr.frozen? ⟨b,off+q2,none⟩=false:=by
            obtain⟨cur,hc⟩:=HOy.out.obj b rfl;simp[World.frozen?,hc]
           have hlook:=lookup_int wr ix L HMYY.out u;rw[HF.out u]at hlook
           obtain⟨y,hy⟩:∃ y,F u=y:=⟨_,rfl⟩
           rw[hy]at hlook hs2;have hset:=HOy.out.set1 q2 hlt3 (.int .i64 y)
           have hiv:(ivs ((lx.take q2).map F ++ lx.drop q2)).set q2 (.int .i64 y)=ivs ((lx.take (q2+1)).map F ++ lx.drop (q2+1)):=by
            rw[← hs2];simp[ivs,List.map_set]
           rw[hiv]at hset;have HP1:=kH hset;have HP2:Hid (Since (fun g=>(Value.slice (some ⟨b,off,none⟩) n8 c8).ownBlock=some g) w9 (wr.setCell ⟨b,off+q2,none⟩ (.int .i64 y))):=kH (HSy.out.setCell (p:=⟨b,off+q2,none⟩) (.inl rfl) _);clear hs1 hs2 hlo' hcs' hy hset hiv hu hmy
           go_wp2_with fail
           go_roundg (gk - 1)
           case measure=>omega
           case rel=>exact⟨q2+1,by simp,by omega,HP1,HP2⟩
          ·have hqn:q2=n8:=by omega
           subst hqn
           have hge3:¬ ((q2:Int) < (q2:Int)):=by omega
           have HP1:Hid (RSAt E (collectM t) { R with uses:=R.uses.map F,vis:=visP F (fun j=>f j && decide (j≠k1)) R.vis } V4 wr):=kH (by
            rw[HST.out];refine HUPD.out (lx.map F) wr ?_ HSy.out;have:=HOy.out;rw[List.take_of_length_le (by rw[HN8.out];exact Nat.le_refl _),List.drop_eq_nil_of_le (by rw[HN8.out];exact Nat.le_refl _),List.append_nil]at this;rw[List.length_map,HN8.out]
            exact this)
           have HP2:Hid (AIter intK wr vi it V4.vals left'):=kH (HIT9.out.keep (HSy.out.block vi HIT9.out.map_.lt (fun h1=>HIT9.out.map_.not_own HOW.out h1)) (HSy.out.block it (by obtain⟨_,_,_,_,h1⟩:=HIT9.out.obj;exact(Array.getElem?_eq_some_iff.1 h1).1) (fun h1=>HIT9.out.not_own HOW.out h1)));have HP3:Hid (Below w.heap.size w wr):=kH (HB9.out.trans (HSy.out.toBelow HBS.out.2 (fun g hg=>by have:=(HOW.out.lt g hg).1;rw[HBS.out.1]at this;exact this)));clear hmy
           go_wp2_with fail
           go_roundg (go - 1)
           case measure=>have h9:left.length=left'.length+1:=HPM.out.length_eq;omega
           case rel=>exact⟨left',fun j=>f j && decide (j≠k1),by have h9:left.length=left'.length+1:=HPM.out.length_eq;omega,HP2,HP1,HMYY,HP3,HFF'⟩
end Go.Proofs.YtoepemlnlpamlaaGreat
