/- The law NamesFreeAt holds: for every text and every number the law returns true, and its arguments read as before. No condition. Part 40: Fre2 Fre3. -/
import Derived.Test.YtoepemlnlpamlaaGreatFreeAt39
namespace Go.Proofs.YtoepemlnlpamlaaGreat
set_option maxRecDepth 100000
set_option maxHeartbeats 4000000
open Go.RowKit
def Nm (S:List (List ByteArray)) (s:Scope):Prop:=∀ y,(S.any fun l=>l.contains y)=(findS s y).isSome
theorem Nm.push {S:List (List ByteArray)} {s:Scope} (h:Nm S s):Nm ([] :: S) ([] :: s):=fun y=>by
 rw[List.any_cons,h y];rfl
theorem Nm.add {l:List ByteArray} {S:List (List ByteArray)} {lay:Lay} {s:Scope} (h:Nm (l :: S) (lay :: s)) (x:ByteArray):Nm ((l ++ [x]) :: S) (setL lay x 0 :: s):=fun y=>by
 have hy:=h y;rw[List.any_cons,findS]at hy ⊢
 by_cases e:y=x
 ·have h1:layM (setL lay x 0) y=some 0:=by
   show lookL (setL lay x 0) y=some 0;rw[lookL_setL,if_pos e]
  have h2:(l ++ [x]).contains y=true:=by
   rw[List.contains_iff_mem];simp[e]
  rw[h1,h2];rfl
 ·have h1:layM (setL lay x 0) y=layM lay y:=by
   show lookL (setL lay x 0) y=lookL lay y;rw[lookL_setL,if_neg e]
  have h2:(l ++ [x]).contains y=l.contains y:=by
   rw[Bool.eq_iff_iff,List.contains_iff_mem,List.contains_iff_mem];simp[e]
  rw[h1,h2];exact hy
theorem hasA_contains (l:List ByteArray) (x:ByteArray):hasA l x=l.contains x:=by
 unfold hasA;rw[Bool.eq_iff_iff,List.contains_iff_mem,List.any_eq_true]
 constructor
 ·rintro⟨y,hy,h⟩
  rw[beq_iff_eq,ByteArray.toList_eq,ByteArray.toList_eq]at h;rw[← bytes_eq h];exact hy
 ·intro h
  exact⟨x,h,by simp⟩
theorem addF_eq {S:List (List ByteArray)} {s:Scope} (h:Nm S s) (x:ByteArray) (out:List ByteArray):addF s x out=if (S.any fun l=>l.contains x) || out.contains x then out else out ++ [x]:=by
 unfold addF;rw[h x,hasA_contains]
theorem addF_len (s:Scope) (x:ByteArray) (out:List ByteArray):(addF s x out).length≤out.length+1:=by
 unfold addF;split
 ·omega
 ·simp
mutual
theorem free_len:∀ (t:Tree) (S:List (List ByteArray)) (out:List ByteArray),(freeM t S out).length≤out.length+countM t
 | .node k x a e kids,S,out=>by
  rw[freeM,countM];refine Nat.le_trans (frees_len k x kids 0 _ _) ?_;split
  ·split
   ·omega
   ·simp;omega
  ·omega
theorem frees_len (k:Int) (x:ByteArray):∀ (ts:List Tree) (i:Nat) (S:List (List ByteArray)) (out:List ByteArray),(freesM k x ts i S out).length≤out.length+countsM ts
 | [],i,S,out=>by rw[freesM,countsM];omega
 | t :: ts,i,S,out=>by
  rw[freesM_cons,countsM];refine Nat.le_trans (frees_len k x ts (i+1) _ _) ?_;have:=free_len t (if k=16∧i=2 then [x] :: S else S) out;omega
end
def FreeC (B base ob ab vb:Nat) (t:Tree):Prop :=
 ∀ (S:List (List ByteArray)) (s:Scope) (p:Option Addr) (ms:List Nat) (out:List ByteArray) (A:Option Addr) (c:Nat) (w:World),
  ScAt w base p s ms→Nm S s→KidsAt w B A 0 t.kids→base≤w.heap.size→OutAt base ob out w →
  Blk w ab 91 #[.func (.func 44) #[] #[.pointer (some ⟨ob,0,none⟩)]]→Blk w vb 92 #[.func (.func 47) #[] #[.pointer (some ⟨ab,0,none⟩),.pointer (some ⟨vb,0,none⟩)]]→out.length+countM t≤1000000 →
  Calls Tryz.prog 47 #[nodeV t A c,.pointer p,.pointer (some ⟨ab,0,none⟩),.pointer (some ⟨vb,0,none⟩)] w fun e w'=>e = .returned (.tuple #[])∧OutAt base ob (freeM t S out) w'∧FX base ob (fun _=>False) w w'
theorem OutAt.blk {base ob:Nat} {out:List ByteArray} {w:World} (h:OutAt base ob out w):∃ cs,Blk w ob 41 cs:=by
 obtain⟨A,n,c,h1,-⟩:=h;exact⟨_,h1⟩
theorem OutAt.map_ {base ob:Nat} {out:List ByteArray} {w w':World} {m:Nat} (h:OutAt base ob out w) (hs:Since (fun g=>g=m) w w') (ho:∃ es ck,w.heap[m]? = some (.map es ck)):OutAt base ob out w':=by
 obtain⟨A,n,c,h1,h2⟩:=h;obtain⟨es,ck,ho⟩:=ho;refine⟨A,n,c,h1.since hs (fun e=>?_),h2.since hs (fun g hg e=>?_)⟩
 ·have:w.heap[ob]? = some (Obj.cells _ _ (0,0)):=h1
  rw[e,ho]at this
  cases this
 ·obtain⟨cur,hc⟩:=h2.obj g hg
  rw[e,ho]at hc
  cases hc
theorem ScAt.store {base:Nat} {w w':World} {b m:Nat} {lay lay2:Lay} {s:Scope} {ms:List Nat} (h:ScAt w base (some ⟨b,0,none⟩) (lay :: s) (m :: ms)) (hs:Since (fun g=>g=m) w w') (hm:AMap strK w' m (layV lay2)) (hn:m ∉ ms):ScAt w' base (some ⟨b,0,none⟩) (lay2 :: s) (m :: ms):=by
 obtain⟨b',m',p2,ms',h1,h2,h3,h4,h5,h6,h7⟩:=h;simp only[List.cons.injEq]at h2;obtain⟨rfl,rfl⟩:=h2;simp only[Option.some.injEq,Addr.mk.injEq,and_true]at h1;subst h1;obtain⟨es,ck,ho⟩:=h6.isMap
 have hcell:∀ g t cs,Blk w g t cs→g≠m:=fun g t cs hb e=>by
  have:w.heap[g]? = some (Obj.cells _ _ (0,0)):=hb;rw[e,ho]at this
  cases this
 have hrest:∀ {s:Scope} {p:Option Addr} {ms:List Nat},ScAt w base p s ms→m ∉ ms→ScAt w' base p s ms:=by
  intro s
  induction s with
  | nil=>exact fun h _=>h
  | cons x s ih =>
   rintro p ms ⟨b,m1,p',ms1,e1,e2,e3,e4,e5,e6,e7⟩ hn;subst e2;rw[List.mem_cons,not_or]at hn;exact⟨b,m1,p',ms1,e1,rfl,e3,e4,e5.since hs (hcell _ _ _ e5),e6.since hs (fun e=>hn.1 e.symm),ih e7 hn.2⟩
 exact⟨b,m,p2,ms,rfl,rfl,h3,h4,h5.since hs (hcell _ _ _ h5),hm,hrest h7 hn⟩
theorem free_node (B base ob ab vb:Nat) (hB:B≤base∧B≤ob) (k0:Int) (x0:ByteArray) (a0 z0:Int) (kids:List Tree) (hih:∀ u ∈ kids,FreeC B base ob ab vb u):FreeC B base ob ab vb (.node k0 x0 a0 z0 kids):=by
 intro S s p ms out A c w hs hnm hk hb ho hab hvb hm
 obtain⟨n,hn⟩:∃ q,kids.length=q:=⟨_,rfl⟩
 unfold nodeV
 have hfive:(Tree.node k0 x0 a0 z0 kids).kind=k0∧(Tree.node k0 x0 a0 z0 kids).text=x0∧(Tree.node k0 x0 a0 z0 kids).at_=a0∧(Tree.node k0 x0 a0 z0 kids).end_=z0∧(Tree.node k0 x0 a0 z0 kids).kids=kids:=⟨rfl,rfl,rfl,rfl,rfl⟩
 rw[hfive.1,hfive.2.1,hfive.2.2.1,hfive.2.2.2.1,hfive.2.2.2.2,hn];rw[hfive.2.2.2.2]at hk;rw[freeM,← addF_eq hnm]
 obtain⟨O1,hO1⟩:∃ q,(if k0=20 then addF s x0 out else out)=q:=⟨_,rfl⟩
 rw[hO1]
 obtain⟨FIN,hFIN⟩:∃ q,freesM k0 x0 kids 0 ([] :: S) O1=q:=⟨_,rfl⟩
 rw[hFIN]
 have hml:O1.length+countsM kids≤1000000:=by
  rw[countM]at hm;rw[← hO1];split
  ·have:=addF_len s x0 out
   omega
  ·omega
 have hnm1:n≤1000000:=by have:=counts_len kids;omega
 have HOO:=kH hO1;have HFI:=kH hFIN;have HML:=kH hml;have HS:=kH hs;have HNMM:=kH hnm;have HK:=kH hk;have HO:=kH ho;have HA:=kH hab;have HV:=kH hvb;have HN:=kH hn;have HIH:=kH hih;have HBB:Hid (B≤base∧B≤ob∧base≤w.heap.size):=kH ⟨hB.1,hB.2,hb⟩;have HM:Hid (out.length≤1000000):=kH (by omega);have c0:=hab.cell 0;have la:=hab.lt;clear hO1 hFIN hs hnm hk ho hab hvb hn hih hm hml hfive hb hB
 go_enter Tryz.func47,Tryz.ntmps47
 go_upto_if 11 with fail
 generalize hW1:w.alloc (.cells #[.int .i64 k0,.string x0,.int .i64 a0,.int .i64 z0,.slice A n c] 24)=W1
 have hb1:Below w.heap.size w W1:=by rw[← hW1];exact below_alloc _ _
 have hN1:Blk W1 w.heap.size 24 #[.int .i64 k0,.string x0,.int .i64 a0,.int .i64 z0,.slice A n c]:=by rw[← hW1];exact Blk.new w _ _
 have HB1:=kH hb1;have HN1:=kH hN1;have c1:=hN1.cell 1;have l1:=hN1.lt;have hA1:=HA.out.below hb1 HA.out.lt;have d0:=hA1.cell 0;have d1:=hA1.lt;clear hW1 hb1 hN1 c0 la
 go_cut [] (fun wx=>Hid (OutAt base ob O1 wx)∧Hid (FX base ob (fun _=>False) W1 wx))
 case first =>
  by_cases h20:k0=20
  ·subst h20
   have hadd:=add_any base ob out s p ms x0 W1 (ScAt.below HB1.out HS.out) (HO.out.below HB1.out) (Nat.le_trans HBB.out.2.2 HB1.out.size) HM.out;have HADD:=kH hadd;clear hadd hA1
   go_wp2_with fail
   refine HADD.out.mono ?_;rintro e2 w2 ⟨rfl,h2,h3⟩;have H2:Hid (OutAt base ob O1 w2):=kH (by rw[← HOO.out,if_pos (by first | trivial | rfl)];exact h2);have H3:=kH h3;clear h2 h3
   go_wp2_with fail
   go_meet
   exact⟨H2,H3⟩
  ·have hkf:(k0 == 20)=false:=by simp[h20]
   have H2:Hid (OutAt base ob O1 W1):=kH (by rw[← HOO.out,if_neg h20];exact HO.out.below HB1.out);clear h20 hA1
   go_wp2_with fail
   go_meet
   exact⟨H2,kH (FX.refl _ _ _ _)⟩
 case rest =>
  obtain⟨HO2,HX2⟩:=hcut;obtain⟨cs1,hob1⟩:=(HO.out.below HB1.out).blk;have hsc:=FX.sc HX2.out hob1 (fun _ _ _ _ h=>h) (ScAt.below HB1.out HS.out) (fun _ _ h=>h);have hNc:=HX2.out.blk HN1.out (by decide) (HN1.out.ne_of hob1 (by decide)) (fun h=>h);have hAc:=HX2.out.blk hA1 (by decide) (hA1.ne_of hob1 (by decide)) (fun h=>h);have hV1:=HV.out.below HB1.out HV.out.lt;have hVc:=HX2.out.blk hV1 (by decide) (hV1.ne_of hob1 (by decide)) (fun h=>h);have HSC:=kH hsc;have HNC:=kH hNc;have HAC:=kH hAc;have HVC:=kH hVc;have HZ:Hid (w.heap.size≤wc.heap.size):=kH (Nat.le_trans HB1.out.size HX2.out.size);clear hsc hNc hAc hVc hV1 hA1 hob1 d0 d1 c1 l1
  go_wp2_with fail
  refine(inner_any p wc).mono ?_;rintro e3 w3 ⟨b,m,rfl,hbb,hmm,hblk,ham,hbel⟩;have hbsz:base≤wc.heap.size:=Nat.le_trans HBB.out.2.2 HZ.out;have HS3:Hid (ScAt w3 base (some ⟨b,0,none⟩) ([] :: s) (m :: ms)):=kH ⟨b,m,p,ms,rfl,rfl,Nat.le_trans hbsz hbb,Nat.le_trans hbsz hmm,hblk,ham,HSC.out.below hbel⟩
  have HMN:Hid (m ∉ ms):=kH (fun h=>by
   have h1:∀ {s:Scope} {p:Option Addr} {ms:List Nat},ScAt wc base p s ms→∀ m ∈ ms,m < wc.heap.size:=by
    intro s
    induction s with
    | nil=>intro p ms h m hm;rw[h.2]at hm;cases hm
    | cons x s ih =>
     rintro p ms ⟨b,m1,p',ms1,e1,e2,e3,e4,e5,e6,e7⟩ m hm;rw[e2]at hm
     rcases List.mem_cons.1 hm with rfl | hm
     ·exact e6.lt
     ·exact ih e7 m hm
   have:=h1 HSC.out m h
   omega)
  have HO3:=kH (HO2.out.below hbel);have HN3:=kH (HNC.out.below hbel HNC.out.lt);have HA3:=kH (HAC.out.below hbel HAC.out.lt);have HV3:=kH (HVC.out.below hbel HVC.out.lt);have HX3:Hid (FX base ob (fun _=>False) w w3):=kH (((FX.of_below HB1.out).trans HX2.out (fun g hg=>.inl hg)).trans (FX.of_below (M:=fun _=>False) hbel) (fun g hg=>.inl hg));have HMZ:Hid (w.heap.size≤m∧w.heap.size≤w3.heap.size∧base≤w3.heap.size∧base≤m):=kH ⟨Nat.le_trans HZ.out hmm,Nat.le_trans HZ.out hbel.size,Nat.le_trans hbsz hbel.size,Nat.le_trans hbsz hmm⟩;have n4:=HN3.out.cell 4;have ln:=HN3.out.lt;clear hblk ham hbel hbb hmm hbsz
  go_wp2_with fail
  clear n4 ln
  go_loopg [22] n (fun gk s22 wr => ∃ (j:Nat) (l:List ByteArray) (lay:Lay) (out':List ByteArray),s22 = .int .i64 (j:Int)∧j+gk=n∧Hid (ScAt wr base (some ⟨b,0,none⟩) (lay :: s) (m :: ms))∧Hid (Nm (l :: S) (lay :: s))∧Hid (OutAt base ob out' wr)∧Hid (FX base ob (fun g=>g=m) w3 wr) ∧
   Hid (Blk wr w.heap.size 24 #[.int .i64 k0,.string x0,.int .i64 a0,.int .i64 z0,.slice A n c])∧Hid (Blk wr ab 91 #[.func (.func 44) #[] #[.pointer (some ⟨ob,0,none⟩)]])∧Hid (Blk wr vb 92 #[.func (.func 47) #[] #[.pointer (some ⟨ab,0,none⟩),.pointer (some ⟨vb,0,none⟩)]]) ∧
   Hid (freesM k0 x0 (kids.drop j) j (l :: S) out'=FIN)∧Hid (out'.length+countsM (kids.drop j)≤1000000))
  case atStart=>exact⟨0,[],[],O1,rfl,by omega,HS3,kH HNMM.out.push,HO3,kH (FX.refl _ _ _ _),HN3,HA3,HV3,HFI,HML⟩
  case round =>
   obtain⟨j,l,lay,out',rfl,hj,HSR,HNM,HOR,HXR,HNR,HAR,HVR,HFIN,HLEN⟩:=hrel
   by_cases hlt:j < n
   ·have hlt':(j:Int) < (n:Int):=by omega
    have hw:IntKind.i64.wrap ((j:Int)+1)=(j:Int)+1:=IntWalk.i64_in _ (by omega)
    obtain⟨u,hu⟩:∃ u,kids[j]? = some u:=⟨_,List.getElem?_eq_getElem (by rw[HN.out];exact hlt)⟩
    have HDR:Hid (kids.drop j=u :: kids.drop (j+1)):=kH (by
     obtain⟨h1,h2⟩:=List.getElem?_eq_some_iff.1 hu
     rw[List.drop_eq_getElem_cons h1,h2])
    have hbW:Below B w wr:=(HX3.out.low (Nat.le_trans HBB.out.1 HBB.out.2.2) HBB.out.2.1 HBB.out.1 (fun _ h=>h.elim)).trans (HXR.out.low (Nat.le_trans HBB.out.1 HMZ.out.2.2.1) HBB.out.2.1 HBB.out.1 (fun g hg=>by rw[hg];exact Nat.le_trans HBB.out.1 HMZ.out.2.2.2));have hkr:KidsAt wr B A 0 kids:=KidsAt.below hbW (Nat.le_refl _) _ _ _ HK.out;obtain⟨vals,⟨bk,off,hA,hbl,hcs⟩,hT⟩:=hkr.get j u hu;obtain⟨A',c',hvals,hK'⟩:=hT.five;subst hA;subst hvals;have hsz:w3.heap.size≤wr.heap.size:=HXR.out.size
    have hbb:bk < wr.heap.size:=by have:=HBB.out;have:=HMZ.out;omega
    obtain⟨uk,huk⟩:∃ q,u.kind=q:=⟨_,rfl⟩
    obtain⟨ux,hux⟩:∃ q,u.text=q:=⟨_,rfl⟩
    obtain⟨ua,hua⟩:∃ q,u.at_=q:=⟨_,rfl⟩
    obtain⟨uz,huz⟩:∃ q,u.end_=q:=⟨_,rfl⟩
    obtain⟨un,hun⟩:∃ q,u.kids.length=q:=⟨_,rfl⟩
    have hcs':∀ q v,[Value.int .i64 uk,.string ux,.int .i64 ua,.int .i64 uz,.slice A' un c'][q]? = some v→wr.cell? ⟨bk,off+j * 5+q,none⟩=some v:=fun q v hq=>by
     have:=hcs q v (by rw[huk,hux,hua,huz,hun];exact hq);rw[show off+(0+j) * 5+q=off+j * 5+q by omega]at this;exact this
    have t0:wr.cell? ⟨bk,off+j * 5,none⟩=some (.int .i64 uk):=by simpa using hcs' 0 _ rfl
    have t1:wr.cell? ⟨bk,off+j * 5+1,none⟩=some (.string ux):=by simpa using hcs' 1 _ rfl
    have t2:wr.cell? ⟨bk,off+j * 5+2,none⟩=some (.int .i64 ua):=by simpa using hcs' 2 _ rfl
    have t3:wr.cell? ⟨bk,off+j * 5+3,none⟩=some (.int .i64 uz):=by simpa using hcs' 3 _ rfl
    have t4:wr.cell? ⟨bk,off+j * 5+4,none⟩=some (.slice A' un c'):=by simpa using hcs' 4 _ rfl
    have hmem:u ∈ kids:=List.mem_of_getElem? hu;have HUK:Hid (u.kind=uk∧u.text=ux):=kH ⟨huk,hux⟩
    obtain⟨X,hX⟩:∃ X,wr.alloc (.cells #[.int .i64 uk,.string ux,.int .i64 ua,.int .i64 uz,.slice A' un c'] 24)=X:=⟨_,rfl⟩
    have hbX:Below wr.heap.size wr X:=by rw[← hX];exact below_alloc _ _
    have hUX:Blk X wr.heap.size 24 #[.int .i64 uk,.string ux,.int .i64 ua,.int .i64 uz,.slice A' un c']:=by rw[← hX];exact Blk.new wr _ _
    have HNX:=kH (HNR.out.below hbX HNR.out.lt);have HAX:=kH (HAR.out.below hbX HAR.out.lt);have HVX:=kH (HVR.out.below hbX HVR.out.lt);have HSX:=kH (HSR.out.below hbX);have HOX:=kH (HOR.out.below hbX);have HXX:Hid (FX base ob (fun g=>g=m) w3 X):=kH (HXR.out.trans (FX.of_below (M:=fun _=>False) hbX) (fun g hg=>hg.elim));have HUX:=kH hUX;have HKX:Hid (KidsAt X B A' 0 u.kids):=kH (KidsAt.below hbX (by have:=HBB.out;have:=HMZ.out;omega) _ _ _ hK');have HXZ:Hid (base≤X.heap.size∧wr.heap.size < X.heap.size):=kH ⟨by have:=HMZ.out;have:=hbX.size;omega,hUX.lt⟩;have HUI:Hid (nodeV u A' c' = .agg #[.int .i64 uk,.string ux,.int .i64 ua,.int .i64 uz,.slice A' un c']):=kH (by unfold nodeV;rw[huk,hux,hua,huz,hun])
    have HLU:Hid (out'.length+countM u≤1000000):=kH (by
     have h1:=HLEN.out;rw[HDR.out,countsM]at h1
     omega)
    have HME:=kH hmem;have q0:=HNX.out.cell 0;have q1:=HNX.out.cell 1;have lq:=HNX.out.lt;have y0:=hUX.cell 0;have y1:=hUX.cell 1;have y2:=hUX.cell 2;have y3:=hUX.cell 3;have y4:=hUX.cell 4;have ly:=hUX.lt;have v0:=HVX.out.cell 0;have lv:=HVX.out.lt;clear hcs hcs' hT hK' hkr hbW hu hmem huk hux hua huz hun hUX hbX
    by_cases h16:k0=16∧j=2
    ·obtain⟨SI,hSI⟩:∃ SI,[x0] ::(l :: S)=SI:=⟨_,rfl⟩
     have HSI:Hid ((if k0=16∧j=2 then [x0] ::(l :: S) else l :: S)=SI):=kH (by rw[if_pos h16];exact hSI)
     have hg1:(k0 == 16)=true:=by simp[h16.1]
     have hg2:((j:Int) == 2)=true:=by simp[h16.2]
     clear h16
     go_wp2_with (rw[hX])
     refine(inner_any (some ⟨b,0,none⟩) X).mono ?_;rintro e5 w5 ⟨b2,m2,rfl,hbb2,hmm2,hblk2,ham2,hbel2⟩;have hd1:=hblk2.cell 1;have hdl:=hblk2.lt;have hN5:=HNX.out.below hbel2 HNX.out.lt;have x1:=hN5.cell 1;have lx:=hN5.lt;obtain⟨w6,hrun,hm6,hg6,hz6⟩:=run_mapUpdate_am (P:=Tryz.prog) (KK:=strK) (t:=70) (kt:=9) (et:=3) Tryz.underlying70 Tryz.underlying9 (ham2.drew) x0 (.int .i64 0);change (Instr.mapUpdate 70 (.map (some m2)) (Value.string x0) (.int .i64 0)).run Tryz.prog w5.drew=_ at hrun;have hm6':AMap strK w6 m2 (layV [(x0,0)]):=hm6;have hs6:Since (fun g=>g=m2) w5 w6:=((Since.refl (fun g=>g=m2) w5).drew).grown hg6 (fun k hk=>by cases hk;exact .inl rfl);have hb6:Below X.heap.size X w6:=hbel2.trans (hs6.toBelow hbel2.size (fun g hg=>by rw[hg];exact hmm2));have hbase:=HXZ.out.1
     have hS6:ScAt w6 base (some ⟨b2,0,none⟩) ([(x0,0)] ::(lay :: s)) (m2 ::(m :: ms)):=by
      refine ScAt.store (lay:=[]) ⟨b2,m2,some ⟨b,0,none⟩,m :: ms,rfl,rfl,Nat.le_trans hbase hbb2,Nat.le_trans hbase hmm2,hblk2,ham2,HSX.out.below hbel2⟩ hs6 hm6' (fun h=>?_)
      have h1:∀ {s:Scope} {p:Option Addr} {ms:List Nat},ScAt X base p s ms→∀ m ∈ ms,m < X.heap.size:=by
       intro s
       induction s with
       | nil=>intro p ms h m hm;rw[h.2]at hm;cases hm
       | cons x s ih =>
        rintro p ms ⟨b,m1,p',ms1,e1,e2,e3,e4,e5,e6,e7⟩ m hm;rw[e2]at hm
        rcases List.mem_cons.1 hm with rfl | hm
        ·exact e6.lt
        ·exact ih e7 m hm
      have:=h1 HSX.out m2 h;omega
     have HSB:Hid (ScAt w6 base (some ⟨b,0,none⟩) (lay :: s) (m :: ms)):=kH (HSX.out.below hb6);have HUB:=kH (HUX.out.below hb6 HUX.out.lt);have HNB:=kH (HNX.out.below hb6 HNX.out.lt);have HAB:=kH (HAX.out.below hb6 HAX.out.lt);have HVB:=kH (HVX.out.below hb6 HVX.out.lt);have HOB:=kH (HOX.out.below hb6);have HXB:Hid (FX base ob (fun g=>g=m) w3 w6):=kH (HXX.out.trans (FX.of_below (M:=fun _=>False) hb6) (fun g hg=>hg.elim));have hcall:=HIH.out u HME.out SI ([(x0,0)] ::(lay :: s)) (some ⟨b2,0,none⟩) (m2 ::(m :: ms)) out' A' c' w6 hS6 (by rw[← hSI];exact HNM.out.push.add x0) (KidsAt.below hb6 (by have:=HBB.out;have:=HXZ.out;omega) _ _ _ HKX.out) (Nat.le_trans hbase hb6.size) HOB.out HAB.out HVB.out HLU.out;rw[HUI.out]at hcall;have HC:=kH hcall;have z0:=HUB.out.cell 0;have z1:=HUB.out.cell 1;have z2:=HUB.out.cell 2;have z3:=HUB.out.cell 3;have z4:=HUB.out.cell 4;have lz:=HUB.out.lt;have g0:=HVB.out.cell 0;have lg:=HVB.out.lt;clear hcall hS6 hm6 hm6' hg6 hz6 hs6 hb6 hblk2 ham2 hbel2 hbb2 hmm2 hN5 hX hSI y0 y1 y2 y3 y4 ly v0 lv q0 q1 lq t0 t1 t2 t3 t4 hbase
     go_wp2_with fail
     refine wp_region_HS (fun w'=>w'.cell? ⟨b2,1,none⟩=some (.map (some m2))∧w'.cell? ⟨w.heap.size,1,none⟩=some (.string x0)) [6] [true,true,true,true,true,true,false] (by kernel_rfl) (by kernel_rfl) rfl (by kernel_rfl) ?_
     have hS0:w5.drew.cell? ⟨b2,1,none⟩=some (.map (some m2))∧w5.drew.cell? ⟨w.heap.size,1,none⟩=some (.string x0):=⟨hd1,x1⟩
     iterate 6(refine wpHS_soft rfl hS0 (by intro w' hSw;obtain⟨hs1,hs2⟩:=hSw;go_simp;rfl) ?_;simp only[Act.put,sA,sZ,sC])
     refine wpHS_skip (w':=w6) rfl (by simp[execOp,Act.eval,hrun,Result.andThen]) (by simp) ?_;refine wpHS_nil ?_;simp only[Act.put];clear hS0 hd1 hdl x1 lx hrun
     go_wp2_with fail
     refine HC.out.mono ?_;clear z0 z1 z2 z3 z4 lz g0 lg HC;rintro e7 w7 ⟨rfl,h7,k7⟩;obtain⟨csB,hobB⟩:=HOB.out.blk;have hs7:=FX.sc k7 hobB (fun _ _ _ _ h=>h) HSB.out (fun _ _ h=>h);have hu7:=k7.blk HUB.out (by decide) (HUB.out.ne_of hobB (by decide)) (fun h=>h);have hn7:=k7.blk HNB.out (by decide) (HNB.out.ne_of hobB (by decide)) (fun h=>h);have ha7:=k7.blk HAB.out (by decide) (HAB.out.ne_of hobB (by decide)) (fun h=>h);have hv7:=k7.blk HVB.out (by decide) (HVB.out.ne_of hobB (by decide)) (fun h=>h);have hx7:=HXB.out.trans k7 (fun g hg=>hg.elim);have u0:=hu7.cell 0;have u1:=hu7.cell 1;have lu:=hu7.lt;have HO7:=kH h7;have HS7:=kH hs7;have HN7:=kH hn7;have HA7:=kH ha7;have HV7:=kH hv7;have HX7:=kH hx7
     by_cases h12:uk=12
     ·subst h12
      obtain⟨b',m',p2,ms2,hb',hm',-,-,hsb,hsm,-⟩:=hs7;simp only[List.cons.injEq]at hm';obtain⟨rfl,rfl⟩:=hm';simp only[Option.some.injEq,Addr.mk.injEq,and_true]at hb';subst hb';have d1:=hsb.cell 1;have ld:=hsb.lt;obtain⟨w8,hrun,hm8,hg8,hz8⟩:=run_mapUpdate_am (P:=Tryz.prog) (KK:=strK) (t:=70) (kt:=9) (et:=3) Tryz.underlying70 Tryz.underlying9 (hsm.drew) ux (.int .i64 0);change (Instr.mapUpdate 70 (.map (some m)) (Value.string ux) (.int .i64 0)).run Tryz.prog w7.drew=_ at hrun;rw[setM_lay]at hm8;have hs8:Since (fun g=>g=m) w7 w8:=((Since.refl (fun g=>g=m) w7).drew).grown hg8 (fun k hk=>by cases hk;exact .inl rfl);have HP1:Hid (ScAt w8 base (some ⟨b,0,none⟩) (setL lay ux 0 :: s) (m :: ms)):=kH (ScAt.store HS7.out hs8 hm8 HMN.out);have HP2:Hid (OutAt base ob (freeM u SI out') w8):=kH (HO7.out.map_ hs8 hsm.isMap);have HP3:Hid (FX base ob (fun g=>g=m) w3 w8):=kH (HX7.out.trans (FX.map_ hs8) (fun g hg=>.inl hg))
      have hbm:∀ g t cs,Blk w7 g t cs→g≠m:=fun g t cs hb e=>by
       obtain⟨es,ck,ho⟩:=hsm.isMap;have:w7.heap[g]? = some (Obj.cells _ _ (0,0)):=hb;rw[e,ho]at this
       cases this
      have HP4:=kH (HN7.out.since hs8 (hbm _ _ _ HN7.out));have HP5:=kH (HA7.out.since hs8 (hbm _ _ _ HA7.out));have HP6:=kH (HV7.out.since hs8 (hbm _ _ _ HV7.out));clear hsb hsm hm8 hg8 hz8 hs8 hbm h7 hn7 ha7 hv7 hx7 k7
      go_wp2_with fail
      refine wp_region_HS (fun w'=>w'.cell? ⟨b,1,none⟩=some (.map (some m))∧w'.cell? ⟨wr.heap.size,1,none⟩=some (.string ux)) [6] [true,true,true,true,true,true,false] (by kernel_rfl) (by kernel_rfl) rfl (by kernel_rfl) ?_
      have hS0:w7.drew.cell? ⟨b,1,none⟩=some (.map (some m))∧w7.drew.cell? ⟨wr.heap.size,1,none⟩=some (.string ux):=⟨d1,u1⟩
      iterate 6(refine wpHS_soft rfl hS0 (by intro w' hSw;obtain⟨hs1,hs2⟩:=hSw;go_simp;rfl) ?_;simp only[Act.put,sA,sZ,sC])
      refine wpHS_skip (w':=w8) rfl (by simp[execOp,Act.eval,hrun,Result.andThen]) (by simp) ?_;refine wpHS_nil ?_;simp only[Act.put];clear hS0 d1 u0 u1 lu hrun hu7
      go_wp2_with fail
      go_roundg (gk - 1)
      case measure=>omega
      case rel =>
       refine⟨j+1,l ++ [ux],setL lay ux 0,freeM u SI out',by simp,by omega,HP1,kH (HNM.out.add ux),HP2,HP3,HP4,HP5,HP6,kH ?_,kH ?_⟩
       ·rw[← HFIN.out,HDR.out,freesM_cons,← HSI.out]
        congr 1
        unfold addN;rw[if_pos HUK.out.1,HUK.out.2]
       ·have h1:=HLEN.out
        rw[HDR.out,countsM]at h1;have h2:=free_len u SI out';omega
     ·have hkf:(uk == 12)=false:=by simp[h12]
      have HK12:=kH h12;clear h7 hs7 hn7 ha7 hv7 hx7 k7 hu7 h12
      go_wp2_with fail
      go_roundg (gk - 1)
      case measure=>omega
      case rel =>
       refine⟨j+1,l,lay,freeM u SI out',by simp,by omega,HS7,HNM,HO7,HX7,HN7,HA7,HV7,kH ?_,kH ?_⟩
       ·rw[← HFIN.out,HDR.out,freesM_cons,← HSI.out]
        congr 1
        unfold addN;rw[if_neg (by rw[HUK.out.1];exact HK12.out)]
       ·have h1:=HLEN.out
        rw[HDR.out,countsM]at h1;have h2:=free_len u SI out';omega
    ·obtain⟨SI,hSI⟩:∃ SI,l :: S=SI:=⟨_,rfl⟩
     have HSI:Hid ((if k0=16∧j=2 then [x0] ::(l :: S) else l :: S)=SI):=kH (by rw[if_neg h16];exact hSI);have HSB:=HSX;have HUB:=HUX;have HNB:=HNX;have HAB:=HAX;have HVB:=HVX;have HOB:=HOX;have HXB:=HXX;have hcall:=HIH.out u HME.out SI (lay :: s) (some ⟨b,0,none⟩) (m :: ms) out' A' c' X HSX.out (by rw[← hSI];exact HNM.out) HKX.out HXZ.out.1 HOX.out HAX.out HVX.out HLU.out;rw[HUI.out]at hcall;have HC:=kH hcall
     have hg16:(k0 == 16)=false∨((k0 == 16)=true∧((j:Int) == 2)=false):=by
      by_cases h1:k0=16
      ·right
       refine⟨by simp[h1],?_⟩
       have:j≠2:=fun e=>h16 ⟨h1,e⟩
       simp;omega
      ·left
       simp[h1]
     clear hcall hSI h16
     rcases hg16 with hg1 | ⟨hg1,hg2⟩
     ·go_wp2_with (rw[hX])
      refine HC.out.mono ?_;clear y0 y1 y2 y3 y4 ly v0 lv q0 q1 lq t0 t1 t2 t3 t4 HC hX;rintro e7 w7 ⟨rfl,h7,k7⟩;obtain⟨csB,hobB⟩:=HOB.out.blk;have hs7:=FX.sc k7 hobB (fun _ _ _ _ h=>h) HSB.out (fun _ _ h=>h);have hu7:=k7.blk HUB.out (by decide) (HUB.out.ne_of hobB (by decide)) (fun h=>h);have hn7:=k7.blk HNB.out (by decide) (HNB.out.ne_of hobB (by decide)) (fun h=>h);have ha7:=k7.blk HAB.out (by decide) (HAB.out.ne_of hobB (by decide)) (fun h=>h);have hv7:=k7.blk HVB.out (by decide) (HVB.out.ne_of hobB (by decide)) (fun h=>h);have hx7:=HXB.out.trans k7 (fun g hg=>hg.elim);have u0:=hu7.cell 0;have u1:=hu7.cell 1;have lu:=hu7.lt;have HO7:=kH h7;have HS7:=kH hs7;have HN7:=kH hn7;have HA7:=kH ha7;have HV7:=kH hv7;have HX7:=kH hx7
      by_cases h12:uk=12
      ·subst h12
       obtain⟨b',m',p2,ms2,hb',hm',-,-,hsb,hsm,-⟩:=hs7;simp only[List.cons.injEq]at hm';obtain⟨rfl,rfl⟩:=hm';simp only[Option.some.injEq,Addr.mk.injEq,and_true]at hb';subst hb';have d1:=hsb.cell 1;have ld:=hsb.lt;obtain⟨w8,hrun,hm8,hg8,hz8⟩:=run_mapUpdate_am (P:=Tryz.prog) (KK:=strK) (t:=70) (kt:=9) (et:=3) Tryz.underlying70 Tryz.underlying9 (hsm.drew) ux (.int .i64 0);change (Instr.mapUpdate 70 (.map (some m)) (Value.string ux) (.int .i64 0)).run Tryz.prog w7.drew=_ at hrun;rw[setM_lay]at hm8;have hs8:Since (fun g=>g=m) w7 w8:=((Since.refl (fun g=>g=m) w7).drew).grown hg8 (fun k hk=>by cases hk;exact .inl rfl);have HP1:Hid (ScAt w8 base (some ⟨b,0,none⟩) (setL lay ux 0 :: s) (m :: ms)):=kH (ScAt.store HS7.out hs8 hm8 HMN.out);have HP2:Hid (OutAt base ob (freeM u SI out') w8):=kH (HO7.out.map_ hs8 hsm.isMap);have HP3:Hid (FX base ob (fun g=>g=m) w3 w8):=kH (HX7.out.trans (FX.map_ hs8) (fun g hg=>.inl hg))
       have hbm:∀ g t cs,Blk w7 g t cs→g≠m:=fun g t cs hb e=>by
        obtain⟨es,ck,ho⟩:=hsm.isMap;have:w7.heap[g]? = some (Obj.cells _ _ (0,0)):=hb;rw[e,ho]at this
        cases this
       have HP4:=kH (HN7.out.since hs8 (hbm _ _ _ HN7.out));have HP5:=kH (HA7.out.since hs8 (hbm _ _ _ HA7.out));have HP6:=kH (HV7.out.since hs8 (hbm _ _ _ HV7.out));clear hsb hsm hm8 hg8 hz8 hs8 hbm h7 hn7 ha7 hv7 hx7 k7
       go_wp2_with fail
       refine wp_region_HS (fun w'=>w'.cell? ⟨b,1,none⟩=some (.map (some m))∧w'.cell? ⟨wr.heap.size,1,none⟩=some (.string ux)) [6] [true,true,true,true,true,true,false] (by kernel_rfl) (by kernel_rfl) rfl (by kernel_rfl) ?_
       have hS0:w7.drew.cell? ⟨b,1,none⟩=some (.map (some m))∧w7.drew.cell? ⟨wr.heap.size,1,none⟩=some (.string ux):=⟨d1,u1⟩
       iterate 6(refine wpHS_soft rfl hS0 (by intro w' hSw;obtain⟨hs1,hs2⟩:=hSw;go_simp;rfl) ?_;simp only[Act.put,sA,sZ,sC])
       refine wpHS_skip (w':=w8) rfl (by simp[execOp,Act.eval,hrun,Result.andThen]) (by simp) ?_;refine wpHS_nil ?_;simp only[Act.put];clear hS0 d1 u0 u1 lu hrun hu7
       go_wp2_with fail
       go_roundg (gk - 1)
       case measure=>omega
       case rel =>
        refine⟨j+1,l ++ [ux],setL lay ux 0,freeM u SI out',by simp,by omega,HP1,kH (HNM.out.add ux),HP2,HP3,HP4,HP5,HP6,kH ?_,kH ?_⟩
        ·rw[← HFIN.out,HDR.out,freesM_cons,← HSI.out]
         congr 1
         unfold addN;rw[if_pos HUK.out.1,HUK.out.2]
        ·have h1:=HLEN.out
         rw[HDR.out,countsM]at h1;have h2:=free_len u SI out';omega
      ·have hkf:(uk == 12)=false:=by simp[h12]
       have HK12:=kH h12;clear h7 hs7 hn7 ha7 hv7 hx7 k7 hu7 h12
       go_wp2_with fail
       go_roundg (gk - 1)
       case measure=>omega
       case rel =>
        refine⟨j+1,l,lay,freeM u SI out',by simp,by omega,HS7,HNM,HO7,HX7,HN7,HA7,HV7,kH ?_,kH ?_⟩
        ·rw[← HFIN.out,HDR.out,freesM_cons,← HSI.out]
         congr 1
         unfold addN;rw[if_neg (by rw[HUK.out.1];exact HK12.out)]
        ·have h1:=HLEN.out
         rw[HDR.out,countsM]at h1;have h2:=free_len u SI out';omega
     ·go_wp2_with (rw[hX])
      refine HC.out.mono ?_;clear y0 y1 y2 y3 y4 ly v0 lv q0 q1 lq t0 t1 t2 t3 t4 HC hX;rintro e7 w7 ⟨rfl,h7,k7⟩;obtain⟨csB,hobB⟩:=HOB.out.blk;have hs7:=FX.sc k7 hobB (fun _ _ _ _ h=>h) HSB.out (fun _ _ h=>h);have hu7:=k7.blk HUB.out (by decide) (HUB.out.ne_of hobB (by decide)) (fun h=>h);have hn7:=k7.blk HNB.out (by decide) (HNB.out.ne_of hobB (by decide)) (fun h=>h);have ha7:=k7.blk HAB.out (by decide) (HAB.out.ne_of hobB (by decide)) (fun h=>h);have hv7:=k7.blk HVB.out (by decide) (HVB.out.ne_of hobB (by decide)) (fun h=>h);have hx7:=HXB.out.trans k7 (fun g hg=>hg.elim);have u0:=hu7.cell 0;have u1:=hu7.cell 1;have lu:=hu7.lt;have HO7:=kH h7;have HS7:=kH hs7;have HN7:=kH hn7;have HA7:=kH ha7;have HV7:=kH hv7;have HX7:=kH hx7
      by_cases h12:uk=12
      ·subst h12
       obtain⟨b',m',p2,ms2,hb',hm',-,-,hsb,hsm,-⟩:=hs7;simp only[List.cons.injEq]at hm';obtain⟨rfl,rfl⟩:=hm';simp only[Option.some.injEq,Addr.mk.injEq,and_true]at hb';subst hb';have d1:=hsb.cell 1;have ld:=hsb.lt;obtain⟨w8,hrun,hm8,hg8,hz8⟩:=run_mapUpdate_am (P:=Tryz.prog) (KK:=strK) (t:=70) (kt:=9) (et:=3) Tryz.underlying70 Tryz.underlying9 (hsm.drew) ux (.int .i64 0);change (Instr.mapUpdate 70 (.map (some m)) (Value.string ux) (.int .i64 0)).run Tryz.prog w7.drew=_ at hrun;rw[setM_lay]at hm8;have hs8:Since (fun g=>g=m) w7 w8:=((Since.refl (fun g=>g=m) w7).drew).grown hg8 (fun k hk=>by cases hk;exact .inl rfl);have HP1:Hid (ScAt w8 base (some ⟨b,0,none⟩) (setL lay ux 0 :: s) (m :: ms)):=kH (ScAt.store HS7.out hs8 hm8 HMN.out);have HP2:Hid (OutAt base ob (freeM u SI out') w8):=kH (HO7.out.map_ hs8 hsm.isMap);have HP3:Hid (FX base ob (fun g=>g=m) w3 w8):=kH (HX7.out.trans (FX.map_ hs8) (fun g hg=>.inl hg))
       have hbm:∀ g t cs,Blk w7 g t cs→g≠m:=fun g t cs hb e=>by
        obtain⟨es,ck,ho⟩:=hsm.isMap;have:w7.heap[g]? = some (Obj.cells _ _ (0,0)):=hb;rw[e,ho]at this
        cases this
       have HP4:=kH (HN7.out.since hs8 (hbm _ _ _ HN7.out));have HP5:=kH (HA7.out.since hs8 (hbm _ _ _ HA7.out));have HP6:=kH (HV7.out.since hs8 (hbm _ _ _ HV7.out));clear hsb hsm hm8 hg8 hz8 hs8 hbm h7 hn7 ha7 hv7 hx7 k7
       go_wp2_with fail
       refine wp_region_HS (fun w'=>w'.cell? ⟨b,1,none⟩=some (.map (some m))∧w'.cell? ⟨wr.heap.size,1,none⟩=some (.string ux)) [6] [true,true,true,true,true,true,false] (by kernel_rfl) (by kernel_rfl) rfl (by kernel_rfl) ?_
       have hS0:w7.drew.cell? ⟨b,1,none⟩=some (.map (some m))∧w7.drew.cell? ⟨wr.heap.size,1,none⟩=some (.string ux):=⟨d1,u1⟩
       iterate 6(refine wpHS_soft rfl hS0 (by intro w' hSw;obtain⟨hs1,hs2⟩:=hSw;go_simp;rfl) ?_;simp only[Act.put,sA,sZ,sC])
       refine wpHS_skip (w':=w8) rfl (by simp[execOp,Act.eval,hrun,Result.andThen]) (by simp) ?_;refine wpHS_nil ?_;simp only[Act.put];clear hS0 d1 u0 u1 lu hrun hu7
       go_wp2_with fail
       go_roundg (gk - 1)
       case measure=>omega
       case rel =>
        refine⟨j+1,l ++ [ux],setL lay ux 0,freeM u SI out',by simp,by omega,HP1,kH (HNM.out.add ux),HP2,HP3,HP4,HP5,HP6,kH ?_,kH ?_⟩
        ·rw[← HFIN.out,HDR.out,freesM_cons,← HSI.out]
         congr 1
         unfold addN;rw[if_pos HUK.out.1,HUK.out.2]
        ·have h1:=HLEN.out
         rw[HDR.out,countsM]at h1;have h2:=free_len u SI out';omega
      ·have hkf:(uk == 12)=false:=by simp[h12]
       have HK12:=kH h12;clear h7 hs7 hn7 ha7 hv7 hx7 k7 hu7 h12
       go_wp2_with fail
       go_roundg (gk - 1)
       case measure=>omega
       case rel =>
        refine⟨j+1,l,lay,freeM u SI out',by simp,by omega,HS7,HNM,HO7,HX7,HN7,HA7,HV7,kH ?_,kH ?_⟩
        ·rw[← HFIN.out,HDR.out,freesM_cons,← HSI.out]
         congr 1
         unfold addN;rw[if_neg (by rw[HUK.out.1];exact HK12.out)]
        ·have h1:=HLEN.out
         rw[HDR.out,countsM]at h1;have h2:=free_len u SI out';omega
   ·have hjn:j=n:=by omega
    subst hjn
    have hge:¬ ((j:Int) < (j:Int)):=by omega
    have HE:Hid (OutAt base ob FIN wr∧FX base ob (fun _=>False) w wr):=kH ⟨by
     have h1:=HFIN.out;rw[List.drop_eq_nil_of_le (by rw[HN.out];exact Nat.le_refl _),freesM]at h1;rw[← h1]
     exact HOR.out,HX3.out.trans HXR.out (fun g hg=>.inr (by rw[hg];exact HMZ.out.1))⟩
    go_wp2_with fail
    go_end0
    exact⟨rfl,HE.out.1,HE.out.2⟩
theorem free_n (B base ob ab vb:Nat) (hB:B≤base∧B≤ob):∀ (n:Nat) (t:Tree),countM t≤n→FreeC B base ob ab vb t
 | 0,t,h=>by
  have:=countM_one t;omega
 | n+1,.node k x a e kids,h=>free_node B base ob ab vb hB k x a e kids fun c hc=>free_n B base ob ab vb hB n c (by
  have:=counts_mem hc;rw[countM]at h
  omega)
end Go.Proofs.YtoepemlnlpamlaaGreat
namespace Go.Proofs.YtoepemlnlpamlaaGreat
set_option maxRecDepth 100000
set_option maxHeartbeats 4000000
open Go.RowKit
theorem Free_any (t:Tree) (A:Option Addr) (c:Nat) (w:World) (hN:countM t≤1000000) (hk:KidsAt w w.heap.size A 0 t.kids) :
 Calls Tryz.prog 20 #[nodeV t A c] w fun e w' => ∃ v,e = .returned v∧OwnS w' w.heap.size 9 1 v (freeM t [] []).length ((freeM t [] []).flatMap strCells)∧Below w.heap.size w w':=by
 obtain⟨k0,x0,a0,z0,n0,-,-,-,-,-,hnv⟩:=node_named t A c;rw[hnv]
 obtain⟨Z,hZ⟩:∃ Z,freeM t [] [] = Z:=⟨_,rfl⟩
 rw[hZ]
 go_enter Tryz.func20,Tryz.ntmps20
 go_wp2_with fail
 obtain⟨W1,hW1⟩:∃ W1,(((w.alloc (.cells #[.int .i64 k0,.string x0,.int .i64 a0,.int .i64 z0,.slice A n0 c] 24)).alloc (.cells #[.slice none 0 0] 41)).alloc (.cells #[.func (.func 44) #[] #[.pointer (some ⟨w.heap.size+1,0,none⟩)]] 91)).alloc (.cells #[.func (.func 47) #[] #[.pointer (some ⟨w.heap.size+1+1,0,none⟩),.pointer (some ⟨w.heap.size+1+1+1,0,none⟩)]] 92)=W1:=⟨_,rfl⟩
 rw[hW1]
 have hob:Blk W1 (w.heap.size+1) 41 #[.slice none 0 0]:=by
  rw[← hW1];have:=((Blk.new (w.alloc (.cells #[.int .i64 k0,.string x0,.int .i64 a0,.int .i64 z0,.slice A n0 c] 24)) 41 #[.slice none 0 0]).alloc (.cells #[.func (.func 44) #[] #[.pointer (some ⟨w.heap.size+1,0,none⟩)]] 91)).alloc (.cells #[.func (.func 47) #[] #[.pointer (some ⟨w.heap.size+1+1,0,none⟩),.pointer (some ⟨w.heap.size+1+1+1,0,none⟩)]] 92)
  simpa using this
 have hab:Blk W1 (w.heap.size+1+1) 91 #[.func (.func 44) #[] #[.pointer (some ⟨w.heap.size+1,0,none⟩)]]:=by
  rw[← hW1];have:=(Blk.new ((w.alloc (.cells #[.int .i64 k0,.string x0,.int .i64 a0,.int .i64 z0,.slice A n0 c] 24)).alloc (.cells #[.slice none 0 0] 41)) 91 #[.func (.func 44) #[] #[.pointer (some ⟨w.heap.size+1,0,none⟩)]]).alloc (.cells #[.func (.func 47) #[] #[.pointer (some ⟨w.heap.size+1+1,0,none⟩),.pointer (some ⟨w.heap.size+1+1+1,0,none⟩)]] 92)
  simpa using this
 have hvb:Blk W1 (w.heap.size+1+1+1) 92 #[.func (.func 47) #[] #[.pointer (some ⟨w.heap.size+1+1,0,none⟩),.pointer (some ⟨w.heap.size+1+1+1,0,none⟩)]]:=by
  rw[← hW1];have:=Blk.new (((w.alloc (.cells #[.int .i64 k0,.string x0,.int .i64 a0,.int .i64 z0,.slice A n0 c] 24)).alloc (.cells #[.slice none 0 0] 41)).alloc (.cells #[.func (.func 44) #[] #[.pointer (some ⟨w.heap.size+1,0,none⟩)]] 91)) 92 #[.func (.func 47) #[] #[.pointer (some ⟨w.heap.size+1+1,0,none⟩),.pointer (some ⟨w.heap.size+1+1+1,0,none⟩)]]
  simpa using this
 have hb1:Below w.heap.size w W1:=by
  rw[← hW1];exact(((((Below.refl _ w).alloc (Nat.le_refl _) _).alloc (by simp) _).alloc (by simp;omega) _).alloc (by simp;omega) _)
 have hcall:=free_n w.heap.size w.heap.size (w.heap.size+1) (w.heap.size+1+1) (w.heap.size+1+1+1) ⟨Nat.le_refl _,by omega⟩ (countM t) t (Nat.le_refl _) [] [] none [] [] A c W1 ⟨rfl,rfl⟩ (fun y=>rfl) (KidsAt.below hb1 (Nat.le_refl _) _ _ _ hk) hb1.size ⟨none,0,0,hob,OwnS.nil _ _ _ _⟩ hab hvb (by simpa using hN);rw[hnv,hZ]at hcall;have HC:=kH hcall;have HB1:=kH hb1;clear hcall hb1 hob hab hvb hW1 hnv hZ hk;refine HC.out.mono ?_;rintro e2 w2 ⟨rfl,⟨A2,n2,c2,h2,h3⟩,h4⟩;have hb2:Below w.heap.size w w2:=HB1.out.trans (h4.low HB1.out.size (by omega) (Nat.le_refl _) (fun _ h=>h.elim))
 have hn2:n2=Z.length:=by have:=h3.1;rw[strs_len]at this;omega
 have c0:=h2.cell 0;have l0:=h2.lt;have HO:Hid (OwnS w2 w.heap.size 9 1 (.slice A2 n2 c2) Z.length (Z.flatMap strCells)):=kH (by rw[← hn2];exact h3);have HB2:=kH hb2;clear h2 h3 h4 hb2 hn2 HC
 go_wp2_with fail
 go_ret
 exact⟨_,rfl,HO.out,HB2.out⟩
end Go.Proofs.YtoepemlnlpamlaaGreat
