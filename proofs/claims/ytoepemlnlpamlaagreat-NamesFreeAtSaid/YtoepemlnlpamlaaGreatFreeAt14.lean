/- The law NamesFreeAt holds: for every text and every number the law returns true, and its arguments read as before. No condition. Part 14: Merg ProgE. -/
import Derived.Test.YtoepemlnlpamlaaGreatFreeAt09
import Derived.Test.YtoepemlnlpamlaaGreatFreeAt13
namespace Go.Proofs.YtoepemlnlpamlaaGreat
set_option maxRecDepth 100000
set_option maxHeartbeats 4000000
open Go.RowKit
theorem RowAt.tail {α:Type} {size:Nat} {cells:α→List Value} {w:World} {B:Nat} {b off:Nat} {x:α} {l:List α} {cap:Nat} (h:RowAt size cells w B (some ⟨b,off,none⟩) (x :: l)) (hc:l.length+1≤cap) :
 RowAt size cells w B (if cap=1 then some ⟨b,off,none⟩ else some ⟨b,off+size,none⟩) l:=by
 intro k c hk;have hkl:=(List.getElem?_eq_some_iff.1 hk).1;obtain⟨b1,off1,h1,h2,h3⟩:=h (k+1) c (by simpa using hk);rw[if_neg (by omega)];refine⟨b,off+size,rfl,?_,fun j v hj=>?_⟩
 ·have:b1=b:=by simp at h1;exact h1.1.symm
  rw[← this];exact h2
 ·have e1:b1=b∧off1=off:=by simp at h1;exact⟨h1.1.symm,h1.2.symm⟩
  have:=h3 j v hj;rw[e1.1,e1.2]at this;rw[show off+size+k * size+j=off+(k+1) * size+j by rw[Nat.add_mul];omega];exact this
theorem mergeM_nil (l:List Dg):mergeM l [] = l:=by cases l <;> simp[mergeM]
theorem merged_any (la lb:List Dg) (A B:Option Addr) (ca cb:Nat) (w:World) (ha:RowAt 5 dgCells w w.heap.size A la) (hb:RowAt 5 dgCells w w.heap.size B lb) (hla:la.length≤10000) (hlb:lb.length≤10000) (hca:la.length≤ca) (hcb:lb.length≤cb):Calls Tryz.prog 72 #[.slice A la.length ca,.slice B lb.length cb] w (DgsRes w (mergeM la lb)):=by
 obtain⟨i0,hi0,hz0,hz1,hz2⟩:=info_parts dg_info;have HA:=kH ha;have HB:=kH hb;have HLEN:Hid (la.length≤10000∧lb.length≤10000∧la.length≤ca∧lb.length≤cb):=kH ⟨hla,hlb,hca,hcb⟩;clear ha hb hla hlb hca hcb
 go_enter Tryz.func72,Tryz.ntmps72
 go_wp2_with fail
 generalize hW1:w.alloc (.cells #[] 78)=W1
 have hb1:Below w.heap.size w W1:=by rw[← hW1];exact below_alloc _ _
 have hO1:OwnS W1 w.heap.size 78 5 (.slice (some ⟨w.heap.size,0,none⟩) 0 0) 0 (([]:List Dg).flatMap dgCells):=by
  have hn:=Blk.new w 78 #[];rw[hW1]at hn;exact OwnS.block (n:=0) (cur:=#[]) (Nat.le_refl _) hn (by simp[maxLen]) rfl
 have HO1:=kH hO1;have HB1:=kH hb1;clear hW1 hO1 hb1
 go_loopg [0,1,5] (la.length+lb.length) (fun gk s0 s1 s5 wr => ∃ (da db pre:List Dg) (Aa Ab A5:Option Addr) (na nb n5 ca' cb' c5:Nat),na+nb=gk∧na=da.length∧nb=db.length∧n5=pre.length∧n5+gk=la.length+lb.length∧s0 = .slice Aa na ca'∧s1 = .slice Ab nb cb'∧s5 = .slice A5 n5 c5∧na≤ca'∧nb≤cb'∧mergeM la lb=pre ++ mergeM da db∧RowAt 5 dgCells wr w.heap.size Aa da∧RowAt 5 dgCells wr w.heap.size Ab db∧OwnS wr w.heap.size 78 5 (.slice A5 n5 c5) n5 (pre.flatMap dgCells)∧Below w.heap.size w wr)
 case atStart=>exact⟨la,lb,[],A,B,_,la.length,lb.length,0,ca,cb,0,rfl,rfl,rfl,rfl,by omega,rfl,rfl,rfl,HLEN.out.2.2.1,HLEN.out.2.2.2,rfl,HA.out.below HB1.out (Nat.le_refl _),HB.out.below HB1.out (Nat.le_refl _),HO1.out,HB1.out⟩
 case round =>
  obtain⟨da,db,pre,Aa,Ab,A5,na,nb,n5,ca',cb',c5,hk,hna,hnb,hn5,hsum,rfl,rfl,rfl,hca',hcb',hM,hRa,hRb,hO,hB⟩:=hrel;have HL2:=HLEN.out;have HMM:=kH hM;have HRa:=kH hRa;have HRb:=kH hRb;have HO:=kH hO;have HBB:=kH hB;have HN5:=kH hn5;have hwsz:=hB.size
  have hsm:n5≤20000:=by omega
  clear hM hRa hRb hO hB hn5
  cases da with
  | nil =>
   simp only[List.length_nil]at hna;subst hna
   cases db with
   | nil =>
    simp only[List.length_nil]at hnb;subst hnb
    go_wp2_with fail
    refine bodyPost_ret (v:=.slice A5 n5 c5) (by simp[results,Tryz.results72,go_sem]) rfl ?_;have hm:=HMM.out;rw[mergeM_nil,List.append_nil]at hm;exact⟨A5,n5,c5,rfl,by rw[hm];exact HN5.out,by rw[hm];exact HO.out,HBB.out⟩
   | cons y db =>
    simp only[List.length_cons]at hnb
    obtain⟨m,rfl⟩:∃ m,nb=m+1:=⟨nb - 1,by omega⟩
    obtain⟨b,off,hA,hb,hcs⟩:=HRb.out 0 y rfl;subst hA
    have z0:wr.cell? ⟨b,off,none⟩=some (.int .i64 y.code):=by simpa using hcs 0 _ rfl
    have z1:wr.cell? ⟨b,off+1,none⟩=some (.int .i64 y.at_):=by simpa using hcs 1 _ rfl
    have z2:wr.cell? ⟨b,off+2,none⟩=some (.int .i64 y.end_):=by simpa using hcs 2 _ rfl
    have z3:wr.cell? ⟨b,off+3,none⟩=some (.string y.text):=by simpa using hcs 3 _ rfl
    have z4:wr.cell? ⟨b,off+4,none⟩=some (.slice none 0 0):=by simpa using hcs 4 _ rfl
    obtain⟨A2,hA2⟩:∃ A2:Option Addr,(if cb'=1 then some ⟨b,off,none⟩ else some ⟨b,off+5,none⟩)=A2:=⟨_,rfl⟩
    have HA2:=kH hA2;have HR2:Hid (RowAt 5 dgCells wr w.heap.size A2 db):=kH (by rw[← hA2];exact HRb.out.tail (by omega))
    have hbl:b < wr.heap.size:=by omega
    have HAP:Hid ((Value.slice A5 n5 c5).ownBlock≠some b):=kH (fun e1=>by have:=(HO.out.lt _ e1).1;omega);clear hA2;have HM2:Hid (mergeM la lb=pre ++ [y] ++ mergeM [] db):=kH (by rw[HMM.out];simp[mergeM])
    have e1:(((m:Int)+1) == 0)=false:=by rw[Bool.eq_false_iff];simp;omega
    have e2:decide ((0:Int) < (m:Int)+1)=true:=decide_eq_true (by omega);clear hcs
    go_wp2_with fail
    have xc0:=z1;have hS0:wr.drew.cell? ⟨b,off+1,none⟩=some (.int .i64 y.at_):=xc0;refine wp_region_HG (fun w'=>w'.cell? ⟨b,off+1,none⟩=some (.int .i64 y.at_)) [] [true,true,true,true,true,true,true,true,true,true,true,true,true,true,true,true,true,true,true] (by kernel_rfl) (by kernel_rfl) rfl (by kernel_rfl) ?_
    iterate 19((first | (refine wpHG_off (by rfl) hS0 ?_) | (refine wpHG_soft (by rfl) hS0 (by intro w' hSw;obtain hs1:=hSw;go_simp;rfl) ?_));simp only[Act.put,sA,sZ,sC])
    refine wpHG_nil ?_;clear hS0;clear xc0
    go_wp2_with fail
    refine wp_region_HP (fun w'=>w'.cell? ⟨b,off,none⟩=some (.int .i64 y.code)∧w'.cell? ⟨b,off+1,none⟩=some (.int .i64 y.at_)∧w'.cell? ⟨b,off+2,none⟩=some (.int .i64 y.end_)∧w'.cell? ⟨b,off+3,none⟩=some (.string y.text)∧w'.cell? ⟨b,off+4,none⟩=some (.slice none 0 0)) [] [(0,true),(1,true),(2,true),(3,true),(6,true),(7,true),(4,false),(5,false),(8,false),(9,false)] (by kernel_rfl) (by kernel_rfl) rfl (by kernel_rfl) ?_
    have hS0:wr.drew.drew.cell? ⟨b,off,none⟩=some (.int .i64 y.code)∧wr.drew.drew.cell? ⟨b,off+1,none⟩=some (.int .i64 y.at_)∧wr.drew.drew.cell? ⟨b,off+2,none⟩=some (.int .i64 y.end_)∧wr.drew.drew.cell? ⟨b,off+3,none⟩=some (.string y.text)∧wr.drew.drew.cell? ⟨b,off+4,none⟩=some (.slice none 0 0):=⟨z0,z1,z2,z3,z4⟩
    refine wpHP_soft (by simp only[List.getElem?_toArray,List.getElem?_cons_zero];rfl) (by rfl) hS0 (by intro w' hSw;obtain⟨hs1,hs2,hs3,hs4,hs5⟩:=hSw;go_simp;rfl) ?_
    iterate 4(simp only[Act.put,sA,sZ,sC];refine wpHP_soft (by simp only[List.getElem?_toArray,List.getElem?_cons_succ,List.getElem?_cons_zero];rfl) (by rfl) hS0 (by intro w' hSw;obtain⟨hs1,hs2,hs3,hs4,hs5⟩:=hSw;go_simp;rfl) ?_)
    simp only[Act.put,sA,sZ,sC];refine wpHP_soft (by simp only[List.getElem?_toArray,List.getElem?_cons_succ,List.getElem?_cons_zero];rfl) (by rfl) hS0 (by intro w' _;go_simp;rw[if_pos (by omega),HA2.out]) ?_;simp only[Act.put,sA,sZ,sC];refine wpHP_run (w':=wr.drew.drew.alloc (.cells #[.int .i64 y.code,.int .i64 y.at_,.int .i64 y.end_,.string y.text,.slice none 0 0] 78)) (by simp only[List.getElem?_toArray,List.getElem?_cons_succ,List.getElem?_cons_zero];rfl) (by rfl) (by go_simp;rfl) ?_ ?_
    ·exact fun _=>⟨by go_simp,by go_simp,by go_simp,by go_simp,by go_simp⟩
    simp only[Act.put,sA,sZ,sC];refine wpHP_law (by simp only[List.getElem?_toArray,List.getElem?_cons_succ,List.getElem?_cons_zero];rfl) (by rfl) ?_;refine(wp_append_S _ (.tmp 42) (.tmp 46) _ rfl w.heap.size 78 i0 _ 5 64 Tryz.underlying31 hi0 hz0 hz1 hz2 rfl (.slice A5 n5 c5) n5 (pre.flatMap dgCells) rfl (HO.out.drew.drew.alloc _) ⟨wr.heap.size,0,none⟩ 1 1 (dgCells y) rfl rfl (news_five _ _ _ _ _ _ _ (by go_simp) (by go_simp) (by go_simp) (by go_simp) (by go_simp)) (by simp[dgCells,Value.oneCell']) (by simp only[maxLen];omega) (by omega) (by simp;omega) ?_);intro v6 w6 hown hgrow hat;obtain⟨A6,c6,hv6,-,-⟩:=hown.shape;subst hv6
    have hfar:∀ o,w6.cell? ⟨b,o,none⟩=wr.cell? ⟨b,o,none⟩:=fun o=>by
     rw[hgrow.cell_far _ (by simp;omega) (fun e1=>HAP.out e1.symm)]
     go_simp
    have hS6:w6.cell? ⟨b,off,none⟩=some (.int .i64 y.code)∧w6.cell? ⟨b,off+1,none⟩=some (.int .i64 y.at_)∧w6.cell? ⟨b,off+2,none⟩=some (.int .i64 y.end_)∧w6.cell? ⟨b,off+3,none⟩=some (.string y.text)∧w6.cell? ⟨b,off+4,none⟩=some (.slice none 0 0):=⟨(hfar _).trans z0,(hfar _).trans z1,(hfar _).trans z2,(hfar _).trans z3,(hfar _).trans z4⟩
    refine⟨fun _=>hS6,?_⟩
    iterate 2(simp only[Act.put,sA,sZ,sC];refine wpHP_run (w':=w6) (by simp only[List.getElem?_toArray,List.getElem?_cons_succ,List.getElem?_cons_zero];rfl) (by rfl) (by go_simp;rfl) (fun _=>hS6) ?_)
    simp only[Act.put,sA,sZ,sC];refine wpHP_nil ?_;have HOWN:=kH hown;have HB6:=kH (((((Since.refl (fun g=>w.heap.size≤g) w).below HBB.out).drew.drew.alloc (.cells #[.int .i64 y.code,.int .i64 y.at_,.int .i64 y.end_,.string y.text,.slice none 0 0] 78)).grown hgrow (fun g hg=>.inl (HO.out.lt g hg).1)).toBelow (Nat.le_refl _) (fun g hg=>hg));have HBR:=kH ((((Since.refl (fun g=>w.heap.size≤g) wr).drew.drew.alloc (.cells #[.int .i64 y.code,.int .i64 y.at_,.int .i64 y.end_,.string y.text,.slice none 0 0] 78)).grown hgrow (fun g hg=>.inl (HO.out.lt g hg).1)).toBelow hwsz (fun g hg=>hg));clear hown hgrow hat hfar hS6 hS0
    go_wp2_with fail
    go_roundg (gk - 1)
    case measure=>omega
    case rel =>
     refine⟨[],db,pre ++ [y],Aa,A2,A6,0,m,n5+1,ca',cb' - 1,c6,by omega,rfl,by omega,by rw[List.length_append,← HN5.out];rfl,by omega,by first | rfl | (simp;omega),by first | rfl | (simp;omega),by first | rfl | (simp;omega),by omega,by omega,HM2.out,HRa.out.below HBR.out (Nat.le_refl _),HR2.out.below HBR.out (Nat.le_refl _),?_,HB6.out⟩;rw[List.flatMap_append]
     simpa using HOWN.out
  | cons x da =>
   simp only[List.length_cons]at hna
   obtain⟨m,rfl⟩:∃ m,na=m+1:=⟨na - 1,by omega⟩
   obtain⟨b,off,hA,hb,hcs⟩:=HRa.out 0 x rfl;subst hA
   have e1:(((m:Int)+1) == 0)=false:=by rw[Bool.eq_false_iff];simp;omega
   have e2:decide ((0:Int) < (m:Int)+1)=true:=decide_eq_true (by omega)
   cases db with
   | nil =>
    simp only[List.length_nil]at hnb;subst hnb
    have z0:wr.cell? ⟨b,off,none⟩=some (.int .i64 x.code):=by simpa using hcs 0 _ rfl
    have z1:wr.cell? ⟨b,off+1,none⟩=some (.int .i64 x.at_):=by simpa using hcs 1 _ rfl
    have z2:wr.cell? ⟨b,off+2,none⟩=some (.int .i64 x.end_):=by simpa using hcs 2 _ rfl
    have z3:wr.cell? ⟨b,off+3,none⟩=some (.string x.text):=by simpa using hcs 3 _ rfl
    have z4:wr.cell? ⟨b,off+4,none⟩=some (.slice none 0 0):=by simpa using hcs 4 _ rfl
    obtain⟨A2,hA2⟩:∃ A2:Option Addr,(if ca'=1 then some ⟨b,off,none⟩ else some ⟨b,off+5,none⟩)=A2:=⟨_,rfl⟩
    have HA2:=kH hA2;have HR2:Hid (RowAt 5 dgCells wr w.heap.size A2 da):=kH (by rw[← hA2];exact HRa.out.tail (by omega))
    have hbl:b < wr.heap.size:=by omega
    have HAP:Hid ((Value.slice A5 n5 c5).ownBlock≠some b):=kH (fun e1=>by have:=(HO.out.lt _ e1).1;omega);clear hA2;have HM2:Hid (mergeM la lb=pre ++ [x] ++ mergeM da []):=kH (by rw[HMM.out];simp[mergeM_nil]);clear hcs
    go_wp2_with fail
    have xc0:=z1;have hS0:wr.drew.cell? ⟨b,off+1,none⟩=some (.int .i64 x.at_):=xc0;refine wp_region_HG (fun w'=>w'.cell? ⟨b,off+1,none⟩=some (.int .i64 x.at_)) [] [true,true,true,true,true,true,true,true,true,true,true,true,true,true,true,true,true,true,true] (by kernel_rfl) (by kernel_rfl) rfl (by kernel_rfl) ?_
    iterate 19((first | (refine wpHG_off (by rfl) hS0 ?_) | (refine wpHG_soft (by rfl) hS0 (by intro w' hSw;obtain hs1:=hSw;go_simp;rfl) ?_));simp only[Act.put,sA,sZ,sC])
    refine wpHG_nil ?_;clear hS0;clear xc0
    go_wp2_with fail
    refine wp_region_HP (fun w'=>w'.cell? ⟨b,off,none⟩=some (.int .i64 x.code)∧w'.cell? ⟨b,off+1,none⟩=some (.int .i64 x.at_)∧w'.cell? ⟨b,off+2,none⟩=some (.int .i64 x.end_)∧w'.cell? ⟨b,off+3,none⟩=some (.string x.text)∧w'.cell? ⟨b,off+4,none⟩=some (.slice none 0 0)) [] [(0,true),(1,true),(2,true),(3,true),(6,true),(7,true),(4,false),(5,false),(8,false),(9,false)] (by kernel_rfl) (by kernel_rfl) rfl (by kernel_rfl) ?_
    have hS0:wr.drew.drew.cell? ⟨b,off,none⟩=some (.int .i64 x.code)∧wr.drew.drew.cell? ⟨b,off+1,none⟩=some (.int .i64 x.at_)∧wr.drew.drew.cell? ⟨b,off+2,none⟩=some (.int .i64 x.end_)∧wr.drew.drew.cell? ⟨b,off+3,none⟩=some (.string x.text)∧wr.drew.drew.cell? ⟨b,off+4,none⟩=some (.slice none 0 0):=⟨z0,z1,z2,z3,z4⟩
    refine wpHP_soft (by simp only[List.getElem?_toArray,List.getElem?_cons_zero];rfl) (by rfl) hS0 (by intro w' hSw;obtain⟨hs1,hs2,hs3,hs4,hs5⟩:=hSw;go_simp;rfl) ?_
    iterate 4(simp only[Act.put,sA,sZ,sC];refine wpHP_soft (by simp only[List.getElem?_toArray,List.getElem?_cons_succ,List.getElem?_cons_zero];rfl) (by rfl) hS0 (by intro w' hSw;obtain⟨hs1,hs2,hs3,hs4,hs5⟩:=hSw;go_simp;rfl) ?_)
    simp only[Act.put,sA,sZ,sC];refine wpHP_soft (by simp only[List.getElem?_toArray,List.getElem?_cons_succ,List.getElem?_cons_zero];rfl) (by rfl) hS0 (by intro w' _;go_simp;rw[if_pos (by omega),HA2.out]) ?_;simp only[Act.put,sA,sZ,sC];refine wpHP_run (w':=wr.drew.drew.alloc (.cells #[.int .i64 x.code,.int .i64 x.at_,.int .i64 x.end_,.string x.text,.slice none 0 0] 78)) (by simp only[List.getElem?_toArray,List.getElem?_cons_succ,List.getElem?_cons_zero];rfl) (by rfl) (by go_simp;rfl) ?_ ?_
    ·exact fun _=>⟨by go_simp,by go_simp,by go_simp,by go_simp,by go_simp⟩
    simp only[Act.put,sA,sZ,sC];refine wpHP_law (by simp only[List.getElem?_toArray,List.getElem?_cons_succ,List.getElem?_cons_zero];rfl) (by rfl) ?_;refine(wp_append_S _ (.tmp 34) (.tmp 38) _ rfl w.heap.size 78 i0 _ 5 64 Tryz.underlying31 hi0 hz0 hz1 hz2 rfl (.slice A5 n5 c5) n5 (pre.flatMap dgCells) rfl (HO.out.drew.drew.alloc _) ⟨wr.heap.size,0,none⟩ 1 1 (dgCells x) rfl rfl (news_five _ _ _ _ _ _ _ (by go_simp) (by go_simp) (by go_simp) (by go_simp) (by go_simp)) (by simp[dgCells,Value.oneCell']) (by simp only[maxLen];omega) (by omega) (by simp;omega) ?_);intro v6 w6 hown hgrow hat;obtain⟨A6,c6,hv6,-,-⟩:=hown.shape;subst hv6
    have hfar:∀ o,w6.cell? ⟨b,o,none⟩=wr.cell? ⟨b,o,none⟩:=fun o=>by
     rw[hgrow.cell_far _ (by simp;omega) (fun e1=>HAP.out e1.symm)]
     go_simp
    have hS6:w6.cell? ⟨b,off,none⟩=some (.int .i64 x.code)∧w6.cell? ⟨b,off+1,none⟩=some (.int .i64 x.at_)∧w6.cell? ⟨b,off+2,none⟩=some (.int .i64 x.end_)∧w6.cell? ⟨b,off+3,none⟩=some (.string x.text)∧w6.cell? ⟨b,off+4,none⟩=some (.slice none 0 0):=⟨(hfar _).trans z0,(hfar _).trans z1,(hfar _).trans z2,(hfar _).trans z3,(hfar _).trans z4⟩
    refine⟨fun _=>hS6,?_⟩
    iterate 2(simp only[Act.put,sA,sZ,sC];refine wpHP_run (w':=w6) (by simp only[List.getElem?_toArray,List.getElem?_cons_succ,List.getElem?_cons_zero];rfl) (by rfl) (by go_simp;rfl) (fun _=>hS6) ?_)
    simp only[Act.put,sA,sZ];refine wpHP_nil ?_;have HOWN:=kH hown;have HB6:=kH (((((Since.refl (fun g=>w.heap.size≤g) w).below HBB.out).drew.drew.alloc (.cells #[.int .i64 x.code,.int .i64 x.at_,.int .i64 x.end_,.string x.text,.slice none 0 0] 78)).grown hgrow (fun g hg=>.inl (HO.out.lt g hg).1)).toBelow (Nat.le_refl _) (fun g hg=>hg));have HBR:=kH ((((Since.refl (fun g=>w.heap.size≤g) wr).drew.drew.alloc (.cells #[.int .i64 x.code,.int .i64 x.at_,.int .i64 x.end_,.string x.text,.slice none 0 0] 78)).grown hgrow (fun g hg=>.inl (HO.out.lt g hg).1)).toBelow hwsz (fun g hg=>hg));clear hown hgrow hat hfar hS6 hS0
    go_wp2_with fail
    go_roundg (gk - 1)
    case measure=>omega
    case rel =>
     refine⟨da,[],pre ++ [x],A2,Ab,A6,m,0,n5+1,ca' - 1,cb',c6,by omega,by omega,rfl,by rw[List.length_append,← HN5.out];rfl,by omega,by first | rfl | (simp;omega),by first | rfl | (simp;omega),by first | rfl | (simp;omega),by omega,by omega,HM2.out,HR2.out.below HBR.out (Nat.le_refl _),HRb.out.below HBR.out (Nat.le_refl _),?_,HB6.out⟩;rw[List.flatMap_append]
     simpa using HOWN.out
   | cons y db =>
    simp only[List.length_cons]at hnb
    obtain⟨m',rfl⟩:∃ m',nb=m'+1:=⟨nb - 1,by omega⟩
    obtain⟨b',off',hA',hb',hcs'⟩:=HRb.out 0 y rfl;subst hA'
    have hbl':b' < wr.heap.size:=by omega
    have f1:(((m':Int)+1) == 0)=false:=by rw[Bool.eq_false_iff];simp;omega
    have f2:decide ((0:Int) < (m':Int)+1)=true:=decide_eq_true (by omega)
    have xc0:wr.cell? ⟨b,off+1,none⟩=some (.int .i64 x.at_):=by simpa using hcs 1 _ rfl
    have xc1:wr.cell? ⟨b',off'+1,none⟩=some (.int .i64 y.at_):=by simpa using hcs' 1 _ rfl
    by_cases hle:x.at_≤y.at_
    ·have hd:decide (x.at_≤y.at_)=true:=decide_eq_true hle
     have z0:wr.cell? ⟨b,off,none⟩=some (.int .i64 x.code):=by simpa using hcs 0 _ rfl
     have z1:wr.cell? ⟨b,off+1,none⟩=some (.int .i64 x.at_):=by simpa using hcs 1 _ rfl
     have z2:wr.cell? ⟨b,off+2,none⟩=some (.int .i64 x.end_):=by simpa using hcs 2 _ rfl
     have z3:wr.cell? ⟨b,off+3,none⟩=some (.string x.text):=by simpa using hcs 3 _ rfl
     have z4:wr.cell? ⟨b,off+4,none⟩=some (.slice none 0 0):=by simpa using hcs 4 _ rfl
     obtain⟨A2,hA2⟩:∃ A2:Option Addr,(if ca'=1 then some ⟨b,off,none⟩ else some ⟨b,off+5,none⟩)=A2:=⟨_,rfl⟩
     have HA2:=kH hA2;have HR2:Hid (RowAt 5 dgCells wr w.heap.size A2 da):=kH (by rw[← hA2];exact HRa.out.tail (by omega))
     have hbl:b < wr.heap.size:=by omega
     have HAP:Hid ((Value.slice A5 n5 c5).ownBlock≠some b):=kH (fun e1=>by have:=(HO.out.lt _ e1).1;omega);clear hA2;have HM2:Hid (mergeM la lb=pre ++ [x] ++ mergeM da (y :: db)):=kH (by rw[HMM.out,mergeM,if_pos hle];simp);clear hcs hcs' hle
     go_wp2_with fail
     have hS0:wr.drew.cell? ⟨b,off+1,none⟩=some (.int .i64 x.at_)∧wr.drew.cell? ⟨b',off'+1,none⟩=some (.int .i64 y.at_):=⟨xc0,xc1⟩
     refine wp_region_HG (fun w'=>w'.cell? ⟨b,off+1,none⟩=some (.int .i64 x.at_)∧w'.cell? ⟨b',off'+1,none⟩=some (.int .i64 y.at_)) [] [true,true,true,true,true,true,true,true,true,true,true,true,true,true,true,true,true,true,true] (by kernel_rfl) (by kernel_rfl) rfl (by kernel_rfl) ?_
     iterate 19((first | (refine wpHG_off (by rfl) hS0 ?_) | (refine wpHG_soft (by rfl) hS0 (by intro w' hSw;obtain⟨hs1,hs2⟩:=hSw;go_simp;rfl) ?_));simp only[Act.put,sA,sZ,sC])
     refine wpHG_nil ?_;clear hS0;clear xc0 xc1
     go_wp2_with fail
     refine wp_region_HP (fun w'=>w'.cell? ⟨b,off,none⟩=some (.int .i64 x.code)∧w'.cell? ⟨b,off+1,none⟩=some (.int .i64 x.at_)∧w'.cell? ⟨b,off+2,none⟩=some (.int .i64 x.end_)∧w'.cell? ⟨b,off+3,none⟩=some (.string x.text)∧w'.cell? ⟨b,off+4,none⟩=some (.slice none 0 0)) [] [(0,true),(1,true),(2,true),(3,true),(6,true),(7,true),(4,false),(5,false),(8,false),(9,false)] (by kernel_rfl) (by kernel_rfl) rfl (by kernel_rfl) ?_
     have hS0:wr.drew.drew.cell? ⟨b,off,none⟩=some (.int .i64 x.code)∧wr.drew.drew.cell? ⟨b,off+1,none⟩=some (.int .i64 x.at_)∧wr.drew.drew.cell? ⟨b,off+2,none⟩=some (.int .i64 x.end_)∧wr.drew.drew.cell? ⟨b,off+3,none⟩=some (.string x.text)∧wr.drew.drew.cell? ⟨b,off+4,none⟩=some (.slice none 0 0):=⟨z0,z1,z2,z3,z4⟩
     refine wpHP_soft (by simp only[List.getElem?_toArray,List.getElem?_cons_zero];rfl) (by rfl) hS0 (by intro w' hSw;obtain⟨hs1,hs2,hs3,hs4,hs5⟩:=hSw;go_simp;rfl) ?_
     iterate 4(simp only[Act.put,sA,sZ,sC];refine wpHP_soft (by simp only[List.getElem?_toArray,List.getElem?_cons_succ,List.getElem?_cons_zero];rfl) (by rfl) hS0 (by intro w' hSw;obtain⟨hs1,hs2,hs3,hs4,hs5⟩:=hSw;go_simp;rfl) ?_)
     simp only[Act.put,sA,sZ,sC];refine wpHP_soft (by simp only[List.getElem?_toArray,List.getElem?_cons_succ,List.getElem?_cons_zero];rfl) (by rfl) hS0 (by intro w' _;go_simp;rw[if_pos (by omega),HA2.out]) ?_;simp only[Act.put,sA,sZ,sC];refine wpHP_run (w':=wr.drew.drew.alloc (.cells #[.int .i64 x.code,.int .i64 x.at_,.int .i64 x.end_,.string x.text,.slice none 0 0] 78)) (by simp only[List.getElem?_toArray,List.getElem?_cons_succ,List.getElem?_cons_zero];rfl) (by rfl) (by go_simp;rfl) ?_ ?_
     ·exact fun _=>⟨by go_simp,by go_simp,by go_simp,by go_simp,by go_simp⟩
     simp only[Act.put,sA,sZ,sC];refine wpHP_law (by simp only[List.getElem?_toArray,List.getElem?_cons_succ,List.getElem?_cons_zero];rfl) (by rfl) ?_;refine(wp_append_S _ (.tmp 34) (.tmp 38) _ rfl w.heap.size 78 i0 _ 5 64 Tryz.underlying31 hi0 hz0 hz1 hz2 rfl (.slice A5 n5 c5) n5 (pre.flatMap dgCells) rfl (HO.out.drew.drew.alloc _) ⟨wr.heap.size,0,none⟩ 1 1 (dgCells x) rfl rfl (news_five _ _ _ _ _ _ _ (by go_simp) (by go_simp) (by go_simp) (by go_simp) (by go_simp)) (by simp[dgCells,Value.oneCell']) (by simp only[maxLen];omega) (by omega) (by simp;omega) ?_);intro v6 w6 hown hgrow hat;obtain⟨A6,c6,hv6,-,-⟩:=hown.shape;subst hv6
     have hfar:∀ o,w6.cell? ⟨b,o,none⟩=wr.cell? ⟨b,o,none⟩:=fun o=>by
      rw[hgrow.cell_far _ (by simp;omega) (fun e1=>HAP.out e1.symm)]
      go_simp
     have hS6:w6.cell? ⟨b,off,none⟩=some (.int .i64 x.code)∧w6.cell? ⟨b,off+1,none⟩=some (.int .i64 x.at_)∧w6.cell? ⟨b,off+2,none⟩=some (.int .i64 x.end_)∧w6.cell? ⟨b,off+3,none⟩=some (.string x.text)∧w6.cell? ⟨b,off+4,none⟩=some (.slice none 0 0):=⟨(hfar _).trans z0,(hfar _).trans z1,(hfar _).trans z2,(hfar _).trans z3,(hfar _).trans z4⟩
     refine⟨fun _=>hS6,?_⟩
     iterate 2(simp only[Act.put,sA,sZ,sC];refine wpHP_run (w':=w6) (by simp only[List.getElem?_toArray,List.getElem?_cons_succ,List.getElem?_cons_zero];rfl) (by rfl) (by go_simp;rfl) (fun _=>hS6) ?_)
     simp only[Act.put,sA,sZ];refine wpHP_nil ?_;have HOWN:=kH hown;have HB6:=kH (((((Since.refl (fun g=>w.heap.size≤g) w).below HBB.out).drew.drew.alloc (.cells #[.int .i64 x.code,.int .i64 x.at_,.int .i64 x.end_,.string x.text,.slice none 0 0] 78)).grown hgrow (fun g hg=>.inl (HO.out.lt g hg).1)).toBelow (Nat.le_refl _) (fun g hg=>hg));have HBR:=kH ((((Since.refl (fun g=>w.heap.size≤g) wr).drew.drew.alloc (.cells #[.int .i64 x.code,.int .i64 x.at_,.int .i64 x.end_,.string x.text,.slice none 0 0] 78)).grown hgrow (fun g hg=>.inl (HO.out.lt g hg).1)).toBelow hwsz (fun g hg=>hg));clear hown hgrow hat hfar hS6 hS0
     go_wp2_with fail
     go_roundg (gk - 1)
     case measure=>omega
     case rel =>
      refine⟨da,y :: db,pre ++ [x],A2,_,A6,m,m'+1,n5+1,ca' - 1,cb',c6,by omega,by omega,by simp;omega,by rw[List.length_append,← HN5.out];rfl,by omega,by first | rfl | (simp;omega),by first | rfl | (simp;omega),by first | rfl | (simp;omega),by omega,by omega,HM2.out,HR2.out.below HBR.out (Nat.le_refl _),HRb.out.below HBR.out (Nat.le_refl _),?_,HB6.out⟩;rw[List.flatMap_append]
      simpa using HOWN.out
    ·have hd:decide (x.at_≤y.at_)=false:=decide_eq_false hle
     have z0:wr.cell? ⟨b',off',none⟩=some (.int .i64 y.code):=by simpa using hcs' 0 _ rfl
     have z1:wr.cell? ⟨b',off'+1,none⟩=some (.int .i64 y.at_):=by simpa using hcs' 1 _ rfl
     have z2:wr.cell? ⟨b',off'+2,none⟩=some (.int .i64 y.end_):=by simpa using hcs' 2 _ rfl
     have z3:wr.cell? ⟨b',off'+3,none⟩=some (.string y.text):=by simpa using hcs' 3 _ rfl
     have z4:wr.cell? ⟨b',off'+4,none⟩=some (.slice none 0 0):=by simpa using hcs' 4 _ rfl
     obtain⟨A2,hA2⟩:∃ A2:Option Addr,(if cb'=1 then some ⟨b',off',none⟩ else some ⟨b',off'+5,none⟩)=A2:=⟨_,rfl⟩
     have HA2:=kH hA2;have HR2:Hid (RowAt 5 dgCells wr w.heap.size A2 db):=kH (by rw[← hA2];exact HRb.out.tail (by omega))
     have hbl:b' < wr.heap.size:=by omega
     have HAP:Hid ((Value.slice A5 n5 c5).ownBlock≠some b'):=kH (fun e1=>by have:=(HO.out.lt _ e1).1;omega);clear hA2;have HM2:Hid (mergeM la lb=pre ++ [y] ++ mergeM (x :: da) db):=kH (by rw[HMM.out,mergeM,if_neg hle];simp);clear hcs hcs' hle
     go_wp2_with fail
     have hS0:wr.drew.cell? ⟨b,off+1,none⟩=some (.int .i64 x.at_)∧wr.drew.cell? ⟨b',off'+1,none⟩=some (.int .i64 y.at_):=⟨xc0,xc1⟩
     refine wp_region_HG (fun w'=>w'.cell? ⟨b,off+1,none⟩=some (.int .i64 x.at_)∧w'.cell? ⟨b',off'+1,none⟩=some (.int .i64 y.at_)) [] [true,true,true,true,true,true,true,true,true,true,true,true,true,true,true,true,true,true,true] (by kernel_rfl) (by kernel_rfl) rfl (by kernel_rfl) ?_
     iterate 19((first | (refine wpHG_off (by rfl) hS0 ?_) | (refine wpHG_soft (by rfl) hS0 (by intro w' hSw;obtain⟨hs1,hs2⟩:=hSw;go_simp;rfl) ?_));simp only[Act.put,sA,sZ,sC])
     refine wpHG_nil ?_;clear hS0;clear xc0 xc1
     go_wp2_with fail
     refine wp_region_HP (fun w'=>w'.cell? ⟨b',off',none⟩=some (.int .i64 y.code)∧w'.cell? ⟨b',off'+1,none⟩=some (.int .i64 y.at_)∧w'.cell? ⟨b',off'+2,none⟩=some (.int .i64 y.end_)∧w'.cell? ⟨b',off'+3,none⟩=some (.string y.text)∧w'.cell? ⟨b',off'+4,none⟩=some (.slice none 0 0)) [] [(0,true),(1,true),(2,true),(3,true),(6,true),(7,true),(4,false),(5,false),(8,false),(9,false)] (by kernel_rfl) (by kernel_rfl) rfl (by kernel_rfl) ?_
     have hS0:wr.drew.drew.cell? ⟨b',off',none⟩=some (.int .i64 y.code)∧wr.drew.drew.cell? ⟨b',off'+1,none⟩=some (.int .i64 y.at_)∧wr.drew.drew.cell? ⟨b',off'+2,none⟩=some (.int .i64 y.end_)∧wr.drew.drew.cell? ⟨b',off'+3,none⟩=some (.string y.text)∧wr.drew.drew.cell? ⟨b',off'+4,none⟩=some (.slice none 0 0):=⟨z0,z1,z2,z3,z4⟩
     refine wpHP_soft (by simp only[List.getElem?_toArray,List.getElem?_cons_zero];rfl) (by rfl) hS0 (by intro w' hSw;obtain⟨hs1,hs2,hs3,hs4,hs5⟩:=hSw;go_simp;rfl) ?_
     iterate 4(simp only[Act.put,sA,sZ,sC];refine wpHP_soft (by simp only[List.getElem?_toArray,List.getElem?_cons_succ,List.getElem?_cons_zero];rfl) (by rfl) hS0 (by intro w' hSw;obtain⟨hs1,hs2,hs3,hs4,hs5⟩:=hSw;go_simp;rfl) ?_)
     simp only[Act.put,sA,sZ,sC];refine wpHP_soft (by simp only[List.getElem?_toArray,List.getElem?_cons_succ,List.getElem?_cons_zero];rfl) (by rfl) hS0 (by intro w' _;go_simp;rw[if_pos (by omega),HA2.out]) ?_;simp only[Act.put,sA,sZ,sC];refine wpHP_run (w':=wr.drew.drew.alloc (.cells #[.int .i64 y.code,.int .i64 y.at_,.int .i64 y.end_,.string y.text,.slice none 0 0] 78)) (by simp only[List.getElem?_toArray,List.getElem?_cons_succ,List.getElem?_cons_zero];rfl) (by rfl) (by go_simp;rfl) ?_ ?_
     ·exact fun _=>⟨by go_simp,by go_simp,by go_simp,by go_simp,by go_simp⟩
     simp only[Act.put,sA,sZ,sC];refine wpHP_law (by simp only[List.getElem?_toArray,List.getElem?_cons_succ,List.getElem?_cons_zero];rfl) (by rfl) ?_;refine(wp_append_S _ (.tmp 42) (.tmp 46) _ rfl w.heap.size 78 i0 _ 5 64 Tryz.underlying31 hi0 hz0 hz1 hz2 rfl (.slice A5 n5 c5) n5 (pre.flatMap dgCells) rfl (HO.out.drew.drew.alloc _) ⟨wr.heap.size,0,none⟩ 1 1 (dgCells y) rfl rfl (news_five _ _ _ _ _ _ _ (by go_simp) (by go_simp) (by go_simp) (by go_simp) (by go_simp)) (by simp[dgCells,Value.oneCell']) (by simp only[maxLen];omega) (by omega) (by simp;omega) ?_);intro v6 w6 hown hgrow hat;obtain⟨A6,c6,hv6,-,-⟩:=hown.shape;subst hv6
     have hfar:∀ o,w6.cell? ⟨b',o,none⟩=wr.cell? ⟨b',o,none⟩:=fun o=>by
      rw[hgrow.cell_far _ (by simp;omega) (fun e1=>HAP.out e1.symm)]
      go_simp
     have hS6:w6.cell? ⟨b',off',none⟩=some (.int .i64 y.code)∧w6.cell? ⟨b',off'+1,none⟩=some (.int .i64 y.at_)∧w6.cell? ⟨b',off'+2,none⟩=some (.int .i64 y.end_)∧w6.cell? ⟨b',off'+3,none⟩=some (.string y.text)∧w6.cell? ⟨b',off'+4,none⟩=some (.slice none 0 0):=⟨(hfar _).trans z0,(hfar _).trans z1,(hfar _).trans z2,(hfar _).trans z3,(hfar _).trans z4⟩
     refine⟨fun _=>hS6,?_⟩
     iterate 2(simp only[Act.put,sA,sZ,sC];refine wpHP_run (w':=w6) (by simp only[List.getElem?_toArray,List.getElem?_cons_succ,List.getElem?_cons_zero];rfl) (by rfl) (by go_simp;rfl) (fun _=>hS6) ?_)
     simp only[Act.put,sA,sZ,sC];refine wpHP_nil ?_;have HOWN:=kH hown;have HB6:=kH (((((Since.refl (fun g=>w.heap.size≤g) w).below HBB.out).drew.drew.alloc (.cells #[.int .i64 y.code,.int .i64 y.at_,.int .i64 y.end_,.string y.text,.slice none 0 0] 78)).grown hgrow (fun g hg=>.inl (HO.out.lt g hg).1)).toBelow (Nat.le_refl _) (fun g hg=>hg));have HBR:=kH ((((Since.refl (fun g=>w.heap.size≤g) wr).drew.drew.alloc (.cells #[.int .i64 y.code,.int .i64 y.at_,.int .i64 y.end_,.string y.text,.slice none 0 0] 78)).grown hgrow (fun g hg=>.inl (HO.out.lt g hg).1)).toBelow hwsz (fun g hg=>hg));clear hown hgrow hat hfar hS6 hS0
     go_wp2_with fail
     go_roundg (gk - 1)
     case measure=>omega
     case rel =>
      refine⟨x :: da,db,pre ++ [y],_,A2,A6,m+1,m',n5+1,ca',cb' - 1,c6,by omega,by simp;omega,by omega,by rw[List.length_append,← HN5.out];rfl,by omega,by first | rfl | (simp;omega),by first | rfl | (simp;omega),by first | rfl | (simp;omega),by omega,by omega,HM2.out,HRa.out.below HBR.out (Nat.le_refl _),HR2.out.below HBR.out (Nat.le_refl _),?_,HB6.out⟩;rw[List.flatMap_append]
      simpa using HOWN.out
end Go.Proofs.YtoepemlnlpamlaaGreat
namespace Go.Proofs.YtoepemlnlpamlaaGreat
set_option maxRecDepth 100000
set_option maxHeartbeats 4000000
theorem lift_mono {α:Type} {F:Nat→Option α} (h:∀ f y,F f=some y→F (f+1)=some y) {f f':Nat} (hf:f≤f') {y:α} (hy:F f=some y):F f'=some y:=by
 obtain⟨d,rfl⟩:=Nat.exists_eq_add_of_le hf
 induction d with
 | zero=>exact hy
 | succ d ih=>exact h _ _ (ih (by omega))
section
variable {s:Bytes} {l:List Tok}
theorem fieldsM_mono:∀ (f:Nat) (p:PS) (kids:List Tree) (y:List Tree × PS),fieldsM s l f p kids=some y→fieldsM s l (f+1) p kids=some y:=by
 intro f
 induction f with
 | zero=>intro p kids y h;simp[fieldsM]at h
 | succ f ih =>
  intro p kids y h;rw[fieldsM]at h ⊢;split at h
  ·rename_i hb;rw[if_pos hb];exact ih _ _ _ h
  ·rename_i hb;rw[if_neg hb];exact h
theorem recordM_mono (f:Nat) (p:PS) (y:Tree × PS) (h:recordM s l f p=some y):recordM s l (f+1) p=some y:=by
 unfold recordM at h ⊢;simp only at h ⊢;split at h
 ·cases h
 ·rename_i kids q hq
  rw[fieldsM_mono f _ _ _ hq];exact h
theorem paramsL_mono:∀ (f:Nat) (p:PS) (kids:List Tree) (y:List Tree × PS),paramsL s l f p kids=some y→paramsL s l (f+1) p kids=some y:=by
 intro f
 induction f with
 | zero=>intro p kids y h;simp[paramsL]at h
 | succ f ih =>
  intro p kids y h;rw[paramsL]at h ⊢;split at h
  ·rename_i hb;rw[if_pos hb];exact ih _ _ _ h
  ·rename_i hb;rw[if_neg hb];exact h
theorem paramsM_mono (f:Nat) (p:PS) (y:Tree × PS) (h:paramsM s l f p=some y):paramsM s l (f+1) p=some y:=by
 unfold paramsM at h ⊢;simp only at h ⊢;split at h
 ·cases h
 ·rename_i kids q hq
  have:(if isM s l (expectM s l p [40]) [41] then some ([],expectM s l p [40]) else paramsL s l (f+1) (paramM s l (expectM s l p [40])).2 [(paramM s l (expectM s l p [40])).1])=some (kids,q):=by
   split at hq
   ·rename_i hb;rw[if_pos hb];exact hq
   ·rename_i hb;rw[if_neg hb];exact paramsL_mono f _ _ _ hq
  rw[this];exact h
theorem procM_mono (f:Nat) (p:PS) (y:Tree × PS) (h:procM s l f p=some y):procM s l (f+1) p=some y:=by
 unfold procM at h ⊢;simp only at h ⊢;split at h
 ·cases h
 ·rename_i x q hq
  rw[paramsM_mono f _ _ hq];split at h
  ·rename_i b p3 hb
   simp only;rw[parM_mono f _ _ _ hb];exact h
  ·cases h
theorem noDecl_mono:∀ (f:Nat) (p q:PS),noDecl s l f p=some q→noDecl s l (f+1) p=some q:=by
 intro f
 induction f with
 | zero=>intro p q h;simp[noDecl]at h
 | succ f ih =>
  intro p q h;rw[noDecl]at h ⊢;split at h
  ·rename_i hb;rw[if_pos hb];exact ih _ _ h
  ·rename_i hb;rw[if_neg hb];exact h
theorem progL_mono:∀ (f:Nat) (p:PS) (kids:List Tree) (y:List Tree × PS),progL s l f p kids=some y→progL s l (f+1) p kids=some y:=by
 intro f
 induction f with
 | zero=>intro p kids y h;simp[progL]at h
 | succ f ih =>
  intro p kids y h;rw[progL]at h ⊢;split at h
  ·rename_i hb;rw[if_pos hb];exact h
  ·rename_i hb
   rw[if_neg hb];split at h
   ·rename_i hr
    rw[if_pos hr];split at h
    ·cases h
    ·rename_i x q hq
     rw[recordM_mono f _ _ hq];exact ih _ _ _ h
   ·rename_i hr
    rw[if_neg hr];split at h
    ·rename_i hp
     rw[if_pos hp];split at h
     ·cases h
     ·rename_i x q hq
      rw[procM_mono f _ _ hq];exact ih _ _ _ h
    ·rename_i hp
     rw[if_neg hp];split at h
     ·cases h
     ·rename_i q hq
      rw[noDecl_mono f _ _ hq];exact ih _ _ _ h
theorem fieldsM_ex (he:Ends l):∀ (n:Nat) (p:PS) (kids:List Tree),p.k < l.length→l.length - p.k≤n→∃ f y q,fieldsM s l f p kids=some (y,q)∧Le l p q:=by
 intro n
 induction n with
 | zero=>intro p kids h1 h2;omega
 | succ n ih =>
  intro p kids hp hn
  by_cases hb:isM s l p [44] = true
  ·have h1:=le_read he hp (isM_kind hb)
   have h2:=le_field (s:=s) he h1.1.2;obtain⟨f,y,q,h3,h4⟩:=ih (fieldM s l (readM l p)).2 (kids ++ [(fieldM s l (readM l p)).1]) h2.2 (by have:=h1.2;have:=h2.1;omega);exact⟨f+1,y,q,by rw[fieldsM,if_pos hb];exact h3,(h1.1.trans h2).trans h4⟩
  ·exact⟨1,kids,p,by rw[fieldsM,if_neg hb],le_refl hp⟩
theorem recordM_ex (he:Ends l) {p:PS} (hp:p.k < l.length) (h5:kindM l p≠5):∃ f x q,recordM s l f p=some (x,q)∧Le l p q∧p.k < q.k:=by
 have h1:=le_read he hp h5;have h2:=le_name he h1.1.2;have h3:=le_expect (s:=s) (w:=[123]) he h2.2;have h4:=le_field (s:=s) he h3.2;obtain⟨f,y,q,h6,h7⟩:=fieldsM_ex (s:=s) he (l.length) (fieldM s l (expectM s l (nameP l (readM l p)) [123])).2 [(fieldM s l (expectM s l (nameP l (readM l p)) [123])).1] h4.2 (by omega);have h8:=le_expect (s:=s) (w:=[125]) he h7.2;refine⟨f,_,_,by unfold recordM;simp only;rw[h6],((((h1.1.trans h2).trans h3).trans h4).trans h7).trans h8,?_⟩;have:=h1.2;have:=h2.1;have:=h3.1;have:=h4.1;have:=h7.1;have:=h8.1;omega
theorem paramsL_ex (he:Ends l):∀ (n:Nat) (p:PS) (kids:List Tree),p.k < l.length→l.length - p.k≤n→∃ f y q,paramsL s l f p kids=some (y,q)∧Le l p q:=by
 intro n
 induction n with
 | zero=>intro p kids h1 h2;omega
 | succ n ih =>
  intro p kids hp hn
  by_cases hb:isM s l p [44] = true
  ·have h1:=le_read he hp (isM_kind hb)
   have h2:=le_param (s:=s) he h1.1.2;obtain⟨f,y,q,h3,h4⟩:=ih (paramM s l (readM l p)).2 (kids ++ [(paramM s l (readM l p)).1]) h2.2 (by have:=h1.2;have:=h2.1;omega);exact⟨f+1,y,q,by rw[paramsL,if_pos hb];exact h3,(h1.1.trans h2).trans h4⟩
  ·exact⟨1,kids,p,by rw[paramsL,if_neg hb],le_refl hp⟩
theorem paramsM_ex (he:Ends l) {p:PS} (hp:p.k < l.length):∃ f x q,paramsM s l f p=some (x,q)∧Le l p q:=by
 have h1:=le_expect (s:=s) (w:=[40]) he hp
 obtain⟨f,kids,q,h2,h3⟩:∃ f kids q,(if isM s l (expectM s l p [40]) [41] then some ([],expectM s l p [40]) else paramsL s l f (paramM s l (expectM s l p [40])).2 [(paramM s l (expectM s l p [40])).1])=some (kids,q)∧Le l (expectM s l p [40]) q:=by
  by_cases hb:isM s l (expectM s l p [40]) [41] = true
  ·exact⟨0,[],_,by rw[if_pos hb],le_refl h1.2⟩
  ·have h4:=le_param (s:=s) he h1.2
   obtain⟨f,y,q,h6,h7⟩:=paramsL_ex (s:=s) he (l.length) (paramM s l (expectM s l p [40])).2 [(paramM s l (expectM s l p [40])).1] h4.2 (by omega);exact⟨f,y,q,by rw[if_neg hb];exact h6,h4.trans h7⟩
 have h8:=le_expect (s:=s) (w:=[41]) he h3.2;exact⟨f,_,_,by unfold paramsM;simp only;rw[h2],(h1.trans h3).trans h8⟩
theorem procM_ex (he:Ends l) (hend:EndsEmpty s l) {p:PS} (hp:p.k < l.length) (h5:kindM l p≠5):∃ f x q,procM s l f p=some (x,q)∧Le l p q∧p.k < q.k:=by
 have h1:=le_read he hp h5;have h2:=le_name he h1.1.2;obtain⟨f1,x,q,h3,h4⟩:=paramsM_ex (s:=s) he h2.2;have h6:=le_opt (s:=s) he h4.2;have h7:=ans_one (par_ex he hend _ .block (optM s l q).2 h6.2 trivial (Nat.lt_succ_self _)) rfl;obtain⟨f2,b,q2,h8,h9,-⟩:=h7;refine⟨max f1 f2,nodeM l q2 p.k 5 (nameT s l (readM l p)) [x,(optM s l q).1,b],q2,?_,(((h1.1.trans h2).trans h4).trans h6).trans h9,?_⟩
 ·unfold procM
  simp only;rw[lift_mono (F:=fun f=>paramsM s l f (nameP l (readM l p))) (fun f y h=>paramsM_mono f _ y h) (Nat.le_max_left f1 f2) h3];simp only;rw[h8 _ (Nat.le_max_right f1 f2)]
 ·have:=h1.2
  have:=h2.1;have:=h4.1;have:=h6.1;have:=h9.1;omega
theorem noDecl_ex (he:Ends l):∀ (n:Nat) (p:PS),p.k < l.length→l.length - p.k≤n→∃ f q,noDecl s l f p=some q∧Le l p q∧((decide (kindM l p≠5) && !isM s l p [114,101,99,111,114,100] && !isM s l p [112,114,111,99])=true→p.k < q.k):=by
 intro n
 induction n with
 | zero=>intro p h1 h2;omega
 | succ n ih =>
  intro p hp hn
  by_cases hb:(decide (kindM l p≠5) && !isM s l p [114,101,99,111,114,100] && !isM s l p [112,114,111,99])=true
  ·have h5:kindM l p≠5:=by
    simp only[Bool.and_eq_true,decide_eq_true_eq]at hb;exact hb.1.1
   have h1:=le_read he hp h5;obtain⟨f,q,h3,h4,-⟩:=ih (readM l p) h1.1.2 (by have:=h1.2;omega);exact⟨f+1,q,by rw[noDecl,if_pos hb];exact h3,h1.1.trans h4,fun _=>by have:=h1.2;have:=h4.1;omega⟩
  ·exact⟨1,p,by rw[noDecl,if_neg hb],le_refl hp,fun h=>absurd h hb⟩
theorem isM_rep {p:PS} {c:Int} {t w:Bytes}:isM s l (repM l p c t) w=isM s l p w:=by
 unfold isM kindM;rw[repM_k]
theorem kindM_rep {p:PS} {c:Int} {t:Bytes}:kindM l (repM l p c t)=kindM l p:=by
 unfold kindM;rw[repM_k]
theorem progL_ex (he:Ends l) (hend:EndsEmpty s l):∀ (n:Nat) (p:PS) (kids:List Tree),p.k < l.length→l.length - p.k≤n→∃ f y q,progL s l f p kids=some (y,q):=by
 intro n
 induction n with
 | zero=>intro p kids h1 h2;omega
 | succ n ih =>
  intro p kids hp hn
  by_cases h5:kindM l p=5
  ·exact⟨1,kids,p,by rw[progL,if_pos h5]⟩
  ·by_cases hr:isM s l p [114,101,99,111,114,100] = true
   ·obtain⟨f1,x,q,h1,h2,h3⟩:=recordM_ex (s:=s) he hp h5
    obtain⟨f2,y,q2,h4⟩:=ih q (kids ++ [x]) h2.2 (by omega);refine⟨max f1 f2+1,y,q2,?_⟩;rw[progL,if_neg h5,if_pos hr,lift_mono (F:=fun f=>recordM s l f p) (fun f y h=>recordM_mono f _ y h) (Nat.le_max_left f1 f2) h1];exact lift_mono (F:=fun f=>progL s l f q (kids ++ [x])) (fun f y h=>progL_mono f _ _ y h) (Nat.le_max_right f1 f2) h4
   ·by_cases hpc:isM s l p [112,114,111,99] = true
    ·obtain⟨f1,x,q,h1,h2,h3⟩:=procM_ex (s:=s) he hend hp h5
     obtain⟨f2,y,q2,h4⟩:=ih q (kids ++ [x]) h2.2 (by omega);refine⟨max f1 f2+1,y,q2,?_⟩;rw[progL,if_neg h5,if_neg hr,if_pos hpc,lift_mono (F:=fun f=>procM s l f p) (fun f y h=>procM_mono f _ y h) (Nat.le_max_left f1 f2) h1];exact lift_mono (F:=fun f=>progL s l f q (kids ++ [x])) (fun f y h=>progL_mono f _ _ y h) (Nat.le_max_right f1 f2) h4
    ·obtain⟨f1,q,h1,h2,h3⟩:=noDecl_ex (s:=s) he (l.length) (repM l p 7 []) (by rw[repM_k];exact hp) (by omega)
     have h3':=h3 (by rw[kindM_rep,isM_rep,isM_rep];simp[h5,hr,hpc]);rw[repM_k]at h3';obtain⟨f2,y,q2,h4⟩:=ih q (kids ++ [nodeM l q p.k 1 [] []]) h2.2 (by omega);refine⟨max f1 f2+1,y,q2,?_⟩;rw[progL,if_neg h5,if_neg hr,if_neg hpc,lift_mono (F:=fun f=>noDecl s l f (repM l p 7 [])) (fun f y h=>noDecl_mono f _ y h) (Nat.le_max_left f1 f2) h1];exact lift_mono (F:=fun f=>progL s l f q (kids ++ [nodeM l q p.k 1 [] []])) (fun f y h=>progL_mono f _ _ y h) (Nat.le_max_right f1 f2) h4
end
end Go.Proofs.YtoepemlnlpamlaaGreat
