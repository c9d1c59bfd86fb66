/- The law NamesResolves holds where what it reads is of bulk at most 1048576: it returns true, and its argument reads as before. Part 14: Merg ProgE. -/
import Derived.Test.YtoepemlnlpamlaaGreatReso09
import Derived.Test.YtoepemlnlpamlaaGreatReso13
set_option maxRecDepth 100000
set_option maxHeartbeats 4000000
namespace Go.Proofs.YtoepemlnlpamlaaGreat
open Go.RowKit
theorem bN.tail{α:Type}{size:Nat}{cells:α->List Value}{w:World}{B:Nat}{b off:Nat}{x:α}{l:List α}{cap:Nat}(h:bN size cells w B (some ⟨b,off,none⟩) (x::l))(hc:l.length+1<=cap):
 bN size cells w B (if cap=1 then some ⟨b,off,none⟩ else some ⟨b,off+size,none⟩) l:=by
 intro k c hk;have hkl:=(abK.1 hk).1;obtain⟨b1,MU,h1,h2,h3⟩:=h (k+1) c (by simpa using hk);rw[if_neg (by omega)];refine⟨b,off+size,rfl,?_,fun j v hj=>?_⟩
 ·have:b1=b:=by simp at h1;exact h1.1.symm
  rw[<- this];exact h2
 ·have e1:b1=b/\MU=off:=by simp at h1;exact⟨h1.1.symm,h1.2.symm⟩
  have:=h3 j v hj;rw[e1.1,e1.2]at this;rw[show off+size+k*size+j=off+(k+1)*size+j by rw[Nat.add_mul];omega];exact this
theorem La(l:List Dg):ib l []=l:=by cases l<;>simp[ib]
theorem K8(la lb:List Dg)(A B:Option Addr)(ca cb:Nat)(w:World)(ha:bN 5 bC w w.heap.size A la)(hb:bN 5 bC w w.heap.size B lb)(hla:la.length<=10000)(hlb:lb.length<=10000)(Uc:la.length<=ca)(hcb:lb.length<=cb):Calls Tryz.prog 72 #[.slice A la.length ca,.slice B lb.length cb] w (ZJ w (ib la lb)):=by
 obtain⟨i0,hi0,hz0,hz1,hz2⟩:=info_parts Dj;have HA:=kH ha;have HB:=kH hb;have HLEN:Hid (la.length<=10000/\lb.length<=10000/\la.length<=ca/\lb.length<=cb):=kH ⟨hla,hlb,Uc,hcb⟩;clear ha hb hla hlb Uc hcb;go_enter Tryz.func72,Tryz.ntmps72
 go_wp2_with fail
 generalize hW1:w.alloc (.cells #[] 78)=W1
 have hb1:Below w.heap.size w W1:=by rw[<- hW1];exact ag _ _
 have yP:aL W1 w.heap.size 78 5 (.slice (some ⟨w.heap.size,0,none⟩) 0 0) 0 (([]:List Dg).flatMap bC):=by
  have hn:=ai.new w 78 #[];rw[hW1]at hn;exact aL.block (n:=0) (cur:=#[]) (abE _) hn (by simp[maxLen]) rfl
 have zw:=kH yP;have HB1:=kH hb1;clear hW1 yP hb1;go_loopg [0,1,5] (la.length+lb.length) (fun gk s0 s1 s5 wr=> ∃(da db pre:List Dg) (Aa Ab A5:Option Addr) (na nb n5 Mf cb' c5:Nat),na+nb=gk/\na=da.length/\nb=db.length/\n5=pre.length/\n5+gk=la.length+lb.length/\s0= .slice Aa na Mf/\s1= .slice Ab nb cb'/\s5= .slice A5 n5 c5/\na<=Mf/\nb<=cb'/\ib la lb=pre++ib da db/\bN 5 bC wr w.heap.size Aa da/\bN 5 bC wr w.heap.size Ab db/\aL wr w.heap.size 78 5 (.slice A5 n5 c5) n5 (pre.flatMap bC)/\Below w.heap.size w wr)
 case atStart=>exact⟨la,lb,[],A,B,_,la.length,lb.length,0,ca,cb,0,rfl,rfl,rfl,rfl,by omega,rfl,rfl,rfl,HLEN.out.2.2.1,HLEN.out.2.2.2,rfl,HA.out.below HB1.out (abE _),HB.out.below HB1.out (abE _),zw.out,HB1.out⟩
 case round=>
  obtain⟨da,db,pre,Aa,Ab,A5,na,nb,n5,Mf,cb',c5,hk,hna,hnb,NR,hsum,rfl,rfl,rfl,hca',hcb',hM,hRa,hRb,hO,hB⟩:=hrel;have HL2:=HLEN.out;have Si:=kH hM;have Zv:=kH hRa;have Uz:=kH hRb;have HO:=kH hO;have oK:=kH hB;have IX:=kH NR;have QM:=hB.size;have hsm:n5<=20000:=by omega
  clear hM hRa hRb hO hB NR
  cases da with
  | nil=>
   simp only[List.length_nil]at hna;subst hna
   cases db with
   | nil=>
    simp only[List.length_nil]at hnb;subst hnb;go_wp2_with fail
    refine bodyPost_ret (v:=.slice A5 n5 c5) (by simp[results,Tryz.results72,go_sem]) rfl ?_;have hm:=Si.out;rw[La,List.append_nil]at hm;exact⟨A5,n5,c5,rfl,by rw[hm];exact IX.out,by rw[hm];exact HO.out,oK.out⟩
   | cons y db=>
    simp only[abR]at hnb;obtain⟨m,rfl⟩:∃m,nb=m+1:=⟨nb - 1,by omega⟩
    obtain⟨b,off,hA,hb,hcs⟩:=Uz.out 0 y rfl;subst hA;have z0:wr.cell? ⟨b,off,none⟩=some (.int .i64 y.code):=by simpa using hcs 0 _ rfl
    have z1:wr.cell? ⟨b,off+1,none⟩=some (.int .i64 y.at_):=by simpa using hcs 1 _ rfl
    have z2:wr.cell? ⟨b,off+2,none⟩=some (.int .i64 y.end_):=by simpa using hcs 2 _ rfl
    have z3:wr.cell? ⟨b,off+3,none⟩=some (.string y.text):=by simpa using hcs 3 _ rfl
    have z4:wr.cell? ⟨b,off+4,none⟩=some (.slice none 0 0):=by simpa using hcs 4 _ rfl
    obtain⟨A2,hA2⟩:∃A2:Option Addr,(if cb'=1 then some ⟨b,off,none⟩ else some ⟨b,off+5,none⟩)=A2:=⟨_,rfl⟩
    have HA2:=kH hA2;have HR2:Hid (bN 5 bC wr w.heap.size A2 db):=kH (by rw[<- hA2];exact Uz.out.tail (by omega));have hbl:b<wr.heap.size:=by omega
    have GI:Hid ((Value.slice A5 n5 c5).ownBlock≠some b):=kH (fun e1=>by have:=(HO.out.lt _ e1).1;omega);clear hA2;have Sj:Hid (ib la lb=pre++[y]++ib [] db):=kH (by rw[Si.out];simp[ib]);have e1:(((m:Int)+1)==0)=false:=by rw[Bool.eq_false_iff];simp;omega
    have e2:decide ((0:Int)<(m:Int)+1)=true:=decide_eq_true (by omega);clear hcs;go_wp2_with fail
    have Hg:=z1;have hS0:wr.drew.cell? ⟨b,off+1,none⟩=some (.int .i64 y.at_):=Hg;refine dZ (fun w'=>w'.cell? ⟨b,off+1,none⟩=some (.int .i64 y.at_)) [] [true,true,true,true,true,true,true,true,true,true,true,true,true,true,true,true,true,true,true] (by kernel_rfl) (by kernel_rfl) rfl (by kernel_rfl) ?_;iterate 19((first|(refine eG (by rfl) hS0 ?_)|(refine dz (by rfl) hS0 (by intro w' hSw;obtain hs1:=hSw;go_simp;rfl) ?_));simp only[Act.put,sA,sZ,sC])
    refine iU ?_;clear hS0;clear Hg;go_wp2_with fail
    refine o9 (fun w'=>w'.cell? ⟨b,off,none⟩=some (.int .i64 y.code)/\w'.cell? ⟨b,off+1,none⟩=some (.int .i64 y.at_)/\w'.cell? ⟨b,off+2,none⟩=some (.int .i64 y.end_)/\w'.cell? ⟨b,off+3,none⟩=some (.string y.text)/\w'.cell? ⟨b,off+4,none⟩=some (.slice none 0 0)) [] [(0,true),(1,true),(2,true),(3,true),(6,true),(7,true),(4,false),(5,false),(8,false),(9,false)] (by kernel_rfl) (by kernel_rfl) rfl (by kernel_rfl) ?_;have hS0:wr.drew.drew.cell? ⟨b,off,none⟩=some (.int .i64 y.code)/\wr.drew.drew.cell? ⟨b,off+1,none⟩=some (.int .i64 y.at_)/\wr.drew.drew.cell? ⟨b,off+2,none⟩=some (.int .i64 y.end_)/\wr.drew.drew.cell? ⟨b,off+3,none⟩=some (.string y.text)/\wr.drew.drew.cell? ⟨b,off+4,none⟩=some (.slice none 0 0):=⟨z0,z1,z2,z3,z4⟩
    refine iP (by simp only[abN,abL];rfl) (by rfl) hS0 (by intro w' hSw;obtain⟨hs1,hs2,hs3,hs4,hs5⟩:=hSw;go_simp;rfl) ?_;iterate 4(simp only[Act.put,sA,sZ,sC];refine iP (by simp only[abN,abM,abL];rfl) (by rfl) hS0 (by intro w' hSw;obtain⟨hs1,hs2,hs3,hs4,hs5⟩:=hSw;go_simp;rfl) ?_)
    simp only[Act.put,sA,sZ,sC];refine iP (by simp only[abN,abM,abL];rfl) (by rfl) hS0 (by intro w' _;go_simp;rw[if_pos (by omega),HA2.out]) ?_;simp only[Act.put,sA,sZ,sC];refine pg (w':=wr.drew.drew.alloc (.cells #[.int .i64 y.code,.int .i64 y.at_,.int .i64 y.end_,.string y.text,.slice none 0 0] 78)) (by simp only[abN,abM,abL];rfl) (by rfl) (by go_simp;rfl) ?_ ?_
    ·exact fun _=>⟨by go_simp,by go_simp,by go_simp,by go_simp,by go_simp⟩
    simp only[Act.put,sA,sZ,sC];refine sj (by simp only[abN,abM,abL];rfl) (by rfl) ?_;refine(iY _ (.tmp 42) (.tmp 46) _ rfl w.heap.size 78 i0 _ 5 64 Tryz.underlying31 hi0 hz0 hz1 hz2 rfl (.slice A5 n5 c5) n5 (pre.flatMap bC) rfl (HO.out.drew.drew.alloc _) ⟨wr.heap.size,0,none⟩ 1 1 (bC y) rfl rfl (jd _ _ _ _ _ _ _ (by go_simp) (by go_simp) (by go_simp) (by go_simp) (by go_simp)) (by simp[bC,Value.oneCell']) (by simp only[maxLen];omega) (by omega) (by simp;omega) ?_);intro v6 w6 hown hgrow hat;obtain⟨A6,c6,hv6,-,-⟩:=hown.shape;subst hv6
    have nz:∀o,w6.cell? ⟨b,o,none⟩=wr.cell? ⟨b,o,none⟩:=fun o=>by
     rw[hgrow.cell_far _ (by simp;omega) (fun e1=>GI.out e1.symm)];go_simp
    have tJ:w6.cell? ⟨b,off,none⟩=some (.int .i64 y.code)/\w6.cell? ⟨b,off+1,none⟩=some (.int .i64 y.at_)/\w6.cell? ⟨b,off+2,none⟩=some (.int .i64 y.end_)/\w6.cell? ⟨b,off+3,none⟩=some (.string y.text)/\w6.cell? ⟨b,off+4,none⟩=some (.slice none 0 0):=⟨(nz _).trans z0,(nz _).trans z1,(nz _).trans z2,(nz _).trans z3,(nz _).trans z4⟩
    refine⟨fun _=>tJ,?_⟩;iterate 2(simp only[Act.put,sA,sZ,sC];refine pg (w':=w6) (by simp only[abN,abM,abL];rfl) (by rfl) (by go_simp;rfl) (fun _=>tJ) ?_)
    simp only[Act.put,sA,sZ,sC];refine vC ?_;have HOWN:=kH hown;have mP:=kH (((((aF.refl (fun g=>w.heap.size<=g) w).below oK.out).drew.drew.alloc (.cells #[.int .i64 y.code,.int .i64 y.at_,.int .i64 y.end_,.string y.text,.slice none 0 0] 78)).grown hgrow (fun g hg=>.inl (HO.out.lt g hg).1)).toBelow (abE _) (fun g hg=>hg));have nT:=kH ((((aF.refl (fun g=>w.heap.size<=g) wr).drew.drew.alloc (.cells #[.int .i64 y.code,.int .i64 y.at_,.int .i64 y.end_,.string y.text,.slice none 0 0] 78)).grown hgrow (fun g hg=>.inl (HO.out.lt g hg).1)).toBelow QM (fun g hg=>hg));clear hown hgrow hat nz tJ hS0;go_wp2_with fail
    go_roundg (gk - 1)
    case measure=>omega
    case rel=>
     refine⟨[],db,pre++[y],Aa,A2,A6,0,m,n5+1,Mf,cb' - 1,c6,by omega,rfl,by omega,by rw[abP,<- IX.out];rfl,by omega,by first|rfl|(simp;omega),by first|rfl|(simp;omega),by first|rfl|(simp;omega),by omega,by omega,Sj.out,Zv.out.below nT.out (abE _),HR2.out.below nT.out (abE _),?_,mP.out⟩;rw[List.flatMap_append]
     simpa using HOWN.out
  | cons x da=>
   simp only[abR]at hna;obtain⟨m,rfl⟩:∃m,na=m+1:=⟨na - 1,by omega⟩
   obtain⟨b,off,hA,hb,hcs⟩:=Zv.out 0 x rfl;subst hA;have e1:(((m:Int)+1)==0)=false:=by rw[Bool.eq_false_iff];simp;omega
   have e2:decide ((0:Int)<(m:Int)+1)=true:=decide_eq_true (by omega)
   cases db with
   | nil=>
    simp only[List.length_nil]at hnb;subst hnb;have z0:wr.cell? ⟨b,off,none⟩=some (.int .i64 x.code):=by simpa using hcs 0 _ rfl
    have z1:wr.cell? ⟨b,off+1,none⟩=some (.int .i64 x.at_):=by simpa using hcs 1 _ rfl
    have z2:wr.cell? ⟨b,off+2,none⟩=some (.int .i64 x.end_):=by simpa using hcs 2 _ rfl
    have z3:wr.cell? ⟨b,off+3,none⟩=some (.string x.text):=by simpa using hcs 3 _ rfl
    have z4:wr.cell? ⟨b,off+4,none⟩=some (.slice none 0 0):=by simpa using hcs 4 _ rfl
    obtain⟨A2,hA2⟩:∃A2:Option Addr,(if Mf=1 then some ⟨b,off,none⟩ else some ⟨b,off+5,none⟩)=A2:=⟨_,rfl⟩
    have HA2:=kH hA2;have HR2:Hid (bN 5 bC wr w.heap.size A2 da):=kH (by rw[<- hA2];exact Zv.out.tail (by omega));have hbl:b<wr.heap.size:=by omega
    have GI:Hid ((Value.slice A5 n5 c5).ownBlock≠some b):=kH (fun e1=>by have:=(HO.out.lt _ e1).1;omega);clear hA2;have Sj:Hid (ib la lb=pre++[x]++ib da []):=kH (by rw[Si.out];simp[La]);clear hcs;go_wp2_with fail
    have Hg:=z1;have hS0:wr.drew.cell? ⟨b,off+1,none⟩=some (.int .i64 x.at_):=Hg;refine dZ (fun w'=>w'.cell? ⟨b,off+1,none⟩=some (.int .i64 x.at_)) [] [true,true,true,true,true,true,true,true,true,true,true,true,true,true,true,true,true,true,true] (by kernel_rfl) (by kernel_rfl) rfl (by kernel_rfl) ?_;iterate 19((first|(refine eG (by rfl) hS0 ?_)|(refine dz (by rfl) hS0 (by intro w' hSw;obtain hs1:=hSw;go_simp;rfl) ?_));simp only[Act.put,sA,sZ,sC])
    refine iU ?_;clear hS0;clear Hg;go_wp2_with fail
    refine o9 (fun w'=>w'.cell? ⟨b,off,none⟩=some (.int .i64 x.code)/\w'.cell? ⟨b,off+1,none⟩=some (.int .i64 x.at_)/\w'.cell? ⟨b,off+2,none⟩=some (.int .i64 x.end_)/\w'.cell? ⟨b,off+3,none⟩=some (.string x.text)/\w'.cell? ⟨b,off+4,none⟩=some (.slice none 0 0)) [] [(0,true),(1,true),(2,true),(3,true),(6,true),(7,true),(4,false),(5,false),(8,false),(9,false)] (by kernel_rfl) (by kernel_rfl) rfl (by kernel_rfl) ?_;have hS0:wr.drew.drew.cell? ⟨b,off,none⟩=some (.int .i64 x.code)/\wr.drew.drew.cell? ⟨b,off+1,none⟩=some (.int .i64 x.at_)/\wr.drew.drew.cell? ⟨b,off+2,none⟩=some (.int .i64 x.end_)/\wr.drew.drew.cell? ⟨b,off+3,none⟩=some (.string x.text)/\wr.drew.drew.cell? ⟨b,off+4,none⟩=some (.slice none 0 0):=⟨z0,z1,z2,z3,z4⟩
    refine iP (by simp only[abN,abL];rfl) (by rfl) hS0 (by intro w' hSw;obtain⟨hs1,hs2,hs3,hs4,hs5⟩:=hSw;go_simp;rfl) ?_;iterate 4(simp only[Act.put,sA,sZ,sC];refine iP (by simp only[abN,abM,abL];rfl) (by rfl) hS0 (by intro w' hSw;obtain⟨hs1,hs2,hs3,hs4,hs5⟩:=hSw;go_simp;rfl) ?_)
    simp only[Act.put,sA,sZ,sC];refine iP (by simp only[abN,abM,abL];rfl) (by rfl) hS0 (by intro w' _;go_simp;rw[if_pos (by omega),HA2.out]) ?_;simp only[Act.put,sA,sZ,sC];refine pg (w':=wr.drew.drew.alloc (.cells #[.int .i64 x.code,.int .i64 x.at_,.int .i64 x.end_,.string x.text,.slice none 0 0] 78)) (by simp only[abN,abM,abL];rfl) (by rfl) (by go_simp;rfl) ?_ ?_
    ·exact fun _=>⟨by go_simp,by go_simp,by go_simp,by go_simp,by go_simp⟩
    simp only[Act.put,sA,sZ,sC];refine sj (by simp only[abN,abM,abL];rfl) (by rfl) ?_;refine(iY _ (.tmp 34) (.tmp 38) _ rfl w.heap.size 78 i0 _ 5 64 Tryz.underlying31 hi0 hz0 hz1 hz2 rfl (.slice A5 n5 c5) n5 (pre.flatMap bC) rfl (HO.out.drew.drew.alloc _) ⟨wr.heap.size,0,none⟩ 1 1 (bC x) rfl rfl (jd _ _ _ _ _ _ _ (by go_simp) (by go_simp) (by go_simp) (by go_simp) (by go_simp)) (by simp[bC,Value.oneCell']) (by simp only[maxLen];omega) (by omega) (by simp;omega) ?_);intro v6 w6 hown hgrow hat;obtain⟨A6,c6,hv6,-,-⟩:=hown.shape;subst hv6
    have nz:∀o,w6.cell? ⟨b,o,none⟩=wr.cell? ⟨b,o,none⟩:=fun o=>by
     rw[hgrow.cell_far _ (by simp;omega) (fun e1=>GI.out e1.symm)];go_simp
    have tJ:w6.cell? ⟨b,off,none⟩=some (.int .i64 x.code)/\w6.cell? ⟨b,off+1,none⟩=some (.int .i64 x.at_)/\w6.cell? ⟨b,off+2,none⟩=some (.int .i64 x.end_)/\w6.cell? ⟨b,off+3,none⟩=some (.string x.text)/\w6.cell? ⟨b,off+4,none⟩=some (.slice none 0 0):=⟨(nz _).trans z0,(nz _).trans z1,(nz _).trans z2,(nz _).trans z3,(nz _).trans z4⟩
    refine⟨fun _=>tJ,?_⟩;iterate 2(simp only[Act.put,sA,sZ,sC];refine pg (w':=w6) (by simp only[abN,abM,abL];rfl) (by rfl) (by go_simp;rfl) (fun _=>tJ) ?_)
    simp only[Act.put,sA,sZ];refine vC ?_;have HOWN:=kH hown;have mP:=kH (((((aF.refl (fun g=>w.heap.size<=g) w).below oK.out).drew.drew.alloc (.cells #[.int .i64 x.code,.int .i64 x.at_,.int .i64 x.end_,.string x.text,.slice none 0 0] 78)).grown hgrow (fun g hg=>.inl (HO.out.lt g hg).1)).toBelow (abE _) (fun g hg=>hg));have nT:=kH ((((aF.refl (fun g=>w.heap.size<=g) wr).drew.drew.alloc (.cells #[.int .i64 x.code,.int .i64 x.at_,.int .i64 x.end_,.string x.text,.slice none 0 0] 78)).grown hgrow (fun g hg=>.inl (HO.out.lt g hg).1)).toBelow QM (fun g hg=>hg));clear hown hgrow hat nz tJ hS0;go_wp2_with fail
    go_roundg (gk - 1)
    case measure=>omega
    case rel=>
     refine⟨da,[],pre++[x],A2,Ab,A6,m,0,n5+1,Mf - 1,cb',c6,by omega,by omega,rfl,by rw[abP,<- IX.out];rfl,by omega,by first|rfl|(simp;omega),by first|rfl|(simp;omega),by first|rfl|(simp;omega),by omega,by omega,Sj.out,HR2.out.below nT.out (abE _),Uz.out.below nT.out (abE _),?_,mP.out⟩;rw[List.flatMap_append]
     simpa using HOWN.out
   | cons y db=>
    simp only[abR]at hnb;obtain⟨m',rfl⟩:∃m',nb=m'+1:=⟨nb - 1,by omega⟩
    obtain⟨b',off',hA',hb',hcs'⟩:=Uz.out 0 y rfl;subst hA';have hbl':b'<wr.heap.size:=by omega
    have f1:(((m':Int)+1)==0)=false:=by rw[Bool.eq_false_iff];simp;omega
    have f2:decide ((0:Int)<(m':Int)+1)=true:=decide_eq_true (by omega);have Hg:wr.cell? ⟨b,off+1,none⟩=some (.int .i64 x.at_):=by simpa using hcs 1 _ rfl
    have xc1:wr.cell? ⟨b',off'+1,none⟩=some (.int .i64 y.at_):=by simpa using hcs' 1 _ rfl
    by_cases hle:x.at_<=y.at_
    ·have hd:decide (x.at_<=y.at_)=true:=decide_eq_true hle
     have z0:wr.cell? ⟨b,off,none⟩=some (.int .i64 x.code):=by simpa using hcs 0 _ rfl
     have z1:wr.cell? ⟨b,off+1,none⟩=some (.int .i64 x.at_):=by simpa using hcs 1 _ rfl
     have z2:wr.cell? ⟨b,off+2,none⟩=some (.int .i64 x.end_):=by simpa using hcs 2 _ rfl
     have z3:wr.cell? ⟨b,off+3,none⟩=some (.string x.text):=by simpa using hcs 3 _ rfl
     have z4:wr.cell? ⟨b,off+4,none⟩=some (.slice none 0 0):=by simpa using hcs 4 _ rfl
     obtain⟨A2,hA2⟩:∃A2:Option Addr,(if Mf=1 then some ⟨b,off,none⟩ else some ⟨b,off+5,none⟩)=A2:=⟨_,rfl⟩
     have HA2:=kH hA2;have HR2:Hid (bN 5 bC wr w.heap.size A2 da):=kH (by rw[<- hA2];exact Zv.out.tail (by omega));have hbl:b<wr.heap.size:=by omega
     have GI:Hid ((Value.slice A5 n5 c5).ownBlock≠some b):=kH (fun e1=>by have:=(HO.out.lt _ e1).1;omega);clear hA2;have Sj:Hid (ib la lb=pre++[x]++ib da (y::db)):=kH (by rw[Si.out,ib,if_pos hle];simp);clear hcs hcs' hle;go_wp2_with fail
     have hS0:wr.drew.cell? ⟨b,off+1,none⟩=some (.int .i64 x.at_)/\wr.drew.cell? ⟨b',off'+1,none⟩=some (.int .i64 y.at_):=⟨Hg,xc1⟩
     refine dZ (fun w'=>w'.cell? ⟨b,off+1,none⟩=some (.int .i64 x.at_)/\w'.cell? ⟨b',off'+1,none⟩=some (.int .i64 y.at_)) [] [true,true,true,true,true,true,true,true,true,true,true,true,true,true,true,true,true,true,true] (by kernel_rfl) (by kernel_rfl) rfl (by kernel_rfl) ?_;iterate 19((first|(refine eG (by rfl) hS0 ?_)|(refine dz (by rfl) hS0 (by intro w' hSw;obtain⟨hs1,hs2⟩:=hSw;go_simp;rfl) ?_));simp only[Act.put,sA,sZ,sC])
     refine iU ?_;clear hS0;clear Hg xc1;go_wp2_with fail
     refine o9 (fun w'=>w'.cell? ⟨b,off,none⟩=some (.int .i64 x.code)/\w'.cell? ⟨b,off+1,none⟩=some (.int .i64 x.at_)/\w'.cell? ⟨b,off+2,none⟩=some (.int .i64 x.end_)/\w'.cell? ⟨b,off+3,none⟩=some (.string x.text)/\w'.cell? ⟨b,off+4,none⟩=some (.slice none 0 0)) [] [(0,true),(1,true),(2,true),(3,true),(6,true),(7,true),(4,false),(5,false),(8,false),(9,false)] (by kernel_rfl) (by kernel_rfl) rfl (by kernel_rfl) ?_;have hS0:wr.drew.drew.cell? ⟨b,off,none⟩=some (.int .i64 x.code)/\wr.drew.drew.cell? ⟨b,off+1,none⟩=some (.int .i64 x.at_)/\wr.drew.drew.cell? ⟨b,off+2,none⟩=some (.int .i64 x.end_)/\wr.drew.drew.cell? ⟨b,off+3,none⟩=some (.string x.text)/\wr.drew.drew.cell? ⟨b,off+4,none⟩=some (.slice none 0 0):=⟨z0,z1,z2,z3,z4⟩
     refine iP (by simp only[abN,abL];rfl) (by rfl) hS0 (by intro w' hSw;obtain⟨hs1,hs2,hs3,hs4,hs5⟩:=hSw;go_simp;rfl) ?_;iterate 4(simp only[Act.put,sA,sZ,sC];refine iP (by simp only[abN,abM,abL];rfl) (by rfl) hS0 (by intro w' hSw;obtain⟨hs1,hs2,hs3,hs4,hs5⟩:=hSw;go_simp;rfl) ?_)
     simp only[Act.put,sA,sZ,sC];refine iP (by simp only[abN,abM,abL];rfl) (by rfl) hS0 (by intro w' _;go_simp;rw[if_pos (by omega),HA2.out]) ?_;simp only[Act.put,sA,sZ,sC];refine pg (w':=wr.drew.drew.alloc (.cells #[.int .i64 x.code,.int .i64 x.at_,.int .i64 x.end_,.string x.text,.slice none 0 0] 78)) (by simp only[abN,abM,abL];rfl) (by rfl) (by go_simp;rfl) ?_ ?_
     ·exact fun _=>⟨by go_simp,by go_simp,by go_simp,by go_simp,by go_simp⟩
     simp only[Act.put,sA,sZ,sC];refine sj (by simp only[abN,abM,abL];rfl) (by rfl) ?_;refine(iY _ (.tmp 34) (.tmp 38) _ rfl w.heap.size 78 i0 _ 5 64 Tryz.underlying31 hi0 hz0 hz1 hz2 rfl (.slice A5 n5 c5) n5 (pre.flatMap bC) rfl (HO.out.drew.drew.alloc _) ⟨wr.heap.size,0,none⟩ 1 1 (bC x) rfl rfl (jd _ _ _ _ _ _ _ (by go_simp) (by go_simp) (by go_simp) (by go_simp) (by go_simp)) (by simp[bC,Value.oneCell']) (by simp only[maxLen];omega) (by omega) (by simp;omega) ?_);intro v6 w6 hown hgrow hat;obtain⟨A6,c6,hv6,-,-⟩:=hown.shape;subst hv6
     have nz:∀o,w6.cell? ⟨b,o,none⟩=wr.cell? ⟨b,o,none⟩:=fun o=>by
      rw[hgrow.cell_far _ (by simp;omega) (fun e1=>GI.out e1.symm)];go_simp
     have tJ:w6.cell? ⟨b,off,none⟩=some (.int .i64 x.code)/\w6.cell? ⟨b,off+1,none⟩=some (.int .i64 x.at_)/\w6.cell? ⟨b,off+2,none⟩=some (.int .i64 x.end_)/\w6.cell? ⟨b,off+3,none⟩=some (.string x.text)/\w6.cell? ⟨b,off+4,none⟩=some (.slice none 0 0):=⟨(nz _).trans z0,(nz _).trans z1,(nz _).trans z2,(nz _).trans z3,(nz _).trans z4⟩
     refine⟨fun _=>tJ,?_⟩;iterate 2(simp only[Act.put,sA,sZ,sC];refine pg (w':=w6) (by simp only[abN,abM,abL];rfl) (by rfl) (by go_simp;rfl) (fun _=>tJ) ?_)
     simp only[Act.put,sA,sZ];refine vC ?_;have HOWN:=kH hown;have mP:=kH (((((aF.refl (fun g=>w.heap.size<=g) w).below oK.out).drew.drew.alloc (.cells #[.int .i64 x.code,.int .i64 x.at_,.int .i64 x.end_,.string x.text,.slice none 0 0] 78)).grown hgrow (fun g hg=>.inl (HO.out.lt g hg).1)).toBelow (abE _) (fun g hg=>hg));have nT:=kH ((((aF.refl (fun g=>w.heap.size<=g) wr).drew.drew.alloc (.cells #[.int .i64 x.code,.int .i64 x.at_,.int .i64 x.end_,.string x.text,.slice none 0 0] 78)).grown hgrow (fun g hg=>.inl (HO.out.lt g hg).1)).toBelow QM (fun g hg=>hg));clear hown hgrow hat nz tJ hS0;go_wp2_with fail
     go_roundg (gk - 1)
     case measure=>omega
     case rel=>
      refine⟨da,y::db,pre++[x],A2,_,A6,m,m'+1,n5+1,Mf - 1,cb',c6,by omega,by omega,by simp;omega,by rw[abP,<- IX.out];rfl,by omega,by first|rfl|(simp;omega),by first|rfl|(simp;omega),by first|rfl|(simp;omega),by omega,by omega,Sj.out,HR2.out.below nT.out (abE _),Uz.out.below nT.out (abE _),?_,mP.out⟩;rw[List.flatMap_append];simpa using HOWN.out
    ·have hd:decide (x.at_<=y.at_)=false:=decide_eq_false hle
     have z0:wr.cell? ⟨b',off',none⟩=some (.int .i64 y.code):=by simpa using hcs' 0 _ rfl
     have z1:wr.cell? ⟨b',off'+1,none⟩=some (.int .i64 y.at_):=by simpa using hcs' 1 _ rfl
     have z2:wr.cell? ⟨b',off'+2,none⟩=some (.int .i64 y.end_):=by simpa using hcs' 2 _ rfl
     have z3:wr.cell? ⟨b',off'+3,none⟩=some (.string y.text):=by simpa using hcs' 3 _ rfl
     have z4:wr.cell? ⟨b',off'+4,none⟩=some (.slice none 0 0):=by simpa using hcs' 4 _ rfl
     obtain⟨A2,hA2⟩:∃A2:Option Addr,(if cb'=1 then some ⟨b',off',none⟩ else some ⟨b',off'+5,none⟩)=A2:=⟨_,rfl⟩
     have HA2:=kH hA2;have HR2:Hid (bN 5 bC wr w.heap.size A2 db):=kH (by rw[<- hA2];exact Uz.out.tail (by omega));have hbl:b'<wr.heap.size:=by omega
     have GI:Hid ((Value.slice A5 n5 c5).ownBlock≠some b'):=kH (fun e1=>by have:=(HO.out.lt _ e1).1;omega);clear hA2;have Sj:Hid (ib la lb=pre++[y]++ib (x::da) db):=kH (by rw[Si.out,ib,if_neg hle];simp);clear hcs hcs' hle;go_wp2_with fail
     have hS0:wr.drew.cell? ⟨b,off+1,none⟩=some (.int .i64 x.at_)/\wr.drew.cell? ⟨b',off'+1,none⟩=some (.int .i64 y.at_):=⟨Hg,xc1⟩
     refine dZ (fun w'=>w'.cell? ⟨b,off+1,none⟩=some (.int .i64 x.at_)/\w'.cell? ⟨b',off'+1,none⟩=some (.int .i64 y.at_)) [] [true,true,true,true,true,true,true,true,true,true,true,true,true,true,true,true,true,true,true] (by kernel_rfl) (by kernel_rfl) rfl (by kernel_rfl) ?_;iterate 19((first|(refine eG (by rfl) hS0 ?_)|(refine dz (by rfl) hS0 (by intro w' hSw;obtain⟨hs1,hs2⟩:=hSw;go_simp;rfl) ?_));simp only[Act.put,sA,sZ,sC])
     refine iU ?_;clear hS0;clear Hg xc1;go_wp2_with fail
     refine o9 (fun w'=>w'.cell? ⟨b',off',none⟩=some (.int .i64 y.code)/\w'.cell? ⟨b',off'+1,none⟩=some (.int .i64 y.at_)/\w'.cell? ⟨b',off'+2,none⟩=some (.int .i64 y.end_)/\w'.cell? ⟨b',off'+3,none⟩=some (.string y.text)/\w'.cell? ⟨b',off'+4,none⟩=some (.slice none 0 0)) [] [(0,true),(1,true),(2,true),(3,true),(6,true),(7,true),(4,false),(5,false),(8,false),(9,false)] (by kernel_rfl) (by kernel_rfl) rfl (by kernel_rfl) ?_;have hS0:wr.drew.drew.cell? ⟨b',off',none⟩=some (.int .i64 y.code)/\wr.drew.drew.cell? ⟨b',off'+1,none⟩=some (.int .i64 y.at_)/\wr.drew.drew.cell? ⟨b',off'+2,none⟩=some (.int .i64 y.end_)/\wr.drew.drew.cell? ⟨b',off'+3,none⟩=some (.string y.text)/\wr.drew.drew.cell? ⟨b',off'+4,none⟩=some (.slice none 0 0):=⟨z0,z1,z2,z3,z4⟩
     refine iP (by simp only[abN,abL];rfl) (by rfl) hS0 (by intro w' hSw;obtain⟨hs1,hs2,hs3,hs4,hs5⟩:=hSw;go_simp;rfl) ?_;iterate 4(simp only[Act.put,sA,sZ,sC];refine iP (by simp only[abN,abM,abL];rfl) (by rfl) hS0 (by intro w' hSw;obtain⟨hs1,hs2,hs3,hs4,hs5⟩:=hSw;go_simp;rfl) ?_)
     simp only[Act.put,sA,sZ,sC];refine iP (by simp only[abN,abM,abL];rfl) (by rfl) hS0 (by intro w' _;go_simp;rw[if_pos (by omega),HA2.out]) ?_;simp only[Act.put,sA,sZ,sC];refine pg (w':=wr.drew.drew.alloc (.cells #[.int .i64 y.code,.int .i64 y.at_,.int .i64 y.end_,.string y.text,.slice none 0 0] 78)) (by simp only[abN,abM,abL];rfl) (by rfl) (by go_simp;rfl) ?_ ?_
     ·exact fun _=>⟨by go_simp,by go_simp,by go_simp,by go_simp,by go_simp⟩
     simp only[Act.put,sA,sZ,sC];refine sj (by simp only[abN,abM,abL];rfl) (by rfl) ?_;refine(iY _ (.tmp 42) (.tmp 46) _ rfl w.heap.size 78 i0 _ 5 64 Tryz.underlying31 hi0 hz0 hz1 hz2 rfl (.slice A5 n5 c5) n5 (pre.flatMap bC) rfl (HO.out.drew.drew.alloc _) ⟨wr.heap.size,0,none⟩ 1 1 (bC y) rfl rfl (jd _ _ _ _ _ _ _ (by go_simp) (by go_simp) (by go_simp) (by go_simp) (by go_simp)) (by simp[bC,Value.oneCell']) (by simp only[maxLen];omega) (by omega) (by simp;omega) ?_);intro v6 w6 hown hgrow hat;obtain⟨A6,c6,hv6,-,-⟩:=hown.shape;subst hv6
     have nz:∀o,w6.cell? ⟨b',o,none⟩=wr.cell? ⟨b',o,none⟩:=fun o=>by
      rw[hgrow.cell_far _ (by simp;omega) (fun e1=>GI.out e1.symm)];go_simp
     have tJ:w6.cell? ⟨b',off',none⟩=some (.int .i64 y.code)/\w6.cell? ⟨b',off'+1,none⟩=some (.int .i64 y.at_)/\w6.cell? ⟨b',off'+2,none⟩=some (.int .i64 y.end_)/\w6.cell? ⟨b',off'+3,none⟩=some (.string y.text)/\w6.cell? ⟨b',off'+4,none⟩=some (.slice none 0 0):=⟨(nz _).trans z0,(nz _).trans z1,(nz _).trans z2,(nz _).trans z3,(nz _).trans z4⟩
     refine⟨fun _=>tJ,?_⟩;iterate 2(simp only[Act.put,sA,sZ,sC];refine pg (w':=w6) (by simp only[abN,abM,abL];rfl) (by rfl) (by go_simp;rfl) (fun _=>tJ) ?_)
     simp only[Act.put,sA,sZ,sC];refine vC ?_;have HOWN:=kH hown;have mP:=kH (((((aF.refl (fun g=>w.heap.size<=g) w).below oK.out).drew.drew.alloc (.cells #[.int .i64 y.code,.int .i64 y.at_,.int .i64 y.end_,.string y.text,.slice none 0 0] 78)).grown hgrow (fun g hg=>.inl (HO.out.lt g hg).1)).toBelow (abE _) (fun g hg=>hg));have nT:=kH ((((aF.refl (fun g=>w.heap.size<=g) wr).drew.drew.alloc (.cells #[.int .i64 y.code,.int .i64 y.at_,.int .i64 y.end_,.string y.text,.slice none 0 0] 78)).grown hgrow (fun g hg=>.inl (HO.out.lt g hg).1)).toBelow QM (fun g hg=>hg));clear hown hgrow hat nz tJ hS0;go_wp2_with fail
     go_roundg (gk - 1)
     case measure=>omega
     case rel=>
      refine⟨x::da,db,pre++[y],_,A2,A6,m+1,m',n5+1,Mf,cb' - 1,c6,by omega,by simp;omega,by omega,by rw[abP,<- IX.out];rfl,by omega,by first|rfl|(simp;omega),by first|rfl|(simp;omega),by first|rfl|(simp;omega),by omega,by omega,Sj.out,Zv.out.below nT.out (abE _),HR2.out.below nT.out (abE _),?_,mP.out⟩;rw[List.flatMap_append];simpa using HOWN.out
end Go.Proofs.YtoepemlnlpamlaaGreat
namespace Go.Proofs.YtoepemlnlpamlaaGreat
theorem jO{α:Type}{F:Nat->Option α}(h:∀f y,F f=some y->F (f+1)=some y){f f':Nat}(hf:f<=f'){y:α}(hy:F f=some y):F f'=some y:=by
 obtain⟨d,rfl⟩:=Nat.exists_eq_add_of_le hf
 induction d with
 | zero=>exact hy
 | succ d ih=>exact h _ _ (ih (by omega))
section
variable {s:aZ}{l:List jY}
theorem RA:∀(f:Nat) (p:PS) (kids:List ae) (y:List ae×PS),nZ s l f p kids=some y->nZ s l (f+1) p kids=some y:=by
 intro f
 induction f with
 | zero=>intro p kids y h;simp[nZ]at h
 | succ f ih=>
  intro p kids y h;rw[nZ]at h⊢;split at h
  ·rename_i hb;rw[if_pos hb];exact ih _ _ _ h
  ·rename_i hb;rw[if_neg hb];exact h
theorem wH(f:Nat)(p:PS)(y:ae×PS)(h:o7 s l f p=some y):o7 s l (f+1) p=some y:=by
 unfold o7 at h⊢;simp only at h⊢;split at h
 ·cases h
 ·rename_i kids q hq
  rw[RA f _ _ _ hq];exact h
theorem Qs:∀(f:Nat) (p:PS) (kids:List ae) (y:List ae×PS),lL s l f p kids=some y->lL s l (f+1) p kids=some y:=by
 intro f
 induction f with
 | zero=>intro p kids y h;simp[lL]at h
 | succ f ih=>
  intro p kids y h;rw[lL]at h⊢;split at h
  ·rename_i hb;rw[if_pos hb];exact ih _ _ _ h
  ·rename_i hb;rw[if_neg hb];exact h
theorem Fx(f:Nat)(p:PS)(y:ae×PS)(h:sW s l f p=some y):sW s l (f+1) p=some y:=by
 unfold sW at h⊢;simp only at h⊢;split at h
 ·cases h
 ·rename_i kids q hq
  have:(if bE s l (aI s l p [40]) [41] then some ([],aI s l p [40]) else lL s l (f+1) (iK s l (aI s l p [40])).2 [(iK s l (aI s l p [40])).1])=some (kids,q):=by
   split at hq
   ·rename_i hb;rw[if_pos hb];exact hq
   ·rename_i hb;rw[if_neg hb];exact Qs f _ _ _ hq
  rw[this];exact h
theorem zG(f:Nat)(p:PS)(y:ae×PS)(h:uD s l f p=some y):uD s l (f+1) p=some y:=by
 unfold uD at h⊢;simp only at h⊢;split at h
 ·cases h
 ·rename_i x q hq
  rw[Fx f _ _ hq];split at h
  ·rename_i b p3 hb
   simp only;rw[Nz f _ _ _ hb];exact h
  ·cases h
theorem yw:∀(f:Nat) (p q:PS),mX s l f p=some q->mX s l (f+1) p=some q:=by
 intro f
 induction f with
 | zero=>intro p q h;simp[mX]at h
 | succ f ih=>
  intro p q h;rw[mX]at h⊢;split at h
  ·rename_i hb;rw[if_pos hb];exact ih _ _ h
  ·rename_i hb;rw[if_neg hb];exact h
theorem zF:∀(f:Nat) (p:PS) (kids:List ae) (y:List ae×PS),mf s l f p kids=some y->mf s l (f+1) p kids=some y:=by
 intro f
 induction f with
 | zero=>intro p kids y h;simp[mf]at h
 | succ f ih=>
  intro p kids y h;rw[mf]at h⊢;split at h
  ·rename_i hb;rw[if_pos hb];exact h
  ·rename_i hb
   rw[if_neg hb];split at h
   ·rename_i hr
    rw[if_pos hr];split at h
    ·cases h
    ·rename_i x q hq
     rw[wH f _ _ hq];exact ih _ _ _ h
   ·rename_i hr
    rw[if_neg hr];split at h
    ·rename_i hp
     rw[if_pos hp];split at h
     ·cases h
     ·rename_i x q hq
      rw[zG f _ _ hq];exact ih _ _ _ h
    ·rename_i hp
     rw[if_neg hp];split at h
     ·cases h
     ·rename_i q hq
      rw[yw f _ _ hq];exact ih _ _ _ h
theorem WT(he:nU l):∀(n:Nat) (p:PS) (kids:List ae),p.k<l.length->l.length - p.k<=n->∃f y q,nZ s l f p kids=some (y,q)/\Le l p q:=by
 intro n
 induction n with
 | zero=>intro p kids h1 h2;omega
 | succ n ih=>
  intro p kids hp hn;by_cases hb:bE s l p [44]=true
  ·have h1:=dF he hp (eU hb)
   have h2:=DV (s:=s) he h1.1.2;obtain⟨f,y,q,h3,h4⟩:=ih (kK s l (ay l p)).2 (kids++[(kK s l (ay l p)).1]) h2.2 (by have:=h1.2;have:=h2.1;omega);exact⟨f+1,y,q,by rw[nZ,if_pos hb];exact h3,(h1.1.trans h2).trans h4⟩
  ·exact⟨1,kids,p,by rw[nZ,if_neg hb],le_refl hp⟩
theorem KM(he:nU l){p:PS}(hp:p.k<l.length)(h5:bM l p≠5):∃f x q,o7 s l f p=some (x,q)/\Le l p q/\p.k<q.k:=by
 have h1:=dF he hp h5;have h2:=uI he h1.1.2;have h3:=eF (s:=s) (w:=[123]) he h2.2;have h4:=DV (s:=s) he h3.2;obtain⟨f,y,q,h6,h7⟩:=WT (s:=s) he (l.length) (kK s l (aI s l (dI l (ay l p)) [123])).2 [(kK s l (aI s l (dI l (ay l p)) [123])).1] h4.2 (by omega);have h8:=eF (s:=s) (w:=[125]) he h7.2;refine⟨f,_,_,by unfold o7;simp only;rw[h6],((((h1.1.trans h2).trans h3).trans h4).trans h7).trans h8,?_⟩;have:=h1.2;have:=h2.1;have:=h3.1;have:=h4.1;have:=h7.1;have:=h8.1;omega
theorem VI(he:nU l):∀(n:Nat) (p:PS) (kids:List ae),p.k<l.length->l.length - p.k<=n->∃f y q,lL s l f p kids=some (y,q)/\Le l p q:=by
 intro n
 induction n with
 | zero=>intro p kids h1 h2;omega
 | succ n ih=>
  intro p kids hp hn;by_cases hb:bE s l p [44]=true
  ·have h1:=dF he hp (eU hb)
   have h2:=JG (s:=s) he h1.1.2;obtain⟨f,y,q,h3,h4⟩:=ih (iK s l (ay l p)).2 (kids++[(iK s l (ay l p)).1]) h2.2 (by have:=h1.2;have:=h2.1;omega);exact⟨f+1,y,q,by rw[lL,if_pos hb];exact h3,(h1.1.trans h2).trans h4⟩
  ·exact⟨1,kids,p,by rw[lL,if_neg hb],le_refl hp⟩
theorem VH(he:nU l){p:PS}(hp:p.k<l.length):∃f x q,sW s l f p=some (x,q)/\Le l p q:=by
 have h1:=eF (s:=s) (w:=[40]) he hp
 obtain⟨f,kids,q,h2,h3⟩:∃f kids q,(if bE s l (aI s l p [40]) [41] then some ([],aI s l p [40]) else lL s l f (iK s l (aI s l p [40])).2 [(iK s l (aI s l p [40])).1])=some (kids,q)/\Le l (aI s l p [40]) q:=by
  by_cases hb:bE s l (aI s l p [40]) [41]=true
  ·exact⟨0,[],_,by rw[if_pos hb],le_refl h1.2⟩
  ·have h4:=JG (s:=s) he h1.2
   obtain⟨f,y,q,h6,h7⟩:=VI (s:=s) he (l.length) (iK s l (aI s l p [40])).2 [(iK s l (aI s l p [40])).1] h4.2 (by omega);exact⟨f,y,q,by rw[if_neg hb];exact h6,h4.trans h7⟩
 have h8:=eF (s:=s) (w:=[41]) he h3.2;exact⟨f,_,_,by unfold sW;simp only;rw[h2],(h1.trans h3).trans h8⟩
theorem Qp(he:nU l)(hend:qH s l){p:PS}(hp:p.k<l.length)(h5:bM l p≠5):∃f x q,uD s l f p=some (x,q)/\Le l p q/\p.k<q.k:=by
 have h1:=dF he hp h5;have h2:=uI he h1.1.2;obtain⟨f1,x,q,h3,h4⟩:=VH (s:=s) he h2.2;have h6:=QE (s:=s) he h4.2;have h7:=rA (XY he hend _ .block (jB s l q).2 h6.2 trivial (Nat.lt_succ_self _)) rfl;obtain⟨f2,b,q2,h8,h9,-⟩:=h7;refine⟨max f1 f2,aH l q2 p.k 5 (cK s l (ay l p)) [x,(jB s l q).1,b],q2,?_,(((h1.1.trans h2).trans h4).trans h6).trans h9,?_⟩
 ·unfold uD
  simp only;rw[jO (F:=fun f=>sW s l f (dI l (ay l p))) (fun f y h=>Fx f _ y h) (Nat.le_max_left f1 f2) h3];simp only;rw[h8 _ (Nat.le_max_right f1 f2)]
 ·have:=h1.2
  have:=h2.1;have:=h4.1;have:=h6.1;have:=h9.1;omega
theorem ND(he:nU l):∀(n:Nat) (p:PS),p.k<l.length->l.length - p.k<=n->∃f q,mX s l f p=some q/\Le l p q/\((decide (bM l p≠5)&& !bE s l p [114,101,99,111,114,100]&& !bE s l p [112,114,111,99])=true->p.k<q.k):=by
 intro n
 induction n with
 | zero=>intro p h1 h2;omega
 | succ n ih=>
  intro p hp hn;by_cases hb:(decide (bM l p≠5)&& !bE s l p [114,101,99,111,114,100]&& !bE s l p [112,114,111,99])=true
  ·have h5:bM l p≠5:=by
    simp only[abG,decide_eq_true_eq]at hb;exact hb.1.1
   have h1:=dF he hp h5;obtain⟨f,q,h3,h4,-⟩:=ih (ay l p) h1.1.2 (by have:=h1.2;omega);exact⟨f+1,q,by rw[mX,if_pos hb];exact h3,h1.1.trans h4,fun _=>by have:=h1.2;have:=h4.1;omega⟩
  ·exact⟨1,p,by rw[mX,if_neg hb],le_refl hp,fun h=>absurd h hb⟩
theorem G5{p:PS}{c:Int}{t w:aZ}:bE s l (iE l p c t) w=bE s l p w:=by
 unfold bE bM;rw[wG]
theorem NH{p:PS}{c:Int}{t:aZ}:bM l (iE l p c t)=bM l p:=by
 unfold bM;rw[wG]
theorem Z9(he:nU l)(hend:qH s l):∀(n:Nat) (p:PS) (kids:List ae),p.k<l.length->l.length - p.k<=n->∃f y q,mf s l f p kids=some (y,q):=by
 intro n
 induction n with
 | zero=>intro p kids h1 h2;omega
 | succ n ih=>
  intro p kids hp hn;by_cases h5:bM l p=5
  ·exact⟨1,kids,p,by rw[mf,if_pos h5]⟩
  ·by_cases hr:bE s l p [114,101,99,111,114,100]=true
   ·obtain⟨f1,x,q,h1,h2,h3⟩:=KM (s:=s) he hp h5
    obtain⟨f2,y,q2,h4⟩:=ih q (kids++[x]) h2.2 (by omega);refine⟨max f1 f2+1,y,q2,?_⟩;rw[mf,if_neg h5,if_pos hr,jO (F:=fun f=>o7 s l f p) (fun f y h=>wH f _ y h) (Nat.le_max_left f1 f2) h1];exact jO (F:=fun f=>mf s l f q (kids++[x])) (fun f y h=>zF f _ _ y h) (Nat.le_max_right f1 f2) h4
   ·by_cases hpc:bE s l p [112,114,111,99]=true
    ·obtain⟨f1,x,q,h1,h2,h3⟩:=Qp (s:=s) he hend hp h5
     obtain⟨f2,y,q2,h4⟩:=ih q (kids++[x]) h2.2 (by omega);refine⟨max f1 f2+1,y,q2,?_⟩;rw[mf,if_neg h5,if_neg hr,if_pos hpc,jO (F:=fun f=>uD s l f p) (fun f y h=>zG f _ y h) (Nat.le_max_left f1 f2) h1];exact jO (F:=fun f=>mf s l f q (kids++[x])) (fun f y h=>zF f _ _ y h) (Nat.le_max_right f1 f2) h4
    ·obtain⟨f1,q,h1,h2,h3⟩:=ND (s:=s) he (l.length) (iE l p 7 []) (by rw[wG];exact hp) (by omega)
     have h3':=h3 (by rw[NH,G5,G5];simp[h5,hr,hpc]);rw[wG]at h3';obtain⟨f2,y,q2,h4⟩:=ih q (kids++[aH l q p.k 1 [] []]) h2.2 (by omega);refine⟨max f1 f2+1,y,q2,?_⟩;rw[mf,if_neg h5,if_neg hr,if_neg hpc,jO (F:=fun f=>mX s l f (iE l p 7 [])) (fun f y h=>yw f _ y h) (Nat.le_max_left f1 f2) h1];exact jO (F:=fun f=>mf s l f q (kids++[aH l q p.k 1 [] []])) (fun f y h=>zF f _ _ y h) (Nat.le_max_right f1 f2) h4
end
end Go.Proofs.YtoepemlnlpamlaaGreat
