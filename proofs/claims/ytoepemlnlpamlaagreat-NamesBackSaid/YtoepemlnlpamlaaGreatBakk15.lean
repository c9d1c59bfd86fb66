/- The law NamesBack holds for every text and every number: it returns true, and its arguments read as before. No condition. Part 15: Merg ProgE. -/
import Derived.Test.YtoepemlnlpamlaaGreatBakk10
import Derived.Test.YtoepemlnlpamlaaGreatBakk14
set_option maxRecDepth 100000
set_option maxHeartbeats 4000000
namespace Go.Proofs.YtoepemlnlpamlaaGreat
open Go.RowKit
theorem bW.tail{α:Type}{size:Nat}{cells:α->List Value}{w:World}{B:Nat}{b off:Nat}{x:α}{l:List α}{cap:Nat}(h:bW size cells w B (some ⟨b,off,none⟩) (x::l))(hc:l.length+1<=cap):
 bW size cells w B (if cap=1 then some ⟨b,off,none⟩ else some ⟨b,off+size,none⟩) l:=by
 intro k c hk;have hkl:=(aaJ.1 hk).1;obtain⟨b1,EB,h1,h2,h3⟩:=h (k+1) c (by simpa using hk);rw[if_neg (by omega)];refine⟨b,off+size,rfl,?_,fun j v hj=>?_⟩
 ·have:b1=b:=by simp at h1;exact h1.1.symm
  rw[<- this];exact h2
 ·have e1:b1=b/\EB=off:=by simp at h1;exact⟨h1.1.symm,h1.2.symm⟩
  have:=h3 j v hj;rw[e1.1,e1.2]at this;rw[show off+size+k*size+j=off+(k+1)*size+j by rw[Nat.add_mul];omega];exact this
theorem J8(l:List Dg):gN l []=l:=by cases l<;>simp[gN]
theorem J7(la lb:List Dg)(A B:Option Addr)(ca cb:Nat)(w:World)(ha:bW 5 bR w w.heap.size A la)(hb:bW 5 bR w w.heap.size B lb)(hla:la.length<=10000)(hlb:lb.length<=10000)(hca:la.length<=ca)(hcb:lb.length<=cb):Calls Tryz.prog 72 #[.slice A la.length ca,.slice B lb.length cb] w (YE w (gN la lb)):=by
 obtain⟨i0,hi0,hz0,hz1,hz2⟩:=info_parts F9;have HA:=kH ha;have HB:=kH hb;have HLEN:Hid (la.length<=10000/\lb.length<=10000/\la.length<=ca/\lb.length<=cb):=kH ⟨hla,hlb,hca,hcb⟩;clear ha hb hla hlb hca hcb;go_enter Tryz.func72,Tryz.ntmps72
 go_wp2_with fail
 generalize hW1:w.alloc (.cells #[] 78)=W1
 have hb1:Below w.heap.size w W1:=by rw[<- hW1];exact af _ _
 have uM:aL W1 w.heap.size 78 5 (.slice (some ⟨w.heap.size,0,none⟩) 0 0) 0 (([]:List Dg).flatMap bR):=by
  have hn:=ai.new w 78 #[];rw[hW1]at hn;exact aL.block (n:=0) (cur:=#[]) (aaD _) hn (by simp[maxLen]) rfl
 have Lf:=kH uM;have HB1:=kH hb1;clear hW1 uM hb1;go_loopg [0,1,5] (la.length+lb.length) (fun gk s0 s1 s5 wr=> ∃(da db pre:List Dg) (Aa Ab A5:Option Addr) (na nb n5 KT cb' c5:Nat),na+nb=gk/\na=da.length/\nb=db.length/\n5=pre.length/\n5+gk=la.length+lb.length/\s0= .slice Aa na KT/\s1= .slice Ab nb cb'/\s5= .slice A5 n5 c5/\na<=KT/\nb<=cb'/\gN la lb=pre++gN da db/\bW 5 bR wr w.heap.size Aa da/\bW 5 bR wr w.heap.size Ab db/\aL wr w.heap.size 78 5 (.slice A5 n5 c5) n5 (pre.flatMap bR)/\Below w.heap.size w wr)
 case atStart=>exact⟨la,lb,[],A,B,_,la.length,lb.length,0,ca,cb,0,rfl,rfl,rfl,rfl,by omega,rfl,rfl,rfl,HLEN.out.2.2.1,HLEN.out.2.2.2,rfl,HA.out.below HB1.out (aaD _),HB.out.below HB1.out (aaD _),Lf.out,HB1.out⟩
 case round=>
  obtain⟨da,db,pre,Aa,Ab,A5,na,nb,n5,KT,cb',c5,hk,hna,hnb,M4,hsum,rfl,rfl,rfl,hca',hcb',hM,hRa,hRb,hO,hB⟩:=hrel;have HL2:=HLEN.out;have Rb:=kH hM;have Yo:=kH hRa;have TB:=kH hRb;have HO:=kH hO;have jc:=kH hB;have Ea:=kH M4;have Px:=hB.size;have hsm:n5<=20000:=by omega
  clear hM hRa hRb hO hB M4
  cases da with
  | nil=>
   simp only[List.length_nil]at hna;subst hna
   cases db with
   | nil=>
    simp only[List.length_nil]at hnb;subst hnb;go_wp2_with fail
    refine bodyPost_ret (v:=.slice A5 n5 c5) (by simp[results,Tryz.results72,go_sem]) rfl ?_;have hm:=Rb.out;rw[J8,List.append_nil]at hm;exact⟨A5,n5,c5,rfl,by rw[hm];exact Ea.out,by rw[hm];exact HO.out,jc.out⟩
   | cons y db=>
    simp only[aaQ]at hnb;obtain⟨m,rfl⟩:∃m,nb=m+1:=⟨nb - 1,by omega⟩
    obtain⟨b,off,hA,hb,hcs⟩:=TB.out 0 y rfl;subst hA;have z0:wr.cell? ⟨b,off,none⟩=some (.int .i64 y.code):=by simpa using hcs 0 _ rfl
    have z1:wr.cell? ⟨b,off+1,none⟩=some (.int .i64 y.at_):=by simpa using hcs 1 _ rfl
    have z2:wr.cell? ⟨b,off+2,none⟩=some (.int .i64 y.end_):=by simpa using hcs 2 _ rfl
    have z3:wr.cell? ⟨b,off+3,none⟩=some (.string y.text):=by simpa using hcs 3 _ rfl
    have z4:wr.cell? ⟨b,off+4,none⟩=some (.slice none 0 0):=by simpa using hcs 4 _ rfl
    obtain⟨A2,hA2⟩:∃A2:Option Addr,(if cb'=1 then some ⟨b,off,none⟩ else some ⟨b,off+5,none⟩)=A2:=⟨_,rfl⟩
    have HA2:=kH hA2;have HR2:Hid (bW 5 bR wr w.heap.size A2 db):=kH (by rw[<- hA2];exact TB.out.tail (by omega));have hbl:b<wr.heap.size:=by omega
    have FM:Hid ((Value.slice A5 n5 c5).ownBlock≠some b):=kH (fun e1=>by have:=(HO.out.lt _ e1).1;omega);clear hA2;have Rc:Hid (gN la lb=pre++[y]++gN [] db):=kH (by rw[Rb.out];simp[gN]);have e1:(((m:Int)+1)==0)=false:=by rw[Bool.eq_false_iff];simp;omega
    have e2:decide ((0:Int)<(m:Int)+1)=true:=decide_eq_true (by omega);clear hcs;go_wp2_with fail
    have Gd:=z1;have hS0:wr.drew.cell? ⟨b,off+1,none⟩=some (.int .i64 y.at_):=Gd;refine iI (fun w'=>w'.cell? ⟨b,off+1,none⟩=some (.int .i64 y.at_)) [] [true,true,true,true,true,true,true,true,true,true,true,true,true,true,true,true,true,true,true] (by kernel_rfl) (by kernel_rfl) rfl (by kernel_rfl) ?_;iterate 19((first|(refine jJ (by rfl) hS0 ?_)|(refine iX (by rfl) hS0 (by intro w' hSw;obtain hs1:=hSw;go_simp;rfl) ?_));simp only[Act.put,sA,sZ,sC])
    refine mQ ?_;clear hS0;clear Gd;go_wp2_with fail
    refine oV (fun w'=>w'.cell? ⟨b,off,none⟩=some (.int .i64 y.code)/\w'.cell? ⟨b,off+1,none⟩=some (.int .i64 y.at_)/\w'.cell? ⟨b,off+2,none⟩=some (.int .i64 y.end_)/\w'.cell? ⟨b,off+3,none⟩=some (.string y.text)/\w'.cell? ⟨b,off+4,none⟩=some (.slice none 0 0)) [] [(0,true),(1,true),(2,true),(3,true),(6,true),(7,true),(4,false),(5,false),(8,false),(9,false)] (by kernel_rfl) (by kernel_rfl) rfl (by kernel_rfl) ?_;have hS0:wr.drew.drew.cell? ⟨b,off,none⟩=some (.int .i64 y.code)/\wr.drew.drew.cell? ⟨b,off+1,none⟩=some (.int .i64 y.at_)/\wr.drew.drew.cell? ⟨b,off+2,none⟩=some (.int .i64 y.end_)/\wr.drew.drew.cell? ⟨b,off+3,none⟩=some (.string y.text)/\wr.drew.drew.cell? ⟨b,off+4,none⟩=some (.slice none 0 0):=⟨z0,z1,z2,z3,z4⟩
    refine iC (by simp only[aaM,aaK];rfl) (by rfl) hS0 (by intro w' hSw;obtain⟨hs1,hs2,hs3,hs4,hs5⟩:=hSw;go_simp;rfl) ?_;iterate 4(simp only[Act.put,sA,sZ,sC];refine iC (by simp only[aaM,aaL,aaK];rfl) (by rfl) hS0 (by intro w' hSw;obtain⟨hs1,hs2,hs3,hs4,hs5⟩:=hSw;go_simp;rfl) ?_)
    simp only[Act.put,sA,sZ,sC];refine iC (by simp only[aaM,aaL,aaK];rfl) (by rfl) hS0 (by intro w' _;go_simp;rw[if_pos (by omega),HA2.out]) ?_;simp only[Act.put,sA,sZ,sC];refine oW (w':=wr.drew.drew.alloc (.cells #[.int .i64 y.code,.int .i64 y.at_,.int .i64 y.end_,.string y.text,.slice none 0 0] 78)) (by simp only[aaM,aaL,aaK];rfl) (by rfl) (by go_simp;rfl) ?_ ?_
    ·exact fun _=>⟨by go_simp,by go_simp,by go_simp,by go_simp,by go_simp⟩
    simp only[Act.put,sA,sZ,sC];refine rJ (by simp only[aaM,aaL,aaK];rfl) (by rfl) ?_;refine(jY _ (.tmp 42) (.tmp 46) _ rfl w.heap.size 78 i0 _ 5 64 Tryz.underlying31 hi0 hz0 hz1 hz2 rfl (.slice A5 n5 c5) n5 (pre.flatMap bR) rfl (HO.out.drew.drew.alloc _) ⟨wr.heap.size,0,none⟩ 1 1 (bR y) rfl rfl (jB _ _ _ _ _ _ _ (by go_simp) (by go_simp) (by go_simp) (by go_simp) (by go_simp)) (by simp[bR,Value.oneCell']) (by simp only[maxLen];omega) (by omega) (by simp;omega) ?_);intro v6 w6 hown hgrow hat;obtain⟨A6,c6,hv6,-,-⟩:=hown.shape;subst hv6
    have mV:∀o,w6.cell? ⟨b,o,none⟩=wr.cell? ⟨b,o,none⟩:=fun o=>by
     rw[hgrow.cell_far _ (by simp;omega) (fun e1=>FM.out e1.symm)];go_simp
    have qK:w6.cell? ⟨b,off,none⟩=some (.int .i64 y.code)/\w6.cell? ⟨b,off+1,none⟩=some (.int .i64 y.at_)/\w6.cell? ⟨b,off+2,none⟩=some (.int .i64 y.end_)/\w6.cell? ⟨b,off+3,none⟩=some (.string y.text)/\w6.cell? ⟨b,off+4,none⟩=some (.slice none 0 0):=⟨(mV _).trans z0,(mV _).trans z1,(mV _).trans z2,(mV _).trans z3,(mV _).trans z4⟩
    refine⟨fun _=>qK,?_⟩;iterate 2(simp only[Act.put,sA,sZ,sC];refine oW (w':=w6) (by simp only[aaM,aaL,aaK];rfl) (by rfl) (by go_simp;rfl) (fun _=>qK) ?_)
    simp only[Act.put,sA,sZ,sC];refine uX ?_;have HOWN:=kH hown;have p8:=kH (((((az.refl (fun g=>w.heap.size<=g) w).below jc.out).drew.drew.alloc (.cells #[.int .i64 y.code,.int .i64 y.at_,.int .i64 y.end_,.string y.text,.slice none 0 0] 78)).grown hgrow (fun g hg=>.inl (HO.out.lt g hg).1)).toBelow (aaD _) (fun g hg=>hg));have nL:=kH ((((az.refl (fun g=>w.heap.size<=g) wr).drew.drew.alloc (.cells #[.int .i64 y.code,.int .i64 y.at_,.int .i64 y.end_,.string y.text,.slice none 0 0] 78)).grown hgrow (fun g hg=>.inl (HO.out.lt g hg).1)).toBelow Px (fun g hg=>hg));clear hown hgrow hat mV qK hS0;go_wp2_with fail
    go_roundg (gk - 1)
    case measure=>omega
    case rel=>
     refine⟨[],db,pre++[y],Aa,A2,A6,0,m,n5+1,KT,cb' - 1,c6,by omega,rfl,by omega,by rw[aaO,<- Ea.out];rfl,by omega,by first|rfl|(simp;omega),by first|rfl|(simp;omega),by first|rfl|(simp;omega),by omega,by omega,Rc.out,Yo.out.below nL.out (aaD _),HR2.out.below nL.out (aaD _),?_,p8.out⟩;rw[List.flatMap_append]
     simpa using HOWN.out
  | cons x da=>
   simp only[aaQ]at hna;obtain⟨m,rfl⟩:∃m,na=m+1:=⟨na - 1,by omega⟩
   obtain⟨b,off,hA,hb,hcs⟩:=Yo.out 0 x rfl;subst hA;have e1:(((m:Int)+1)==0)=false:=by rw[Bool.eq_false_iff];simp;omega
   have e2:decide ((0:Int)<(m:Int)+1)=true:=decide_eq_true (by omega)
   cases db with
   | nil=>
    simp only[List.length_nil]at hnb;subst hnb;have z0:wr.cell? ⟨b,off,none⟩=some (.int .i64 x.code):=by simpa using hcs 0 _ rfl
    have z1:wr.cell? ⟨b,off+1,none⟩=some (.int .i64 x.at_):=by simpa using hcs 1 _ rfl
    have z2:wr.cell? ⟨b,off+2,none⟩=some (.int .i64 x.end_):=by simpa using hcs 2 _ rfl
    have z3:wr.cell? ⟨b,off+3,none⟩=some (.string x.text):=by simpa using hcs 3 _ rfl
    have z4:wr.cell? ⟨b,off+4,none⟩=some (.slice none 0 0):=by simpa using hcs 4 _ rfl
    obtain⟨A2,hA2⟩:∃A2:Option Addr,(if KT=1 then some ⟨b,off,none⟩ else some ⟨b,off+5,none⟩)=A2:=⟨_,rfl⟩
    have HA2:=kH hA2;have HR2:Hid (bW 5 bR wr w.heap.size A2 da):=kH (by rw[<- hA2];exact Yo.out.tail (by omega));have hbl:b<wr.heap.size:=by omega
    have FM:Hid ((Value.slice A5 n5 c5).ownBlock≠some b):=kH (fun e1=>by have:=(HO.out.lt _ e1).1;omega);clear hA2;have Rc:Hid (gN la lb=pre++[x]++gN da []):=kH (by rw[Rb.out];simp[J8]);clear hcs;go_wp2_with fail
    have Gd:=z1;have hS0:wr.drew.cell? ⟨b,off+1,none⟩=some (.int .i64 x.at_):=Gd;refine iI (fun w'=>w'.cell? ⟨b,off+1,none⟩=some (.int .i64 x.at_)) [] [true,true,true,true,true,true,true,true,true,true,true,true,true,true,true,true,true,true,true] (by kernel_rfl) (by kernel_rfl) rfl (by kernel_rfl) ?_;iterate 19((first|(refine jJ (by rfl) hS0 ?_)|(refine iX (by rfl) hS0 (by intro w' hSw;obtain hs1:=hSw;go_simp;rfl) ?_));simp only[Act.put,sA,sZ,sC])
    refine mQ ?_;clear hS0;clear Gd;go_wp2_with fail
    refine oV (fun w'=>w'.cell? ⟨b,off,none⟩=some (.int .i64 x.code)/\w'.cell? ⟨b,off+1,none⟩=some (.int .i64 x.at_)/\w'.cell? ⟨b,off+2,none⟩=some (.int .i64 x.end_)/\w'.cell? ⟨b,off+3,none⟩=some (.string x.text)/\w'.cell? ⟨b,off+4,none⟩=some (.slice none 0 0)) [] [(0,true),(1,true),(2,true),(3,true),(6,true),(7,true),(4,false),(5,false),(8,false),(9,false)] (by kernel_rfl) (by kernel_rfl) rfl (by kernel_rfl) ?_;have hS0:wr.drew.drew.cell? ⟨b,off,none⟩=some (.int .i64 x.code)/\wr.drew.drew.cell? ⟨b,off+1,none⟩=some (.int .i64 x.at_)/\wr.drew.drew.cell? ⟨b,off+2,none⟩=some (.int .i64 x.end_)/\wr.drew.drew.cell? ⟨b,off+3,none⟩=some (.string x.text)/\wr.drew.drew.cell? ⟨b,off+4,none⟩=some (.slice none 0 0):=⟨z0,z1,z2,z3,z4⟩
    refine iC (by simp only[aaM,aaK];rfl) (by rfl) hS0 (by intro w' hSw;obtain⟨hs1,hs2,hs3,hs4,hs5⟩:=hSw;go_simp;rfl) ?_;iterate 4(simp only[Act.put,sA,sZ,sC];refine iC (by simp only[aaM,aaL,aaK];rfl) (by rfl) hS0 (by intro w' hSw;obtain⟨hs1,hs2,hs3,hs4,hs5⟩:=hSw;go_simp;rfl) ?_)
    simp only[Act.put,sA,sZ,sC];refine iC (by simp only[aaM,aaL,aaK];rfl) (by rfl) hS0 (by intro w' _;go_simp;rw[if_pos (by omega),HA2.out]) ?_;simp only[Act.put,sA,sZ,sC];refine oW (w':=wr.drew.drew.alloc (.cells #[.int .i64 x.code,.int .i64 x.at_,.int .i64 x.end_,.string x.text,.slice none 0 0] 78)) (by simp only[aaM,aaL,aaK];rfl) (by rfl) (by go_simp;rfl) ?_ ?_
    ·exact fun _=>⟨by go_simp,by go_simp,by go_simp,by go_simp,by go_simp⟩
    simp only[Act.put,sA,sZ,sC];refine rJ (by simp only[aaM,aaL,aaK];rfl) (by rfl) ?_;refine(jY _ (.tmp 34) (.tmp 38) _ rfl w.heap.size 78 i0 _ 5 64 Tryz.underlying31 hi0 hz0 hz1 hz2 rfl (.slice A5 n5 c5) n5 (pre.flatMap bR) rfl (HO.out.drew.drew.alloc _) ⟨wr.heap.size,0,none⟩ 1 1 (bR x) rfl rfl (jB _ _ _ _ _ _ _ (by go_simp) (by go_simp) (by go_simp) (by go_simp) (by go_simp)) (by simp[bR,Value.oneCell']) (by simp only[maxLen];omega) (by omega) (by simp;omega) ?_);intro v6 w6 hown hgrow hat;obtain⟨A6,c6,hv6,-,-⟩:=hown.shape;subst hv6
    have mV:∀o,w6.cell? ⟨b,o,none⟩=wr.cell? ⟨b,o,none⟩:=fun o=>by
     rw[hgrow.cell_far _ (by simp;omega) (fun e1=>FM.out e1.symm)];go_simp
    have qK:w6.cell? ⟨b,off,none⟩=some (.int .i64 x.code)/\w6.cell? ⟨b,off+1,none⟩=some (.int .i64 x.at_)/\w6.cell? ⟨b,off+2,none⟩=some (.int .i64 x.end_)/\w6.cell? ⟨b,off+3,none⟩=some (.string x.text)/\w6.cell? ⟨b,off+4,none⟩=some (.slice none 0 0):=⟨(mV _).trans z0,(mV _).trans z1,(mV _).trans z2,(mV _).trans z3,(mV _).trans z4⟩
    refine⟨fun _=>qK,?_⟩;iterate 2(simp only[Act.put,sA,sZ,sC];refine oW (w':=w6) (by simp only[aaM,aaL,aaK];rfl) (by rfl) (by go_simp;rfl) (fun _=>qK) ?_)
    simp only[Act.put,sA,sZ];refine uX ?_;have HOWN:=kH hown;have p8:=kH (((((az.refl (fun g=>w.heap.size<=g) w).below jc.out).drew.drew.alloc (.cells #[.int .i64 x.code,.int .i64 x.at_,.int .i64 x.end_,.string x.text,.slice none 0 0] 78)).grown hgrow (fun g hg=>.inl (HO.out.lt g hg).1)).toBelow (aaD _) (fun g hg=>hg));have nL:=kH ((((az.refl (fun g=>w.heap.size<=g) wr).drew.drew.alloc (.cells #[.int .i64 x.code,.int .i64 x.at_,.int .i64 x.end_,.string x.text,.slice none 0 0] 78)).grown hgrow (fun g hg=>.inl (HO.out.lt g hg).1)).toBelow Px (fun g hg=>hg));clear hown hgrow hat mV qK hS0;go_wp2_with fail
    go_roundg (gk - 1)
    case measure=>omega
    case rel=>
     refine⟨da,[],pre++[x],A2,Ab,A6,m,0,n5+1,KT - 1,cb',c6,by omega,by omega,rfl,by rw[aaO,<- Ea.out];rfl,by omega,by first|rfl|(simp;omega),by first|rfl|(simp;omega),by first|rfl|(simp;omega),by omega,by omega,Rc.out,HR2.out.below nL.out (aaD _),TB.out.below nL.out (aaD _),?_,p8.out⟩;rw[List.flatMap_append]
     simpa using HOWN.out
   | cons y db=>
    simp only[aaQ]at hnb;obtain⟨m',rfl⟩:∃m',nb=m'+1:=⟨nb - 1,by omega⟩
    obtain⟨b',off',hA',hb',hcs'⟩:=TB.out 0 y rfl;subst hA';have hbl':b'<wr.heap.size:=by omega
    have f1:(((m':Int)+1)==0)=false:=by rw[Bool.eq_false_iff];simp;omega
    have f2:decide ((0:Int)<(m':Int)+1)=true:=decide_eq_true (by omega);have Gd:wr.cell? ⟨b,off+1,none⟩=some (.int .i64 x.at_):=by simpa using hcs 1 _ rfl
    have xc1:wr.cell? ⟨b',off'+1,none⟩=some (.int .i64 y.at_):=by simpa using hcs' 1 _ rfl
    by_cases hle:x.at_<=y.at_
    ·have hd:decide (x.at_<=y.at_)=true:=decide_eq_true hle
     have z0:wr.cell? ⟨b,off,none⟩=some (.int .i64 x.code):=by simpa using hcs 0 _ rfl
     have z1:wr.cell? ⟨b,off+1,none⟩=some (.int .i64 x.at_):=by simpa using hcs 1 _ rfl
     have z2:wr.cell? ⟨b,off+2,none⟩=some (.int .i64 x.end_):=by simpa using hcs 2 _ rfl
     have z3:wr.cell? ⟨b,off+3,none⟩=some (.string x.text):=by simpa using hcs 3 _ rfl
     have z4:wr.cell? ⟨b,off+4,none⟩=some (.slice none 0 0):=by simpa using hcs 4 _ rfl
     obtain⟨A2,hA2⟩:∃A2:Option Addr,(if KT=1 then some ⟨b,off,none⟩ else some ⟨b,off+5,none⟩)=A2:=⟨_,rfl⟩
     have HA2:=kH hA2;have HR2:Hid (bW 5 bR wr w.heap.size A2 da):=kH (by rw[<- hA2];exact Yo.out.tail (by omega));have hbl:b<wr.heap.size:=by omega
     have FM:Hid ((Value.slice A5 n5 c5).ownBlock≠some b):=kH (fun e1=>by have:=(HO.out.lt _ e1).1;omega);clear hA2;have Rc:Hid (gN la lb=pre++[x]++gN da (y::db)):=kH (by rw[Rb.out,gN,if_pos hle];simp);clear hcs hcs' hle;go_wp2_with fail
     have hS0:wr.drew.cell? ⟨b,off+1,none⟩=some (.int .i64 x.at_)/\wr.drew.cell? ⟨b',off'+1,none⟩=some (.int .i64 y.at_):=⟨Gd,xc1⟩
     refine iI (fun w'=>w'.cell? ⟨b,off+1,none⟩=some (.int .i64 x.at_)/\w'.cell? ⟨b',off'+1,none⟩=some (.int .i64 y.at_)) [] [true,true,true,true,true,true,true,true,true,true,true,true,true,true,true,true,true,true,true] (by kernel_rfl) (by kernel_rfl) rfl (by kernel_rfl) ?_;iterate 19((first|(refine jJ (by rfl) hS0 ?_)|(refine iX (by rfl) hS0 (by intro w' hSw;obtain⟨hs1,hs2⟩:=hSw;go_simp;rfl) ?_));simp only[Act.put,sA,sZ,sC])
     refine mQ ?_;clear hS0;clear Gd xc1;go_wp2_with fail
     refine oV (fun w'=>w'.cell? ⟨b,off,none⟩=some (.int .i64 x.code)/\w'.cell? ⟨b,off+1,none⟩=some (.int .i64 x.at_)/\w'.cell? ⟨b,off+2,none⟩=some (.int .i64 x.end_)/\w'.cell? ⟨b,off+3,none⟩=some (.string x.text)/\w'.cell? ⟨b,off+4,none⟩=some (.slice none 0 0)) [] [(0,true),(1,true),(2,true),(3,true),(6,true),(7,true),(4,false),(5,false),(8,false),(9,false)] (by kernel_rfl) (by kernel_rfl) rfl (by kernel_rfl) ?_;have hS0:wr.drew.drew.cell? ⟨b,off,none⟩=some (.int .i64 x.code)/\wr.drew.drew.cell? ⟨b,off+1,none⟩=some (.int .i64 x.at_)/\wr.drew.drew.cell? ⟨b,off+2,none⟩=some (.int .i64 x.end_)/\wr.drew.drew.cell? ⟨b,off+3,none⟩=some (.string x.text)/\wr.drew.drew.cell? ⟨b,off+4,none⟩=some (.slice none 0 0):=⟨z0,z1,z2,z3,z4⟩
     refine iC (by simp only[aaM,aaK];rfl) (by rfl) hS0 (by intro w' hSw;obtain⟨hs1,hs2,hs3,hs4,hs5⟩:=hSw;go_simp;rfl) ?_;iterate 4(simp only[Act.put,sA,sZ,sC];refine iC (by simp only[aaM,aaL,aaK];rfl) (by rfl) hS0 (by intro w' hSw;obtain⟨hs1,hs2,hs3,hs4,hs5⟩:=hSw;go_simp;rfl) ?_)
     simp only[Act.put,sA,sZ,sC];refine iC (by simp only[aaM,aaL,aaK];rfl) (by rfl) hS0 (by intro w' _;go_simp;rw[if_pos (by omega),HA2.out]) ?_;simp only[Act.put,sA,sZ,sC];refine oW (w':=wr.drew.drew.alloc (.cells #[.int .i64 x.code,.int .i64 x.at_,.int .i64 x.end_,.string x.text,.slice none 0 0] 78)) (by simp only[aaM,aaL,aaK];rfl) (by rfl) (by go_simp;rfl) ?_ ?_
     ·exact fun _=>⟨by go_simp,by go_simp,by go_simp,by go_simp,by go_simp⟩
     simp only[Act.put,sA,sZ,sC];refine rJ (by simp only[aaM,aaL,aaK];rfl) (by rfl) ?_;refine(jY _ (.tmp 34) (.tmp 38) _ rfl w.heap.size 78 i0 _ 5 64 Tryz.underlying31 hi0 hz0 hz1 hz2 rfl (.slice A5 n5 c5) n5 (pre.flatMap bR) rfl (HO.out.drew.drew.alloc _) ⟨wr.heap.size,0,none⟩ 1 1 (bR x) rfl rfl (jB _ _ _ _ _ _ _ (by go_simp) (by go_simp) (by go_simp) (by go_simp) (by go_simp)) (by simp[bR,Value.oneCell']) (by simp only[maxLen];omega) (by omega) (by simp;omega) ?_);intro v6 w6 hown hgrow hat;obtain⟨A6,c6,hv6,-,-⟩:=hown.shape;subst hv6
     have mV:∀o,w6.cell? ⟨b,o,none⟩=wr.cell? ⟨b,o,none⟩:=fun o=>by
      rw[hgrow.cell_far _ (by simp;omega) (fun e1=>FM.out e1.symm)];go_simp
     have qK:w6.cell? ⟨b,off,none⟩=some (.int .i64 x.code)/\w6.cell? ⟨b,off+1,none⟩=some (.int .i64 x.at_)/\w6.cell? ⟨b,off+2,none⟩=some (.int .i64 x.end_)/\w6.cell? ⟨b,off+3,none⟩=some (.string x.text)/\w6.cell? ⟨b,off+4,none⟩=some (.slice none 0 0):=⟨(mV _).trans z0,(mV _).trans z1,(mV _).trans z2,(mV _).trans z3,(mV _).trans z4⟩
     refine⟨fun _=>qK,?_⟩;iterate 2(simp only[Act.put,sA,sZ,sC];refine oW (w':=w6) (by simp only[aaM,aaL,aaK];rfl) (by rfl) (by go_simp;rfl) (fun _=>qK) ?_)
     simp only[Act.put,sA,sZ];refine uX ?_;have HOWN:=kH hown;have p8:=kH (((((az.refl (fun g=>w.heap.size<=g) w).below jc.out).drew.drew.alloc (.cells #[.int .i64 x.code,.int .i64 x.at_,.int .i64 x.end_,.string x.text,.slice none 0 0] 78)).grown hgrow (fun g hg=>.inl (HO.out.lt g hg).1)).toBelow (aaD _) (fun g hg=>hg));have nL:=kH ((((az.refl (fun g=>w.heap.size<=g) wr).drew.drew.alloc (.cells #[.int .i64 x.code,.int .i64 x.at_,.int .i64 x.end_,.string x.text,.slice none 0 0] 78)).grown hgrow (fun g hg=>.inl (HO.out.lt g hg).1)).toBelow Px (fun g hg=>hg));clear hown hgrow hat mV qK hS0;go_wp2_with fail
     go_roundg (gk - 1)
     case measure=>omega
     case rel=>
      refine⟨da,y::db,pre++[x],A2,_,A6,m,m'+1,n5+1,KT - 1,cb',c6,by omega,by omega,by simp;omega,by rw[aaO,<- Ea.out];rfl,by omega,by first|rfl|(simp;omega),by first|rfl|(simp;omega),by first|rfl|(simp;omega),by omega,by omega,Rc.out,HR2.out.below nL.out (aaD _),TB.out.below nL.out (aaD _),?_,p8.out⟩;rw[List.flatMap_append];simpa using HOWN.out
    ·have hd:decide (x.at_<=y.at_)=false:=decide_eq_false hle
     have z0:wr.cell? ⟨b',off',none⟩=some (.int .i64 y.code):=by simpa using hcs' 0 _ rfl
     have z1:wr.cell? ⟨b',off'+1,none⟩=some (.int .i64 y.at_):=by simpa using hcs' 1 _ rfl
     have z2:wr.cell? ⟨b',off'+2,none⟩=some (.int .i64 y.end_):=by simpa using hcs' 2 _ rfl
     have z3:wr.cell? ⟨b',off'+3,none⟩=some (.string y.text):=by simpa using hcs' 3 _ rfl
     have z4:wr.cell? ⟨b',off'+4,none⟩=some (.slice none 0 0):=by simpa using hcs' 4 _ rfl
     obtain⟨A2,hA2⟩:∃A2:Option Addr,(if cb'=1 then some ⟨b',off',none⟩ else some ⟨b',off'+5,none⟩)=A2:=⟨_,rfl⟩
     have HA2:=kH hA2;have HR2:Hid (bW 5 bR wr w.heap.size A2 db):=kH (by rw[<- hA2];exact TB.out.tail (by omega));have hbl:b'<wr.heap.size:=by omega
     have FM:Hid ((Value.slice A5 n5 c5).ownBlock≠some b'):=kH (fun e1=>by have:=(HO.out.lt _ e1).1;omega);clear hA2;have Rc:Hid (gN la lb=pre++[y]++gN (x::da) db):=kH (by rw[Rb.out,gN,if_neg hle];simp);clear hcs hcs' hle;go_wp2_with fail
     have hS0:wr.drew.cell? ⟨b,off+1,none⟩=some (.int .i64 x.at_)/\wr.drew.cell? ⟨b',off'+1,none⟩=some (.int .i64 y.at_):=⟨Gd,xc1⟩
     refine iI (fun w'=>w'.cell? ⟨b,off+1,none⟩=some (.int .i64 x.at_)/\w'.cell? ⟨b',off'+1,none⟩=some (.int .i64 y.at_)) [] [true,true,true,true,true,true,true,true,true,true,true,true,true,true,true,true,true,true,true] (by kernel_rfl) (by kernel_rfl) rfl (by kernel_rfl) ?_;iterate 19((first|(refine jJ (by rfl) hS0 ?_)|(refine iX (by rfl) hS0 (by intro w' hSw;obtain⟨hs1,hs2⟩:=hSw;go_simp;rfl) ?_));simp only[Act.put,sA,sZ,sC])
     refine mQ ?_;clear hS0;clear Gd xc1;go_wp2_with fail
     refine oV (fun w'=>w'.cell? ⟨b',off',none⟩=some (.int .i64 y.code)/\w'.cell? ⟨b',off'+1,none⟩=some (.int .i64 y.at_)/\w'.cell? ⟨b',off'+2,none⟩=some (.int .i64 y.end_)/\w'.cell? ⟨b',off'+3,none⟩=some (.string y.text)/\w'.cell? ⟨b',off'+4,none⟩=some (.slice none 0 0)) [] [(0,true),(1,true),(2,true),(3,true),(6,true),(7,true),(4,false),(5,false),(8,false),(9,false)] (by kernel_rfl) (by kernel_rfl) rfl (by kernel_rfl) ?_;have hS0:wr.drew.drew.cell? ⟨b',off',none⟩=some (.int .i64 y.code)/\wr.drew.drew.cell? ⟨b',off'+1,none⟩=some (.int .i64 y.at_)/\wr.drew.drew.cell? ⟨b',off'+2,none⟩=some (.int .i64 y.end_)/\wr.drew.drew.cell? ⟨b',off'+3,none⟩=some (.string y.text)/\wr.drew.drew.cell? ⟨b',off'+4,none⟩=some (.slice none 0 0):=⟨z0,z1,z2,z3,z4⟩
     refine iC (by simp only[aaM,aaK];rfl) (by rfl) hS0 (by intro w' hSw;obtain⟨hs1,hs2,hs3,hs4,hs5⟩:=hSw;go_simp;rfl) ?_;iterate 4(simp only[Act.put,sA,sZ,sC];refine iC (by simp only[aaM,aaL,aaK];rfl) (by rfl) hS0 (by intro w' hSw;obtain⟨hs1,hs2,hs3,hs4,hs5⟩:=hSw;go_simp;rfl) ?_)
     simp only[Act.put,sA,sZ,sC];refine iC (by simp only[aaM,aaL,aaK];rfl) (by rfl) hS0 (by intro w' _;go_simp;rw[if_pos (by omega),HA2.out]) ?_;simp only[Act.put,sA,sZ,sC];refine oW (w':=wr.drew.drew.alloc (.cells #[.int .i64 y.code,.int .i64 y.at_,.int .i64 y.end_,.string y.text,.slice none 0 0] 78)) (by simp only[aaM,aaL,aaK];rfl) (by rfl) (by go_simp;rfl) ?_ ?_
     ·exact fun _=>⟨by go_simp,by go_simp,by go_simp,by go_simp,by go_simp⟩
     simp only[Act.put,sA,sZ,sC];refine rJ (by simp only[aaM,aaL,aaK];rfl) (by rfl) ?_;refine(jY _ (.tmp 42) (.tmp 46) _ rfl w.heap.size 78 i0 _ 5 64 Tryz.underlying31 hi0 hz0 hz1 hz2 rfl (.slice A5 n5 c5) n5 (pre.flatMap bR) rfl (HO.out.drew.drew.alloc _) ⟨wr.heap.size,0,none⟩ 1 1 (bR y) rfl rfl (jB _ _ _ _ _ _ _ (by go_simp) (by go_simp) (by go_simp) (by go_simp) (by go_simp)) (by simp[bR,Value.oneCell']) (by simp only[maxLen];omega) (by omega) (by simp;omega) ?_);intro v6 w6 hown hgrow hat;obtain⟨A6,c6,hv6,-,-⟩:=hown.shape;subst hv6
     have mV:∀o,w6.cell? ⟨b',o,none⟩=wr.cell? ⟨b',o,none⟩:=fun o=>by
      rw[hgrow.cell_far _ (by simp;omega) (fun e1=>FM.out e1.symm)];go_simp
     have qK:w6.cell? ⟨b',off',none⟩=some (.int .i64 y.code)/\w6.cell? ⟨b',off'+1,none⟩=some (.int .i64 y.at_)/\w6.cell? ⟨b',off'+2,none⟩=some (.int .i64 y.end_)/\w6.cell? ⟨b',off'+3,none⟩=some (.string y.text)/\w6.cell? ⟨b',off'+4,none⟩=some (.slice none 0 0):=⟨(mV _).trans z0,(mV _).trans z1,(mV _).trans z2,(mV _).trans z3,(mV _).trans z4⟩
     refine⟨fun _=>qK,?_⟩;iterate 2(simp only[Act.put,sA,sZ,sC];refine oW (w':=w6) (by simp only[aaM,aaL,aaK];rfl) (by rfl) (by go_simp;rfl) (fun _=>qK) ?_)
     simp only[Act.put,sA,sZ,sC];refine uX ?_;have HOWN:=kH hown;have p8:=kH (((((az.refl (fun g=>w.heap.size<=g) w).below jc.out).drew.drew.alloc (.cells #[.int .i64 y.code,.int .i64 y.at_,.int .i64 y.end_,.string y.text,.slice none 0 0] 78)).grown hgrow (fun g hg=>.inl (HO.out.lt g hg).1)).toBelow (aaD _) (fun g hg=>hg));have nL:=kH ((((az.refl (fun g=>w.heap.size<=g) wr).drew.drew.alloc (.cells #[.int .i64 y.code,.int .i64 y.at_,.int .i64 y.end_,.string y.text,.slice none 0 0] 78)).grown hgrow (fun g hg=>.inl (HO.out.lt g hg).1)).toBelow Px (fun g hg=>hg));clear hown hgrow hat mV qK hS0;go_wp2_with fail
     go_roundg (gk - 1)
     case measure=>omega
     case rel=>
      refine⟨x::da,db,pre++[y],_,A2,A6,m+1,m',n5+1,KT,cb' - 1,c6,by omega,by simp;omega,by omega,by rw[aaO,<- Ea.out];rfl,by omega,by first|rfl|(simp;omega),by first|rfl|(simp;omega),by first|rfl|(simp;omega),by omega,by omega,Rc.out,Yo.out.below nL.out (aaD _),HR2.out.below nL.out (aaD _),?_,p8.out⟩;rw[List.flatMap_append];simpa using HOWN.out
end Go.Proofs.YtoepemlnlpamlaaGreat
namespace Go.Proofs.YtoepemlnlpamlaaGreat
theorem jO{α:Type}{F:Nat->Option α}(h:∀f y,F f=some y->F (f+1)=some y){f f':Nat}(hf:f<=f'){y:α}(hy:F f=some y):F f'=some y:=by
 obtain⟨d,rfl⟩:=Nat.exists_eq_add_of_le hf
 induction d with
 | zero=>exact hy
 | succ d ih=>exact h _ _ (ih (by omega))
section
variable {s:aP}{l:List jl}
theorem QK:∀(f:Nat) (p:PS) (kids:List aa) (y:List aa×PS),kr s l f p kids=some y->kr s l (f+1) p kids=some y:=by
 intro f
 induction f with
 | zero=>intro p kids y h;simp[kr]at h
 | succ f ih=>
  intro p kids y h;rw[kr]at h⊢;split at h
  ·rename_i hb;rw[if_pos hb];exact ih _ _ _ h
  ·rename_i hb;rw[if_neg hb];exact h
theorem vV(f:Nat)(p:PS)(y:aa×PS)(h:lK s l f p=some y):lK s l (f+1) p=some y:=by
 unfold lK at h⊢;simp only at h⊢;split at h
 ·cases h
 ·rename_i kids q hq
  rw[QK f _ _ _ hq];exact h
theorem Pe:∀(f:Nat) (p:PS) (kids:List aa) (y:List aa×PS),jd s l f p kids=some y->jd s l (f+1) p kids=some y:=by
 intro f
 induction f with
 | zero=>intro p kids y h;simp[jd]at h
 | succ f ih=>
  intro p kids y h;rw[jd]at h⊢;split at h
  ·rename_i hb;rw[if_pos hb];exact ih _ _ _ h
  ·rename_i hb;rw[if_neg hb];exact h
theorem Ez(f:Nat)(p:PS)(y:aa×PS)(h:nN s l f p=some y):nN s l (f+1) p=some y:=by
 unfold nN at h⊢;simp only at h⊢;split at h
 ·cases h
 ·rename_i kids q hq
  have:(if bB s l (aG s l p [40]) [41] then some ([],aG s l p [40]) else jd s l (f+1) (fH s l (aG s l p [40])).2 [(fH s l (aG s l p [40])).1])=some (kids,q):=by
   split at hq
   ·rename_i hb;rw[if_pos hb];exact hq
   ·rename_i hb;rw[if_neg hb];exact Pe f _ _ _ hq
  rw[this];exact h
theorem y7(f:Nat)(p:PS)(y:aa×PS)(h:qm s l f p=some y):qm s l (f+1) p=some y:=by
 unfold qm at h⊢;simp only at h⊢;split at h
 ·cases h
 ·rename_i x q hq
  rw[Ez f _ _ hq];split at h
  ·rename_i b p3 hb
   simp only;rw[MN f _ _ _ hb];exact h
  ·cases h
theorem xS:∀(f:Nat) (p q:PS),mO s l f p=some q->mO s l (f+1) p=some q:=by
 intro f
 induction f with
 | zero=>intro p q h;simp[mO]at h
 | succ f ih=>
  intro p q h;rw[mO]at h⊢;split at h
  ·rename_i hb;rw[if_pos hb];exact ih _ _ h
  ·rename_i hb;rw[if_neg hb];exact h
theorem y5:∀(f:Nat) (p:PS) (kids:List aa) (y:List aa×PS),jw s l f p kids=some y->jw s l (f+1) p kids=some y:=by
 intro f
 induction f with
 | zero=>intro p kids y h;simp[jw]at h
 | succ f ih=>
  intro p kids y h;rw[jw]at h⊢;split at h
  ·rename_i hb;rw[if_pos hb];exact h
  ·rename_i hb
   rw[if_neg hb];split at h
   ·rename_i hr
    rw[if_pos hr];split at h
    ·cases h
    ·rename_i x q hq
     rw[vV f _ _ hq];exact ih _ _ _ h
   ·rename_i hr
    rw[if_neg hr];split at h
    ·rename_i hp
     rw[if_pos hp];split at h
     ·cases h
     ·rename_i x q hq
      rw[y7 f _ _ hq];exact ih _ _ _ h
    ·rename_i hp
     rw[if_neg hp];split at h
     ·cases h
     ·rename_i q hq
      rw[xS f _ _ hq];exact ih _ _ _ h
theorem VH(he:mX l):∀(n:Nat) (p:PS) (kids:List aa),p.k<l.length->l.length - p.k<=n->∃f y q,kr s l f p kids=some (y,q)/\Le l p q:=by
 intro n
 induction n with
 | zero=>intro p kids h1 h2;omega
 | succ n ih=>
  intro p kids hp hn;by_cases hb:bB s l p [44]=true
  ·have h1:=dB he hp (eO hb)
   have h2:=CR (s:=s) he h1.1.2;obtain⟨f,y,q,h3,h4⟩:=ih (ja s l (ay l p)).2 (kids++[(ja s l (ay l p)).1]) h2.2 (by have:=h1.2;have:=h2.1;omega);exact⟨f+1,y,q,by rw[kr,if_pos hb];exact h3,(h1.1.trans h2).trans h4⟩
  ·exact⟨1,kids,p,by rw[kr,if_neg hb],le_refl hp⟩
theorem JL(he:mX l){p:PS}(hp:p.k<l.length)(h5:bG l p≠5):∃f x q,lK s l f p=some (x,q)/\Le l p q/\p.k<q.k:=by
 have h1:=dB he hp h5;have h2:=um he h1.1.2;have h3:=dY (s:=s) (w:=[123]) he h2.2;have h4:=CR (s:=s) he h3.2;obtain⟨f,y,q,h6,h7⟩:=VH (s:=s) he (l.length) (ja s l (aG s l (cK l (ay l p)) [123])).2 [(ja s l (aG s l (cK l (ay l p)) [123])).1] h4.2 (by omega);have h8:=dY (s:=s) (w:=[125]) he h7.2;refine⟨f,_,_,by unfold lK;simp only;rw[h6],((((h1.1.trans h2).trans h3).trans h4).trans h7).trans h8,?_⟩;have:=h1.2;have:=h2.1;have:=h3.1;have:=h4.1;have:=h7.1;have:=h8.1;omega
theorem UX(he:mX l):∀(n:Nat) (p:PS) (kids:List aa),p.k<l.length->l.length - p.k<=n->∃f y q,jd s l f p kids=some (y,q)/\Le l p q:=by
 intro n
 induction n with
 | zero=>intro p kids h1 h2;omega
 | succ n ih=>
  intro p kids hp hn;by_cases hb:bB s l p [44]=true
  ·have h1:=dB he hp (eO hb)
   have h2:=IL (s:=s) he h1.1.2;obtain⟨f,y,q,h3,h4⟩:=ih (fH s l (ay l p)).2 (kids++[(fH s l (ay l p)).1]) h2.2 (by have:=h1.2;have:=h2.1;omega);exact⟨f+1,y,q,by rw[jd,if_pos hb];exact h3,(h1.1.trans h2).trans h4⟩
  ·exact⟨1,kids,p,by rw[jd,if_neg hb],le_refl hp⟩
theorem UW(he:mX l){p:PS}(hp:p.k<l.length):∃f x q,nN s l f p=some (x,q)/\Le l p q:=by
 have h1:=dY (s:=s) (w:=[40]) he hp
 obtain⟨f,kids,q,h2,h3⟩:∃f kids q,(if bB s l (aG s l p [40]) [41] then some ([],aG s l p [40]) else jd s l f (fH s l (aG s l p [40])).2 [(fH s l (aG s l p [40])).1])=some (kids,q)/\Le l (aG s l p [40]) q:=by
  by_cases hb:bB s l (aG s l p [40]) [41]=true
  ·exact⟨0,[],_,by rw[if_pos hb],le_refl h1.2⟩
  ·have h4:=IL (s:=s) he h1.2
   obtain⟨f,y,q,h6,h7⟩:=UX (s:=s) he (l.length) (fH s l (aG s l p [40])).2 [(fH s l (aG s l p [40])).1] h4.2 (by omega);exact⟨f,y,q,by rw[if_neg hb];exact h6,h4.trans h7⟩
 have h8:=dY (s:=s) (w:=[41]) he h3.2;exact⟨f,_,_,by unfold nN;simp only;rw[h2],(h1.trans h3).trans h8⟩
theorem O9(he:mX l)(hend:oQ s l){p:PS}(hp:p.k<l.length)(h5:bG l p≠5):∃f x q,qm s l f p=some (x,q)/\Le l p q/\p.k<q.k:=by
 have h1:=dB he hp h5;have h2:=um he h1.1.2;obtain⟨f1,x,q,h3,h4⟩:=UW (s:=s) he h2.2;have h6:=Po (s:=s) he h4.2;have h7:=qX (WS he hend _ .block (ib s l q).2 h6.2 trivial (Nat.lt_succ_self _)) rfl;obtain⟨f2,b,q2,h8,h9,-⟩:=h7;refine⟨max f1 f2,aH l q2 p.k 5 (cB s l (ay l p)) [x,(ib s l q).1,b],q2,?_,(((h1.1.trans h2).trans h4).trans h6).trans h9,?_⟩
 ·unfold qm
  simp only;rw[jO (F:=fun f=>nN s l f (cK l (ay l p))) (fun f y h=>Ez f _ y h) (Nat.le_max_left f1 f2) h3];simp only;rw[h8 _ (Nat.le_max_right f1 f2)]
 ·have:=h1.2
  have:=h2.1;have:=h4.1;have:=h6.1;have:=h9.1;omega
theorem MQ(he:mX l):∀(n:Nat) (p:PS),p.k<l.length->l.length - p.k<=n->∃f q,mO s l f p=some q/\Le l p q/\((decide (bG l p≠5)&& !bB s l p [114,101,99,111,114,100]&& !bB s l p [112,114,111,99])=true->p.k<q.k):=by
 intro n
 induction n with
 | zero=>intro p h1 h2;omega
 | succ n ih=>
  intro p hp hn;by_cases hb:(decide (bG l p≠5)&& !bB s l p [114,101,99,111,114,100]&& !bB s l p [112,114,111,99])=true
  ·have h5:bG l p≠5:=by
    simp only[aaF,decide_eq_true_eq]at hb;exact hb.1.1
   have h1:=dB he hp h5;obtain⟨f,q,h3,h4,-⟩:=ih (ay l p) h1.1.2 (by have:=h1.2;omega);exact⟨f+1,q,by rw[mO,if_pos hb];exact h3,h1.1.trans h4,fun _=>by have:=h1.2;have:=h4.1;omega⟩
  ·exact⟨1,p,by rw[mO,if_neg hb],le_refl hp,fun h=>absurd h hb⟩
theorem zo{p:PS}{c:Int}{t w:aP}:bB s l (gZ l p c t) w=bB s l p w:=by
 unfold bB bG;rw[lZ]
theorem EG{p:PS}{c:Int}{t:aP}:bG l (gZ l p c t)=bG l p:=by
 unfold bG;rw[lZ]
theorem Y2(he:mX l)(hend:oQ s l):∀(n:Nat) (p:PS) (kids:List aa),p.k<l.length->l.length - p.k<=n->∃f y q,jw s l f p kids=some (y,q):=by
 intro n
 induction n with
 | zero=>intro p kids h1 h2;omega
 | succ n ih=>
  intro p kids hp hn;by_cases h5:bG l p=5
  ·exact⟨1,kids,p,by rw[jw,if_pos h5]⟩
  ·by_cases hr:bB s l p [114,101,99,111,114,100]=true
   ·obtain⟨f1,x,q,h1,h2,h3⟩:=JL (s:=s) he hp h5
    obtain⟨f2,y,q2,h4⟩:=ih q (kids++[x]) h2.2 (by omega);refine⟨max f1 f2+1,y,q2,?_⟩;rw[jw,if_neg h5,if_pos hr,jO (F:=fun f=>lK s l f p) (fun f y h=>vV f _ y h) (Nat.le_max_left f1 f2) h1];exact jO (F:=fun f=>jw s l f q (kids++[x])) (fun f y h=>y5 f _ _ y h) (Nat.le_max_right f1 f2) h4
   ·by_cases hpc:bB s l p [112,114,111,99]=true
    ·obtain⟨f1,x,q,h1,h2,h3⟩:=O9 (s:=s) he hend hp h5
     obtain⟨f2,y,q2,h4⟩:=ih q (kids++[x]) h2.2 (by omega);refine⟨max f1 f2+1,y,q2,?_⟩;rw[jw,if_neg h5,if_neg hr,if_pos hpc,jO (F:=fun f=>qm s l f p) (fun f y h=>y7 f _ y h) (Nat.le_max_left f1 f2) h1];exact jO (F:=fun f=>jw s l f q (kids++[x])) (fun f y h=>y5 f _ _ y h) (Nat.le_max_right f1 f2) h4
    ·obtain⟨f1,q,h1,h2,h3⟩:=MQ (s:=s) he (l.length) (gZ l p 7 []) (by rw[lZ];exact hp) (by omega)
     have h3':=h3 (by rw[EG,zo,zo];simp[h5,hr,hpc]);rw[lZ]at h3';obtain⟨f2,y,q2,h4⟩:=ih q (kids++[aH l q p.k 1 [] []]) h2.2 (by omega);refine⟨max f1 f2+1,y,q2,?_⟩;rw[jw,if_neg h5,if_neg hr,if_neg hpc,jO (F:=fun f=>mO s l f (gZ l p 7 [])) (fun f y h=>xS f _ y h) (Nat.le_max_left f1 f2) h1];exact jO (F:=fun f=>jw s l f q (kids++[aH l q p.k 1 [] []])) (fun f y h=>y5 f _ _ y h) (Nat.le_max_right f1 f2) h4
end
end Go.Proofs.YtoepemlnlpamlaaGreat
