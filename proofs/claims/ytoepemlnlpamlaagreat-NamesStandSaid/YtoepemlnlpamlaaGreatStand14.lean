/- The law NamesStand holds: for every text and every number the law returns true, and its arguments read as before. No condition. Part 14: Merg ProgE. -/
import Derived.Test.YtoepemlnlpamlaaGreatStand09
import Derived.Test.YtoepemlnlpamlaaGreatStand13
set_option maxRecDepth 100000
set_option maxHeartbeats 4000000
namespace Go.Proofs.YtoepemlnlpamlaaGreat
open Go.RowKit
theorem df.tail{α:Type}{size:Nat}{cells:α->List Value}{w:World}{B:Nat}{b off:Nat}{x:α}{l:List α}{cap:Nat}(h:df size cells w B (some ⟨b,off,none⟩) (x::l))(hc:l.length+1<=cap):
 df size cells w B (if cap=1 then some ⟨b,off,none⟩ else some ⟨b,off+size,none⟩) l:=by
 intro k c hk;have hkl:=(aah.1 hk).1;obtain⟨b1,EK,h1,h2,h3⟩:=h (k+1) c (by simpa using hk);rw[if_neg (by omega)];refine⟨b,off+size,rfl,?_,fun j v hj=>?_⟩
 ·have:b1=b:=by simp at h1;exact h1.1.symm
  rw[<- this];exact h2
 ·have e1:b1=b/\EK=off:=by simp at h1;exact⟨h1.1.symm,h1.2.symm⟩
  have:=h3 j v hj;rw[e1.1,e1.2]at this;rw[show off+size+k*size+j=off+(k+1)*size+j by rw[Nat.add_mul];omega];exact this
theorem JV(l:List Dg):iE l []=l:=by cases l<;>simp[iE]
theorem JU(la lb:List Dg)(A B:Option Addr)(ca cb:Nat)(w:World)(ha:df 5 cO w w.heap.size A la)(hb:df 5 cO w w.heap.size B lb)(hla:la.length<=10000)(hlb:lb.length<=10000)(hca:la.length<=ca)(hcb:lb.length<=cb):Calls Tryz.prog 72 #[.slice A la.length ca,.slice B lb.length cb] w (XP w (iE la lb)):=by
 obtain⟨i0,hi0,hz0,hz1,hz2⟩:=info_parts Gg;have HA:=kH ha;have HB:=kH hb;have HLEN:Hid (la.length<=10000/\lb.length<=10000/\la.length<=ca/\lb.length<=cb):=kH ⟨hla,hlb,hca,hcb⟩;clear ha hb hla hlb hca hcb;go_enter Tryz.func72,Tryz.ntmps72
 go_wp2_with fail
 generalize hW1:w.alloc (.cells #[] 78)=W1
 have hb1:Below w.heap.size w W1:=by rw[<- hW1];exact ae _ _
 have xm:aP W1 w.heap.size 78 5 (.slice (some ⟨w.heap.size,0,none⟩) 0 0) 0 (([]:List Dg).flatMap cO):=by
  have hn:=ak.new w 78 #[];rw[hW1]at hn;exact aP.block (n:=0) (cur:=#[]) (aab _) hn (by simp[maxLen]) rfl
 have KW:=kH xm;have HB1:=kH hb1;clear hW1 xm hb1;go_loopg [0,1,5] (la.length+lb.length) (fun gk s0 s1 s5 wr=> ∃(da db pre:List Dg) (Aa Ab A5:Option Addr) (na nb n5 KI cb' c5:Nat),na+nb=gk/\na=da.length/\nb=db.length/\n5=pre.length/\n5+gk=la.length+lb.length/\s0= .slice Aa na KI/\s1= .slice Ab nb cb'/\s5= .slice A5 n5 c5/\na<=KI/\nb<=cb'/\iE la lb=pre++iE da db/\df 5 cO wr w.heap.size Aa da/\df 5 cO wr w.heap.size Ab db/\aP wr w.heap.size 78 5 (.slice A5 n5 c5) n5 (pre.flatMap cO)/\Below w.heap.size w wr)
 case atStart=>exact⟨la,lb,[],A,B,_,la.length,lb.length,0,ca,cb,0,rfl,rfl,rfl,rfl,by omega,rfl,rfl,rfl,HLEN.out.2.2.1,HLEN.out.2.2.2,rfl,HA.out.below HB1.out (aab _),HB.out.below HB1.out (aab _),KW.out,HB1.out⟩
 case round=>
  obtain⟨da,db,pre,Aa,Ab,A5,na,nb,n5,KI,cb',c5,hk,hna,hnb,Ai,hsum,rfl,rfl,rfl,hca',hcb',hM,hRa,hRb,hO,hB⟩:=hrel;have HL2:=HLEN.out;have QI:=kH hM;have XB:=kH hRa;have SB:=kH hRb;have HO:=kH hO;have oZ:=kH hB;have CE:=kH Ai;have O3:=hB.size;have hsm:n5<=20000:=by omega
  clear hM hRa hRb hO hB Ai
  cases da with
  | nil=>
   simp only[List.length_nil]at hna;subst hna
   cases db with
   | nil=>
    simp only[List.length_nil]at hnb;subst hnb;go_wp2_with fail
    refine bodyPost_ret (v:=.slice A5 n5 c5) (by simp[results,Tryz.results72,go_sem]) rfl ?_;have hm:=QI.out;rw[JV,List.append_nil]at hm;exact⟨A5,n5,c5,rfl,by rw[hm];exact CE.out,by rw[hm];exact HO.out,oZ.out⟩
   | cons y db=>
    simp only[aao]at hnb;obtain⟨m,rfl⟩:∃m,nb=m+1:=⟨nb - 1,by omega⟩
    obtain⟨b,off,hA,hb,hcs⟩:=SB.out 0 y rfl;subst hA;have z0:wr.cell? ⟨b,off,none⟩=some (.int .i64 y.code):=by simpa using hcs 0 _ rfl
    have z1:wr.cell? ⟨b,off+1,none⟩=some (.int .i64 y.at_):=by simpa using hcs 1 _ rfl
    have z2:wr.cell? ⟨b,off+2,none⟩=some (.int .i64 y.end_):=by simpa using hcs 2 _ rfl
    have z3:wr.cell? ⟨b,off+3,none⟩=some (.string y.text):=by simpa using hcs 3 _ rfl
    have z4:wr.cell? ⟨b,off+4,none⟩=some (.slice none 0 0):=by simpa using hcs 4 _ rfl
    obtain⟨A2,hA2⟩:∃A2:Option Addr,(if cb'=1 then some ⟨b,off,none⟩ else some ⟨b,off+5,none⟩)=A2:=⟨_,rfl⟩
    have HA2:=kH hA2;have HR2:Hid (df 5 cO wr w.heap.size A2 db):=kH (by rw[<- hA2];exact SB.out.tail (by omega));have hbl:b<wr.heap.size:=by omega
    have FW:Hid ((Value.slice A5 n5 c5).ownBlock≠some b):=kH (fun e1=>by have:=(HO.out.lt _ e1).1;omega);clear hA2;have QJ:Hid (iE la lb=pre++[y]++iE [] db):=kH (by rw[QI.out];simp[iE]);have e1:(((m:Int)+1)==0)=false:=by rw[Bool.eq_false_iff];simp;omega
    have e2:decide ((0:Int)<(m:Int)+1)=true:=decide_eq_true (by omega);clear hcs;go_wp2_with fail
    have Gl:=z1;have hS0:wr.drew.cell? ⟨b,off+1,none⟩=some (.int .i64 y.at_):=Gl;refine lI (fun w'=>w'.cell? ⟨b,off+1,none⟩=some (.int .i64 y.at_)) [] [true,true,true,true,true,true,true,true,true,true,true,true,true,true,true,true,true,true,true] (by kernel_rfl) (by kernel_rfl) rfl (by kernel_rfl) ?_;iterate 19((first|(refine oF (by rfl) hS0 ?_)|(refine mV (by rfl) hS0 (by intro w' hSw;obtain hs1:=hSw;go_simp;rfl) ?_));simp only[Act.put,sA,sZ,sC])
    refine qL ?_;clear hS0;clear Gl;go_wp2_with fail
    refine pO (fun w'=>w'.cell? ⟨b,off,none⟩=some (.int .i64 y.code)/\w'.cell? ⟨b,off+1,none⟩=some (.int .i64 y.at_)/\w'.cell? ⟨b,off+2,none⟩=some (.int .i64 y.end_)/\w'.cell? ⟨b,off+3,none⟩=some (.string y.text)/\w'.cell? ⟨b,off+4,none⟩=some (.slice none 0 0)) [] [(0,true),(1,true),(2,true),(3,true),(6,true),(7,true),(4,false),(5,false),(8,false),(9,false)] (by kernel_rfl) (by kernel_rfl) rfl (by kernel_rfl) ?_;have hS0:wr.drew.drew.cell? ⟨b,off,none⟩=some (.int .i64 y.code)/\wr.drew.drew.cell? ⟨b,off+1,none⟩=some (.int .i64 y.at_)/\wr.drew.drew.cell? ⟨b,off+2,none⟩=some (.int .i64 y.end_)/\wr.drew.drew.cell? ⟨b,off+3,none⟩=some (.string y.text)/\wr.drew.drew.cell? ⟨b,off+4,none⟩=some (.slice none 0 0):=⟨z0,z1,z2,z3,z4⟩
    refine iW (by simp only[aak,aai];rfl) (by rfl) hS0 (by intro w' hSw;obtain⟨hs1,hs2,hs3,hs4,hs5⟩:=hSw;go_simp;rfl) ?_;iterate 4(simp only[Act.put,sA,sZ,sC];refine iW (by simp only[aak,aaj,aai];rfl) (by rfl) hS0 (by intro w' hSw;obtain⟨hs1,hs2,hs3,hs4,hs5⟩:=hSw;go_simp;rfl) ?_)
    simp only[Act.put,sA,sZ,sC];refine iW (by simp only[aak,aaj,aai];rfl) (by rfl) hS0 (by intro w' _;go_simp;rw[if_pos (by omega),HA2.out]) ?_;simp only[Act.put,sA,sZ,sC];refine pQ (w':=wr.drew.drew.alloc (.cells #[.int .i64 y.code,.int .i64 y.at_,.int .i64 y.end_,.string y.text,.slice none 0 0] 78)) (by simp only[aak,aaj,aai];rfl) (by rfl) (by go_simp;rfl) ?_ ?_
    ·exact fun _=>⟨by go_simp,by go_simp,by go_simp,by go_simp,by go_simp⟩
    simp only[Act.put,sA,sZ,sC];refine rV (by simp only[aak,aaj,aai];rfl) (by rfl) ?_;refine(jI _ (.tmp 42) (.tmp 46) _ rfl w.heap.size 78 i0 _ 5 64 Tryz.underlying31 hi0 hz0 hz1 hz2 rfl (.slice A5 n5 c5) n5 (pre.flatMap cO) rfl (HO.out.drew.drew.alloc _) ⟨wr.heap.size,0,none⟩ 1 1 (cO y) rfl rfl (jr _ _ _ _ _ _ _ (by go_simp) (by go_simp) (by go_simp) (by go_simp) (by go_simp)) (by simp[cO,Value.oneCell']) (by simp only[maxLen];omega) (by omega) (by simp;omega) ?_);intro v6 w6 hown hgrow hat;obtain⟨A6,c6,hv6,-,-⟩:=hown.shape;subst hv6
    have nJ:∀o,w6.cell? ⟨b,o,none⟩=wr.cell? ⟨b,o,none⟩:=fun o=>by
     rw[hgrow.cell_far _ (by simp;omega) (fun e1=>FW.out e1.symm)];go_simp
    have ma:w6.cell? ⟨b,off,none⟩=some (.int .i64 y.code)/\w6.cell? ⟨b,off+1,none⟩=some (.int .i64 y.at_)/\w6.cell? ⟨b,off+2,none⟩=some (.int .i64 y.end_)/\w6.cell? ⟨b,off+3,none⟩=some (.string y.text)/\w6.cell? ⟨b,off+4,none⟩=some (.slice none 0 0):=⟨(nJ _).trans z0,(nJ _).trans z1,(nJ _).trans z2,(nJ _).trans z3,(nJ _).trans z4⟩
    refine⟨fun _=>ma,?_⟩;iterate 2(simp only[Act.put,sA,sZ,sC];refine pQ (w':=w6) (by simp only[aak,aaj,aai];rfl) (by rfl) (by go_simp;rfl) (fun _=>ma) ?_)
    simp only[Act.put,sA,sZ,sC];refine uX ?_;have HOWN:=kH hown;have nZ:=kH (((((aA.refl (fun g=>w.heap.size<=g) w).below oZ.out).drew.drew.alloc (.cells #[.int .i64 y.code,.int .i64 y.at_,.int .i64 y.end_,.string y.text,.slice none 0 0] 78)).grown hgrow (fun g hg=>.inl (HO.out.lt g hg).1)).toBelow (aab _) (fun g hg=>hg));have qm:=kH ((((aA.refl (fun g=>w.heap.size<=g) wr).drew.drew.alloc (.cells #[.int .i64 y.code,.int .i64 y.at_,.int .i64 y.end_,.string y.text,.slice none 0 0] 78)).grown hgrow (fun g hg=>.inl (HO.out.lt g hg).1)).toBelow O3 (fun g hg=>hg));clear hown hgrow hat nJ ma hS0;go_wp2_with fail
    go_roundg (gk - 1)
    case measure=>omega
    case rel=>
     refine⟨[],db,pre++[y],Aa,A2,A6,0,m,n5+1,KI,cb' - 1,c6,by omega,rfl,by omega,by rw[aam,<- CE.out];rfl,by omega,by first|rfl|(simp;omega),by first|rfl|(simp;omega),by first|rfl|(simp;omega),by omega,by omega,QJ.out,XB.out.below qm.out (aab _),HR2.out.below qm.out (aab _),?_,nZ.out⟩;rw[List.flatMap_append]
     simpa using HOWN.out
  | cons x da=>
   simp only[aao]at hna;obtain⟨m,rfl⟩:∃m,na=m+1:=⟨na - 1,by omega⟩
   obtain⟨b,off,hA,hb,hcs⟩:=XB.out 0 x rfl;subst hA;have e1:(((m:Int)+1)==0)=false:=by rw[Bool.eq_false_iff];simp;omega
   have e2:decide ((0:Int)<(m:Int)+1)=true:=decide_eq_true (by omega)
   cases db with
   | nil=>
    simp only[List.length_nil]at hnb;subst hnb;have z0:wr.cell? ⟨b,off,none⟩=some (.int .i64 x.code):=by simpa using hcs 0 _ rfl
    have z1:wr.cell? ⟨b,off+1,none⟩=some (.int .i64 x.at_):=by simpa using hcs 1 _ rfl
    have z2:wr.cell? ⟨b,off+2,none⟩=some (.int .i64 x.end_):=by simpa using hcs 2 _ rfl
    have z3:wr.cell? ⟨b,off+3,none⟩=some (.string x.text):=by simpa using hcs 3 _ rfl
    have z4:wr.cell? ⟨b,off+4,none⟩=some (.slice none 0 0):=by simpa using hcs 4 _ rfl
    obtain⟨A2,hA2⟩:∃A2:Option Addr,(if KI=1 then some ⟨b,off,none⟩ else some ⟨b,off+5,none⟩)=A2:=⟨_,rfl⟩
    have HA2:=kH hA2;have HR2:Hid (df 5 cO wr w.heap.size A2 da):=kH (by rw[<- hA2];exact XB.out.tail (by omega));have hbl:b<wr.heap.size:=by omega
    have FW:Hid ((Value.slice A5 n5 c5).ownBlock≠some b):=kH (fun e1=>by have:=(HO.out.lt _ e1).1;omega);clear hA2;have QJ:Hid (iE la lb=pre++[x]++iE da []):=kH (by rw[QI.out];simp[JV]);clear hcs;go_wp2_with fail
    have Gl:=z1;have hS0:wr.drew.cell? ⟨b,off+1,none⟩=some (.int .i64 x.at_):=Gl;refine lI (fun w'=>w'.cell? ⟨b,off+1,none⟩=some (.int .i64 x.at_)) [] [true,true,true,true,true,true,true,true,true,true,true,true,true,true,true,true,true,true,true] (by kernel_rfl) (by kernel_rfl) rfl (by kernel_rfl) ?_;iterate 19((first|(refine oF (by rfl) hS0 ?_)|(refine mV (by rfl) hS0 (by intro w' hSw;obtain hs1:=hSw;go_simp;rfl) ?_));simp only[Act.put,sA,sZ,sC])
    refine qL ?_;clear hS0;clear Gl;go_wp2_with fail
    refine pO (fun w'=>w'.cell? ⟨b,off,none⟩=some (.int .i64 x.code)/\w'.cell? ⟨b,off+1,none⟩=some (.int .i64 x.at_)/\w'.cell? ⟨b,off+2,none⟩=some (.int .i64 x.end_)/\w'.cell? ⟨b,off+3,none⟩=some (.string x.text)/\w'.cell? ⟨b,off+4,none⟩=some (.slice none 0 0)) [] [(0,true),(1,true),(2,true),(3,true),(6,true),(7,true),(4,false),(5,false),(8,false),(9,false)] (by kernel_rfl) (by kernel_rfl) rfl (by kernel_rfl) ?_;have hS0:wr.drew.drew.cell? ⟨b,off,none⟩=some (.int .i64 x.code)/\wr.drew.drew.cell? ⟨b,off+1,none⟩=some (.int .i64 x.at_)/\wr.drew.drew.cell? ⟨b,off+2,none⟩=some (.int .i64 x.end_)/\wr.drew.drew.cell? ⟨b,off+3,none⟩=some (.string x.text)/\wr.drew.drew.cell? ⟨b,off+4,none⟩=some (.slice none 0 0):=⟨z0,z1,z2,z3,z4⟩
    refine iW (by simp only[aak,aai];rfl) (by rfl) hS0 (by intro w' hSw;obtain⟨hs1,hs2,hs3,hs4,hs5⟩:=hSw;go_simp;rfl) ?_;iterate 4(simp only[Act.put,sA,sZ,sC];refine iW (by simp only[aak,aaj,aai];rfl) (by rfl) hS0 (by intro w' hSw;obtain⟨hs1,hs2,hs3,hs4,hs5⟩:=hSw;go_simp;rfl) ?_)
    simp only[Act.put,sA,sZ,sC];refine iW (by simp only[aak,aaj,aai];rfl) (by rfl) hS0 (by intro w' _;go_simp;rw[if_pos (by omega),HA2.out]) ?_;simp only[Act.put,sA,sZ,sC];refine pQ (w':=wr.drew.drew.alloc (.cells #[.int .i64 x.code,.int .i64 x.at_,.int .i64 x.end_,.string x.text,.slice none 0 0] 78)) (by simp only[aak,aaj,aai];rfl) (by rfl) (by go_simp;rfl) ?_ ?_
    ·exact fun _=>⟨by go_simp,by go_simp,by go_simp,by go_simp,by go_simp⟩
    simp only[Act.put,sA,sZ,sC];refine rV (by simp only[aak,aaj,aai];rfl) (by rfl) ?_;refine(jI _ (.tmp 34) (.tmp 38) _ rfl w.heap.size 78 i0 _ 5 64 Tryz.underlying31 hi0 hz0 hz1 hz2 rfl (.slice A5 n5 c5) n5 (pre.flatMap cO) rfl (HO.out.drew.drew.alloc _) ⟨wr.heap.size,0,none⟩ 1 1 (cO x) rfl rfl (jr _ _ _ _ _ _ _ (by go_simp) (by go_simp) (by go_simp) (by go_simp) (by go_simp)) (by simp[cO,Value.oneCell']) (by simp only[maxLen];omega) (by omega) (by simp;omega) ?_);intro v6 w6 hown hgrow hat;obtain⟨A6,c6,hv6,-,-⟩:=hown.shape;subst hv6
    have nJ:∀o,w6.cell? ⟨b,o,none⟩=wr.cell? ⟨b,o,none⟩:=fun o=>by
     rw[hgrow.cell_far _ (by simp;omega) (fun e1=>FW.out e1.symm)];go_simp
    have ma:w6.cell? ⟨b,off,none⟩=some (.int .i64 x.code)/\w6.cell? ⟨b,off+1,none⟩=some (.int .i64 x.at_)/\w6.cell? ⟨b,off+2,none⟩=some (.int .i64 x.end_)/\w6.cell? ⟨b,off+3,none⟩=some (.string x.text)/\w6.cell? ⟨b,off+4,none⟩=some (.slice none 0 0):=⟨(nJ _).trans z0,(nJ _).trans z1,(nJ _).trans z2,(nJ _).trans z3,(nJ _).trans z4⟩
    refine⟨fun _=>ma,?_⟩;iterate 2(simp only[Act.put,sA,sZ,sC];refine pQ (w':=w6) (by simp only[aak,aaj,aai];rfl) (by rfl) (by go_simp;rfl) (fun _=>ma) ?_)
    simp only[Act.put,sA,sZ];refine uX ?_;have HOWN:=kH hown;have nZ:=kH (((((aA.refl (fun g=>w.heap.size<=g) w).below oZ.out).drew.drew.alloc (.cells #[.int .i64 x.code,.int .i64 x.at_,.int .i64 x.end_,.string x.text,.slice none 0 0] 78)).grown hgrow (fun g hg=>.inl (HO.out.lt g hg).1)).toBelow (aab _) (fun g hg=>hg));have qm:=kH ((((aA.refl (fun g=>w.heap.size<=g) wr).drew.drew.alloc (.cells #[.int .i64 x.code,.int .i64 x.at_,.int .i64 x.end_,.string x.text,.slice none 0 0] 78)).grown hgrow (fun g hg=>.inl (HO.out.lt g hg).1)).toBelow O3 (fun g hg=>hg));clear hown hgrow hat nJ ma hS0;go_wp2_with fail
    go_roundg (gk - 1)
    case measure=>omega
    case rel=>
     refine⟨da,[],pre++[x],A2,Ab,A6,m,0,n5+1,KI - 1,cb',c6,by omega,by omega,rfl,by rw[aam,<- CE.out];rfl,by omega,by first|rfl|(simp;omega),by first|rfl|(simp;omega),by first|rfl|(simp;omega),by omega,by omega,QJ.out,HR2.out.below qm.out (aab _),SB.out.below qm.out (aab _),?_,nZ.out⟩;rw[List.flatMap_append]
     simpa using HOWN.out
   | cons y db=>
    simp only[aao]at hnb;obtain⟨m',rfl⟩:∃m',nb=m'+1:=⟨nb - 1,by omega⟩
    obtain⟨b',off',hA',hb',hcs'⟩:=SB.out 0 y rfl;subst hA';have hbl':b'<wr.heap.size:=by omega
    have f1:(((m':Int)+1)==0)=false:=by rw[Bool.eq_false_iff];simp;omega
    have f2:decide ((0:Int)<(m':Int)+1)=true:=decide_eq_true (by omega);have Gl:wr.cell? ⟨b,off+1,none⟩=some (.int .i64 x.at_):=by simpa using hcs 1 _ rfl
    have ZJ:wr.cell? ⟨b',off'+1,none⟩=some (.int .i64 y.at_):=by simpa using hcs' 1 _ rfl
    by_cases hle:x.at_<=y.at_
    ·have hd:decide (x.at_<=y.at_)=true:=decide_eq_true hle
     have z0:wr.cell? ⟨b,off,none⟩=some (.int .i64 x.code):=by simpa using hcs 0 _ rfl
     have z1:wr.cell? ⟨b,off+1,none⟩=some (.int .i64 x.at_):=by simpa using hcs 1 _ rfl
     have z2:wr.cell? ⟨b,off+2,none⟩=some (.int .i64 x.end_):=by simpa using hcs 2 _ rfl
     have z3:wr.cell? ⟨b,off+3,none⟩=some (.string x.text):=by simpa using hcs 3 _ rfl
     have z4:wr.cell? ⟨b,off+4,none⟩=some (.slice none 0 0):=by simpa using hcs 4 _ rfl
     obtain⟨A2,hA2⟩:∃A2:Option Addr,(if KI=1 then some ⟨b,off,none⟩ else some ⟨b,off+5,none⟩)=A2:=⟨_,rfl⟩
     have HA2:=kH hA2;have HR2:Hid (df 5 cO wr w.heap.size A2 da):=kH (by rw[<- hA2];exact XB.out.tail (by omega));have hbl:b<wr.heap.size:=by omega
     have FW:Hid ((Value.slice A5 n5 c5).ownBlock≠some b):=kH (fun e1=>by have:=(HO.out.lt _ e1).1;omega);clear hA2;have QJ:Hid (iE la lb=pre++[x]++iE da (y::db)):=kH (by rw[QI.out,iE,if_pos hle];simp);clear hcs hcs' hle;go_wp2_with fail
     have hS0:wr.drew.cell? ⟨b,off+1,none⟩=some (.int .i64 x.at_)/\wr.drew.cell? ⟨b',off'+1,none⟩=some (.int .i64 y.at_):=⟨Gl,ZJ⟩
     refine lI (fun w'=>w'.cell? ⟨b,off+1,none⟩=some (.int .i64 x.at_)/\w'.cell? ⟨b',off'+1,none⟩=some (.int .i64 y.at_)) [] [true,true,true,true,true,true,true,true,true,true,true,true,true,true,true,true,true,true,true] (by kernel_rfl) (by kernel_rfl) rfl (by kernel_rfl) ?_;iterate 19((first|(refine oF (by rfl) hS0 ?_)|(refine mV (by rfl) hS0 (by intro w' hSw;obtain⟨hs1,hs2⟩:=hSw;go_simp;rfl) ?_));simp only[Act.put,sA,sZ,sC])
     refine qL ?_;clear hS0;clear Gl ZJ;go_wp2_with fail
     refine pO (fun w'=>w'.cell? ⟨b,off,none⟩=some (.int .i64 x.code)/\w'.cell? ⟨b,off+1,none⟩=some (.int .i64 x.at_)/\w'.cell? ⟨b,off+2,none⟩=some (.int .i64 x.end_)/\w'.cell? ⟨b,off+3,none⟩=some (.string x.text)/\w'.cell? ⟨b,off+4,none⟩=some (.slice none 0 0)) [] [(0,true),(1,true),(2,true),(3,true),(6,true),(7,true),(4,false),(5,false),(8,false),(9,false)] (by kernel_rfl) (by kernel_rfl) rfl (by kernel_rfl) ?_;have hS0:wr.drew.drew.cell? ⟨b,off,none⟩=some (.int .i64 x.code)/\wr.drew.drew.cell? ⟨b,off+1,none⟩=some (.int .i64 x.at_)/\wr.drew.drew.cell? ⟨b,off+2,none⟩=some (.int .i64 x.end_)/\wr.drew.drew.cell? ⟨b,off+3,none⟩=some (.string x.text)/\wr.drew.drew.cell? ⟨b,off+4,none⟩=some (.slice none 0 0):=⟨z0,z1,z2,z3,z4⟩
     refine iW (by simp only[aak,aai];rfl) (by rfl) hS0 (by intro w' hSw;obtain⟨hs1,hs2,hs3,hs4,hs5⟩:=hSw;go_simp;rfl) ?_;iterate 4(simp only[Act.put,sA,sZ,sC];refine iW (by simp only[aak,aaj,aai];rfl) (by rfl) hS0 (by intro w' hSw;obtain⟨hs1,hs2,hs3,hs4,hs5⟩:=hSw;go_simp;rfl) ?_)
     simp only[Act.put,sA,sZ,sC];refine iW (by simp only[aak,aaj,aai];rfl) (by rfl) hS0 (by intro w' _;go_simp;rw[if_pos (by omega),HA2.out]) ?_;simp only[Act.put,sA,sZ,sC];refine pQ (w':=wr.drew.drew.alloc (.cells #[.int .i64 x.code,.int .i64 x.at_,.int .i64 x.end_,.string x.text,.slice none 0 0] 78)) (by simp only[aak,aaj,aai];rfl) (by rfl) (by go_simp;rfl) ?_ ?_
     ·exact fun _=>⟨by go_simp,by go_simp,by go_simp,by go_simp,by go_simp⟩
     simp only[Act.put,sA,sZ,sC];refine rV (by simp only[aak,aaj,aai];rfl) (by rfl) ?_;refine(jI _ (.tmp 34) (.tmp 38) _ rfl w.heap.size 78 i0 _ 5 64 Tryz.underlying31 hi0 hz0 hz1 hz2 rfl (.slice A5 n5 c5) n5 (pre.flatMap cO) rfl (HO.out.drew.drew.alloc _) ⟨wr.heap.size,0,none⟩ 1 1 (cO x) rfl rfl (jr _ _ _ _ _ _ _ (by go_simp) (by go_simp) (by go_simp) (by go_simp) (by go_simp)) (by simp[cO,Value.oneCell']) (by simp only[maxLen];omega) (by omega) (by simp;omega) ?_);intro v6 w6 hown hgrow hat;obtain⟨A6,c6,hv6,-,-⟩:=hown.shape;subst hv6
     have nJ:∀o,w6.cell? ⟨b,o,none⟩=wr.cell? ⟨b,o,none⟩:=fun o=>by
      rw[hgrow.cell_far _ (by simp;omega) (fun e1=>FW.out e1.symm)];go_simp
     have ma:w6.cell? ⟨b,off,none⟩=some (.int .i64 x.code)/\w6.cell? ⟨b,off+1,none⟩=some (.int .i64 x.at_)/\w6.cell? ⟨b,off+2,none⟩=some (.int .i64 x.end_)/\w6.cell? ⟨b,off+3,none⟩=some (.string x.text)/\w6.cell? ⟨b,off+4,none⟩=some (.slice none 0 0):=⟨(nJ _).trans z0,(nJ _).trans z1,(nJ _).trans z2,(nJ _).trans z3,(nJ _).trans z4⟩
     refine⟨fun _=>ma,?_⟩;iterate 2(simp only[Act.put,sA,sZ,sC];refine pQ (w':=w6) (by simp only[aak,aaj,aai];rfl) (by rfl) (by go_simp;rfl) (fun _=>ma) ?_)
     simp only[Act.put,sA,sZ];refine uX ?_;have HOWN:=kH hown;have nZ:=kH (((((aA.refl (fun g=>w.heap.size<=g) w).below oZ.out).drew.drew.alloc (.cells #[.int .i64 x.code,.int .i64 x.at_,.int .i64 x.end_,.string x.text,.slice none 0 0] 78)).grown hgrow (fun g hg=>.inl (HO.out.lt g hg).1)).toBelow (aab _) (fun g hg=>hg));have qm:=kH ((((aA.refl (fun g=>w.heap.size<=g) wr).drew.drew.alloc (.cells #[.int .i64 x.code,.int .i64 x.at_,.int .i64 x.end_,.string x.text,.slice none 0 0] 78)).grown hgrow (fun g hg=>.inl (HO.out.lt g hg).1)).toBelow O3 (fun g hg=>hg));clear hown hgrow hat nJ ma hS0;go_wp2_with fail
     go_roundg (gk - 1)
     case measure=>omega
     case rel=>
      refine⟨da,y::db,pre++[x],A2,_,A6,m,m'+1,n5+1,KI - 1,cb',c6,by omega,by omega,by simp;omega,by rw[aam,<- CE.out];rfl,by omega,by first|rfl|(simp;omega),by first|rfl|(simp;omega),by first|rfl|(simp;omega),by omega,by omega,QJ.out,HR2.out.below qm.out (aab _),SB.out.below qm.out (aab _),?_,nZ.out⟩;rw[List.flatMap_append];simpa using HOWN.out
    ·have hd:decide (x.at_<=y.at_)=false:=decide_eq_false hle
     have z0:wr.cell? ⟨b',off',none⟩=some (.int .i64 y.code):=by simpa using hcs' 0 _ rfl
     have z1:wr.cell? ⟨b',off'+1,none⟩=some (.int .i64 y.at_):=by simpa using hcs' 1 _ rfl
     have z2:wr.cell? ⟨b',off'+2,none⟩=some (.int .i64 y.end_):=by simpa using hcs' 2 _ rfl
     have z3:wr.cell? ⟨b',off'+3,none⟩=some (.string y.text):=by simpa using hcs' 3 _ rfl
     have z4:wr.cell? ⟨b',off'+4,none⟩=some (.slice none 0 0):=by simpa using hcs' 4 _ rfl
     obtain⟨A2,hA2⟩:∃A2:Option Addr,(if cb'=1 then some ⟨b',off',none⟩ else some ⟨b',off'+5,none⟩)=A2:=⟨_,rfl⟩
     have HA2:=kH hA2;have HR2:Hid (df 5 cO wr w.heap.size A2 db):=kH (by rw[<- hA2];exact SB.out.tail (by omega));have hbl:b'<wr.heap.size:=by omega
     have FW:Hid ((Value.slice A5 n5 c5).ownBlock≠some b'):=kH (fun e1=>by have:=(HO.out.lt _ e1).1;omega);clear hA2;have QJ:Hid (iE la lb=pre++[y]++iE (x::da) db):=kH (by rw[QI.out,iE,if_neg hle];simp);clear hcs hcs' hle;go_wp2_with fail
     have hS0:wr.drew.cell? ⟨b,off+1,none⟩=some (.int .i64 x.at_)/\wr.drew.cell? ⟨b',off'+1,none⟩=some (.int .i64 y.at_):=⟨Gl,ZJ⟩
     refine lI (fun w'=>w'.cell? ⟨b,off+1,none⟩=some (.int .i64 x.at_)/\w'.cell? ⟨b',off'+1,none⟩=some (.int .i64 y.at_)) [] [true,true,true,true,true,true,true,true,true,true,true,true,true,true,true,true,true,true,true] (by kernel_rfl) (by kernel_rfl) rfl (by kernel_rfl) ?_;iterate 19((first|(refine oF (by rfl) hS0 ?_)|(refine mV (by rfl) hS0 (by intro w' hSw;obtain⟨hs1,hs2⟩:=hSw;go_simp;rfl) ?_));simp only[Act.put,sA,sZ,sC])
     refine qL ?_;clear hS0;clear Gl ZJ;go_wp2_with fail
     refine pO (fun w'=>w'.cell? ⟨b',off',none⟩=some (.int .i64 y.code)/\w'.cell? ⟨b',off'+1,none⟩=some (.int .i64 y.at_)/\w'.cell? ⟨b',off'+2,none⟩=some (.int .i64 y.end_)/\w'.cell? ⟨b',off'+3,none⟩=some (.string y.text)/\w'.cell? ⟨b',off'+4,none⟩=some (.slice none 0 0)) [] [(0,true),(1,true),(2,true),(3,true),(6,true),(7,true),(4,false),(5,false),(8,false),(9,false)] (by kernel_rfl) (by kernel_rfl) rfl (by kernel_rfl) ?_;have hS0:wr.drew.drew.cell? ⟨b',off',none⟩=some (.int .i64 y.code)/\wr.drew.drew.cell? ⟨b',off'+1,none⟩=some (.int .i64 y.at_)/\wr.drew.drew.cell? ⟨b',off'+2,none⟩=some (.int .i64 y.end_)/\wr.drew.drew.cell? ⟨b',off'+3,none⟩=some (.string y.text)/\wr.drew.drew.cell? ⟨b',off'+4,none⟩=some (.slice none 0 0):=⟨z0,z1,z2,z3,z4⟩
     refine iW (by simp only[aak,aai];rfl) (by rfl) hS0 (by intro w' hSw;obtain⟨hs1,hs2,hs3,hs4,hs5⟩:=hSw;go_simp;rfl) ?_;iterate 4(simp only[Act.put,sA,sZ,sC];refine iW (by simp only[aak,aaj,aai];rfl) (by rfl) hS0 (by intro w' hSw;obtain⟨hs1,hs2,hs3,hs4,hs5⟩:=hSw;go_simp;rfl) ?_)
     simp only[Act.put,sA,sZ,sC];refine iW (by simp only[aak,aaj,aai];rfl) (by rfl) hS0 (by intro w' _;go_simp;rw[if_pos (by omega),HA2.out]) ?_;simp only[Act.put,sA,sZ,sC];refine pQ (w':=wr.drew.drew.alloc (.cells #[.int .i64 y.code,.int .i64 y.at_,.int .i64 y.end_,.string y.text,.slice none 0 0] 78)) (by simp only[aak,aaj,aai];rfl) (by rfl) (by go_simp;rfl) ?_ ?_
     ·exact fun _=>⟨by go_simp,by go_simp,by go_simp,by go_simp,by go_simp⟩
     simp only[Act.put,sA,sZ,sC];refine rV (by simp only[aak,aaj,aai];rfl) (by rfl) ?_;refine(jI _ (.tmp 42) (.tmp 46) _ rfl w.heap.size 78 i0 _ 5 64 Tryz.underlying31 hi0 hz0 hz1 hz2 rfl (.slice A5 n5 c5) n5 (pre.flatMap cO) rfl (HO.out.drew.drew.alloc _) ⟨wr.heap.size,0,none⟩ 1 1 (cO y) rfl rfl (jr _ _ _ _ _ _ _ (by go_simp) (by go_simp) (by go_simp) (by go_simp) (by go_simp)) (by simp[cO,Value.oneCell']) (by simp only[maxLen];omega) (by omega) (by simp;omega) ?_);intro v6 w6 hown hgrow hat;obtain⟨A6,c6,hv6,-,-⟩:=hown.shape;subst hv6
     have nJ:∀o,w6.cell? ⟨b',o,none⟩=wr.cell? ⟨b',o,none⟩:=fun o=>by
      rw[hgrow.cell_far _ (by simp;omega) (fun e1=>FW.out e1.symm)];go_simp
     have ma:w6.cell? ⟨b',off',none⟩=some (.int .i64 y.code)/\w6.cell? ⟨b',off'+1,none⟩=some (.int .i64 y.at_)/\w6.cell? ⟨b',off'+2,none⟩=some (.int .i64 y.end_)/\w6.cell? ⟨b',off'+3,none⟩=some (.string y.text)/\w6.cell? ⟨b',off'+4,none⟩=some (.slice none 0 0):=⟨(nJ _).trans z0,(nJ _).trans z1,(nJ _).trans z2,(nJ _).trans z3,(nJ _).trans z4⟩
     refine⟨fun _=>ma,?_⟩;iterate 2(simp only[Act.put,sA,sZ,sC];refine pQ (w':=w6) (by simp only[aak,aaj,aai];rfl) (by rfl) (by go_simp;rfl) (fun _=>ma) ?_)
     simp only[Act.put,sA,sZ,sC];refine uX ?_;have HOWN:=kH hown;have nZ:=kH (((((aA.refl (fun g=>w.heap.size<=g) w).below oZ.out).drew.drew.alloc (.cells #[.int .i64 y.code,.int .i64 y.at_,.int .i64 y.end_,.string y.text,.slice none 0 0] 78)).grown hgrow (fun g hg=>.inl (HO.out.lt g hg).1)).toBelow (aab _) (fun g hg=>hg));have qm:=kH ((((aA.refl (fun g=>w.heap.size<=g) wr).drew.drew.alloc (.cells #[.int .i64 y.code,.int .i64 y.at_,.int .i64 y.end_,.string y.text,.slice none 0 0] 78)).grown hgrow (fun g hg=>.inl (HO.out.lt g hg).1)).toBelow O3 (fun g hg=>hg));clear hown hgrow hat nJ ma hS0;go_wp2_with fail
     go_roundg (gk - 1)
     case measure=>omega
     case rel=>
      refine⟨x::da,db,pre++[y],_,A2,A6,m+1,m',n5+1,KI,cb' - 1,c6,by omega,by simp;omega,by omega,by rw[aam,<- CE.out];rfl,by omega,by first|rfl|(simp;omega),by first|rfl|(simp;omega),by first|rfl|(simp;omega),by omega,by omega,QJ.out,XB.out.below qm.out (aab _),HR2.out.below qm.out (aab _),?_,nZ.out⟩;rw[List.flatMap_append];simpa using HOWN.out
end Go.Proofs.YtoepemlnlpamlaaGreat
namespace Go.Proofs.YtoepemlnlpamlaaGreat
theorem kD{α:Type}{F:Nat->Option α}(h:∀f y,F f=some y->F (f+1)=some y){f f':Nat}(hf:f<=f'){y:α}(hy:F f=some y):F f'=some y:=by
 obtain⟨d,rfl⟩:=Nat.exists_eq_add_of_le hf
 induction d with
 | zero=>exact hy
 | succ d ih=>exact h _ _ (ih (by omega))
section
variable {s:bE}{l:List jP}
theorem Qh:∀(f:Nat) (p:PS) (kids:List aa) (y:List aa×PS),mf s l f p kids=some y->mf s l (f+1) p kids=some y:=by
 intro f
 induction f with
 | zero=>intro p kids y h;simp[mf]at h
 | succ f ih=>
  intro p kids y h;rw[mf]at h⊢;split at h
  ·rename_i hb;rw[if_pos hb];exact ih _ _ _ h
  ·rename_i hb;rw[if_neg hb];exact h
theorem wD(f:Nat)(p:PS)(y:aa×PS)(h:nE s l f p=some y):nE s l (f+1) p=some y:=by
 unfold nE at h⊢;simp only at h⊢;split at h
 ·cases h
 ·rename_i kids q hq
  rw[Qh f _ _ _ hq];exact h
theorem OJ:∀(f:Nat) (p:PS) (kids:List aa) (y:List aa×PS),jX s l f p kids=some y->jX s l (f+1) p kids=some y:=by
 intro f
 induction f with
 | zero=>intro p kids y h;simp[jX]at h
 | succ f ih=>
  intro p kids y h;rw[jX]at h⊢;split at h
  ·rename_i hb;rw[if_pos hb];exact ih _ _ _ h
  ·rename_i hb;rw[if_neg hb];exact h
theorem EI(f:Nat)(p:PS)(y:aa×PS)(h:qz s l f p=some y):qz s l (f+1) p=some y:=by
 unfold qz at h⊢;simp only at h⊢;split at h
 ·cases h
 ·rename_i kids q hq
  have:(if bM s l (aH s l p [40]) [41] then some ([],aH s l p [40]) else jX s l (f+1) (gZ s l (aH s l p [40])).2 [(gZ s l (aH s l p [40])).1])=some (kids,q):=by
   split at hq
   ·rename_i hb;rw[if_pos hb];exact hq
   ·rename_i hb;rw[if_neg hb];exact OJ f _ _ _ hq
  rw[this];exact h
theorem zA(f:Nat)(p:PS)(y:aa×PS)(h:rX s l f p=some y):rX s l (f+1) p=some y:=by
 unfold rX at h⊢;simp only at h⊢;split at h
 ·cases h
 ·rename_i x q hq
  rw[EI f _ _ hq];split at h
  ·rename_i b p3 hb
   simp only;rw[Mk f _ _ _ hb];exact h
  ·cases h
theorem xY:∀(f:Nat) (p q:PS),nz s l f p=some q->nz s l (f+1) p=some q:=by
 intro f
 induction f with
 | zero=>intro p q h;simp[nz]at h
 | succ f ih=>
  intro p q h;rw[nz]at h⊢;split at h
  ·rename_i hb;rw[if_pos hb];exact ih _ _ h
  ·rename_i hb;rw[if_neg hb];exact h
theorem zz:∀(f:Nat) (p:PS) (kids:List aa) (y:List aa×PS),j3 s l f p kids=some y->j3 s l (f+1) p kids=some y:=by
 intro f
 induction f with
 | zero=>intro p kids y h;simp[j3]at h
 | succ f ih=>
  intro p kids y h;rw[j3]at h⊢;split at h
  ·rename_i hb;rw[if_pos hb];exact h
  ·rename_i hb
   rw[if_neg hb];split at h
   ·rename_i hr
    rw[if_pos hr];split at h
    ·cases h
    ·rename_i x q hq
     rw[wD f _ _ hq];exact ih _ _ _ h
   ·rename_i hr
    rw[if_neg hr];split at h
    ·rename_i hp
     rw[if_pos hp];split at h
     ·cases h
     ·rename_i x q hq
      rw[zA f _ _ hq];exact ih _ _ _ h
    ·rename_i hp
     rw[if_neg hp];split at h
     ·cases h
     ·rename_i q hq
      rw[xY f _ _ hq];exact ih _ _ _ h
theorem U9(he:nL l):∀(n:Nat) (p:PS) (kids:List aa),p.k<l.length->l.length - p.k<=n->∃f y q,mf s l f p kids=some (y,q)/\Le l p q:=by
 intro n
 induction n with
 | zero=>intro p kids h1 h2;omega
 | succ n ih=>
  intro p kids hp hn;by_cases hb:bM s l p [44]=true
  ·have h1:=dS he hp (fF hb)
   have h2:=Df (s:=s) he h1.1.2;obtain⟨f,y,q,h3,h4⟩:=ih (jS s l (aC l p)).2 (kids++[(jS s l (aC l p)).1]) h2.2 (by have:=h1.2;have:=h2.1;omega);exact⟨f+1,y,q,by rw[mf,if_pos hb];exact h3,(h1.1.trans h2).trans h4⟩
  ·exact⟨1,kids,p,by rw[mf,if_neg hb],le_refl hp⟩
theorem JB(he:nL l){p:PS}(hp:p.k<l.length)(h5:bP l p≠5):∃f x q,nE s l f p=some (x,q)/\Le l p q/\p.k<q.k:=by
 have h1:=dS he hp h5;have h2:=uw he h1.1.2;have h3:=eU (s:=s) (w:=[123]) he h2.2;have h4:=Df (s:=s) he h3.2;obtain⟨f,y,q,h6,h7⟩:=U9 (s:=s) he (l.length) (jS s l (aH s l (dG l (aC l p)) [123])).2 [(jS s l (aH s l (dG l (aC l p)) [123])).1] h4.2 (by omega);have h8:=eU (s:=s) (w:=[125]) he h7.2;refine⟨f,_,_,by unfold nE;simp only;rw[h6],((((h1.1.trans h2).trans h3).trans h4).trans h7).trans h8,?_⟩;have:=h1.2;have:=h2.1;have:=h3.1;have:=h4.1;have:=h7.1;have:=h8.1;omega
theorem Uj(he:nL l):∀(n:Nat) (p:PS) (kids:List aa),p.k<l.length->l.length - p.k<=n->∃f y q,jX s l f p kids=some (y,q)/\Le l p q:=by
 intro n
 induction n with
 | zero=>intro p kids h1 h2;omega
 | succ n ih=>
  intro p kids hp hn;by_cases hb:bM s l p [44]=true
  ·have h1:=dS he hp (fF hb)
   have h2:=IQ (s:=s) he h1.1.2;obtain⟨f,y,q,h3,h4⟩:=ih (gZ s l (aC l p)).2 (kids++[(gZ s l (aC l p)).1]) h2.2 (by have:=h1.2;have:=h2.1;omega);exact⟨f+1,y,q,by rw[jX,if_pos hb];exact h3,(h1.1.trans h2).trans h4⟩
  ·exact⟨1,kids,p,by rw[jX,if_neg hb],le_refl hp⟩
theorem Ui(he:nL l){p:PS}(hp:p.k<l.length):∃f x q,qz s l f p=some (x,q)/\Le l p q:=by
 have h1:=eU (s:=s) (w:=[40]) he hp
 obtain⟨f,kids,q,h2,h3⟩:∃f kids q,(if bM s l (aH s l p [40]) [41] then some ([],aH s l p [40]) else jX s l f (gZ s l (aH s l p [40])).2 [(gZ s l (aH s l p [40])).1])=some (kids,q)/\Le l (aH s l p [40]) q:=by
  by_cases hb:bM s l (aH s l p [40]) [41]=true
  ·exact⟨0,[],_,by rw[if_pos hb],le_refl h1.2⟩
  ·have h4:=IQ (s:=s) he h1.2
   obtain⟨f,y,q,h6,h7⟩:=Uj (s:=s) he (l.length) (gZ s l (aH s l p [40])).2 [(gZ s l (aH s l p [40])).1] h4.2 (by omega);exact⟨f,y,q,by rw[if_neg hb];exact h6,h4.trans h7⟩
 have h8:=eU (s:=s) (w:=[41]) he h3.2;exact⟨f,_,_,by unfold qz;simp only;rw[h2],(h1.trans h3).trans h8⟩
theorem OG(he:nL l)(hend:pM s l){p:PS}(hp:p.k<l.length)(h5:bP l p≠5):∃f x q,rX s l f p=some (x,q)/\Le l p q/\p.k<q.k:=by
 have h1:=dS he hp h5;have h2:=uw he h1.1.2;obtain⟨f1,x,q,h3,h4⟩:=Ui (s:=s) he h2.2;have h6:=OT (s:=s) he h4.2;have h7:=ry (VZ he hend _ .block (jb s l q).2 h6.2 trivial (Nat.lt_succ_self _)) rfl;obtain⟨f2,b,q2,h8,h9,-⟩:=h7;refine⟨max f1 f2,aI l q2 p.k 5 (dF s l (aC l p)) [x,(jb s l q).1,b],q2,?_,(((h1.1.trans h2).trans h4).trans h6).trans h9,?_⟩
 ·unfold rX
  simp only;rw[kD (F:=fun f=>qz s l f (dG l (aC l p))) (fun f y h=>EI f _ y h) (Nat.le_max_left f1 f2) h3];simp only;rw[h8 _ (Nat.le_max_right f1 f2)]
 ·have:=h1.2
  have:=h2.1;have:=h4.1;have:=h6.1;have:=h9.1;omega
theorem Mq(he:nL l):∀(n:Nat) (p:PS),p.k<l.length->l.length - p.k<=n->∃f q,nz s l f p=some q/\Le l p q/\((decide (bP l p≠5)&& !bM s l p [114,101,99,111,114,100]&& !bM s l p [112,114,111,99])=true->p.k<q.k):=by
 intro n
 induction n with
 | zero=>intro p h1 h2;omega
 | succ n ih=>
  intro p hp hn;by_cases hb:(decide (bP l p≠5)&& !bM s l p [114,101,99,111,114,100]&& !bM s l p [112,114,111,99])=true
  ·have h5:bP l p≠5:=by
    simp only[aad,decide_eq_true_eq]at hb;exact hb.1.1
   have h1:=dS he hp h5;obtain⟨f,q,h3,h4,-⟩:=ih (aC l p) h1.1.2 (by have:=h1.2;omega);exact⟨f+1,q,by rw[nz,if_pos hb];exact h3,h1.1.trans h4,fun _=>by have:=h1.2;have:=h4.1;omega⟩
  ·exact⟨1,p,by rw[nz,if_neg hb],le_refl hp,fun h=>absurd h hb⟩
theorem zK{p:PS}{c:Int}{t w:bE}:bM s l (iK l p c t) w=bM s l p w:=by
 unfold bM bP;rw[mI]
theorem ER{p:PS}{c:Int}{t:bE}:bP l (iK l p c t)=bP l p:=by
 unfold bP;rw[mI]
theorem Yj(he:nL l)(hend:pM s l):∀(n:Nat) (p:PS) (kids:List aa),p.k<l.length->l.length - p.k<=n->∃f y q,j3 s l f p kids=some (y,q):=by
 intro n
 induction n with
 | zero=>intro p kids h1 h2;omega
 | succ n ih=>
  intro p kids hp hn;by_cases h5:bP l p=5
  ·exact⟨1,kids,p,by rw[j3,if_pos h5]⟩
  ·by_cases hr:bM s l p [114,101,99,111,114,100]=true
   ·obtain⟨f1,x,q,h1,h2,h3⟩:=JB (s:=s) he hp h5
    obtain⟨f2,y,q2,h4⟩:=ih q (kids++[x]) h2.2 (by omega);refine⟨max f1 f2+1,y,q2,?_⟩;rw[j3,if_neg h5,if_pos hr,kD (F:=fun f=>nE s l f p) (fun f y h=>wD f _ y h) (Nat.le_max_left f1 f2) h1];exact kD (F:=fun f=>j3 s l f q (kids++[x])) (fun f y h=>zz f _ _ y h) (Nat.le_max_right f1 f2) h4
   ·by_cases hpc:bM s l p [112,114,111,99]=true
    ·obtain⟨f1,x,q,h1,h2,h3⟩:=OG (s:=s) he hend hp h5
     obtain⟨f2,y,q2,h4⟩:=ih q (kids++[x]) h2.2 (by omega);refine⟨max f1 f2+1,y,q2,?_⟩;rw[j3,if_neg h5,if_neg hr,if_pos hpc,kD (F:=fun f=>rX s l f p) (fun f y h=>zA f _ y h) (Nat.le_max_left f1 f2) h1];exact kD (F:=fun f=>j3 s l f q (kids++[x])) (fun f y h=>zz f _ _ y h) (Nat.le_max_right f1 f2) h4
    ·obtain⟨f1,q,h1,h2,h3⟩:=Mq (s:=s) he (l.length) (iK l p 7 []) (by rw[mI];exact hp) (by omega)
     have h3':=h3 (by rw[ER,zK,zK];simp[h5,hr,hpc]);rw[mI]at h3';obtain⟨f2,y,q2,h4⟩:=ih q (kids++[aI l q p.k 1 [] []]) h2.2 (by omega);refine⟨max f1 f2+1,y,q2,?_⟩;rw[j3,if_neg h5,if_neg hr,if_neg hpc,kD (F:=fun f=>nz s l f (iK l p 7 [])) (fun f y h=>xY f _ y h) (Nat.le_max_left f1 f2) h1];exact kD (F:=fun f=>j3 s l f q (kids++[aI l q p.k 1 [] []])) (fun f y h=>zz f _ _ y h) (Nat.le_max_right f1 f2) h4
end
end Go.Proofs.YtoepemlnlpamlaaGreat
