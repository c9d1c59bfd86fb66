/- The law NamesVisibleAt holds where what it reads is of bulk at most 1048576: it returns true, and its arguments read as before. Part 14: Merg ProgE. -/
import Derived.Test.YtoepemlnlpamlaaGreatVisa09
import Derived.Test.YtoepemlnlpamlaaGreatVisa13
set_option maxRecDepth 100000
set_option maxHeartbeats 4000000
namespace Go.Proofs.YtoepemlnlpamlaaGreat
open Go.RowKit
theorem bU.tail{E:Type}{size:Nat}{cells:E->List Value}{w:World}{B:Nat}{b A:Nat}{x:E}{l:List E}{C:Nat}(h:bU size cells w B (some ⟨b,A,none⟩) (x::l))(N:l.length+1<=C):
 bU size cells w B (if C=1 then some ⟨b,A,none⟩ else some ⟨b,A+size,none⟩) l:=by
 intro k c H;have M:=(aah.1 H).1;obtain⟨F,I,D,J,K⟩:=h (k+1) c (by simpa using H);rw[if_neg (by omega)];refine⟨b,A+size,rfl,?_,fun j v L=>?_⟩
 ·have:F=b:=by simp at D;exact D.1.symm
  rw[<- this];exact J
 ·have G:F=b/\I=A:=by simp at D;exact⟨D.1.symm,D.2.symm⟩
  have:=K j v L;rw[G.1,G.2]at this;rw[show A+size+k*size+j=A+(k+1)*size+j by rw[Nat.add_mul];omega];exact this
theorem Ml(l:List Dg):ig l []=l:=by cases l<;>simp[ig]
theorem Mk(Z lb:List Dg)(A B:Option Addr)(ca cb:Nat)(w:World)(ha:bU 5 bO w w.heap.size A Z)(hb:bU 5 bO w w.heap.size B lb)(hla:Z.length<=10000)(hlb:lb.length<=10000)(Vp:Z.length<=ca)(hcb:lb.length<=cb):Calls Tryz.prog 72 #[.slice A Z.length ca,.slice B lb.length cb] w (DgsRes w (ig Z lb)):=by
 obtain⟨i0,hi0,hz0,hz1,hz2⟩:=info_parts Ee;have HA:=kH ha;have HB:=kH hb;have HLEN:Hid (Z.length<=10000/\lb.length<=10000/\Z.length<=ca/\lb.length<=cb):=kH ⟨hla,hlb,Vp,hcb⟩;clear ha hb hla hlb Vp hcb;go_in
 go_wp2_with fail
 generalize hW1:w.alloc (.cells #[] 78)=W1
 have hb1:Below w.heap.size w W1:=by rw[<- hW1];exact ag _ _
 have vo:aK W1 w.heap.size 78 5 (.slice (some ⟨w.heap.size,0,none⟩) 0 0) 0 (([]:List Dg).flatMap bO):=by
  have hn:=aj.new w 78 #[];rw[hW1]at hn;exact aK.block (n:=0) (cur:=#[]) (aab _) hn (by simp[maxLen]) rfl
 have vP:=kH vo;have HB1:=kH hb1;clear hW1 vo hb1;go_loopg [0,1,5] (Z.length+lb.length) (fun gk s0 s1 s5 wr=> ∃(d Y J:List Dg) (Aa Ab c:Option Addr) (na nb Q M9 U c5:Nat),na+nb=gk/\na=d.length/\nb=Y.length/\Q=J.length/\Q+gk=Z.length+lb.length/\s0= .slice Aa na M9/\s1= .slice Ab nb U/\s5= .slice c Q c5/\na<=M9/\nb<=U/\ig Z lb=J++ig d Y/\bU 5 bO wr w.heap.size Aa d/\bU 5 bO wr w.heap.size Ab Y/\aK wr w.heap.size 78 5 (.slice c Q c5) Q (J.flatMap bO)/\Below w.heap.size w wr)
 case atStart=>exact⟨Z,lb,[],A,B,_,Z.length,lb.length,0,ca,cb,0,rfl,rfl,rfl,rfl,by omega,rfl,rfl,rfl,HLEN.out.2.2.1,HLEN.out.2.2.2,rfl,HA.out.below HB1.out (aab _),HB.out.below HB1.out (aab _),vP.out,HB1.out⟩
 case round=>
  obtain⟨d,Y,J,Aa,Ab,c,na,nb,Q,M9,U,c5,hk,hna,hnb,FD,hsum,rfl,rfl,rfl,hca',hcb',hM,hRa,hRb,hO,hB⟩:=hrel;have HL2:=HLEN.out;have TR:=kH hM;have HRa:=kH hRa;have VP:=kH hRb;have W:=kH hO;have nU:=kH hB;have CS:=kH FD;have RJ:=hB.size;have hsm:Q<=20000:=by omega
  clear hM hRa hRb hO hB FD
  cases d with
  | nil=>
   simp only[List.length_nil]at hna;subst hna
   cases Y with
   | nil=>
    simp only[List.length_nil]at hnb;subst hnb;go_wp2_with fail
    refine bodyPost_ret (v:=.slice c Q c5) (by simp[results,Tryz.results72,go_sem]) rfl ?_;have hm:=TR.out;rw[Ml,List.append_nil]at hm;exact⟨c,Q,c5,rfl,by rw[hm];exact CS.out,by rw[hm];exact W.out,nU.out⟩
   | cons y Y=>
    simp only[aao]at hnb;obtain⟨m,rfl⟩:∃m,nb=m+1:=⟨nb - 1,by omega⟩
    obtain⟨b,C,hA,hb,I⟩:=VP.out 0 y rfl;subst hA;have z0:wr.cell? ⟨b,C,none⟩=some (.int .i64 y.code):=by simpa using I 0 _ rfl
    have z1:wr.cell? ⟨b,C+1,none⟩=some (.int .i64 y.at_):=by simpa using I 1 _ rfl
    have z2:wr.cell? ⟨b,C+2,none⟩=some (.int .i64 y.end_):=by simpa using I 2 _ rfl
    have z3:wr.cell? ⟨b,C+3,none⟩=some (.string y.text):=by simpa using I 3 _ rfl
    have z4:wr.cell? ⟨b,C+4,none⟩=some (.slice none 0 0):=by simpa using I 4 _ rfl
    obtain⟨T,L⟩:∃T:Option Addr,(if U=1 then some ⟨b,C,none⟩ else some ⟨b,C+5,none⟩)=T:=⟨_,rfl⟩
    have z:=kH L;have u:Hid (bU 5 bO wr w.heap.size T Y):=kH (by rw[<- L];exact VP.out.tail (by omega));have hbl:b<wr.heap.size:=by omega
    have Ik:Hid ((Value.slice c Q c5).ownBlock≠some b):=kH (fun X=>by have:=(W.out.lt _ X).1;omega);clear L;have TS:Hid (ig Z lb=J++[y]++ig [] Y):=kH (by rw[TR.out];simp[ig]);have X:(((m:Int)+1)==0)=false:=by rw[Bool.eq_false_iff];simp;omega
    have e2:decide ((0:Int)<(m:Int)+1)=true:=decide_eq_true (by omega);clear I;go_wp2_with fail
    have IV:=z1;have F:wr.drew.cell? ⟨b,C+1,none⟩=some (.int .i64 y.at_):=IV;refine dD (fun w'=>w'.cell? ⟨b,C+1,none⟩=some (.int .i64 y.at_)) [] [true,true,true,true,true,true,true,true,true,true,true,true,true,true,true,true,true,true,true] (by kernel_rfl) (by kernel_rfl) rfl (by kernel_rfl) ?_;iterate 19((first|(refine dB (by rfl) F ?_)|(refine bV (by rfl) F (by intro w' G;obtain S:=G;go_simp;rfl) ?_));simp only[Act.put,sA,sZ,sC])
    refine gJ ?_;clear F;clear IV;go_wp2_with fail
    refine pV (fun w'=>w'.cell? ⟨b,C,none⟩=some (.int .i64 y.code)/\w'.cell? ⟨b,C+1,none⟩=some (.int .i64 y.at_)/\w'.cell? ⟨b,C+2,none⟩=some (.int .i64 y.end_)/\w'.cell? ⟨b,C+3,none⟩=some (.string y.text)/\w'.cell? ⟨b,C+4,none⟩=some (.slice none 0 0)) [] [(0,true),(1,true),(2,true),(3,true),(6,true),(7,true),(4,false),(5,false),(8,false),(9,false)] (by kernel_rfl) (by kernel_rfl) rfl (by kernel_rfl) ?_;have F:wr.drew.drew.cell? ⟨b,C,none⟩=some (.int .i64 y.code)/\wr.drew.drew.cell? ⟨b,C+1,none⟩=some (.int .i64 y.at_)/\wr.drew.drew.cell? ⟨b,C+2,none⟩=some (.int .i64 y.end_)/\wr.drew.drew.cell? ⟨b,C+3,none⟩=some (.string y.text)/\wr.drew.drew.cell? ⟨b,C+4,none⟩=some (.slice none 0 0):=⟨z0,z1,z2,z3,z4⟩
    refine iV (by simp only[aak,aai];rfl) (by rfl) F (by intro w' G;obtain⟨S,V,r,q,k⟩:=G;go_simp;rfl) ?_;iterate 4(simp only[Act.put,sA,sZ,sC];refine iV (by simp only[aak,aaj,aai];rfl) (by rfl) F (by intro w' G;obtain⟨S,V,r,q,k⟩:=G;go_simp;rfl) ?_)
    simp only[Act.put,sA,sZ,sC];refine iV (by simp only[aak,aaj,aai];rfl) (by rfl) F (by intro w' _;go_simp;rw[if_pos (by omega),z.out]) ?_;simp only[Act.put,sA,sZ,sC];refine pW (w':=wr.drew.drew.alloc (.cells #[.int .i64 y.code,.int .i64 y.at_,.int .i64 y.end_,.string y.text,.slice none 0 0] 78)) (by simp only[aak,aaj,aai];rfl) (by rfl) (by go_simp;rfl) ?_ ?_
    ·exact fun _=>⟨by go_simp,by go_simp,by go_simp,by go_simp,by go_simp⟩
    simp only[Act.put,sA,sZ,sC];refine sQ (by simp only[aak,aaj,aai];rfl) (by rfl) ?_;refine(iG _ (.tmp 42) (.tmp 46) _ rfl w.heap.size 78 i0 _ 5 64 Tryz.underlying31 hi0 hz0 hz1 hz2 rfl (.slice c Q c5) Q (J.flatMap bO) rfl (W.out.drew.drew.alloc _) ⟨wr.heap.size,0,none⟩ 1 1 (bO y) rfl rfl (ji _ _ _ _ _ _ _ (by go_simp) (by go_simp) (by go_simp) (by go_simp) (by go_simp)) (by simp[bO,Value.oneCell']) (by simp only[maxLen];omega) (by omega) (by simp;omega) ?_);intro v6 N H E t;obtain⟨A6,c6,j,-,-⟩:=H.shape;subst j
    have O:∀o,N.cell? ⟨b,o,none⟩=wr.cell? ⟨b,o,none⟩:=fun o=>by
     rw[E.cell_far _ (by simp;omega) (fun X=>Ik.out X.symm)];go_simp
    have f:N.cell? ⟨b,C,none⟩=some (.int .i64 y.code)/\N.cell? ⟨b,C+1,none⟩=some (.int .i64 y.at_)/\N.cell? ⟨b,C+2,none⟩=some (.int .i64 y.end_)/\N.cell? ⟨b,C+3,none⟩=some (.string y.text)/\N.cell? ⟨b,C+4,none⟩=some (.slice none 0 0):=⟨(O _).trans z0,(O _).trans z1,(O _).trans z2,(O _).trans z3,(O _).trans z4⟩
    refine⟨fun _=>f,?_⟩;iterate 2(simp only[Act.put,sA,sZ,sC];refine pW (w':=N) (by simp only[aak,aaj,aai];rfl) (by rfl) (by go_simp;rfl) (fun _=>f) ?_)
    simp only[Act.put,sA,sZ,sC];refine wu ?_;have R:=kH H;have nI:=kH (((((aF.refl (fun g=>w.heap.size<=g) w).below nU.out).drew.drew.alloc (.cells #[.int .i64 y.code,.int .i64 y.at_,.int .i64 y.end_,.string y.text,.slice none 0 0] 78)).grown E (fun g M=>.inl (W.out.lt g M).1)).toBelow (aab _) (fun g M=>M));have qE:=kH ((((aF.refl (fun g=>w.heap.size<=g) wr).drew.drew.alloc (.cells #[.int .i64 y.code,.int .i64 y.at_,.int .i64 y.end_,.string y.text,.slice none 0 0] 78)).grown E (fun g M=>.inl (W.out.lt g M).1)).toBelow RJ (fun g M=>M));clear H E t O f F;go_wp2_with fail
    go_roundg (gk - 1)
    case measure=>omega
    case rel=>
     refine⟨[],Y,J++[y],Aa,T,A6,0,m,Q+1,M9,U - 1,c6,by omega,rfl,by omega,by rw[aam,<- CS.out];rfl,by omega,by first|rfl|(simp;omega),by first|rfl|(simp;omega),by first|rfl|(simp;omega),by omega,by omega,TS.out,HRa.out.below qE.out (aab _),u.out.below qE.out (aab _),?_,nI.out⟩;rw[List.flatMap_append]
     simpa using R.out
  | cons x d=>
   simp only[aao]at hna;obtain⟨m,rfl⟩:∃m,na=m+1:=⟨na - 1,by omega⟩
   obtain⟨b,C,hA,hb,I⟩:=HRa.out 0 x rfl;subst hA;have X:(((m:Int)+1)==0)=false:=by rw[Bool.eq_false_iff];simp;omega
   have e2:decide ((0:Int)<(m:Int)+1)=true:=decide_eq_true (by omega)
   cases Y with
   | nil=>
    simp only[List.length_nil]at hnb;subst hnb;have z0:wr.cell? ⟨b,C,none⟩=some (.int .i64 x.code):=by simpa using I 0 _ rfl
    have z1:wr.cell? ⟨b,C+1,none⟩=some (.int .i64 x.at_):=by simpa using I 1 _ rfl
    have z2:wr.cell? ⟨b,C+2,none⟩=some (.int .i64 x.end_):=by simpa using I 2 _ rfl
    have z3:wr.cell? ⟨b,C+3,none⟩=some (.string x.text):=by simpa using I 3 _ rfl
    have z4:wr.cell? ⟨b,C+4,none⟩=some (.slice none 0 0):=by simpa using I 4 _ rfl
    obtain⟨T,L⟩:∃T:Option Addr,(if M9=1 then some ⟨b,C,none⟩ else some ⟨b,C+5,none⟩)=T:=⟨_,rfl⟩
    have z:=kH L;have u:Hid (bU 5 bO wr w.heap.size T d):=kH (by rw[<- L];exact HRa.out.tail (by omega));have hbl:b<wr.heap.size:=by omega
    have Ik:Hid ((Value.slice c Q c5).ownBlock≠some b):=kH (fun X=>by have:=(W.out.lt _ X).1;omega);clear L;have TS:Hid (ig Z lb=J++[x]++ig d []):=kH (by rw[TR.out];simp[Ml]);clear I;go_wp2_with fail
    have IV:=z1;have F:wr.drew.cell? ⟨b,C+1,none⟩=some (.int .i64 x.at_):=IV;refine dD (fun w'=>w'.cell? ⟨b,C+1,none⟩=some (.int .i64 x.at_)) [] [true,true,true,true,true,true,true,true,true,true,true,true,true,true,true,true,true,true,true] (by kernel_rfl) (by kernel_rfl) rfl (by kernel_rfl) ?_;iterate 19((first|(refine dB (by rfl) F ?_)|(refine bV (by rfl) F (by intro w' G;obtain S:=G;go_simp;rfl) ?_));simp only[Act.put,sA,sZ,sC])
    refine gJ ?_;clear F;clear IV;go_wp2_with fail
    refine pV (fun w'=>w'.cell? ⟨b,C,none⟩=some (.int .i64 x.code)/\w'.cell? ⟨b,C+1,none⟩=some (.int .i64 x.at_)/\w'.cell? ⟨b,C+2,none⟩=some (.int .i64 x.end_)/\w'.cell? ⟨b,C+3,none⟩=some (.string x.text)/\w'.cell? ⟨b,C+4,none⟩=some (.slice none 0 0)) [] [(0,true),(1,true),(2,true),(3,true),(6,true),(7,true),(4,false),(5,false),(8,false),(9,false)] (by kernel_rfl) (by kernel_rfl) rfl (by kernel_rfl) ?_;have F:wr.drew.drew.cell? ⟨b,C,none⟩=some (.int .i64 x.code)/\wr.drew.drew.cell? ⟨b,C+1,none⟩=some (.int .i64 x.at_)/\wr.drew.drew.cell? ⟨b,C+2,none⟩=some (.int .i64 x.end_)/\wr.drew.drew.cell? ⟨b,C+3,none⟩=some (.string x.text)/\wr.drew.drew.cell? ⟨b,C+4,none⟩=some (.slice none 0 0):=⟨z0,z1,z2,z3,z4⟩
    refine iV (by simp only[aak,aai];rfl) (by rfl) F (by intro w' G;obtain⟨S,V,r,q,k⟩:=G;go_simp;rfl) ?_;iterate 4(simp only[Act.put,sA,sZ,sC];refine iV (by simp only[aak,aaj,aai];rfl) (by rfl) F (by intro w' G;obtain⟨S,V,r,q,k⟩:=G;go_simp;rfl) ?_)
    simp only[Act.put,sA,sZ,sC];refine iV (by simp only[aak,aaj,aai];rfl) (by rfl) F (by intro w' _;go_simp;rw[if_pos (by omega),z.out]) ?_;simp only[Act.put,sA,sZ,sC];refine pW (w':=wr.drew.drew.alloc (.cells #[.int .i64 x.code,.int .i64 x.at_,.int .i64 x.end_,.string x.text,.slice none 0 0] 78)) (by simp only[aak,aaj,aai];rfl) (by rfl) (by go_simp;rfl) ?_ ?_
    ·exact fun _=>⟨by go_simp,by go_simp,by go_simp,by go_simp,by go_simp⟩
    simp only[Act.put,sA,sZ,sC];refine sQ (by simp only[aak,aaj,aai];rfl) (by rfl) ?_;refine(iG _ (.tmp 34) (.tmp 38) _ rfl w.heap.size 78 i0 _ 5 64 Tryz.underlying31 hi0 hz0 hz1 hz2 rfl (.slice c Q c5) Q (J.flatMap bO) rfl (W.out.drew.drew.alloc _) ⟨wr.heap.size,0,none⟩ 1 1 (bO x) rfl rfl (ji _ _ _ _ _ _ _ (by go_simp) (by go_simp) (by go_simp) (by go_simp) (by go_simp)) (by simp[bO,Value.oneCell']) (by simp only[maxLen];omega) (by omega) (by simp;omega) ?_);intro v6 N H E t;obtain⟨A6,c6,j,-,-⟩:=H.shape;subst j
    have O:∀o,N.cell? ⟨b,o,none⟩=wr.cell? ⟨b,o,none⟩:=fun o=>by
     rw[E.cell_far _ (by simp;omega) (fun X=>Ik.out X.symm)];go_simp
    have f:N.cell? ⟨b,C,none⟩=some (.int .i64 x.code)/\N.cell? ⟨b,C+1,none⟩=some (.int .i64 x.at_)/\N.cell? ⟨b,C+2,none⟩=some (.int .i64 x.end_)/\N.cell? ⟨b,C+3,none⟩=some (.string x.text)/\N.cell? ⟨b,C+4,none⟩=some (.slice none 0 0):=⟨(O _).trans z0,(O _).trans z1,(O _).trans z2,(O _).trans z3,(O _).trans z4⟩
    refine⟨fun _=>f,?_⟩;iterate 2(simp only[Act.put,sA,sZ,sC];refine pW (w':=N) (by simp only[aak,aaj,aai];rfl) (by rfl) (by go_simp;rfl) (fun _=>f) ?_)
    simp only[Act.put,sA,sZ];refine wu ?_;have R:=kH H;have nI:=kH (((((aF.refl (fun g=>w.heap.size<=g) w).below nU.out).drew.drew.alloc (.cells #[.int .i64 x.code,.int .i64 x.at_,.int .i64 x.end_,.string x.text,.slice none 0 0] 78)).grown E (fun g M=>.inl (W.out.lt g M).1)).toBelow (aab _) (fun g M=>M));have qE:=kH ((((aF.refl (fun g=>w.heap.size<=g) wr).drew.drew.alloc (.cells #[.int .i64 x.code,.int .i64 x.at_,.int .i64 x.end_,.string x.text,.slice none 0 0] 78)).grown E (fun g M=>.inl (W.out.lt g M).1)).toBelow RJ (fun g M=>M));clear H E t O f F;go_wp2_with fail
    go_roundg (gk - 1)
    case measure=>omega
    case rel=>
     refine⟨d,[],J++[x],T,Ab,A6,m,0,Q+1,M9 - 1,U,c6,by omega,by omega,rfl,by rw[aam,<- CS.out];rfl,by omega,by first|rfl|(simp;omega),by first|rfl|(simp;omega),by first|rfl|(simp;omega),by omega,by omega,TS.out,u.out.below qE.out (aab _),VP.out.below qE.out (aab _),?_,nI.out⟩;rw[List.flatMap_append]
     simpa using R.out
   | cons y Y=>
    simp only[aao]at hnb;obtain⟨m',rfl⟩:∃m',nb=m'+1:=⟨nb - 1,by omega⟩
    obtain⟨K,D,hA',hb',P⟩:=VP.out 0 y rfl;subst hA';have hbl':K<wr.heap.size:=by omega
    have f1:(((m':Int)+1)==0)=false:=by rw[Bool.eq_false_iff];simp;omega
    have f2:decide ((0:Int)<(m':Int)+1)=true:=decide_eq_true (by omega);have IV:wr.cell? ⟨b,C+1,none⟩=some (.int .i64 x.at_):=by simpa using I 1 _ rfl
    have xc1:wr.cell? ⟨K,D+1,none⟩=some (.int .i64 y.at_):=by simpa using P 1 _ rfl
    by_cases hle:x.at_<=y.at_
    ·have hd:decide (x.at_<=y.at_)=true:=decide_eq_true hle
     have z0:wr.cell? ⟨b,C,none⟩=some (.int .i64 x.code):=by simpa using I 0 _ rfl
     have z1:wr.cell? ⟨b,C+1,none⟩=some (.int .i64 x.at_):=by simpa using I 1 _ rfl
     have z2:wr.cell? ⟨b,C+2,none⟩=some (.int .i64 x.end_):=by simpa using I 2 _ rfl
     have z3:wr.cell? ⟨b,C+3,none⟩=some (.string x.text):=by simpa using I 3 _ rfl
     have z4:wr.cell? ⟨b,C+4,none⟩=some (.slice none 0 0):=by simpa using I 4 _ rfl
     obtain⟨T,L⟩:∃T:Option Addr,(if M9=1 then some ⟨b,C,none⟩ else some ⟨b,C+5,none⟩)=T:=⟨_,rfl⟩
     have z:=kH L;have u:Hid (bU 5 bO wr w.heap.size T d):=kH (by rw[<- L];exact HRa.out.tail (by omega));have hbl:b<wr.heap.size:=by omega
     have Ik:Hid ((Value.slice c Q c5).ownBlock≠some b):=kH (fun X=>by have:=(W.out.lt _ X).1;omega);clear L;have TS:Hid (ig Z lb=J++[x]++ig d (y::Y)):=kH (by rw[TR.out,ig,if_pos hle];simp);clear I P hle;go_wp2_with fail
     have F:wr.drew.cell? ⟨b,C+1,none⟩=some (.int .i64 x.at_)/\wr.drew.cell? ⟨K,D+1,none⟩=some (.int .i64 y.at_):=⟨IV,xc1⟩
     refine dD (fun w'=>w'.cell? ⟨b,C+1,none⟩=some (.int .i64 x.at_)/\w'.cell? ⟨K,D+1,none⟩=some (.int .i64 y.at_)) [] [true,true,true,true,true,true,true,true,true,true,true,true,true,true,true,true,true,true,true] (by kernel_rfl) (by kernel_rfl) rfl (by kernel_rfl) ?_;iterate 19((first|(refine dB (by rfl) F ?_)|(refine bV (by rfl) F (by intro w' G;obtain⟨S,V⟩:=G;go_simp;rfl) ?_));simp only[Act.put,sA,sZ,sC])
     refine gJ ?_;clear F;clear IV xc1;go_wp2_with fail
     refine pV (fun w'=>w'.cell? ⟨b,C,none⟩=some (.int .i64 x.code)/\w'.cell? ⟨b,C+1,none⟩=some (.int .i64 x.at_)/\w'.cell? ⟨b,C+2,none⟩=some (.int .i64 x.end_)/\w'.cell? ⟨b,C+3,none⟩=some (.string x.text)/\w'.cell? ⟨b,C+4,none⟩=some (.slice none 0 0)) [] [(0,true),(1,true),(2,true),(3,true),(6,true),(7,true),(4,false),(5,false),(8,false),(9,false)] (by kernel_rfl) (by kernel_rfl) rfl (by kernel_rfl) ?_;have F:wr.drew.drew.cell? ⟨b,C,none⟩=some (.int .i64 x.code)/\wr.drew.drew.cell? ⟨b,C+1,none⟩=some (.int .i64 x.at_)/\wr.drew.drew.cell? ⟨b,C+2,none⟩=some (.int .i64 x.end_)/\wr.drew.drew.cell? ⟨b,C+3,none⟩=some (.string x.text)/\wr.drew.drew.cell? ⟨b,C+4,none⟩=some (.slice none 0 0):=⟨z0,z1,z2,z3,z4⟩
     refine iV (by simp only[aak,aai];rfl) (by rfl) F (by intro w' G;obtain⟨S,V,r,q,k⟩:=G;go_simp;rfl) ?_;iterate 4(simp only[Act.put,sA,sZ,sC];refine iV (by simp only[aak,aaj,aai];rfl) (by rfl) F (by intro w' G;obtain⟨S,V,r,q,k⟩:=G;go_simp;rfl) ?_)
     simp only[Act.put,sA,sZ,sC];refine iV (by simp only[aak,aaj,aai];rfl) (by rfl) F (by intro w' _;go_simp;rw[if_pos (by omega),z.out]) ?_;simp only[Act.put,sA,sZ,sC];refine pW (w':=wr.drew.drew.alloc (.cells #[.int .i64 x.code,.int .i64 x.at_,.int .i64 x.end_,.string x.text,.slice none 0 0] 78)) (by simp only[aak,aaj,aai];rfl) (by rfl) (by go_simp;rfl) ?_ ?_
     ·exact fun _=>⟨by go_simp,by go_simp,by go_simp,by go_simp,by go_simp⟩
     simp only[Act.put,sA,sZ,sC];refine sQ (by simp only[aak,aaj,aai];rfl) (by rfl) ?_;refine(iG _ (.tmp 34) (.tmp 38) _ rfl w.heap.size 78 i0 _ 5 64 Tryz.underlying31 hi0 hz0 hz1 hz2 rfl (.slice c Q c5) Q (J.flatMap bO) rfl (W.out.drew.drew.alloc _) ⟨wr.heap.size,0,none⟩ 1 1 (bO x) rfl rfl (ji _ _ _ _ _ _ _ (by go_simp) (by go_simp) (by go_simp) (by go_simp) (by go_simp)) (by simp[bO,Value.oneCell']) (by simp only[maxLen];omega) (by omega) (by simp;omega) ?_);intro v6 N H E t;obtain⟨A6,c6,j,-,-⟩:=H.shape;subst j
     have O:∀o,N.cell? ⟨b,o,none⟩=wr.cell? ⟨b,o,none⟩:=fun o=>by
      rw[E.cell_far _ (by simp;omega) (fun X=>Ik.out X.symm)];go_simp
     have f:N.cell? ⟨b,C,none⟩=some (.int .i64 x.code)/\N.cell? ⟨b,C+1,none⟩=some (.int .i64 x.at_)/\N.cell? ⟨b,C+2,none⟩=some (.int .i64 x.end_)/\N.cell? ⟨b,C+3,none⟩=some (.string x.text)/\N.cell? ⟨b,C+4,none⟩=some (.slice none 0 0):=⟨(O _).trans z0,(O _).trans z1,(O _).trans z2,(O _).trans z3,(O _).trans z4⟩
     refine⟨fun _=>f,?_⟩;iterate 2(simp only[Act.put,sA,sZ,sC];refine pW (w':=N) (by simp only[aak,aaj,aai];rfl) (by rfl) (by go_simp;rfl) (fun _=>f) ?_)
     simp only[Act.put,sA,sZ];refine wu ?_;have R:=kH H;have nI:=kH (((((aF.refl (fun g=>w.heap.size<=g) w).below nU.out).drew.drew.alloc (.cells #[.int .i64 x.code,.int .i64 x.at_,.int .i64 x.end_,.string x.text,.slice none 0 0] 78)).grown E (fun g M=>.inl (W.out.lt g M).1)).toBelow (aab _) (fun g M=>M));have qE:=kH ((((aF.refl (fun g=>w.heap.size<=g) wr).drew.drew.alloc (.cells #[.int .i64 x.code,.int .i64 x.at_,.int .i64 x.end_,.string x.text,.slice none 0 0] 78)).grown E (fun g M=>.inl (W.out.lt g M).1)).toBelow RJ (fun g M=>M));clear H E t O f F;go_wp2_with fail
     go_roundg (gk - 1)
     case measure=>omega
     case rel=>
      refine⟨d,y::Y,J++[x],T,_,A6,m,m'+1,Q+1,M9 - 1,U,c6,by omega,by omega,by simp;omega,by rw[aam,<- CS.out];rfl,by omega,by first|rfl|(simp;omega),by first|rfl|(simp;omega),by first|rfl|(simp;omega),by omega,by omega,TS.out,u.out.below qE.out (aab _),VP.out.below qE.out (aab _),?_,nI.out⟩;rw[List.flatMap_append];simpa using R.out
    ·have hd:decide (x.at_<=y.at_)=false:=decide_eq_false hle
     have z0:wr.cell? ⟨K,D,none⟩=some (.int .i64 y.code):=by simpa using P 0 _ rfl
     have z1:wr.cell? ⟨K,D+1,none⟩=some (.int .i64 y.at_):=by simpa using P 1 _ rfl
     have z2:wr.cell? ⟨K,D+2,none⟩=some (.int .i64 y.end_):=by simpa using P 2 _ rfl
     have z3:wr.cell? ⟨K,D+3,none⟩=some (.string y.text):=by simpa using P 3 _ rfl
     have z4:wr.cell? ⟨K,D+4,none⟩=some (.slice none 0 0):=by simpa using P 4 _ rfl
     obtain⟨T,L⟩:∃T:Option Addr,(if U=1 then some ⟨K,D,none⟩ else some ⟨K,D+5,none⟩)=T:=⟨_,rfl⟩
     have z:=kH L;have u:Hid (bU 5 bO wr w.heap.size T Y):=kH (by rw[<- L];exact VP.out.tail (by omega));have hbl:K<wr.heap.size:=by omega
     have Ik:Hid ((Value.slice c Q c5).ownBlock≠some K):=kH (fun X=>by have:=(W.out.lt _ X).1;omega);clear L;have TS:Hid (ig Z lb=J++[y]++ig (x::d) Y):=kH (by rw[TR.out,ig,if_neg hle];simp);clear I P hle;go_wp2_with fail
     have F:wr.drew.cell? ⟨b,C+1,none⟩=some (.int .i64 x.at_)/\wr.drew.cell? ⟨K,D+1,none⟩=some (.int .i64 y.at_):=⟨IV,xc1⟩
     refine dD (fun w'=>w'.cell? ⟨b,C+1,none⟩=some (.int .i64 x.at_)/\w'.cell? ⟨K,D+1,none⟩=some (.int .i64 y.at_)) [] [true,true,true,true,true,true,true,true,true,true,true,true,true,true,true,true,true,true,true] (by kernel_rfl) (by kernel_rfl) rfl (by kernel_rfl) ?_;iterate 19((first|(refine dB (by rfl) F ?_)|(refine bV (by rfl) F (by intro w' G;obtain⟨S,V⟩:=G;go_simp;rfl) ?_));simp only[Act.put,sA,sZ,sC])
     refine gJ ?_;clear F;clear IV xc1;go_wp2_with fail
     refine pV (fun w'=>w'.cell? ⟨K,D,none⟩=some (.int .i64 y.code)/\w'.cell? ⟨K,D+1,none⟩=some (.int .i64 y.at_)/\w'.cell? ⟨K,D+2,none⟩=some (.int .i64 y.end_)/\w'.cell? ⟨K,D+3,none⟩=some (.string y.text)/\w'.cell? ⟨K,D+4,none⟩=some (.slice none 0 0)) [] [(0,true),(1,true),(2,true),(3,true),(6,true),(7,true),(4,false),(5,false),(8,false),(9,false)] (by kernel_rfl) (by kernel_rfl) rfl (by kernel_rfl) ?_;have F:wr.drew.drew.cell? ⟨K,D,none⟩=some (.int .i64 y.code)/\wr.drew.drew.cell? ⟨K,D+1,none⟩=some (.int .i64 y.at_)/\wr.drew.drew.cell? ⟨K,D+2,none⟩=some (.int .i64 y.end_)/\wr.drew.drew.cell? ⟨K,D+3,none⟩=some (.string y.text)/\wr.drew.drew.cell? ⟨K,D+4,none⟩=some (.slice none 0 0):=⟨z0,z1,z2,z3,z4⟩
     refine iV (by simp only[aak,aai];rfl) (by rfl) F (by intro w' G;obtain⟨S,V,r,q,k⟩:=G;go_simp;rfl) ?_;iterate 4(simp only[Act.put,sA,sZ,sC];refine iV (by simp only[aak,aaj,aai];rfl) (by rfl) F (by intro w' G;obtain⟨S,V,r,q,k⟩:=G;go_simp;rfl) ?_)
     simp only[Act.put,sA,sZ,sC];refine iV (by simp only[aak,aaj,aai];rfl) (by rfl) F (by intro w' _;go_simp;rw[if_pos (by omega),z.out]) ?_;simp only[Act.put,sA,sZ,sC];refine pW (w':=wr.drew.drew.alloc (.cells #[.int .i64 y.code,.int .i64 y.at_,.int .i64 y.end_,.string y.text,.slice none 0 0] 78)) (by simp only[aak,aaj,aai];rfl) (by rfl) (by go_simp;rfl) ?_ ?_
     ·exact fun _=>⟨by go_simp,by go_simp,by go_simp,by go_simp,by go_simp⟩
     simp only[Act.put,sA,sZ,sC];refine sQ (by simp only[aak,aaj,aai];rfl) (by rfl) ?_;refine(iG _ (.tmp 42) (.tmp 46) _ rfl w.heap.size 78 i0 _ 5 64 Tryz.underlying31 hi0 hz0 hz1 hz2 rfl (.slice c Q c5) Q (J.flatMap bO) rfl (W.out.drew.drew.alloc _) ⟨wr.heap.size,0,none⟩ 1 1 (bO y) rfl rfl (ji _ _ _ _ _ _ _ (by go_simp) (by go_simp) (by go_simp) (by go_simp) (by go_simp)) (by simp[bO,Value.oneCell']) (by simp only[maxLen];omega) (by omega) (by simp;omega) ?_);intro v6 N H E t;obtain⟨A6,c6,j,-,-⟩:=H.shape;subst j
     have O:∀o,N.cell? ⟨K,o,none⟩=wr.cell? ⟨K,o,none⟩:=fun o=>by
      rw[E.cell_far _ (by simp;omega) (fun X=>Ik.out X.symm)];go_simp
     have f:N.cell? ⟨K,D,none⟩=some (.int .i64 y.code)/\N.cell? ⟨K,D+1,none⟩=some (.int .i64 y.at_)/\N.cell? ⟨K,D+2,none⟩=some (.int .i64 y.end_)/\N.cell? ⟨K,D+3,none⟩=some (.string y.text)/\N.cell? ⟨K,D+4,none⟩=some (.slice none 0 0):=⟨(O _).trans z0,(O _).trans z1,(O _).trans z2,(O _).trans z3,(O _).trans z4⟩
     refine⟨fun _=>f,?_⟩;iterate 2(simp only[Act.put,sA,sZ,sC];refine pW (w':=N) (by simp only[aak,aaj,aai];rfl) (by rfl) (by go_simp;rfl) (fun _=>f) ?_)
     simp only[Act.put,sA,sZ,sC];refine wu ?_;have R:=kH H;have nI:=kH (((((aF.refl (fun g=>w.heap.size<=g) w).below nU.out).drew.drew.alloc (.cells #[.int .i64 y.code,.int .i64 y.at_,.int .i64 y.end_,.string y.text,.slice none 0 0] 78)).grown E (fun g M=>.inl (W.out.lt g M).1)).toBelow (aab _) (fun g M=>M));have qE:=kH ((((aF.refl (fun g=>w.heap.size<=g) wr).drew.drew.alloc (.cells #[.int .i64 y.code,.int .i64 y.at_,.int .i64 y.end_,.string y.text,.slice none 0 0] 78)).grown E (fun g M=>.inl (W.out.lt g M).1)).toBelow RJ (fun g M=>M));clear H E t O f F;go_wp2_with fail
     go_roundg (gk - 1)
     case measure=>omega
     case rel=>
      refine⟨x::d,Y,J++[y],_,T,A6,m+1,m',Q+1,M9,U - 1,c6,by omega,by simp;omega,by omega,by rw[aam,<- CS.out];rfl,by omega,by first|rfl|(simp;omega),by first|rfl|(simp;omega),by first|rfl|(simp;omega),by omega,by omega,TS.out,HRa.out.below qE.out (aab _),u.out.below qE.out (aab _),?_,nI.out⟩;rw[List.flatMap_append];simpa using R.out
end Go.Proofs.YtoepemlnlpamlaaGreat
namespace Go.Proofs.YtoepemlnlpamlaaGreat
theorem j4{B:Type}{F:Nat->Option B}(h:∀f y,F f=some y->F (f+1)=some y){f A:Nat}(C:f<=A){y:B}(D:F f=some y):F A=some y:=by
 obtain⟨d,rfl⟩:=Nat.exists_eq_add_of_le C
 induction d with
 | zero=>exact D
 | succ d ih=>exact h _ _ (ih (by omega))
section
variable {s:bB}{l:List kD}
theorem Te:∀(f:Nat) (p:PS) (A:List ae) (y:List ae×PS),oK s l f p A=some y->oK s l (f+1) p A=some y:=by
 intro f
 induction f with
 | zero=>intro p A y h;simp[oK]at h
 | succ f ih=>
  intro p A y h;rw[oK]at h⊢;split at h
  ·rename_i hb;rw[if_pos hb];exact ih _ _ _ h
  ·rename_i hb;rw[if_neg hb];exact h
theorem xw(f:Nat)(p:PS)(y:ae×PS)(h:pU s l f p=some y):pU s l (f+1) p=some y:=by
 unfold pU at h⊢;simp only at h⊢;split at h
 ·cases h
 ·rename_i kids q hq
  rw[Te f _ _ _ hq];exact h
theorem Rm:∀(f:Nat) (p:PS) (A:List ae) (y:List ae×PS),mh s l f p A=some y->mh s l (f+1) p A=some y:=by
 intro f
 induction f with
 | zero=>intro p A y h;simp[mh]at h
 | succ f ih=>
  intro p A y h;rw[mh]at h⊢;split at h
  ·rename_i hb;rw[if_pos hb];exact ih _ _ _ h
  ·rename_i hb;rw[if_neg hb];exact h
theorem Gp(f:Nat)(p:PS)(y:ae×PS)(h:ug s l f p=some y):ug s l (f+1) p=some y:=by
 unfold ug at h⊢;simp only at h⊢;split at h
 ·cases h
 ·rename_i kids q hq
  have:(if bF s l (aL s l p [40]) [41] then some ([],aL s l p [40]) else mh s l (f+1) (iO s l (aL s l p [40])).2 [(iO s l (aL s l p [40])).1])=some (kids,q):=by
   split at hq
   ·rename_i hb;rw[if_pos hb];exact hq
   ·rename_i hb;rw[if_neg hb];exact Rm f _ _ _ hq
  rw[this];exact h
theorem Ap(f:Nat)(p:PS)(y:ae×PS)(h:uT s l f p=some y):uT s l (f+1) p=some y:=by
 unfold uT at h⊢;simp only at h⊢;split at h
 ·cases h
 ·rename_i x q hq
  rw[Gp f _ _ hq];split at h
  ·rename_i b p3 hb
   simp only;rw[OA f _ _ _ hb];exact h
  ·cases h
theorem yZ:∀(f:Nat) (p q:PS),nO s l f p=some q->nO s l (f+1) p=some q:=by
 intro f
 induction f with
 | zero=>intro p q h;simp[nO]at h
 | succ f ih=>
  intro p q h;rw[nO]at h⊢;split at h
  ·rename_i hb;rw[if_pos hb];exact ih _ _ h
  ·rename_i hb;rw[if_neg hb];exact h
theorem Ao:∀(f:Nat) (p:PS) (A:List ae) (y:List ae×PS),mQ s l f p A=some y->mQ s l (f+1) p A=some y:=by
 intro f
 induction f with
 | zero=>intro p A y h;simp[mQ]at h
 | succ f ih=>
  intro p A y h;rw[mQ]at h⊢;split at h
  ·rename_i hb;rw[if_pos hb];exact h
  ·rename_i hb
   rw[if_neg hb];split at h
   ·rename_i hr
    rw[if_pos hr];split at h
    ·cases h
    ·rename_i x q hq
     rw[xw f _ _ hq];exact ih _ _ _ h
   ·rename_i hr
    rw[if_neg hr];split at h
    ·rename_i hp
     rw[if_pos hp];split at h
     ·cases h
     ·rename_i x q hq
      rw[Ap f _ _ hq];exact ih _ _ _ h
    ·rename_i hp
     rw[if_neg hp];split at h
     ·cases h
     ·rename_i q hq
      rw[yZ f _ _ hq];exact ih _ _ _ h
theorem Yo(E:oF l):∀(n:Nat) (p:PS) (A:List ae),p.k<l.length->l.length - p.k<=n->∃f y q,oK s l f p A=some (y,q)/\Le l p q:=by
 intro n
 induction n with
 | zero=>intro p A B C;omega
 | succ n ih=>
  intro p A F I;by_cases D:bF s l p [44]=true
  ·have B:=dJ E F (fB D)
   have C:=EG (s:=s) E B.1.2;obtain⟨f,y,q,G,H⟩:=ih (lF s l (aB l p)).2 (A++[(lF s l (aB l p)).1]) C.2 (by have:=B.2;have:=C.1;omega);exact⟨f+1,y,q,by rw[oK,if_pos D];exact G,(B.1.trans C).trans H⟩
  ·exact⟨1,A,p,by rw[oK,if_neg D],le_refl F⟩
theorem LX(A:oF l){p:PS}(J:p.k<l.length)(H:bM l p≠5):∃f x q,pU s l f p=some (x,q)/\Le l p q/\p.k<q.k:=by
 have B:=dJ A J H;have C:=uY A B.1.2;have D:=eO (s:=s) (w:=[123]) A C.2;have E:=EG (s:=s) A D.2;obtain⟨f,y,q,I,F⟩:=Yo (s:=s) A (l.length) (lF s l (aL s l (dK l (aB l p)) [123])).2 [(lF s l (aL s l (dK l (aB l p)) [123])).1] E.2 (by omega);have G:=eO (s:=s) (w:=[125]) A F.2;refine⟨f,_,_,by unfold pU;simp only;rw[I],((((B.1.trans C).trans D).trans E).trans F).trans G,?_⟩;have:=B.2;have:=C.1;have:=D.1;have:=E.1;have:=F.1;have:=G.1;omega
theorem Xr(E:oF l):∀(n:Nat) (p:PS) (A:List ae),p.k<l.length->l.length - p.k<=n->∃f y q,mh s l f p A=some (y,q)/\Le l p q:=by
 intro n
 induction n with
 | zero=>intro p A B C;omega
 | succ n ih=>
  intro p A F I;by_cases D:bF s l p [44]=true
  ·have B:=dJ E F (fB D)
   have C:=Kv (s:=s) E B.1.2;obtain⟨f,y,q,G,H⟩:=ih (iO s l (aB l p)).2 (A++[(iO s l (aB l p)).1]) C.2 (by have:=B.2;have:=C.1;omega);exact⟨f+1,y,q,by rw[mh,if_pos D];exact G,(B.1.trans C).trans H⟩
  ·exact⟨1,A,p,by rw[mh,if_neg D],le_refl F⟩
theorem Xq(B:oF l){p:PS}(K:p.k<l.length):∃f x q,ug s l f p=some (x,q)/\Le l p q:=by
 have C:=eO (s:=s) (w:=[40]) B K
 obtain⟨f,A,q,G,D⟩:∃f A q,(if bF s l (aL s l p [40]) [41] then some ([],aL s l p [40]) else mh s l f (iO s l (aL s l p [40])).2 [(iO s l (aL s l p [40])).1])=some (A,q)/\Le l (aL s l p [40]) q:=by
  by_cases F:bF s l (aL s l p [40]) [41]=true
  ·exact⟨0,[],_,by rw[if_pos F],le_refl C.2⟩
  ·have E:=Kv (s:=s) B C.2
   obtain⟨f,y,q,H,I⟩:=Xr (s:=s) B (l.length) (iO s l (aL s l p [40])).2 [(iO s l (aL s l p [40])).1] E.2 (by omega);exact⟨f,y,q,by rw[if_neg F];exact H,E.trans I⟩
 have J:=eO (s:=s) (w:=[41]) B D.2;exact⟨f,_,_,by unfold ug;simp only;rw[G],(C.trans D).trans J⟩
theorem Rj(A:oF l)(B:qY s l){p:PS}(P:p.k<l.length)(M:bM l p≠5):∃f x q,uT s l f p=some (x,q)/\Le l p q/\p.k<q.k:=by
 have E:=dJ A P M;have G:=uY A E.1.2;obtain⟨C,x,q,L,H⟩:=Xq (s:=s) A G.2;have I:=Rz (s:=s) A H.2;have N:=rW (Zj A B _ .block (jR s l q).2 I.2 trivial (Nat.lt_succ_self _)) rfl;obtain⟨D,b,K,O,J,-⟩:=N;refine⟨max C D,aI l K p.k 5 (cK s l (aB l p)) [x,(jR s l q).1,b],K,?_,(((E.1.trans G).trans H).trans I).trans J,?_⟩
 ·unfold uT
  simp only;rw[j4 (F:=fun f=>ug s l f (dK l (aB l p))) (fun f y h=>Gp f _ y h) (Nat.le_max_left C D) L];simp only;rw[O _ (Nat.le_max_right C D)]
 ·have:=E.2
  have:=G.1;have:=H.1;have:=I.1;have:=J.1;omega
theorem OE(G:oF l):∀(n:Nat) (p:PS),p.k<l.length->l.length - p.k<=n->∃f q,nO s l f p=some q/\Le l p q/\((decide (bM l p≠5)&& !bF s l p [114,101,99,111,114,100]&& !bF s l p [112,114,111,99])=true->p.k<q.k):=by
 intro n
 induction n with
 | zero=>intro p A H;omega
 | succ n ih=>
  intro p D I;by_cases B:(decide (bM l p≠5)&& !bF s l p [114,101,99,111,114,100]&& !bF s l p [112,114,111,99])=true
  ·have F:bM l p≠5:=by
    simp only[aad,decide_eq_true_eq]at B;exact B.1.1
   have A:=dJ G D F;obtain⟨f,q,E,C,-⟩:=ih (aB l p) A.1.2 (by have:=A.2;omega);exact⟨f+1,q,by rw[nO,if_pos B];exact E,A.1.trans C,fun _=>by have:=A.2;have:=C.1;omega⟩
  ·exact⟨1,p,by rw[nO,if_neg B],le_refl D,fun h=>absurd h B⟩
theorem IB{p:PS}{c:Int}{t w:bB}:bF s l (iI l p c t) w=bF s l p w:=by
 unfold bF bM;rw[xq]
theorem OJ{p:PS}{c:Int}{t:bB}:bM l (iI l p c t)=bM l p:=by
 unfold bM;rw[xq]
theorem progL_ex(O:oF l)(J:qY s l):∀(n:Nat) (p:PS) (A:List ae),p.k<l.length->l.length - p.k<=n->∃f y q,mQ s l f p A=some (y,q):=by
 intro n
 induction n with
 | zero=>intro p A G H;omega
 | succ n ih=>
  intro p A P Q;by_cases D:bM l p=5
  ·exact⟨1,A,p,by rw[mQ,if_pos D]⟩
  ·by_cases L:bF s l p [114,101,99,111,114,100]=true
   ·obtain⟨B,x,q,G,H,M⟩:=LX (s:=s) O P D
    obtain⟨C,y,K,I⟩:=ih q (A++[x]) H.2 (by omega);refine⟨max B C+1,y,K,?_⟩;rw[mQ,if_neg D,if_pos L,j4 (F:=fun f=>pU s l f p) (fun f y h=>xw f _ y h) (Nat.le_max_left B C) G];exact j4 (F:=fun f=>mQ s l f q (A++[x])) (fun f y h=>Ao f _ _ y h) (Nat.le_max_right B C) I
   ·by_cases E:bF s l p [112,114,111,99]=true
    ·obtain⟨B,x,q,G,H,M⟩:=Rj (s:=s) O J P D
     obtain⟨C,y,K,I⟩:=ih q (A++[x]) H.2 (by omega);refine⟨max B C+1,y,K,?_⟩;rw[mQ,if_neg D,if_neg L,if_pos E,j4 (F:=fun f=>uT s l f p) (fun f y h=>Ap f _ y h) (Nat.le_max_left B C) G];exact j4 (F:=fun f=>mQ s l f q (A++[x])) (fun f y h=>Ao f _ _ y h) (Nat.le_max_right B C) I
    ·obtain⟨B,q,G,H,M⟩:=OE (s:=s) O (l.length) (iI l p 7 []) (by rw[xq];exact P) (by omega)
     have N:=M (by rw[OJ,IB,IB];simp[D,L,E]);rw[xq]at N;obtain⟨C,y,K,I⟩:=ih q (A++[aI l q p.k 1 [] []]) H.2 (by omega);refine⟨max B C+1,y,K,?_⟩;rw[mQ,if_neg D,if_neg L,if_neg E,j4 (F:=fun f=>nO s l f (iI l p 7 [])) (fun f y h=>yZ f _ y h) (Nat.le_max_left B C) G];exact j4 (F:=fun f=>mQ s l f q (A++[aI l q p.k 1 [] []])) (fun f y h=>Ao f _ _ y h) (Nat.le_max_right B C) I
end
end Go.Proofs.YtoepemlnlpamlaaGreat
