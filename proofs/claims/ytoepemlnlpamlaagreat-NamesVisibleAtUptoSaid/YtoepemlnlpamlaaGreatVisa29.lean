/- The law NamesVisibleAt holds where what it reads is of bulk at most 1048576: it returns true, and its arguments read as before. Part 29: VisD1 VisAll Srt1. -/
import Derived.Test.YtoepemlnlpamlaaGreatVisa26
import Derived.Test.YtoepemlnlpamlaaGreatVisa27
import Derived.Test.YtoepemlnlpamlaaGreatVisa28
set_option maxRecDepth 100000
set_option maxHeartbeats 4000000
namespace Go.Proofs.YtoepemlnlpamlaaGreat
open Go.RowKit
theorem Wq(E:RC)(G:bC)(B:Nat)(hB:B<=E.base)(x:ByteArray)(a e:Int)(C:List ae)(hih:∀k∈C,gF E G B k):gF E G B (.node 9 x a e C):=by
 intro i s p W r V w A c h hs K u v P hv hrb;obtain⟨F,S⟩:∃q,C.length=q:=⟨_,rfl⟩
 have hvk:mG s.isEmpty C=true:=by
  rw[qA,if_neg (by decide),if_neg (by decide),if_neg (by decide)]at hv;exact hv
 have hq:aM G i (ae.node 9 x a e C) s r=ah G i C 0 C.length s (iR G s r (aG r i (ak (ay s))) (ae.node 9 x a e C)):=by
  rw[dx];repeat (rw[if_neg (by decide)])
 rw[hq];obtain⟨Q,hQ⟩:∃Q,ah G i C 0 C.length s (iR G s r (aG r i (ak (ay s))) (ae.node 9 x a e C))=Q:=⟨_,rfl⟩
 rw[hQ];have HQ:=kH hQ;clear hq hQ;rw[show aZ (ae.node 9 x a e C) A c= .agg #[.int .i64 9,.string x,.int .i64 a,.int .i64 e,.slice A F c] by rw[<- S];rfl];obtain⟨nx,bG,hnb,xL,rU,hrw,hwn,hfx⟩:=DR h hrb S;have H:=kH h;have HS:=kH hs;have HK:Hid (aJ w B A 0 C):=kH u;have l:=kH hrb;have z:=kH S;have lS:=kH hvk;have fE:=kH hih;have M:Hid (F<=c):=kH (by rw[<- S];exact v);have dG:=kH P;clear h hs u hrb S hvk hih hv v P;go_in
 go_upto_if 32 with fail
 generalize hW3:World.alloc (World.alloc (World.setCell w _ _) _) _=W3
 obtain⟨N,gT,iW,jA,iQ,c5,p0,qN,rM⟩:=DN H HS hW3;clear hW3 rU hfx;go_cut [] (fun wx=> ∃Vx,Hid (aX E G (aG r i (ak (ay s))) Vx wx)/\Hid (KX E (fun g=>g=E.vi) W3 wx))
 case first=>
  cases i with
  | false=>
   go_wp2_with fail
   go_meet
   exact⟨V,by have:=N.out;rw[<- bG.out]at this;exact kH this,kH (KX.refl _ _ _)⟩
  | true=>
   obtain⟨iT,eY,hs0⟩:=DL N iQ iW l bG hnb;go_wp2_with fail
   go_region_held3 (fun w'=>w'.cell? ⟨E.rp,5,none⟩=some (.map (some E.vi))/\w'.cell? ⟨w.heap.size,0,none⟩=some (.pointer (some ⟨E.rp,0,none⟩))) (exact eY.out _ (by assumption)) ((go_at_call 145;refine iT.out.mono ?_;rintro e5 w5 ⟨v5,rfl,jI,hb5⟩;obtain⟨hs5,w6,hrun,lW,hs7⟩:=DK N hb5 hs0 v5))
   have HX:=kH (DJ N gT l bG dG hb5 jI lW);clear hs5 hs7 lW hb5 jI hs0 hrun;go_wp2_with fail
   go_meet
   exact HX.out
 case rest=>
  obtain⟨Vx,gY,ny⟩:=hcut;obtain⟨HV,HD,qW,HU,sN⟩:=DI hB K gY ny N gT iW jA iQ HK l bG dG hnb;obtain⟨U,gb,vC,Ag,hlk⟩:=DF gY x;obtain⟨⟨q0,lp⟩,⟨n0,n1,n2,n3,n4,ln⟩,⟨c0,c1,c2,c8,lr⟩⟩:=HV.out.cells;clear c5 p0 qN rM c8;by_cases d:x=(⟨#[105,110,116]⟩:ByteArray)
  ·have J:dM x=true:=by rw[d];rfl
   have f1:x.toList=[105,110,116]:=by rw[d,ByteArray.toList_eq]
   clear d
   have hu:iR G s r (aG r i (ak (ay s))) (ae.node 9 x a e C)=(aG r i (ak (ay s))):=by
    unfold iR;show(if (9:Int)=20 then _ else if (9:Int)=22 then _ else if (9:Int)=27 then _ else if (9:Int)=19 then _ else if (9:Int)=9/\dM x=false then _ else _)=_;rw[if_neg (by decide),if_neg (by decide),if_neg (by decide),if_neg (by decide)];exact if_neg (fun(h:(9:Int)=9/\dM x=false)=>by rw[J]at h;cases h.2)
   have D:=fun q=>(HV.out.drewN q).kids fE.out i 0 F F (by omega) z.out (by show 0+F<=F;omega) M.out lS.out (l.out.kids (t:=(ae.node 9 x a e C)) (dQ.none_ r i _) (Nat.add_le_add_left (Nat.le_succ _) _) (sN.out _ rfl)) K (fun g hg=>.inl hg)
   have n:ah G i C 0 F s (aG r i (ak (ay s)))=Q:=by rw[<- HQ.out,hu,z.out]
   have lI:=kH n;have Ii:=kH D;clear D n hu J;go_wp2_with fail
   go_quiet (fail)
   go_wp2_with fail
   refine(Ii.out _).mono ?_;rintro f L ⟨rfl,-,zC,I⟩;have m:Hid (∃T,aX E G Q.1 T L/\bL L E.base p Q.2 W/\KX E (fun g=>g=E.vi\/W.head? =some g) w L):=kH (by rw[<- lI.out];exact I.end_);clear I Ii;go_wp2_with fail
   go_end0
   exact⟨rfl,m.out⟩
  by_cases h2:x=(⟨#[98,111,111,108]⟩:ByteArray)
  ·have J:dM x=true:=by rw[h2];rfl
   have f1:x.toList=[98,111,111,108]:=by rw[h2,ByteArray.toList_eq]
   clear d h2
   have hu:iR G s r (aG r i (ak (ay s))) (ae.node 9 x a e C)=(aG r i (ak (ay s))):=by
    unfold iR;show(if (9:Int)=20 then _ else if (9:Int)=22 then _ else if (9:Int)=27 then _ else if (9:Int)=19 then _ else if (9:Int)=9/\dM x=false then _ else _)=_;rw[if_neg (by decide),if_neg (by decide),if_neg (by decide),if_neg (by decide)];exact if_neg (fun(h:(9:Int)=9/\dM x=false)=>by rw[J]at h;cases h.2)
   have D:=fun q=>(HV.out.drewN q).kids fE.out i 0 F F (by omega) z.out (by show 0+F<=F;omega) M.out lS.out (l.out.kids (t:=(ae.node 9 x a e C)) (dQ.none_ r i _) (Nat.add_le_add_left (Nat.le_succ _) _) (sN.out _ rfl)) K (fun g hg=>.inl hg)
   have n:ah G i C 0 F s (aG r i (ak (ay s)))=Q:=by rw[<- HQ.out,hu,z.out]
   have lI:=kH n;have Ii:=kH D;clear D n hu J;go_wp2_with fail
   go_quiet (fail)
   go_wp2_with fail
   refine(Ii.out _).mono ?_;rintro f L ⟨rfl,-,zC,I⟩;have m:Hid (∃T,aX E G Q.1 T L/\bL L E.base p Q.2 W/\KX E (fun g=>g=E.vi\/W.head? =some g) w L):=kH (by rw[<- lI.out];exact I.end_);clear I Ii;go_wp2_with fail
   go_end0
   exact⟨rfl,m.out⟩
  have J:dM x=false:=by
   unfold dM;rw[decide_eq_false d,decide_eq_false h2];rfl
  have f1:¬x.toList=[105,110,116]:=fun h=>d (mY (by rw[<- ByteArray.toList_eq,h]))
  have f2:¬x.toList=[98,111,111,108]:=fun h=>h2 (mY (by rw[<- ByteArray.toList_eq,h]))
  have g1:(x.toList==[105,110,116])=false:=by rw[beq_eq_false_iff_ne];exact f1
  have g2:(x.toList==[98,111,111,108])=false:=by rw[beq_eq_false_iff_ne];exact f2
  clear d h2;obtain⟨X,rO⟩:∃X,((aU G.globals x).filter fun j=>decide (jM G j=3))=X:=⟨_,rfl⟩
  have HTQ:=kH rO
  have n:ah G i C 0 F s (gV (aG r i (ak (ay s))) nx (ae.node 9 x a e C) X)=Q:=by
   rw[<- HQ.out,z.out,<- rO,<- bG.out]
   have:iR G s r (aG r i (ak (ay s))) (ae.node 9 x a e C)=gV (aG r i (ak (ay s))) r.next (ae.node 9 x a e C) ((aU G.globals x).filter fun j=>decide (jM G j=3)):=by
    unfold iR;show(if (9:Int)=20 then _ else if (9:Int)=22 then _ else if (9:Int)=27 then _ else if (9:Int)=19 then _ else if (9:Int)=9/\dM x=false then _ else _)=_;rw[if_neg (by decide),if_neg (by decide),if_neg (by decide),if_neg (by decide)];exact if_pos ⟨rfl,J⟩
   rw[this]
  have lI:=kH n;have qo:Hid (rX r (gV (aG r i (ak (ay s))) nx (ae.node 9 x a e C) X)):=kH (by have:=dQ.Ev r i (ak (ay s)) (ae.node 9 x a e C) X;rw[bG.out]at this;exact this);have fH:Hid ((gV (aG r i (ak (ay s))) nx (ae.node 9 x a e C) X).next=r.next+1):=kH (by cases X<;>rfl);clear n J;obtain⟨kk,Z⟩:∃q,jM G U=q:=⟨_,rfl⟩
  have hty:∀k,X=some k->k=U:=fun k u=>by
   rw[<- rO]at u;rw[<- vC.out]
   cases hl:bE G.globals x with
   | none=>rw[show aU G.globals x=none from hl]at u;cases u
   | some y=>
    rw[show aU G.globals x=some y from hl]at u;have:=(Option.filter_eq_some_iff.1 u).1;simp only[aag]at this;rw[<- this];rfl
  have htb:X.isSome=(gb&&(kk==3)):=by
   rw[<- rO,<- Ag.out,<- Z,<- vC.out]
   cases hl:bE G.globals x with
   | none=>rw[show aU G.globals x=none from hl];rfl
   | some y=>
    rw[show aU G.globals x=some y from hl];show(Option.filter (fun j=>decide (jM G j=3)) (some y)).isSome=(true&&(jM G y==3));by_cases hy:jM G y=3
    ·simp[hy]
    ·simp[hy]
  have jy:∀r' T w',VW E G B ⟨C,9,x,a,e,A,F,c,w.heap.size+1,w.heap.size⟩ w (fun g=>g=E.vi\/W.head? =some g) r' T s p W w'->(w'.cell? ⟨w.heap.size,0,none⟩=some (.pointer (some ⟨E.rp,0,none⟩))/\w'.cell? ⟨w.heap.size+1,0,none⟩=some (.int .i64 9)/\w'.cell? ⟨w.heap.size+1,1,none⟩=some (.string x)/\w'.cell? ⟨w.heap.size+1,2,none⟩=some (.int .i64 a)/\w'.cell? ⟨w.heap.size+1,3,none⟩=some (.int .i64 e)/\w'.cell? ⟨w.heap.size+1,4,none⟩=some (.slice A F c)/\w'.cell? ⟨E.rp,2,none⟩=some (.map (some E.k))/\(Instr.lookup 71 (.map (some E.k)) (.int .i64 U) false).run Tryz.prog w'= .ok (.int .i64 kk) w'):=fun r' T w' hv=>by
   obtain⟨⟨y0,-⟩,⟨z0,z1,z2,z3,z4,-⟩,⟨-,-,d2,-,-⟩⟩:=hv.cells;exact⟨y0,z0,z1,z2,z3,z4,d2,by have:=uX w' E.k G.kinds hv.R.kn U;rw[show(bE G.kinds U).getD 0=kk from Z]at this;exact this⟩
  have eY:=kH jy;have oo:=fun q=>((HV.out.drewN q).drew).JU (ae.node 9 x a e C) ⟨rfl,rfl,rfl,rfl,rfl⟩ z.out qW.out nx HU.out X U hty
  rw[htb]at oo;have OQ:=fun q=>(HV.out.drewN q).drew
  have TG:=kH OQ;have hlf:=fun q=>uX (wc.drewN q) E.k G.kinds (bA.drewN gY.out.kn q) U
  rw[show(bE G.kinds U).getD 0=kk from Z]at hlf;clear jy OQ rO hty htb Z
  cases gb with
  | false=>
   rw[Bool.false_and]at oo;have qC:=kH oo;clear oo;go_wp2_with fail
   go_quiet (fail)
   go_wp2_with fail
   have O:=eY.out _ _ _ (TG.out nq);refine dD (fun w'=>(w'.cell? ⟨w.heap.size,0,none⟩=some (.pointer (some ⟨E.rp,0,none⟩))/\w'.cell? ⟨w.heap.size+1,0,none⟩=some (.int .i64 9)/\w'.cell? ⟨w.heap.size+1,1,none⟩=some (.string x)/\w'.cell? ⟨w.heap.size+1,2,none⟩=some (.int .i64 a)/\w'.cell? ⟨w.heap.size+1,3,none⟩=some (.int .i64 e)/\w'.cell? ⟨w.heap.size+1,4,none⟩=some (.slice A F c)/\w'.cell? ⟨E.rp,2,none⟩=some (.map (some E.k))/\(Instr.lookup 71 (.map (some E.k)) (.int .i64 U) false).run Tryz.prog w'= .ok (.int .i64 kk) w')) [] [true,true,true,true,true,true,true,true,true,true,true,true,true,true,false] (by kernel_rfl) (by kernel_rfl) rfl (by kernel_rfl) ?_;iterate 14((first|(refine dB (by rfl) O ?_)|(refine bV (by rfl) O (by intro w' b;obtain⟨hs1,hs2,hs3,hs4,hs5,hs6,hs7,jH⟩:=b;go_simp;rfl) ?_));simp only[Act.put,sA,sZ,sC])
   refine eH (by rfl) (by go_simp) ((qC.out _).mono ?_);rintro e8 w8 ⟨rfl,V8,Y⟩;refine⟨_,rfl,fun _=>eY.out _ _ _ Y,?_⟩;simp only[Act.put,sA,sZ,sC];refine gJ ?_;obtain⟨⟨q8,BB⟩,⟨-,-,-,-,n8,Jh⟩,-⟩:=Y.cells;have D:=Y.kids fE.out i 0 F F (by omega) z.out (by show 0+F<=F;omega) M.out lS.out (l.out.kids (t:=(ae.node 9 x a e C)) qo.out (Nat.add_le_add_left qo.out.next _) (sN.out _ fH.out)) K (fun g hg=>.inl hg);rw[lI.out]at D;have HC:=kH D;clear D Y;go_wp2_with fail
   refine HC.out.mono ?_;rintro f L ⟨rfl,-,zC,I⟩;have m:Hid (∃T,aX E G Q.1 T L/\bL L E.base p Q.2 W/\KX E (fun g=>g=E.vi\/W.head? =some g) w L):=kH I.end_;clear I HC q8 n8;go_wp2_with fail
   go_end0
   exact⟨rfl,m.out⟩
  | true=>
   rw[Bool.true_and]at oo;have qC:=kH oo;clear oo;go_wp2_with fail
   go_quiet (fail)
   go_wp2_with fail
   have O:=eY.out _ _ _ (TG.out nq);refine dD (fun w'=>(w'.cell? ⟨w.heap.size,0,none⟩=some (.pointer (some ⟨E.rp,0,none⟩))/\w'.cell? ⟨w.heap.size+1,0,none⟩=some (.int .i64 9)/\w'.cell? ⟨w.heap.size+1,1,none⟩=some (.string x)/\w'.cell? ⟨w.heap.size+1,2,none⟩=some (.int .i64 a)/\w'.cell? ⟨w.heap.size+1,3,none⟩=some (.int .i64 e)/\w'.cell? ⟨w.heap.size+1,4,none⟩=some (.slice A F c)/\w'.cell? ⟨E.rp,2,none⟩=some (.map (some E.k))/\(Instr.lookup 71 (.map (some E.k)) (.int .i64 U) false).run Tryz.prog w'= .ok (.int .i64 kk) w')) [] [true,true,true,true,true,true,true,true,true,true,true,true,true,true,false] (by kernel_rfl) (by kernel_rfl) rfl (by kernel_rfl) ?_;iterate 14((first|(refine dB (by rfl) O ?_)|(refine bV (by rfl) O (by intro w' b;obtain⟨hs1,hs2,hs3,hs4,hs5,hs6,hs7,jH⟩:=b;go_simp;rfl) ?_));simp only[Act.put,sA,sZ,sC])
   refine eH (by rfl) (by go_simp) ((qC.out _).mono ?_);rintro e8 w8 ⟨rfl,V8,Y⟩;refine⟨_,rfl,fun _=>eY.out _ _ _ Y,?_⟩;simp only[Act.put,sA,sZ,sC];refine gJ ?_;obtain⟨⟨q8,BB⟩,⟨-,-,-,-,n8,Jh⟩,-⟩:=Y.cells;have D:=Y.kids fE.out i 0 F F (by omega) z.out (by show 0+F<=F;omega) M.out lS.out (l.out.kids (t:=(ae.node 9 x a e C)) qo.out (Nat.add_le_add_left qo.out.next _) (sN.out _ fH.out)) K (fun g hg=>.inl hg);rw[lI.out]at D;have HC:=kH D;clear D Y;go_wp2_with fail
   refine HC.out.mono ?_;rintro f L ⟨rfl,-,zC,I⟩;have m:Hid (∃T,aX E G Q.1 T L/\bL L E.base p Q.2 W/\KX E (fun g=>g=E.vi\/W.head? =some g) w L):=kH I.end_;clear I HC q8 n8;go_wp2_with fail
   go_end0
   exact⟨rfl,m.out⟩
end Go.Proofs.YtoepemlnlpamlaaGreat
namespace Go.Proofs.YtoepemlnlpamlaaGreat
theorem AP:∀{ts:List ae}{c:ae},c∈ts->ai c<=aD ts
 | [],c,h=>by cases h
 | t::ts,c,h=>by
  rw[aD];rcases List.mem_cons.1 h with rfl|h
  ·omega
  ·have:=AP h
   omega
theorem UN(E:RC)(G:bC)(B:Nat)(C:B<=E.base):∀(n:Nat) (t:ae),ai t<=n->gF E G B t
 | 0,t,h=>by
  have:=lN t;omega
 | n+1,.node k x a e kids,h=>by
  have A:∀c∈kids,gF E G B c:=fun c S=>UN E G B C n c (by
   have:=AP S;rw[ai]at h
   omega)
  by_cases M:k=3
  ·subst M;exact Qw E G B C x a e kids A
  by_cases N:k=4
  ·subst N;exact Uj E G B C x a e kids A
  by_cases O:k=5
  ·subst O;exact Ws E G B C x a e kids A
  by_cases P:k=7
  ·subst P;exact Uh E G B C x a e kids A
  by_cases Q:k=8
  ·subst Q;exact NA E G B C x a e kids A
  by_cases D:k=11
  ·subst D;exact Uk E G B C x a e kids A
  by_cases F:k=12
  ·subst F;exact YY E G B C x a e kids A
  by_cases H:k=16
  ·subst H;exact YZ E G B C x a e kids A
  by_cases J:k=20
  ·subst J;exact Wt E G B C x a e kids A
  by_cases K:k=22
  ·subst K;exact Qx E G B C x a e kids A
  by_cases L:k=27
  ·subst L;exact Wv E G B C x a e kids A
  by_cases I:k=19
  ·subst I;exact visit_do E G B C x a e kids A
  by_cases R:k=9
  ·subst R;exact Wq E G B C x a e kids A
  exact Ui E G B C k x a e kids A M N O P Q D F H J K L I R
theorem Y0(E:RC)(G:bC)(B:Nat)(A:B<=E.base)(t:ae):gF E G B t:=UN E G B A (ai t) t (aab _)
open Go.RowKit
theorem Gx(x:Int)(w:World):Calls Tryz.prog 151 #[.int .i64 x] w fun e w'=>e= .returned (.bool false)/\w'=w:=by
 go_in
 go_wp2_with fail
 go_ret
 exact⟨rfl,rfl⟩
def BS(a b:Int):Int:=if a<b then -1 else if b<a then 1 else 0
theorem UE(a b:Int)(w:World):Calls Tryz.prog 82 #[.int .i64 a,.int .i64 b] w fun e w'=>e= .returned (.int .i64 (BS a b))/\w'=w:=by
 unfold BS;by_cases A:a<b
 ·rw[if_pos A]
  go_in
  go_wp2_with (go_at_call 151;refine(Gx _ _).mono ?_;rintro e C ⟨rfl,rfl⟩)
  go_ret
  exact⟨rfl,rfl⟩
 ·rw[if_neg A]
  by_cases B:b<a
  ·rw[if_pos B]
   go_in
   go_wp2_with (go_at_call 151;refine(Gx _ _).mono ?_;rintro e C ⟨rfl,rfl⟩)
   go_ret
   exact⟨rfl,rfl⟩
  ·rw[if_neg B]
   go_in
   go_wp2_with (go_at_call 151;refine(Gx _ _).mono ?_;rintro e C ⟨rfl,rfl⟩)
   go_ret
   exact⟨rfl,rfl⟩
theorem Ef(A E F G B J K L:Int)(I N:ByteArray)(H M:Value)(w:World):
 Calls Tryz.prog 81 #[.agg #[.int .i64 A,.int .i64 E,.int .i64 F,.int .i64 G,.string I,H],.agg #[.int .i64 B,.int .i64 J,.int .i64 K,.int .i64 L,.string N,M]] w fun e w'=>e= .returned (.int .i64 (BS A B))/\Below w.heap.size w w':=by
 have C:=fun w=>UE A B w
 obtain⟨q,D⟩:∃q,BS A B=q:=⟨_,rfl⟩
 rw[D]at C⊢;clear D;go_in
 go_wp2_with (go_at_call 82;refine(C _).mono ?_;rintro e O ⟨rfl,rfl⟩)
 go_ret
 exact⟨rfl,by(repeat (first|exact Below.refl _ _|assumption|refine Below.trans ?_ (Below.mono (by assumption) (by first|omega|(simp;done)|(simp;omega)))|refine Below.alloc ?_ (by first|omega|(simp;done)|(simp;omega)) _|refine Below.setCell ?_ (by first|omega|(simp;done)|(simp;omega)) _|refine Below.drew ?_|refine aT ?_ _))⟩
theorem Bv{w:World}{A:Option Addr}{l:List (Int×Dg)}(h:bU 6 iM w w.heap.size A l){i j:Nat}{p q:Int×Dg}(K:l[i]? =some p)(L:l[j]? =some q):
 ∃b B,A=some ⟨b,B,none⟩/\b<w.heap.size/\∀w',Below w.heap.size w w' ->
  w'.cell? ⟨b,B+i*6,none⟩=some (.int .i64 p.1)/\w'.cell? ⟨b,B+i*6+1,none⟩=some (.int .i64 p.2.code)/\w'.cell? ⟨b,B+i*6+2,none⟩=some (.int .i64 p.2.at_)/\w'.cell? ⟨b,B+i*6+3,none⟩=some (.int .i64 p.2.end_)/\w'.cell? ⟨b,B+i*6+4,none⟩=some (.string p.2.text)/\w'.cell? ⟨b,B+i*6+5,none⟩=some (.slice none 0 0) /\
  w'.cell? ⟨b,B+j*6,none⟩=some (.int .i64 q.1)/\w'.cell? ⟨b,B+j*6+1,none⟩=some (.int .i64 q.2.code)/\w'.cell? ⟨b,B+j*6+2,none⟩=some (.int .i64 q.2.at_)/\w'.cell? ⟨b,B+j*6+3,none⟩=some (.int .i64 q.2.end_)/\w'.cell? ⟨b,B+j*6+4,none⟩=some (.string q.2.text)/\w'.cell? ⟨b,B+j*6+5,none⟩=some (.slice none 0 0):=by
 obtain⟨b,B,H,G,E⟩:=h i p K;obtain⟨M,I,D,-,F⟩:=h j q L;rw[H]at D;simp only[aag,Addr.mk.injEq,and_true]at D;obtain⟨rfl,rfl⟩:=D;refine⟨b,B,H,G,fun w' J=>?_⟩;have C:∀(o:Nat) (v:Value),w.cell? ⟨b,o,none⟩=some v->w'.cell? ⟨b,o,none⟩=some v:=fun o v h=>(J.cell (p:=⟨b,o,none⟩) G).trans h
 exact⟨C _ _ (E 0 _ rfl),C _ _ (E 1 _ rfl),C _ _ (E 2 _ rfl),C _ _ (E 3 _ rfl),C _ _ (E 4 _ rfl),C _ _ (E 5 _ rfl),C _ _ (F 0 _ rfl),C _ _ (F 1 _ rfl),C _ _ (F 2 _ rfl),C _ _ (F 3 _ rfl),C _ _ (F 4 _ rfl),C _ _ (F 5 _ rfl)⟩
def yR(l:List (Int×Dg)):Prop:=l.Pairwise fun x y=>x.1<y.1
theorem yR.lt{l:List (Int×Dg)}(h:yR l){i j:Nat}{p q:Int×Dg}(D:l[i]? =some p)(E:l[j]? =some q)(A:i<j):p.1<q.1:=by
 obtain⟨B,rfl⟩:=aah.1 D;obtain⟨C,rfl⟩:=aah.1 E;exact List.pairwise_iff_getElem.1 h i j B C A
theorem yR.cmp{l:List (Int×Dg)}(h:yR l){i j:Nat}{p q:Int×Dg}(B:l[i]? =some p)(C:l[j]? =some q)(A:i<j):BS q.1 p.1=1:=by
 have:=h.lt B C A;unfold BS;rw[if_neg (by omega),if_pos this]
theorem ins_any(l:List (Int×Dg))(A:Option Addr)(n c a b:Nat)(w:World)(hn:l.length=n)(f:bU 6 iM w w.heap.size A l)(d:yR l)(X:a<=b)(hb:b<=n)(hm:n<=1000000):
 Calls Tryz.prog 202 #[.slice A n c,.int .i64 (a:Int),.int .i64 (b:Int),.func (.func 81) #[] #[]] w fun e w'=>e= .returned (.tuple #[])/\Below w.heap.size w w':=by
 have HR:=kH f;have HS:=kH d;have g:=kH hn;clear f d hn;have hwa:IntKind.i64.wrap ((a:Int)+1)=(a:Int)+1:=IntWalk.i64_in _ (by omega);go_in
 go_wp2_with fail
 go_loopg [8] (b+1 - a) (fun gk s8 wr=> ∃i:Nat,s8= .int .i64 ((i:Int)+1)/\a<=i/\i<=b/\gk=b+1 - i/\Hid (Below w.heap.size w wr))
 case atStart=>exact⟨a,rfl,aab _,X,rfl,kH (Below.refl _ _)⟩
 case round=>
  obtain⟨i,rfl,hai,hib,hgi,O⟩:=hrel;by_cases hlt:i+1<b
  ·have hlt':(i:Int)+1<(b:Int):=by omega
   have hgt':(a:Int)<(i:Int)+1:=by omega
   obtain⟨p,Y⟩:∃p,l[i+1]? =some p:=⟨_,aaf (by rw[g.out];omega)⟩
   obtain⟨q,z⟩:∃q,l[i]? =some q:=⟨_,aaf (by rw[g.out];omega)⟩
   have G:=HS.out.cmp z Y (by omega);have K:bU 6 iM wr wr.heap.size A l:=HR.out.later O.out;obtain⟨D,B,hA,hbl,J⟩:=Bv K Y z;subst hA;obtain⟨p1,P,Q,R,S,Z⟩:∃p1 P Q R S,p=(p1,(⟨P,Q,R,S⟩:Dg)):=⟨_,_,_,_,_,rfl⟩
   obtain⟨N,T,U,V,W,y⟩:∃N T U V W,q=(N,(⟨T,U,V,W⟩:Dg)):=⟨_,_,_,_,_,rfl⟩
   subst Z y;have C:=fun w'=>Ef p1 P Q R N T U V S W (.slice none 0 0) (.slice none 0 0) w'
   rw[show BS p1 N=1 from G]at C;have HC:=kH C;have Cj:=kH J;have hw1:IntKind.i64.wrap ((i:Int)+1+1)=(i:Int)+1+1:=IntWalk.i64_in _ (by omega);have hw0:IntKind.i64.wrap (i:Int)=(i:Int):=IntWalk.i64_in _ (by omega);have hi1:((i:Int)+1).toNat=i+1:=by omega
   have hin:i+1<n:=by omega
   have hin0:i<n:=by omega
   have hz0:(0:Int)<=(i:Int)+1:=by omega
   have hz1:(i:Int)+1<(n:Int):=by omega
   have L:=J wr.drew ((Below.refl _ _).drew);clear C J G Y z K;go_wp2_with fail
   refine wp_loop_rounds 1 ?_;rw[rounds_succ];go_wp2_with fail
   refine dD (fun w'=>Below wr.heap.size wr w'/\w'.cell? ⟨D,B+(i+1)*6,none⟩=some (.int .i64 p1)/\w'.cell? ⟨D,B+(i+1)*6+1,none⟩=some (.int .i64 P)/\w'.cell? ⟨D,B+(i+1)*6+2,none⟩=some (.int .i64 Q)/\w'.cell? ⟨D,B+(i+1)*6+3,none⟩=some (.int .i64 R)/\w'.cell? ⟨D,B+(i+1)*6+4,none⟩=some (.string S)/\w'.cell? ⟨D,B+(i+1)*6+5,none⟩=some (.slice none 0 0)/\w'.cell? ⟨D,B+i*6,none⟩=some (.int .i64 N)/\w'.cell? ⟨D,B+i*6+1,none⟩=some (.int .i64 T)/\w'.cell? ⟨D,B+i*6+2,none⟩=some (.int .i64 U)/\w'.cell? ⟨D,B+i*6+3,none⟩=some (.int .i64 V)/\w'.cell? ⟨D,B+i*6+4,none⟩=some (.string W)/\w'.cell? ⟨D,B+i*6+5,none⟩=some (.slice none 0 0)) [] [true,true,true,true,true,true,true,true,true,true,true,true,true,true,false,true,true] (by kernel_rfl) (by kernel_rfl) rfl (by kernel_rfl) ?_;have H:=And.intro ((Below.refl wr.heap.size wr).drew) L;clear L;iterate 14((first|(refine dB (by rfl) H ?_)|(refine bV (by rfl) H (by intro w' I;obtain⟨-,x,v,u,t,r,m,k,jH,FB,KG,Dl,KF⟩:=I;go_simp;rfl) ?_));simp only[Act.put,sA,sZ,sC])
   refine eH (by rfl) (by go_simp) ((HC.out _).mono ?_);rintro e5 j ⟨rfl,M⟩;have F:Below wr.heap.size wr j:=((Below.refl wr.heap.size wr).drew).trans M;have E:=And.intro F (Cj.out j F);refine⟨_,rfl,fun _=>E,?_⟩;iterate 2(simp only[Act.put,sA,sZ,sC];(first|(refine dB (by rfl) E ?_)|(refine bV (by rfl) E (by intro w' I;obtain⟨-,x,v,u,t,r,m,k,jH,FB,KG,Dl,KF⟩:=I;go_simp;rfl) ?_)))
   simp only[Act.put,sA,sZ,sC];refine gJ ?_;have gG:Hid (Below w.heap.size w j):=kH (O.out.trans (F.mono O.out.size));clear H E F M;go_wp2_with fail
   go_roundg (gk - 1)
   case measure=>omega
   case rel=>exact⟨i+1,by simp,by omega,by omega,by omega,gG⟩
  ·have hge:(b:Int)<=(i:Int)+1:=by omega
   go_wp2_with fail
   go_end0
   exact⟨rfl,O.out⟩
end Go.Proofs.YtoepemlnlpamlaaGreat
