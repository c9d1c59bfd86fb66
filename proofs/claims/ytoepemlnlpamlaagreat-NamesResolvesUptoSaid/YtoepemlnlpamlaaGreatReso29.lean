/- The law NamesResolves holds where what it reads is of bulk at most 1048576: it returns true, and its argument reads as before. Part 29: VisD1 VisAll Srt1. -/
import Derived.Test.YtoepemlnlpamlaaGreatReso26
import Derived.Test.YtoepemlnlpamlaaGreatReso27
import Derived.Test.YtoepemlnlpamlaaGreatReso28
set_option maxRecDepth 100000
set_option maxHeartbeats 4000000
namespace Go.Proofs.YtoepemlnlpamlaaGreat
open Go.RowKit
theorem UR(E:RC)(G:bf)(B:Nat)(hB:B<=E.base)(x:ByteArray)(a e:Int)(kids:List ae)(hih:∀k∈kids,gz E G B k):gz E G B (.node 9 x a e kids):=by
 intro i s p ms r V w A c h hs hsep hk hcap hbase hv hrb;obtain⟨nk,hnk⟩:∃q,kids.length=q:=⟨_,rfl⟩
 have hvk:lU s.isEmpty kids=true:=by
  rw[qb,if_neg (by decide),if_neg (by decide),if_neg (by decide)]at hv;exact hv
 have hq:aJ G i (ae.node 9 x a e kids) s r=ah G i kids 0 kids.length s (iN G s r (aC r i (aj (ak s))) (ae.node 9 x a e kids)):=by
  rw[dh];repeat (rw[if_neg (by decide)])
 rw[hq];obtain⟨Q,hQ⟩:∃Q,ah G i kids 0 kids.length s (iN G s r (aC r i (aj (ak s))) (ae.node 9 x a e kids))=Q:=⟨_,rfl⟩
 rw[hQ];have HQ:=kH hQ;clear hq hQ;rw[show bD (ae.node 9 x a e kids) A c= .agg #[.int .i64 9,.string x,.int .i64 a,.int .i64 e,.slice A nk c] by rw[<- hnk];rfl];obtain⟨nx,bF,hnb,xW,ry,hrw,hwn,hfx⟩:=CS h hrb hnk;have H:=kH h;have HS:=kH hs;have HK:Hid (aK w B A 0 kids):=kH hk;have dH:=kH hrb;have fQ:=kH hnk;have kZ:=kH hvk;have fD:=kH hih;have HCAP:Hid (nk<=c):=kH (by rw[<- hnk];exact hcap);have dC:=kH hbase;clear h hs hk hrb hnk hvk hih hv hcap hbase;go_enter Tryz.func79,Tryz.ntmps79
 go_upto_if 32 with fail
 generalize hW3:World.alloc (World.alloc (World.setCell w _ _) _) _=W3
 obtain⟨HR3,gM,iQ,jH,iM,c5,p0,qy,rf⟩:=CR H HS hW3;clear hW3 ry hfx;go_cut [] (fun wx=> ∃Vx,Hid (aV E G (aC r i (aj (ak s))) Vx wx)/\Hid (KX E (fun g=>g=E.vi) W3 wx))
 case first=>
  cases i with
  | false=>
   go_wp2_with fail
   go_meet
   exact⟨V,by have:=HR3.out;rw[<- bF.out]at this;exact kH this,kH (KX.refl _ _ _)⟩
  | true=>
   obtain⟨iO,dU,hs0⟩:=CQ HR3 iM iQ dH bF hnb;go_wp2_with fail
   go_region_held3 (fun w'=>w'.cell? ⟨E.rp,5,none⟩=some (.map (some E.vi))/\w'.cell? ⟨w.heap.size,0,none⟩=some (.pointer (some ⟨E.rp,0,none⟩))) (exact dU.out _ (by assumption)) ((go_at_call 145;refine iO.out.mono ?_;rintro e5 w5 ⟨v5,rfl,jR,hb5⟩;obtain⟨hs5,w6,hrun,lF,hs7⟩:=CP HR3 hb5 hs0 v5))
   have HX:=kH (CO HR3 gM dH bF dC hb5 jR lF);clear hs5 hs7 lF hb5 jR hs0 hrun;go_wp2_with fail
   go_meet
   exact HX.out
 case rest=>
  obtain⟨Vx,gW,mH⟩:=hcut;obtain⟨HV,HD,qF,HU,rY⟩:=CL hB hsep gW mH HR3 gM iQ jH iM HK dH bF dC hnb;obtain⟨gi,gb,uO,zx,hlk⟩:=CK gW x;obtain⟨⟨q0,lp⟩,⟨n0,n1,n2,n3,n4,ln⟩,⟨c0,c1,c2,c8,lr⟩⟩:=HV.out.cells;clear c5 p0 qy rf c8;by_cases h1:x=(⟨#[105,110,116]⟩:ByteArray)
  ·have hsc:dJ x=true:=by rw[h1];rfl
   have f1:x.toList=[105,110,116]:=by rw[h1,ByteArray.toList_eq]
   clear h1
   have hu:iN G s r (aC r i (aj (ak s))) (ae.node 9 x a e kids)=(aC r i (aj (ak s))):=by
    unfold iN;show(if (9:Int)=20 then _ else if (9:Int)=22 then _ else if (9:Int)=27 then _ else if (9:Int)=19 then _ else if (9:Int)=9/\dJ x=false then _ else _)=_;rw[if_neg (by decide),if_neg (by decide),if_neg (by decide),if_neg (by decide)];exact if_neg (fun(h:(9:Int)=9/\dJ x=false)=>by rw[hsc]at h;cases h.2)
   have hcall:=fun q=>(HV.out.drewN q).kids fD.out i 0 nk nk (by omega) fQ.out (by show 0+nk<=nk;omega) HCAP.out kZ.out (dH.out.kids (t:=(ae.node 9 x a e kids)) (dM.none_ r i _) (Nat.add_le_add_left (Nat.le_succ _) _) (rY.out _ rfl)) hsep (fun g hg=>.inl hg)
   have jr:ah G i kids 0 nk s (aC r i (aj (ak s)))=Q:=by rw[<- HQ.out,hu,fQ.out]
   have kR:=kH jr;have GG:=kH hcall;clear hcall jr hu hsc;go_wp2_with fail
   go_quiet (fail)
   go_wp2_with fail
   refine(GG.out _).mono ?_;rintro e10 bA ⟨rfl,-,yT,h10⟩;have HE:Hid (∃V',aV E G Q.1 V' bA/\bL bA E.base p Q.2 ms/\KX E (fun g=>g=E.vi\/ms.head? =some g) w bA):=kH (by rw[<- kR.out];exact h10.end_);clear h10 GG;go_wp2_with fail
   go_end0
   exact⟨rfl,HE.out⟩
  by_cases h2:x=(⟨#[98,111,111,108]⟩:ByteArray)
  ·have hsc:dJ x=true:=by rw[h2];rfl
   have f1:x.toList=[98,111,111,108]:=by rw[h2,ByteArray.toList_eq]
   clear h1 h2
   have hu:iN G s r (aC r i (aj (ak s))) (ae.node 9 x a e kids)=(aC r i (aj (ak s))):=by
    unfold iN;show(if (9:Int)=20 then _ else if (9:Int)=22 then _ else if (9:Int)=27 then _ else if (9:Int)=19 then _ else if (9:Int)=9/\dJ x=false then _ else _)=_;rw[if_neg (by decide),if_neg (by decide),if_neg (by decide),if_neg (by decide)];exact if_neg (fun(h:(9:Int)=9/\dJ x=false)=>by rw[hsc]at h;cases h.2)
   have hcall:=fun q=>(HV.out.drewN q).kids fD.out i 0 nk nk (by omega) fQ.out (by show 0+nk<=nk;omega) HCAP.out kZ.out (dH.out.kids (t:=(ae.node 9 x a e kids)) (dM.none_ r i _) (Nat.add_le_add_left (Nat.le_succ _) _) (rY.out _ rfl)) hsep (fun g hg=>.inl hg)
   have jr:ah G i kids 0 nk s (aC r i (aj (ak s)))=Q:=by rw[<- HQ.out,hu,fQ.out]
   have kR:=kH jr;have GG:=kH hcall;clear hcall jr hu hsc;go_wp2_with fail
   go_quiet (fail)
   go_wp2_with fail
   refine(GG.out _).mono ?_;rintro e10 bA ⟨rfl,-,yT,h10⟩;have HE:Hid (∃V',aV E G Q.1 V' bA/\bL bA E.base p Q.2 ms/\KX E (fun g=>g=E.vi\/ms.head? =some g) w bA):=kH (by rw[<- kR.out];exact h10.end_);clear h10 GG;go_wp2_with fail
   go_end0
   exact⟨rfl,HE.out⟩
  have hsc:dJ x=false:=by
   unfold dJ;rw[decide_eq_false h1,decide_eq_false h2];rfl
  have f1:¬x.toList=[105,110,116]:=fun h=>h1 (mE (by rw[<- ByteArray.toList_eq,h]))
  have f2:¬x.toList=[98,111,111,108]:=fun h=>h2 (mE (by rw[<- ByteArray.toList_eq,h]))
  have g1:(x.toList==[105,110,116])=false:=by rw[beq_eq_false_iff_ne];exact f1
  have g2:(x.toList==[98,111,111,108])=false:=by rw[beq_eq_false_iff_ne];exact f2
  clear h1 h2;obtain⟨tq,rq⟩:∃tq,((aT G.globals x).filter fun j=>decide (jw G j=3))=tq:=⟨_,rfl⟩
  have HTQ:=kH rq
  have jr:ah G i kids 0 nk s (gT (aC r i (aj (ak s))) nx (ae.node 9 x a e kids) tq)=Q:=by
   rw[<- HQ.out,fQ.out,<- rq,<- bF.out]
   have:iN G s r (aC r i (aj (ak s))) (ae.node 9 x a e kids)=gT (aC r i (aj (ak s))) r.next (ae.node 9 x a e kids) ((aT G.globals x).filter fun j=>decide (jw G j=3)):=by
    unfold iN;show(if (9:Int)=20 then _ else if (9:Int)=22 then _ else if (9:Int)=27 then _ else if (9:Int)=19 then _ else if (9:Int)=9/\dJ x=false then _ else _)=_;rw[if_neg (by decide),if_neg (by decide),if_neg (by decide),if_neg (by decide)];exact if_pos ⟨rfl,hsc⟩
   rw[this]
  have kR:=kH jr;have pW:Hid (rC r (gT (aC r i (aj (ak s))) nx (ae.node 9 x a e kids) tq)):=kH (by have:=dM.DC r i (aj (ak s)) (ae.node 9 x a e kids) tq;rw[bF.out]at this;exact this);have fC:Hid ((gT (aC r i (aj (ak s))) nx (ae.node 9 x a e kids) tq).next=r.next+1):=kH (by cases tq<;>rfl);clear jr hsc;obtain⟨kk,hkk⟩:∃q,jw G gi=q:=⟨_,rfl⟩
  have hty:∀k,tq=some k->k=gi:=fun k hk=>by
   rw[<- rq]at hk;rw[<- uO.out]
   cases hl:bG G.globals x with
   | none=>rw[show aT G.globals x=none from hl]at hk;cases hk
   | some y=>
    rw[show aT G.globals x=some y from hl]at hk;have:=(Option.filter_eq_some_iff.1 hk).1;simp only[abJ]at this;rw[<- this];rfl
  have htb:tq.isSome=(gb&&(kk==3)):=by
   rw[<- rq,<- zx.out,<- hkk,<- uO.out]
   cases hl:bG G.globals x with
   | none=>rw[show aT G.globals x=none from hl];rfl
   | some y=>
    rw[show aT G.globals x=some y from hl];show(Option.filter (fun j=>decide (jw G j=3)) (some y)).isSome=(true&&(jw G y==3));by_cases hy:jw G y=3
    ·simp[hy]
    ·simp[hy]
  have kF:∀r' V' w',VW E G B ⟨kids,9,x,a,e,A,nk,c,w.heap.size+1,w.heap.size⟩ w (fun g=>g=E.vi\/ms.head? =some g) r' V' s p ms w'->(w'.cell? ⟨w.heap.size,0,none⟩=some (.pointer (some ⟨E.rp,0,none⟩))/\w'.cell? ⟨w.heap.size+1,0,none⟩=some (.int .i64 9)/\w'.cell? ⟨w.heap.size+1,1,none⟩=some (.string x)/\w'.cell? ⟨w.heap.size+1,2,none⟩=some (.int .i64 a)/\w'.cell? ⟨w.heap.size+1,3,none⟩=some (.int .i64 e)/\w'.cell? ⟨w.heap.size+1,4,none⟩=some (.slice A nk c)/\w'.cell? ⟨E.rp,2,none⟩=some (.map (some E.k))/\(Instr.lookup 71 (.map (some E.k)) (.int .i64 gi) false).run Tryz.prog w'= .ok (.int .i64 kk) w'):=fun r' V' w' hv=>by
   obtain⟨⟨y0,-⟩,⟨z0,z1,z2,z3,z4,-⟩,⟨-,-,d2,-,-⟩⟩:=hv.cells;exact⟨y0,z0,z1,z2,z3,z4,d2,by have:=uH w' E.k G.kinds hv.R.kn gi;rw[show(bG G.kinds gi).getD 0=kk from hkk]at this;exact this⟩
  have dU:=kH kF;have nO:=fun q=>((HV.out.drewN q).drew).Jb (ae.node 9 x a e kids) ⟨rfl,rfl,rfl,rfl,rfl⟩ fQ.out qF.out nx HU.out tq gi hty
  rw[htb]at nO;have NM:=fun q=>(HV.out.drewN q).drew
  have R8:=kH NM;have hlf:=fun q=>uH (wc.drewN q) E.k G.kinds (aY.drewN gW.out.kn q) gi
  rw[show(bG G.kinds gi).getD 0=kk from hkk]at hlf;clear kF NM rq hty htb hkk
  cases gb with
  | false=>
   rw[Bool.false_and]at nO;have qd:=kH nO;clear nO;go_wp2_with fail
   go_quiet (fail)
   go_wp2_with fail
   have hS0:=dU.out _ _ _ (R8.out nq);refine dZ (fun w'=>(w'.cell? ⟨w.heap.size,0,none⟩=some (.pointer (some ⟨E.rp,0,none⟩))/\w'.cell? ⟨w.heap.size+1,0,none⟩=some (.int .i64 9)/\w'.cell? ⟨w.heap.size+1,1,none⟩=some (.string x)/\w'.cell? ⟨w.heap.size+1,2,none⟩=some (.int .i64 a)/\w'.cell? ⟨w.heap.size+1,3,none⟩=some (.int .i64 e)/\w'.cell? ⟨w.heap.size+1,4,none⟩=some (.slice A nk c)/\w'.cell? ⟨E.rp,2,none⟩=some (.map (some E.k))/\(Instr.lookup 71 (.map (some E.k)) (.int .i64 gi) false).run Tryz.prog w'= .ok (.int .i64 kk) w')) [] [true,true,true,true,true,true,true,true,true,true,true,true,true,true,false] (by kernel_rfl) (by kernel_rfl) rfl (by kernel_rfl) ?_;iterate 14((first|(refine eG (by rfl) hS0 ?_)|(refine dz (by rfl) hS0 (by intro w' hSw;obtain⟨hs1,hs2,hs3,hs4,hs5,hs6,hs7,jQ⟩:=hSw;go_simp;rfl) ?_));simp only[Act.put,sA,sZ,sC])
   refine gm (by rfl) (by go_simp) ((qd.out _).mono ?_);rintro e8 w8 ⟨rfl,V8,h8⟩;refine⟨_,rfl,fun _=>dU.out _ _ _ h8,?_⟩;simp only[Act.put,sA,sZ,sC];refine iU ?_;obtain⟨⟨q8,Ap⟩,⟨-,-,-,-,n8,Ij⟩,-⟩:=h8.cells;have hcall:=h8.kids fD.out i 0 nk nk (by omega) fQ.out (by show 0+nk<=nk;omega) HCAP.out kZ.out (dH.out.kids (t:=(ae.node 9 x a e kids)) pW.out (Nat.add_le_add_left pW.out.next _) (rY.out _ fC.out)) hsep (fun g hg=>.inl hg);rw[kR.out]at hcall;have HC:=kH hcall;clear hcall h8;go_wp2_with fail
   refine HC.out.mono ?_;rintro e10 bA ⟨rfl,-,yT,h10⟩;have HE:Hid (∃V',aV E G Q.1 V' bA/\bL bA E.base p Q.2 ms/\KX E (fun g=>g=E.vi\/ms.head? =some g) w bA):=kH h10.end_;clear h10 HC q8 n8;go_wp2_with fail
   go_end0
   exact⟨rfl,HE.out⟩
  | true=>
   rw[Bool.true_and]at nO;have qd:=kH nO;clear nO;go_wp2_with fail
   go_quiet (fail)
   go_wp2_with fail
   have hS0:=dU.out _ _ _ (R8.out nq);refine dZ (fun w'=>(w'.cell? ⟨w.heap.size,0,none⟩=some (.pointer (some ⟨E.rp,0,none⟩))/\w'.cell? ⟨w.heap.size+1,0,none⟩=some (.int .i64 9)/\w'.cell? ⟨w.heap.size+1,1,none⟩=some (.string x)/\w'.cell? ⟨w.heap.size+1,2,none⟩=some (.int .i64 a)/\w'.cell? ⟨w.heap.size+1,3,none⟩=some (.int .i64 e)/\w'.cell? ⟨w.heap.size+1,4,none⟩=some (.slice A nk c)/\w'.cell? ⟨E.rp,2,none⟩=some (.map (some E.k))/\(Instr.lookup 71 (.map (some E.k)) (.int .i64 gi) false).run Tryz.prog w'= .ok (.int .i64 kk) w')) [] [true,true,true,true,true,true,true,true,true,true,true,true,true,true,false] (by kernel_rfl) (by kernel_rfl) rfl (by kernel_rfl) ?_;iterate 14((first|(refine eG (by rfl) hS0 ?_)|(refine dz (by rfl) hS0 (by intro w' hSw;obtain⟨hs1,hs2,hs3,hs4,hs5,hs6,hs7,jQ⟩:=hSw;go_simp;rfl) ?_));simp only[Act.put,sA,sZ,sC])
   refine gm (by rfl) (by go_simp) ((qd.out _).mono ?_);rintro e8 w8 ⟨rfl,V8,h8⟩;refine⟨_,rfl,fun _=>dU.out _ _ _ h8,?_⟩;simp only[Act.put,sA,sZ,sC];refine iU ?_;obtain⟨⟨q8,Ap⟩,⟨-,-,-,-,n8,Ij⟩,-⟩:=h8.cells;have hcall:=h8.kids fD.out i 0 nk nk (by omega) fQ.out (by show 0+nk<=nk;omega) HCAP.out kZ.out (dH.out.kids (t:=(ae.node 9 x a e kids)) pW.out (Nat.add_le_add_left pW.out.next _) (rY.out _ fC.out)) hsep (fun g hg=>.inl hg);rw[kR.out]at hcall;have HC:=kH hcall;clear hcall h8;go_wp2_with fail
   refine HC.out.mono ?_;rintro e10 bA ⟨rfl,-,yT,h10⟩;have HE:Hid (∃V',aV E G Q.1 V' bA/\bL bA E.base p Q.2 ms/\KX E (fun g=>g=E.vi\/ms.head? =some g) w bA):=kH h10.end_;clear h10 HC q8 n8;go_wp2_with fail
   go_end0
   exact⟨rfl,HE.out⟩
end Go.Proofs.YtoepemlnlpamlaaGreat
namespace Go.Proofs.YtoepemlnlpamlaaGreat
theorem Ep:∀{ts:List ae}{c:ae},c∈ts->au c<=aG ts
 | [],c,h=>by cases h
 | t::ts,c,h=>by
  rw[aG];rcases List.mem_cons.1 h with rfl|h
  ·omega
  ·have:=Ep h
   omega
theorem Tx(E:RC)(G:bf)(B:Nat)(hB:B<=E.base):∀(n:Nat) (t:ae),au t<=n->gz E G B t
 | 0,t,h=>by
  have:=nJ t;omega
 | n+1,.node k x a e kids,h=>by
  have hih:∀c∈kids,gz E G B c:=fun c hc=>Tx E G B hB n c (by
   have:=Ep hc;rw[au]at h
   omega)
  by_cases h3:k=3
  ·subst h3;exact Pk E G B hB x a e kids hih
  by_cases h4:k=4
  ·subst h4;exact SE E G B hB x a e kids hih
  by_cases h5:k=5
  ·subst h5;exact UT E G B hB x a e kids hih
  by_cases h7:k=7
  ·subst h7;exact SB E G B hB x a e kids hih
  by_cases h8:k=8
  ·subst h8;exact MJ E G B hB x a e kids hih
  by_cases h11:k=11
  ·subst h11;exact SF E G B hB x a e kids hih
  by_cases h12:k=12
  ·subst h12;exact XD E G B hB x a e kids hih
  by_cases h16:k=16
  ·subst h16;exact XE E G B hB x a e kids hih
  by_cases h20:k=20
  ·subst h20;exact UU E G B hB x a e kids hih
  by_cases h22:k=22
  ·subst h22;exact Pm E G B hB x a e kids hih
  by_cases h27:k=27
  ·subst h27;exact UX E G B hB x a e kids hih
  by_cases h19:k=19
  ·subst h19;exact ZN E G B hB x a e kids hih
  by_cases h9:k=9
  ·subst h9;exact UR E G B hB x a e kids hih
  exact SC E G B hB k x a e kids hih h3 h4 h5 h7 h8 h11 h12 h16 h20 h22 h27 h19 h9
theorem XF(E:RC)(G:bf)(B:Nat)(hB:B<=E.base)(t:ae):gz E G B t:=Tx E G B hB (au t) t (abE _)
open Go.RowKit
theorem FH(x:Int)(w:World):Calls Tryz.prog 151 #[.int .i64 x] w fun e w'=>e= .returned (.bool false)/\w'=w:=by
 go_enter Tryz.func151,Tryz.ntmps151
 go_wp2_with fail
 go_ret
 exact⟨rfl,rfl⟩
def Ba(a b:Int):Int:=if a<b then -1 else if b<a then 1 else 0
theorem Ti(a b:Int)(w:World):Calls Tryz.prog 82 #[.int .i64 a,.int .i64 b] w fun e w'=>e= .returned (.int .i64 (Ba a b))/\w'=w:=by
 unfold Ba;by_cases h1:a<b
 ·rw[if_pos h1]
  go_enter Tryz.func82,Tryz.ntmps82
  go_wp2_with (go_at_call 151;refine(FH _ _).mono ?_;rintro e w2 ⟨rfl,rfl⟩)
  go_ret
  exact⟨rfl,rfl⟩
 ·rw[if_neg h1]
  by_cases h2:b<a
  ·rw[if_pos h2]
   go_enter Tryz.func82,Tryz.ntmps82
   go_wp2_with (go_at_call 151;refine(FH _ _).mono ?_;rintro e w2 ⟨rfl,rfl⟩)
   go_ret
   exact⟨rfl,rfl⟩
  ·rw[if_neg h2]
   go_enter Tryz.func82,Tryz.ntmps82
   go_wp2_with (go_at_call 151;refine(FH _ _).mono ?_;rintro e w2 ⟨rfl,rfl⟩)
   go_ret
   exact⟨rfl,rfl⟩
theorem Dk(a1 a2 a3 a4 b1 b2 b3 b4:Int)(ax bx:ByteArray)(av bv:Value)(w:World):
 Calls Tryz.prog 81 #[.agg #[.int .i64 a1,.int .i64 a2,.int .i64 a3,.int .i64 a4,.string ax,av],.agg #[.int .i64 b1,.int .i64 b2,.int .i64 b3,.int .i64 b4,.string bx,bv]] w fun e w'=>e= .returned (.int .i64 (Ba a1 b1))/\Below w.heap.size w w':=by
 have hc:=fun w=>Ti a1 b1 w
 obtain⟨q,hq⟩:∃q,Ba a1 b1=q:=⟨_,rfl⟩
 rw[hq]at hc⊢;clear hq;go_enter Tryz.func81,Tryz.ntmps81
 go_wp2_with (go_at_call 82;refine(hc _).mono ?_;rintro e w2 ⟨rfl,rfl⟩)
 go_ret
 exact⟨rfl,by(repeat (first|exact Below.refl _ _|assumption|refine Below.trans ?_ (Below.mono (by assumption) (by first|omega|(simp;done)|(simp;omega)))|refine Below.alloc ?_ (by first|omega|(simp;done)|(simp;omega)) _|refine Below.setCell ?_ (by first|omega|(simp;done)|(simp;omega)) _|refine Below.drew ?_|refine aR ?_ _))⟩
theorem Ai{w:World}{A:Option Addr}{l:List (Int×Dg)}(h:bN 6 iI w w.heap.size A l){i j:Nat}{p q:Int×Dg}(hi:l[i]? =some p)(hj:l[j]? =some q):
 ∃b off,A=some ⟨b,off,none⟩/\b<w.heap.size/\∀w',Below w.heap.size w w' ->
  w'.cell? ⟨b,off+i*6,none⟩=some (.int .i64 p.1)/\w'.cell? ⟨b,off+i*6+1,none⟩=some (.int .i64 p.2.code)/\w'.cell? ⟨b,off+i*6+2,none⟩=some (.int .i64 p.2.at_)/\w'.cell? ⟨b,off+i*6+3,none⟩=some (.int .i64 p.2.end_)/\w'.cell? ⟨b,off+i*6+4,none⟩=some (.string p.2.text)/\w'.cell? ⟨b,off+i*6+5,none⟩=some (.slice none 0 0) /\
  w'.cell? ⟨b,off+j*6,none⟩=some (.int .i64 q.1)/\w'.cell? ⟨b,off+j*6+1,none⟩=some (.int .i64 q.2.code)/\w'.cell? ⟨b,off+j*6+2,none⟩=some (.int .i64 q.2.at_)/\w'.cell? ⟨b,off+j*6+3,none⟩=some (.int .i64 q.2.end_)/\w'.cell? ⟨b,off+j*6+4,none⟩=some (.string q.2.text)/\w'.cell? ⟨b,off+j*6+5,none⟩=some (.slice none 0 0):=by
 obtain⟨b,off,hA,hlt,hc⟩:=h i p hi;obtain⟨b',off',hA',-,hd⟩:=h j q hj;rw[hA]at hA';simp only[abJ,Addr.mk.injEq,and_true]at hA';obtain⟨rfl,rfl⟩:=hA';refine⟨b,off,hA,hlt,fun w' hb=>?_⟩;have hk:∀(o:Nat) (v:Value),w.cell? ⟨b,o,none⟩=some v->w'.cell? ⟨b,o,none⟩=some v:=fun o v h=>(hb.cell (p:=⟨b,o,none⟩) hlt).trans h
 exact⟨hk _ _ (hc 0 _ rfl),hk _ _ (hc 1 _ rfl),hk _ _ (hc 2 _ rfl),hk _ _ (hc 3 _ rfl),hk _ _ (hc 4 _ rfl),hk _ _ (hc 5 _ rfl),hk _ _ (hd 0 _ rfl),hk _ _ (hd 1 _ rfl),hk _ _ (hd 2 _ rfl),hk _ _ (hd 3 _ rfl),hk _ _ (hd 4 _ rfl),hk _ _ (hd 5 _ rfl)⟩
def yf(l:List (Int×Dg)):Prop:=l.Pairwise fun x y=>x.1<y.1
theorem yf.lt{l:List (Int×Dg)}(h:yf l){i j:Nat}{p q:Int×Dg}(hi:l[i]? =some p)(hj:l[j]? =some q)(hij:i<j):p.1<q.1:=by
 obtain⟨h1,rfl⟩:=abK.1 hi;obtain⟨h2,rfl⟩:=abK.1 hj;exact List.pairwise_iff_getElem.1 h i j h1 h2 hij
theorem yf.cmp{l:List (Int×Dg)}(h:yf l){i j:Nat}{p q:Int×Dg}(hi:l[i]? =some p)(hj:l[j]? =some q)(hij:i<j):Ba q.1 p.1=1:=by
 have:=h.lt hi hj hij;unfold Ba;rw[if_neg (by omega),if_pos this]
theorem ins_any(l:List (Int×Dg))(A:Option Addr)(n c a b:Nat)(w:World)(hn:l.length=n)(hR:bN 6 iI w w.heap.size A l)(hS:yf l)(hab:a<=b)(hb:b<=n)(hm:n<=1000000):
 Calls Tryz.prog 202 #[.slice A n c,.int .i64 (a:Int),.int .i64 (b:Int),.func (.func 81) #[] #[]] w fun e w'=>e= .returned (.tuple #[])/\Below w.heap.size w w':=by
 have HR:=kH hR;have HS:=kH hS;have HN:=kH hn;clear hR hS hn;have hwa:IntKind.i64.wrap ((a:Int)+1)=(a:Int)+1:=IntWalk.i64_in _ (by omega);go_enter Tryz.func202,Tryz.ntmps202
 go_wp2_with fail
 go_loopg [8] (b+1 - a) (fun gk s8 wr=> ∃i:Nat,s8= .int .i64 ((i:Int)+1)/\a<=i/\i<=b/\gk=b+1 - i/\Hid (Below w.heap.size w wr))
 case atStart=>exact⟨a,rfl,abE _,hab,rfl,kH (Below.refl _ _)⟩
 case round=>
  obtain⟨i,rfl,hai,hib,hgi,HB⟩:=hrel;by_cases hlt:i+1<b
  ·have hlt':(i:Int)+1<(b:Int):=by omega
   have hgt':(a:Int)<(i:Int)+1:=by omega
   obtain⟨p,hp⟩:∃p,l[i+1]? =some p:=⟨_,abI (by rw[HN.out];omega)⟩
   obtain⟨q,hq⟩:∃q,l[i]? =some q:=⟨_,abI (by rw[HN.out];omega)⟩
   have hcmp:=HS.out.cmp hq hp (by omega);have hRr:bN 6 iI wr wr.heap.size A l:=HR.out.later HB.out;obtain⟨bb,off,hA,hbl,hcs⟩:=Ai hRr hp hq;subst hA;obtain⟨p1,p2,p3,p4,p5,hpe⟩:∃p1 p2 p3 p4 p5,p=(p1,(⟨p2,p3,p4,p5⟩:Dg)):=⟨_,_,_,_,_,rfl⟩
   obtain⟨q1,q2,q3,q4,q5,hqe⟩:∃q1 q2 q3 q4 q5,q=(q1,(⟨q2,q3,q4,q5⟩:Dg)):=⟨_,_,_,_,_,rfl⟩
   subst hpe hqe;have hcall:=fun w'=>Dk p1 p2 p3 p4 q1 q2 q3 q4 p5 q5 (.slice none 0 0) (.slice none 0 0) w'
   rw[show Ba p1 q1=1 from hcmp]at hcall;have HC:=kH hcall;have Bo:=kH hcs;have hw1:IntKind.i64.wrap ((i:Int)+1+1)=(i:Int)+1+1:=IntWalk.i64_in _ (by omega);have hw0:IntKind.i64.wrap (i:Int)=(i:Int):=IntWalk.i64_in _ (by omega);have hi1:((i:Int)+1).toNat=i+1:=by omega
   have hin:i+1<n:=by omega
   have hin0:i<n:=by omega
   have hz0:(0:Int)<=(i:Int)+1:=by omega
   have hz1:(i:Int)+1<(n:Int):=by omega
   have hS0:=hcs wr.drew ((Below.refl _ _).drew);clear hcall hcs hcmp hp hq hRr;go_wp2_with fail
   refine wp_loop_rounds 1 ?_;rw[rounds_succ];go_wp2_with fail
   refine dZ (fun w'=>Below wr.heap.size wr w'/\w'.cell? ⟨bb,off+(i+1)*6,none⟩=some (.int .i64 p1)/\w'.cell? ⟨bb,off+(i+1)*6+1,none⟩=some (.int .i64 p2)/\w'.cell? ⟨bb,off+(i+1)*6+2,none⟩=some (.int .i64 p3)/\w'.cell? ⟨bb,off+(i+1)*6+3,none⟩=some (.int .i64 p4)/\w'.cell? ⟨bb,off+(i+1)*6+4,none⟩=some (.string p5)/\w'.cell? ⟨bb,off+(i+1)*6+5,none⟩=some (.slice none 0 0)/\w'.cell? ⟨bb,off+i*6,none⟩=some (.int .i64 q1)/\w'.cell? ⟨bb,off+i*6+1,none⟩=some (.int .i64 q2)/\w'.cell? ⟨bb,off+i*6+2,none⟩=some (.int .i64 q3)/\w'.cell? ⟨bb,off+i*6+3,none⟩=some (.int .i64 q4)/\w'.cell? ⟨bb,off+i*6+4,none⟩=some (.string q5)/\w'.cell? ⟨bb,off+i*6+5,none⟩=some (.slice none 0 0)) [] [true,true,true,true,true,true,true,true,true,true,true,true,true,true,false,true,true] (by kernel_rfl) (by kernel_rfl) rfl (by kernel_rfl) ?_;have hS1:=And.intro ((Below.refl wr.heap.size wr).drew) hS0;clear hS0;iterate 14((first|(refine eG (by rfl) hS1 ?_)|(refine dz (by rfl) hS1 (by intro w' hSw;obtain⟨-,hs1,hs2,hs3,hs4,hs5,hs6,hs7,jQ,Db,FP,Cq,JK⟩:=hSw;go_simp;rfl) ?_));simp only[Act.put,sA,sZ,sC])
   refine gm (by rfl) (by go_simp) ((HC.out _).mono ?_);rintro e5 w5 ⟨rfl,hb5⟩;have hbr:Below wr.heap.size wr w5:=((Below.refl wr.heap.size wr).drew).trans hb5;have hS2:=And.intro hbr (Bo.out w5 hbr);refine⟨_,rfl,fun _=>hS2,?_⟩;iterate 2(simp only[Act.put,sA,sZ,sC];(first|(refine eG (by rfl) hS2 ?_)|(refine dz (by rfl) hS2 (by intro w' hSw;obtain⟨-,hs1,hs2,hs3,hs4,hs5,hs6,hs7,jQ,Db,FP,Cq,JK⟩:=hSw;go_simp;rfl) ?_)))
   simp only[Act.put,sA,sZ,sC];refine iU ?_;have jb:Hid (Below w.heap.size w w5):=kH (HB.out.trans (hbr.mono HB.out.size));clear hS1 hS2 hbr hb5;go_wp2_with fail
   go_roundg (gk - 1)
   case measure=>omega
   case rel=>exact⟨i+1,by simp,by omega,by omega,by omega,jb⟩
  ·have hge:(b:Int)<=(i:Int)+1:=by omega
   go_wp2_with fail
   go_end0
   exact⟨rfl,HB.out⟩
end Go.Proofs.YtoepemlnlpamlaaGreat
