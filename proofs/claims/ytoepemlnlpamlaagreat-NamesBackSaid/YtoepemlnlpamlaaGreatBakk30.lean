/- The law NamesBack holds for every text and every number: it returns true, and its arguments read as before. No condition. Part 30: VisD1 VisAll Srt1. -/
import Derived.Test.YtoepemlnlpamlaaGreatBakk27
import Derived.Test.YtoepemlnlpamlaaGreatBakk28
import Derived.Test.YtoepemlnlpamlaaGreatBakk29
set_option maxRecDepth 100000
set_option maxHeartbeats 4000000
namespace Go.Proofs.YtoepemlnlpamlaaGreat
open Go.RowKit
theorem TP(E:RC)(G:aW)(B:Nat)(hB:B<=E.base)(x:ByteArray)(a e:Int)(kids:List aa)(hih:∀k∈kids,fI E G B k):fI E G B (.node 9 x a e kids):=by
 intro i s p ms r V w A c h hs hsep hk hcap hbase hv hrb;obtain⟨nk,hnk⟩:∃q,kids.length=q:=⟨_,rfl⟩
 have hvk:lT s.isEmpty kids=true:=by
  rw[pY,if_neg (by decide),if_neg (by decide),if_neg (by decide)]at hv;exact hv
 have hq:aF G i (aa.node 9 x a e kids) s r=ae G i kids 0 kids.length s (gH G s r (aC r i (aj (ak s))) (aa.node 9 x a e kids)):=by
  rw[bY];repeat (rw[if_neg (by decide)])
 rw[hq];obtain⟨Q,hQ⟩:∃Q,ae G i kids 0 kids.length s (gH G s r (aC r i (aj (ak s))) (aa.node 9 x a e kids))=Q:=⟨_,rfl⟩
 rw[hQ];have HQ:=kH hQ;clear hq hQ;rw[show aX (aa.node 9 x a e kids) A c= .agg #[.int .i64 9,.string x,.int .i64 a,.int .i64 e,.slice A nk c] by rw[<- hnk];rfl];obtain⟨nx,bD,hnb,yI,qV,hrw,hwn,hfx⟩:=BS h hrb hnk;have H:=kH h;have HS:=kH hs;have HK:Hid (aD w B A 0 kids):=kH hk;have dI:=kH hrb;have fQ:=kH hnk;have kX:=kH hvk;have eH:=kH hih;have HCAP:Hid (nk<=c):=kH (by rw[<- hnk];exact hcap);have dJ:=kH hbase;clear h hs hk hrb hnk hvk hih hv hcap hbase;go_enter Tryz.func79,Tryz.ntmps79
 go_upto_if 32 with fail
 generalize hW3:World.alloc (World.alloc (World.setCell w _ _) _) _=W3
 obtain⟨HR3,fZ,iF,mi,iA,c5,p0,qw,qQ⟩:=BQ H HS hW3;clear hW3 qV hfx;go_cut [] (fun wx=> ∃Vx,Hid (aS E G (aC r i (aj (ak s))) Vx wx)/\Hid (KX E (fun g=>g=E.vi) W3 wx))
 case first=>
  cases i with
  | false=>
   go_wp2_with fail
   go_meet
   exact⟨V,by have:=HR3.out;rw[<- bD.out]at this;exact kH this,kH (KX.refl _ _ _)⟩
  | true=>
   obtain⟨iB,eY,hs0⟩:=BP HR3 iA iF dI bD hnb;go_wp2_with fail
   go_region_held3 (fun w'=>w'.cell? ⟨E.rp,5,none⟩=some (.map (some E.vi))/\w'.cell? ⟨w.heap.size,0,none⟩=some (.pointer (some ⟨E.rp,0,none⟩))) (exact eY.out _ (by assumption)) ((go_at_call 145;refine iB.out.mono ?_;rintro e5 w5 ⟨v5,rfl,jR,hb5⟩;obtain⟨hs5,w6,hrun,lh,hs7⟩:=BO HR3 hb5 hs0 v5))
   have HX:=kH (BN HR3 fZ dI bD dJ hb5 jR lh);clear hs5 hs7 lh hb5 jR hs0 hrun;go_wp2_with fail
   go_meet
   exact HX.out
 case rest=>
  obtain⟨Vx,gF,mq⟩:=hcut;obtain⟨HV,HD,qE,HU,rE⟩:=BM hB hsep gF mq HR3 fZ iF mi iA HK dI bD dJ hnb;obtain⟨gi,gb,uF,yY,hlk⟩:=BJ gF x;obtain⟨⟨q0,lp⟩,⟨n0,n1,n2,n3,n4,ln⟩,⟨c0,c1,c2,c8,lr⟩⟩:=HV.out.cells;clear c5 p0 qw qQ c8;by_cases h1:x=(⟨#[105,110,116]⟩:ByteArray)
  ·have hsc:dC x=true:=by rw[h1];rfl
   have f1:x.toList=[105,110,116]:=by rw[h1,ByteArray.toList_eq]
   clear h1
   have hu:gH G s r (aC r i (aj (ak s))) (aa.node 9 x a e kids)=(aC r i (aj (ak s))):=by
    unfold gH;show(if (9:Int)=20 then _ else if (9:Int)=22 then _ else if (9:Int)=27 then _ else if (9:Int)=19 then _ else if (9:Int)=9/\dC x=false then _ else _)=_;rw[if_neg (by decide),if_neg (by decide),if_neg (by decide),if_neg (by decide)];exact if_neg (fun(h:(9:Int)=9/\dC x=false)=>by rw[hsc]at h;cases h.2)
   have hcall:=fun q=>(HV.out.drewN q).kids eH.out i 0 nk nk (by omega) fQ.out (by show 0+nk<=nk;omega) HCAP.out kX.out (dI.out.kids (t:=(aa.node 9 x a e kids)) (dH.none_ r i _) (Nat.add_le_add_left (Nat.le_succ _) _) (rE.out _ rfl)) hsep (fun g hg=>.inl hg)
   have jT:ae G i kids 0 nk s (aC r i (aj (ak s)))=Q:=by rw[<- HQ.out,hu,fQ.out]
   have oF:=kH jT;have ND:=kH hcall;clear hcall jT hu hsc;go_wp2_with fail
   go_quiet (fail)
   go_wp2_with fail
   refine(ND.out _).mono ?_;rintro e10 bf ⟨rfl,-,yA,h10⟩;have HE:Hid (∃V',aS E G Q.1 V' bf/\bK bf E.base p Q.2 ms/\KX E (fun g=>g=E.vi\/ms.head? =some g) w bf):=kH (by rw[<- oF.out];exact h10.end_);clear h10 ND;go_wp2_with fail
   go_end0
   exact⟨rfl,HE.out⟩
  by_cases h2:x=(⟨#[98,111,111,108]⟩:ByteArray)
  ·have hsc:dC x=true:=by rw[h2];rfl
   have f1:x.toList=[98,111,111,108]:=by rw[h2,ByteArray.toList_eq]
   clear h1 h2
   have hu:gH G s r (aC r i (aj (ak s))) (aa.node 9 x a e kids)=(aC r i (aj (ak s))):=by
    unfold gH;show(if (9:Int)=20 then _ else if (9:Int)=22 then _ else if (9:Int)=27 then _ else if (9:Int)=19 then _ else if (9:Int)=9/\dC x=false then _ else _)=_;rw[if_neg (by decide),if_neg (by decide),if_neg (by decide),if_neg (by decide)];exact if_neg (fun(h:(9:Int)=9/\dC x=false)=>by rw[hsc]at h;cases h.2)
   have hcall:=fun q=>(HV.out.drewN q).kids eH.out i 0 nk nk (by omega) fQ.out (by show 0+nk<=nk;omega) HCAP.out kX.out (dI.out.kids (t:=(aa.node 9 x a e kids)) (dH.none_ r i _) (Nat.add_le_add_left (Nat.le_succ _) _) (rE.out _ rfl)) hsep (fun g hg=>.inl hg)
   have jT:ae G i kids 0 nk s (aC r i (aj (ak s)))=Q:=by rw[<- HQ.out,hu,fQ.out]
   have oF:=kH jT;have ND:=kH hcall;clear hcall jT hu hsc;go_wp2_with fail
   go_quiet (fail)
   go_wp2_with fail
   refine(ND.out _).mono ?_;rintro e10 bf ⟨rfl,-,yA,h10⟩;have HE:Hid (∃V',aS E G Q.1 V' bf/\bK bf E.base p Q.2 ms/\KX E (fun g=>g=E.vi\/ms.head? =some g) w bf):=kH (by rw[<- oF.out];exact h10.end_);clear h10 ND;go_wp2_with fail
   go_end0
   exact⟨rfl,HE.out⟩
  have hsc:dC x=false:=by
   unfold dC;rw[decide_eq_false h1,decide_eq_false h2];rfl
  have f1:¬x.toList=[105,110,116]:=fun h=>h1 (tQ (by rw[<- ByteArray.toList_eq,h]))
  have f2:¬x.toList=[98,111,111,108]:=fun h=>h2 (tQ (by rw[<- ByteArray.toList_eq,h]))
  have g1:(x.toList==[105,110,116])=false:=by rw[beq_eq_false_iff_ne];exact f1
  have g2:(x.toList==[98,111,111,108])=false:=by rw[beq_eq_false_iff_ne];exact f2
  clear h1 h2;obtain⟨tq,qR⟩:∃tq,((aN G.globals x).filter fun j=>decide (jP G j=3))=tq:=⟨_,rfl⟩
  have HTQ:=kH qR
  have jT:ae G i kids 0 nk s (fC (aC r i (aj (ak s))) nx (aa.node 9 x a e kids) tq)=Q:=by
   rw[<- HQ.out,fQ.out,<- qR,<- bD.out]
   have:gH G s r (aC r i (aj (ak s))) (aa.node 9 x a e kids)=fC (aC r i (aj (ak s))) r.next (aa.node 9 x a e kids) ((aN G.globals x).filter fun j=>decide (jP G j=3)):=by
    unfold gH;show(if (9:Int)=20 then _ else if (9:Int)=22 then _ else if (9:Int)=27 then _ else if (9:Int)=19 then _ else if (9:Int)=9/\dC x=false then _ else _)=_;rw[if_neg (by decide),if_neg (by decide),if_neg (by decide),if_neg (by decide)];exact if_pos ⟨rfl,hsc⟩
   rw[this]
  have oF:=kH jT;have pQ:Hid (qY r (fC (aC r i (aj (ak s))) nx (aa.node 9 x a e kids) tq)):=kH (by have:=dH.Cv r i (aj (ak s)) (aa.node 9 x a e kids) tq;rw[bD.out]at this;exact this);have jb:Hid ((fC (aC r i (aj (ak s))) nx (aa.node 9 x a e kids) tq).next=r.next+1):=kH (by cases tq<;>rfl);clear jT hsc;obtain⟨kk,hkk⟩:∃q,jP G gi=q:=⟨_,rfl⟩
  have hty:∀k,tq=some k->k=gi:=fun k hk=>by
   rw[<- qR]at hk;rw[<- uF.out]
   cases hl:bJ G.globals x with
   | none=>rw[show aN G.globals x=none from hl]at hk;cases hk
   | some y=>
    rw[show aN G.globals x=some y from hl]at hk;have:=(Option.filter_eq_some_iff.1 hk).1;simp only[aaI]at this;rw[<- this];rfl
  have htb:tq.isSome=(gb&&(kk==3)):=by
   rw[<- qR,<- yY.out,<- hkk,<- uF.out]
   cases hl:bJ G.globals x with
   | none=>rw[show aN G.globals x=none from hl];rfl
   | some y=>
    rw[show aN G.globals x=some y from hl];show(Option.filter (fun j=>decide (jP G j=3)) (some y)).isSome=(true&&(jP G y==3));by_cases hy:jP G y=3
    ·simp[hy]
    ·simp[hy]
  have nH:∀r' V' w',VW E G B ⟨kids,9,x,a,e,A,nk,c,w.heap.size+1,w.heap.size⟩ w (fun g=>g=E.vi\/ms.head? =some g) r' V' s p ms w'->(w'.cell? ⟨w.heap.size,0,none⟩=some (.pointer (some ⟨E.rp,0,none⟩))/\w'.cell? ⟨w.heap.size+1,0,none⟩=some (.int .i64 9)/\w'.cell? ⟨w.heap.size+1,1,none⟩=some (.string x)/\w'.cell? ⟨w.heap.size+1,2,none⟩=some (.int .i64 a)/\w'.cell? ⟨w.heap.size+1,3,none⟩=some (.int .i64 e)/\w'.cell? ⟨w.heap.size+1,4,none⟩=some (.slice A nk c)/\w'.cell? ⟨E.rp,2,none⟩=some (.map (some E.k))/\(Instr.lookup 71 (.map (some E.k)) (.int .i64 gi) false).run Tryz.prog w'= .ok (.int .i64 kk) w'):=fun r' V' w' hv=>by
   obtain⟨⟨y0,-⟩,⟨z0,z1,z2,z3,z4,-⟩,⟨-,-,d2,-,-⟩⟩:=hv.cells;exact⟨y0,z0,z1,z2,z3,z4,d2,by have:=uj w' E.k G.kinds hv.R.kn gi;rw[show(bJ G.kinds gi).getD 0=kk from hkk]at this;exact this⟩
  have eY:=kH nH;have kg:=fun q=>((HV.out.drewN q).drew).Oj (aa.node 9 x a e kids) ⟨rfl,rfl,rfl,rfl,rfl⟩ fQ.out qE.out nx HU.out tq gi hty
  rw[htb]at kg;have MZ:=fun q=>(HV.out.drewN q).drew
  have Q3:=kH MZ;have hlf:=fun q=>uj (wc.drewN q) E.k G.kinds (aZ.drewN gF.out.kn q) gi
  rw[show(bJ G.kinds gi).getD 0=kk from hkk]at hlf;clear nH MZ qR hty htb hkk
  cases gb with
  | false=>
   rw[Bool.false_and]at kg;have xg:=kH kg;clear kg;go_wp2_with fail
   go_quiet (fail)
   go_wp2_with fail
   have hS0:=eY.out _ _ _ (Q3.out nq);refine iI (fun w'=>(w'.cell? ⟨w.heap.size,0,none⟩=some (.pointer (some ⟨E.rp,0,none⟩))/\w'.cell? ⟨w.heap.size+1,0,none⟩=some (.int .i64 9)/\w'.cell? ⟨w.heap.size+1,1,none⟩=some (.string x)/\w'.cell? ⟨w.heap.size+1,2,none⟩=some (.int .i64 a)/\w'.cell? ⟨w.heap.size+1,3,none⟩=some (.int .i64 e)/\w'.cell? ⟨w.heap.size+1,4,none⟩=some (.slice A nk c)/\w'.cell? ⟨E.rp,2,none⟩=some (.map (some E.k))/\(Instr.lookup 71 (.map (some E.k)) (.int .i64 gi) false).run Tryz.prog w'= .ok (.int .i64 kk) w')) [] [true,true,true,true,true,true,true,true,true,true,true,true,true,true,false] (by kernel_rfl) (by kernel_rfl) rfl (by kernel_rfl) ?_;iterate 14((first|(refine jJ (by rfl) hS0 ?_)|(refine iX (by rfl) hS0 (by intro w' hSw;obtain⟨hs1,hs2,hs3,hs4,hs5,hs6,hs7,iZ⟩:=hSw;go_simp;rfl) ?_));simp only[Act.put,sA,sZ,sC])
   refine qg (by rfl) (by go_simp) ((xg.out _).mono ?_);rintro e8 w8 ⟨rfl,V8,h8⟩;refine⟨_,rfl,fun _=>eY.out _ _ _ h8,?_⟩;simp only[Act.put,sA,sZ,sC];refine mQ ?_;obtain⟨⟨q8,zM⟩,⟨-,-,-,-,n8,GD⟩,-⟩:=h8.cells;have hcall:=h8.kids eH.out i 0 nk nk (by omega) fQ.out (by show 0+nk<=nk;omega) HCAP.out kX.out (dI.out.kids (t:=(aa.node 9 x a e kids)) pQ.out (Nat.add_le_add_left pQ.out.next _) (rE.out _ jb.out)) hsep (fun g hg=>.inl hg);rw[oF.out]at hcall;have HC:=kH hcall;clear hcall h8;go_wp2_with fail
   refine HC.out.mono ?_;rintro e10 bf ⟨rfl,-,yA,h10⟩;have HE:Hid (∃V',aS E G Q.1 V' bf/\bK bf E.base p Q.2 ms/\KX E (fun g=>g=E.vi\/ms.head? =some g) w bf):=kH h10.end_;clear h10 HC q8 n8;go_wp2_with fail
   go_end0
   exact⟨rfl,HE.out⟩
  | true=>
   rw[Bool.true_and]at kg;have xg:=kH kg;clear kg;go_wp2_with fail
   go_quiet (fail)
   go_wp2_with fail
   have hS0:=eY.out _ _ _ (Q3.out nq);refine iI (fun w'=>(w'.cell? ⟨w.heap.size,0,none⟩=some (.pointer (some ⟨E.rp,0,none⟩))/\w'.cell? ⟨w.heap.size+1,0,none⟩=some (.int .i64 9)/\w'.cell? ⟨w.heap.size+1,1,none⟩=some (.string x)/\w'.cell? ⟨w.heap.size+1,2,none⟩=some (.int .i64 a)/\w'.cell? ⟨w.heap.size+1,3,none⟩=some (.int .i64 e)/\w'.cell? ⟨w.heap.size+1,4,none⟩=some (.slice A nk c)/\w'.cell? ⟨E.rp,2,none⟩=some (.map (some E.k))/\(Instr.lookup 71 (.map (some E.k)) (.int .i64 gi) false).run Tryz.prog w'= .ok (.int .i64 kk) w')) [] [true,true,true,true,true,true,true,true,true,true,true,true,true,true,false] (by kernel_rfl) (by kernel_rfl) rfl (by kernel_rfl) ?_;iterate 14((first|(refine jJ (by rfl) hS0 ?_)|(refine iX (by rfl) hS0 (by intro w' hSw;obtain⟨hs1,hs2,hs3,hs4,hs5,hs6,hs7,iZ⟩:=hSw;go_simp;rfl) ?_));simp only[Act.put,sA,sZ,sC])
   refine qg (by rfl) (by go_simp) ((xg.out _).mono ?_);rintro e8 w8 ⟨rfl,V8,h8⟩;refine⟨_,rfl,fun _=>eY.out _ _ _ h8,?_⟩;simp only[Act.put,sA,sZ,sC];refine mQ ?_;obtain⟨⟨q8,zM⟩,⟨-,-,-,-,n8,GD⟩,-⟩:=h8.cells;have hcall:=h8.kids eH.out i 0 nk nk (by omega) fQ.out (by show 0+nk<=nk;omega) HCAP.out kX.out (dI.out.kids (t:=(aa.node 9 x a e kids)) pQ.out (Nat.add_le_add_left pQ.out.next _) (rE.out _ jb.out)) hsep (fun g hg=>.inl hg);rw[oF.out]at hcall;have HC:=kH hcall;clear hcall h8;go_wp2_with fail
   refine HC.out.mono ?_;rintro e10 bf ⟨rfl,-,yA,h10⟩;have HE:Hid (∃V',aS E G Q.1 V' bf/\bK bf E.base p Q.2 ms/\KX E (fun g=>g=E.vi\/ms.head? =some g) w bf):=kH h10.end_;clear h10 HC q8 n8;go_wp2_with fail
   go_end0
   exact⟨rfl,HE.out⟩
end Go.Proofs.YtoepemlnlpamlaaGreat
namespace Go.Proofs.YtoepemlnlpamlaaGreat
theorem zh:∀{ts:List aa}{c:aa},c∈ts->ah c<=ag ts
 | [],c,h=>by cases h
 | t::ts,c,h=>by
  rw[ag];rcases List.mem_cons.1 h with rfl|h
  ·omega
  ·have:=zh h
   omega
theorem Sc(E:RC)(G:aW)(B:Nat)(hB:B<=E.base):∀(n:Nat) (t:aa),ah t<=n->fI E G B t
 | 0,t,h=>by
  have:=qA t;omega
 | n+1,.node k x a e kids,h=>by
  have hih:∀c∈kids,fI E G B c:=fun c hc=>Sc E G B hB n c (by
   have:=zh hc;rw[ah]at h
   omega)
  by_cases h3:k=3
  ·subst h3;exact Og E G B hB x a e kids hih
  by_cases h4:k=4
  ·subst h4;exact Ru E G B hB x a e kids hih
  by_cases h5:k=5
  ·subst h5;exact TQ E G B hB x a e kids hih
  by_cases h7:k=7
  ·subst h7;exact Rs E G B hB x a e kids hih
  by_cases h8:k=8
  ·subst h8;exact LD E G B hB x a e kids hih
  by_cases h11:k=11
  ·subst h11;exact Rv E G B hB x a e kids hih
  by_cases h12:k=12
  ·subst h12;exact Wq E G B hB x a e kids hih
  by_cases h16:k=16
  ·subst h16;exact Ws E G B hB x a e kids hih
  by_cases h20:k=20
  ·subst h20;exact TR E G B hB x a e kids hih
  by_cases h22:k=22
  ·subst h22;exact Oh E G B hB x a e kids hih
  by_cases h27:k=27
  ·subst h27;exact TT E G B hB x a e kids hih
  by_cases h19:k=19
  ·subst h19;exact YH E G B hB x a e kids hih
  by_cases h9:k=9
  ·subst h9;exact TP E G B hB x a e kids hih
  exact Rt E G B hB k x a e kids hih h3 h4 h5 h7 h8 h11 h12 h16 h20 h22 h27 h19 h9
theorem Wt(E:RC)(G:aW)(B:Nat)(hB:B<=E.base)(t:aa):fI E G B t:=Sc E G B hB (ah t) t (aaD _)
open Go.RowKit
theorem EH(x:Int)(w:World):Calls Tryz.prog 151 #[.int .i64 x] w fun e w'=>e= .returned (.bool false)/\w'=w:=by
 go_enter Tryz.func151,Tryz.ntmps151
 go_wp2_with fail
 go_ret
 exact⟨rfl,rfl⟩
def Ad(a b:Int):Int:=if a<b then -1 else if b<a then 1 else 0
theorem RY(a b:Int)(w:World):Calls Tryz.prog 82 #[.int .i64 a,.int .i64 b] w fun e w'=>e= .returned (.int .i64 (Ad a b))/\w'=w:=by
 unfold Ad;by_cases h1:a<b
 ·rw[if_pos h1]
  go_enter Tryz.func82,Tryz.ntmps82
  go_wp2_with (go_at_call 151;refine(EH _ _).mono ?_;rintro e w2 ⟨rfl,rfl⟩)
  go_ret
  exact⟨rfl,rfl⟩
 ·rw[if_neg h1]
  by_cases h2:b<a
  ·rw[if_pos h2]
   go_enter Tryz.func82,Tryz.ntmps82
   go_wp2_with (go_at_call 151;refine(EH _ _).mono ?_;rintro e w2 ⟨rfl,rfl⟩)
   go_ret
   exact⟨rfl,rfl⟩
  ·rw[if_neg h2]
   go_enter Tryz.func82,Tryz.ntmps82
   go_wp2_with (go_at_call 151;refine(EH _ _).mono ?_;rintro e w2 ⟨rfl,rfl⟩)
   go_ret
   exact⟨rfl,rfl⟩
theorem Cj(a1 a2 a3 a4 b1 b2 b3 b4:Int)(ax bx:ByteArray)(av bv:Value)(w:World):
 Calls Tryz.prog 81 #[.agg #[.int .i64 a1,.int .i64 a2,.int .i64 a3,.int .i64 a4,.string ax,av],.agg #[.int .i64 b1,.int .i64 b2,.int .i64 b3,.int .i64 b4,.string bx,bv]] w fun e w'=>e= .returned (.int .i64 (Ad a1 b1))/\Below w.heap.size w w':=by
 have hc:=fun w=>RY a1 b1 w
 obtain⟨q,hq⟩:∃q,Ad a1 b1=q:=⟨_,rfl⟩
 rw[hq]at hc⊢;clear hq;go_enter Tryz.func81,Tryz.ntmps81
 go_wp2_with (go_at_call 82;refine(hc _).mono ?_;rintro e w2 ⟨rfl,rfl⟩)
 go_ret
 exact⟨rfl,by(repeat (first|exact Below.refl _ _|assumption|refine Below.trans ?_ (Below.mono (by assumption) (by first|omega|(simp;done)|(simp;omega)))|refine Below.alloc ?_ (by first|omega|(simp;done)|(simp;omega)) _|refine Below.setCell ?_ (by first|omega|(simp;done)|(simp;omega)) _|refine Below.drew ?_|refine aY ?_ _))⟩
theorem zJ{w:World}{A:Option Addr}{l:List (Int×Dg)}(h:bW 6 iq w w.heap.size A l){i j:Nat}{p q:Int×Dg}(hi:l[i]? =some p)(hj:l[j]? =some q):
 ∃b off,A=some ⟨b,off,none⟩/\b<w.heap.size/\∀w',Below w.heap.size w w' ->
  w'.cell? ⟨b,off+i*6,none⟩=some (.int .i64 p.1)/\w'.cell? ⟨b,off+i*6+1,none⟩=some (.int .i64 p.2.code)/\w'.cell? ⟨b,off+i*6+2,none⟩=some (.int .i64 p.2.at_)/\w'.cell? ⟨b,off+i*6+3,none⟩=some (.int .i64 p.2.end_)/\w'.cell? ⟨b,off+i*6+4,none⟩=some (.string p.2.text)/\w'.cell? ⟨b,off+i*6+5,none⟩=some (.slice none 0 0) /\
  w'.cell? ⟨b,off+j*6,none⟩=some (.int .i64 q.1)/\w'.cell? ⟨b,off+j*6+1,none⟩=some (.int .i64 q.2.code)/\w'.cell? ⟨b,off+j*6+2,none⟩=some (.int .i64 q.2.at_)/\w'.cell? ⟨b,off+j*6+3,none⟩=some (.int .i64 q.2.end_)/\w'.cell? ⟨b,off+j*6+4,none⟩=some (.string q.2.text)/\w'.cell? ⟨b,off+j*6+5,none⟩=some (.slice none 0 0):=by
 obtain⟨b,off,hA,hlt,hc⟩:=h i p hi;obtain⟨b',off',hA',-,hd⟩:=h j q hj;rw[hA]at hA';simp only[aaI,Addr.mk.injEq,and_true]at hA';obtain⟨rfl,rfl⟩:=hA';refine⟨b,off,hA,hlt,fun w' hb=>?_⟩;have hk:∀(o:Nat) (v:Value),w.cell? ⟨b,o,none⟩=some v->w'.cell? ⟨b,o,none⟩=some v:=fun o v h=>(hb.cell (p:=⟨b,o,none⟩) hlt).trans h
 exact⟨hk _ _ (hc 0 _ rfl),hk _ _ (hc 1 _ rfl),hk _ _ (hc 2 _ rfl),hk _ _ (hc 3 _ rfl),hk _ _ (hc 4 _ rfl),hk _ _ (hc 5 _ rfl),hk _ _ (hd 0 _ rfl),hk _ _ (hd 1 _ rfl),hk _ _ (hd 2 _ rfl),hk _ _ (hd 3 _ rfl),hk _ _ (hd 4 _ rfl),hk _ _ (hd 5 _ rfl)⟩
def xL(l:List (Int×Dg)):Prop:=l.Pairwise fun x y=>x.1<y.1
theorem xL.lt{l:List (Int×Dg)}(h:xL l){i j:Nat}{p q:Int×Dg}(hi:l[i]? =some p)(hj:l[j]? =some q)(hij:i<j):p.1<q.1:=by
 obtain⟨h1,rfl⟩:=aaJ.1 hi;obtain⟨h2,rfl⟩:=aaJ.1 hj;exact List.pairwise_iff_getElem.1 h i j h1 h2 hij
theorem xL.cmp{l:List (Int×Dg)}(h:xL l){i j:Nat}{p q:Int×Dg}(hi:l[i]? =some p)(hj:l[j]? =some q)(hij:i<j):Ad q.1 p.1=1:=by
 have:=h.lt hi hj hij;unfold Ad;rw[if_neg (by omega),if_pos this]
theorem ins_any(l:List (Int×Dg))(A:Option Addr)(n c a b:Nat)(w:World)(hn:l.length=n)(hR:bW 6 iq w w.heap.size A l)(hS:xL l)(hab:a<=b)(hb:b<=n)(hm:n<=1000000):
 Calls Tryz.prog 202 #[.slice A n c,.int .i64 (a:Int),.int .i64 (b:Int),.func (.func 81) #[] #[]] w fun e w'=>e= .returned (.tuple #[])/\Below w.heap.size w w':=by
 have HR:=kH hR;have HS:=kH hS;have HN:=kH hn;clear hR hS hn;have hwa:IntKind.i64.wrap ((a:Int)+1)=(a:Int)+1:=IntWalk.i64_in _ (by omega);go_enter Tryz.func202,Tryz.ntmps202
 go_wp2_with fail
 go_loopg [8] (b+1 - a) (fun gk s8 wr=> ∃i:Nat,s8= .int .i64 ((i:Int)+1)/\a<=i/\i<=b/\gk=b+1 - i/\Hid (Below w.heap.size w wr))
 case atStart=>exact⟨a,rfl,aaD _,hab,rfl,kH (Below.refl _ _)⟩
 case round=>
  obtain⟨i,rfl,hai,hib,hgi,HB⟩:=hrel;by_cases hlt:i+1<b
  ·have hlt':(i:Int)+1<(b:Int):=by omega
   have hgt':(a:Int)<(i:Int)+1:=by omega
   obtain⟨p,hp⟩:∃p,l[i+1]? =some p:=⟨_,aaH (by rw[HN.out];omega)⟩
   obtain⟨q,hq⟩:∃q,l[i]? =some q:=⟨_,aaH (by rw[HN.out];omega)⟩
   have hcmp:=HS.out.cmp hq hp (by omega);have hRr:bW 6 iq wr wr.heap.size A l:=HR.out.later HB.out;obtain⟨bb,off,hA,hbl,hcs⟩:=zJ hRr hp hq;subst hA;obtain⟨p1,p2,p3,p4,p5,hpe⟩:∃p1 p2 p3 p4 p5,p=(p1,(⟨p2,p3,p4,p5⟩:Dg)):=⟨_,_,_,_,_,rfl⟩
   obtain⟨q1,q2,q3,q4,q5,hqe⟩:∃q1 q2 q3 q4 q5,q=(q1,(⟨q2,q3,q4,q5⟩:Dg)):=⟨_,_,_,_,_,rfl⟩
   subst hpe hqe;have hcall:=fun w'=>Cj p1 p2 p3 p4 q1 q2 q3 q4 p5 q5 (.slice none 0 0) (.slice none 0 0) w'
   rw[show Ad p1 q1=1 from hcmp]at hcall;have HC:=kH hcall;have Lt:=kH hcs;have hw1:IntKind.i64.wrap ((i:Int)+1+1)=(i:Int)+1+1:=IntWalk.i64_in _ (by omega);have hw0:IntKind.i64.wrap (i:Int)=(i:Int):=IntWalk.i64_in _ (by omega);have hi1:((i:Int)+1).toNat=i+1:=by omega
   have hin:i+1<n:=by omega
   have hin0:i<n:=by omega
   have hz0:(0:Int)<=(i:Int)+1:=by omega
   have hz1:(i:Int)+1<(n:Int):=by omega
   have hS0:=hcs wr.drew ((Below.refl _ _).drew);clear hcall hcs hcmp hp hq hRr;go_wp2_with fail
   refine wp_loop_rounds 1 ?_;rw[rounds_succ];go_wp2_with fail
   refine iI (fun w'=>Below wr.heap.size wr w'/\w'.cell? ⟨bb,off+(i+1)*6,none⟩=some (.int .i64 p1)/\w'.cell? ⟨bb,off+(i+1)*6+1,none⟩=some (.int .i64 p2)/\w'.cell? ⟨bb,off+(i+1)*6+2,none⟩=some (.int .i64 p3)/\w'.cell? ⟨bb,off+(i+1)*6+3,none⟩=some (.int .i64 p4)/\w'.cell? ⟨bb,off+(i+1)*6+4,none⟩=some (.string p5)/\w'.cell? ⟨bb,off+(i+1)*6+5,none⟩=some (.slice none 0 0)/\w'.cell? ⟨bb,off+i*6,none⟩=some (.int .i64 q1)/\w'.cell? ⟨bb,off+i*6+1,none⟩=some (.int .i64 q2)/\w'.cell? ⟨bb,off+i*6+2,none⟩=some (.int .i64 q3)/\w'.cell? ⟨bb,off+i*6+3,none⟩=some (.int .i64 q4)/\w'.cell? ⟨bb,off+i*6+4,none⟩=some (.string q5)/\w'.cell? ⟨bb,off+i*6+5,none⟩=some (.slice none 0 0)) [] [true,true,true,true,true,true,true,true,true,true,true,true,true,true,false,true,true] (by kernel_rfl) (by kernel_rfl) rfl (by kernel_rfl) ?_;have hS1:=And.intro ((Below.refl wr.heap.size wr).drew) hS0;clear hS0;iterate 14((first|(refine jJ (by rfl) hS1 ?_)|(refine iX (by rfl) hS1 (by intro w' hSw;obtain⟨-,hs1,hs2,hs3,hs4,hs5,hs6,hs7,iZ,uy,wD,sW,wC⟩:=hSw;go_simp;rfl) ?_));simp only[Act.put,sA,sZ,sC])
   refine qg (by rfl) (by go_simp) ((HC.out _).mono ?_);rintro e5 w5 ⟨rfl,hb5⟩;have hbr:Below wr.heap.size wr w5:=((Below.refl wr.heap.size wr).drew).trans hb5;have hS2:=And.intro hbr (Lt.out w5 hbr);refine⟨_,rfl,fun _=>hS2,?_⟩;iterate 2(simp only[Act.put,sA,sZ,sC];(first|(refine jJ (by rfl) hS2 ?_)|(refine iX (by rfl) hS2 (by intro w' hSw;obtain⟨-,hs1,hs2,hs3,hs4,hs5,hs6,hs7,iZ,uy,wD,sW,wC⟩:=hSw;go_simp;rfl) ?_)))
   simp only[Act.put,sA,sZ,sC];refine mQ ?_;have iQ:Hid (Below w.heap.size w w5):=kH (HB.out.trans (hbr.mono HB.out.size));clear hS1 hS2 hbr hb5;go_wp2_with fail
   go_roundg (gk - 1)
   case measure=>omega
   case rel=>exact⟨i+1,by simp,by omega,by omega,by omega,iQ⟩
  ·have hge:(b:Int)<=(i:Int)+1:=by omega
   go_wp2_with fail
   go_end0
   exact⟨rfl,HB.out⟩
end Go.Proofs.YtoepemlnlpamlaaGreat
