/- The law NamesVisibleAt holds where what it reads is of bulk at most 1048576: it returns true, and its arguments read as before. Part 6: Par3 Par4 Par5. -/
import Derived.Test.YtoepemlnlpamlaaGreatVisa05
set_option maxRecDepth 100000
set_option maxHeartbeats 4000000
namespace Go.Proofs.YtoepemlnlpamlaaGreat
open Go.RowKit
theorem Ee:(Tryz.prog.info? 78).map (fun i=>(i.zero,i.size,i.bytes))=some (some (.agg #[.int .i64 0,.int .i64 0,.int .i64 0,.string ⟨#[]⟩,.slice none 0 0]),5,64):=by kernel_rfl
theorem ji(w:World)(g:Nat)(a b c d e:Value)(B:w.cell? ⟨g,0,none⟩=some a)(C:w.cell? ⟨g,1,none⟩=some b)(D:w.cell? ⟨g,2,none⟩=some c)(E:w.cell? ⟨g,3,none⟩=some d)(F:w.cell? ⟨g,4,none⟩=some e):
 ∀j v,[a,b,c,d,e][j]? =some v->w.cell? ((⟨g,0,none⟩:Addr).add j)=some v:=by
 intro j v A
 match j,A with
 | 0,A=>simp at A;subst A;exact B
 | 1,A=>simp at A;subst A;exact C
 | 2,A=>simp at A;subst A;exact D
 | 3,A=>simp at A;subst A;exact E
 | 4,A=>simp at A;subst A;exact F
 | j+5,A=>simp at A
theorem tu(E:PE)(hE:E.Ok)(v:PV)(c:Int)(x:bB)(w:World)(h:PW w E v):
 Calls Tryz.prog 69 #[.pointer (some ⟨E.gp,0,none⟩),.int .i64 c,.string (bf x)] w fun e w'=>(∃u,e= .returned u)/\∃v',v'.st=iI E.l v.st c x/\PW w' E v'/\PM E w v w' v':=by
 obtain⟨i0,hi0,hz0,hz1,hz2⟩:=info_parts Ee;have H:=kH h;obtain⟨b,D,-,hb,c0,c1,c2,-,c4,t0,t1,t2,t3⟩:=h.open hE;have hk:(v.st.k:Int)<E.n:=by have:=h.at_;omega
 have hk2:=h.at_;have t:=h.blk.lt;have hlen:=h.good.len (m:=4096) (by have:=hE.get v.st.k;have:=hE.size;omega);obtain⟨n,hn⟩:∃x,E.n=x:=⟨_,rfl⟩
 rw[hn]at c1 hk hk2;obtain⟨k,r⟩:∃x,v.st.k=x:=⟨_,rfl⟩
 rw[r]at c2 t0 t1 t2 t3 hk hk2;obtain⟨C,K⟩:∃x,iA E.l k=x:=⟨_,rfl⟩
 rw[K]at t0 t1 t2 t3;obtain⟨W,Z,hv4,-,-⟩:=h.own.shape;rw[hv4]at c4;obtain⟨I,j⟩:∃x,v.st.ds.length=x:=⟨_,rfl⟩
 rw[j]at c4 hlen;have jy:∀w':World,Below w.heap.size w w'->w'.cell? ⟨E.gp,1,none⟩=some (.slice (some ⟨b,D,none⟩) n E.c)/\w'.cell? ⟨E.gp,2,none⟩=some (.int .i64 (k:Int))/\w'.cell? ⟨b,D+k*4,none⟩=some (.int .i64 (C.kind:Int))/\w'.cell? ⟨b,D+k*4+1,none⟩=some (.int .i64 (C.from_:Int))/\w'.cell? ⟨b,D+k*4+2,none⟩=some (.int .i64 (C.at_:Int))/\w'.cell? ⟨b,D+k*4+3,none⟩=some (.int .i64 (C.end_:Int)):=fun w' L=>⟨(L.cell (p:=⟨E.gp,_,none⟩) t).trans c1,(L.cell (p:=⟨E.gp,_,none⟩) t).trans c2,(L.cell (p:=⟨b,_,none⟩) hb).trans t0,(L.cell (p:=⟨b,_,none⟩) hb).trans t1,(L.cell (p:=⟨b,_,none⟩) hb).trans t2,(L.cell (p:=⟨b,_,none⟩) hb).trans t3⟩
 have eY:=kH jy;have hBd:Below w.heap.size w w.drew:=(Below.refl _ _).drew;have HKK:=kH r;have zG:=kH K;have jf:=kH hv4;have S:=kH j;clear jy hn r K h hv4 j;go_in
 go_wp2_with fail
 go_region_held3 (fun w'=>w'.cell? ⟨E.gp,1,none⟩=some (.slice (some ⟨b,D,none⟩) n E.c)/\w'.cell? ⟨E.gp,2,none⟩=some (.int .i64 (k:Int))/\w'.cell? ⟨b,D+k*4,none⟩=some (.int .i64 (C.kind:Int))/\w'.cell? ⟨b,D+k*4+1,none⟩=some (.int .i64 (C.from_:Int))/\w'.cell? ⟨b,D+k*4+2,none⟩=some (.int .i64 (C.at_:Int))/\w'.cell? ⟨b,D+k*4+3,none⟩=some (.int .i64 (C.end_:Int))) ((refine eY.out _ ?_;(repeat (first|exact Below.refl _ _|assumption|refine Below.trans ?_ (Below.mono (by assumption) (by first|omega|(simp;done)|(simp;omega)))|refine Below.alloc ?_ (by first|omega|(simp;done)|(simp;omega)) _|refine Below.setCell ?_ (by first|omega|(simp;done)|(simp;omega)) _|refine Below.drew ?_|refine aT ?_ _)))) (fail)
 generalize V:(w.alloc (.cells #[.int .i64 (C.kind:Int),.int .i64 (C.from_:Int),.int .i64 (C.at_:Int),.int .i64 (C.end_:Int)] 186)).drew=W1
 have P:Below w.heap.size w W1:=by rw[<- V];(repeat (first|exact Below.refl _ _|assumption|refine Below.trans ?_ (Below.mono (by assumption) (by first|omega|(simp;done)|(simp;omega)))|refine Below.alloc ?_ (by first|omega|(simp;done)|(simp;omega)) _|refine Below.setCell ?_ (by first|omega|(simp;done)|(simp;omega)) _|refine Below.drew ?_|refine aT ?_ _))
 have O:aj W1 w.heap.size 186 #[.int .i64 (C.kind:Int),.int .i64 (C.from_:Int),.int .i64 (C.at_:Int),.int .i64 (C.end_:Int)]:=by rw[<- V];exact(aj.new w _ _).drew
 have f:W1.heap.size=w.heap.size+1:=by rw[<- V];simp
 have H1:=kH (H.out.below P);have hx2:=O.cell 2;have hx3:=O.cell 3;have hgl1:E.gp<W1.heap.size:=by omega
 have hc4:W1.cell? ⟨E.gp,4,none⟩=some (.slice W I Z):=(P.cell (p:=⟨E.gp,4,none⟩) t).trans c4;have pR:=kH f;clear V eY f;obtain⟨fl,hfl⟩:∃fl,(match v.st.ds.getLast? with|some d=>decide (d.at_=(C.at_:Int))|none=>false)=fl:=⟨_,rfl⟩
 have z:=kH hfl;clear hfl;go_upto_region 2 with fail
 go_cut [38] (fun s38 wx=>s38= .bool fl/\Below W1.heap.size W1 wx)
 case first=>
  cases I with
  | zero=>
   have hg1:decide ((0:Int)<((0:Nat):Int))=false:=by simp
   have hds:v.st.ds=[]:=List.length_eq_zero_iff.1 S.out;have G:=z.out;rw[hds]at G;have hf2:fl=false:=G.symm;subst hf2;clear hds G z;go_wp2_with fail
   go_quiet (fail)
   go_wp2_with fail
   go_meet
   exact⟨rfl,by(repeat (first|exact Below.refl _ _|assumption|refine Below.trans ?_ (Below.mono (by assumption) (by first|omega|(simp;done)|(simp;omega)))|refine Below.alloc ?_ (by first|omega|(simp;done)|(simp;omega)) _|refine Below.setCell ?_ (by first|omega|(simp;done)|(simp;omega)) _|refine Below.drew ?_|refine aT ?_ _))⟩
  | succ m=>
   obtain⟨d,R⟩:∃d,v.st.ds.getLast? =some d:=by
    cases hq:v.st.ds.getLast? with
    | none=>
     rw[List.getLast?_eq_none_iff]at hq;have:=S.out;rw[hq]at this;simp at this
    | some d=>exact⟨d,rfl⟩
   have hdm:v.st.ds[m]? =some d:=by
    rw[List.getLast?_eq_getElem?,S.out]at R;simpa using R
   have hr:=H1.out.own;rw[jf.out,S.out]at hr;obtain⟨lb,loff,hA4,hlb,hlc⟩:=hr.rowAt (cells:=bO) (l:=v.st.ds) rfl rfl (by intro c _;rfl) S.out m d hdm;subst hA4;have hy1:W1.cell? ⟨lb,loff+m*5+1,none⟩=some (.int .i64 d.at_):=hlc 1 _ rfl;have hm1:decide ((0:Int)<(m:Int)+1)=true:=decide_eq_true (by omega);have G:=z.out;rw[R]at G;have hf2:(d.at_==(C.at_:Int))=fl:=by rw[<- G,Bool.eq_iff_iff];simp
   have hmw:IntKind.i64.wrap ((m:Int)+1 - 1)=(m:Int):=by
    have:(m:Int)+1 - 1=(m:Int):=by omega
    rw[this];exact IntWalk.i64_in _ (by omega)
   clear R hdm hr hlc G z;go_wp2_with fail
   go_quiet (fail)
   go_wp2_with fail
   go_meet
   exact⟨rfl,by(repeat (first|exact Below.refl _ _|assumption|refine Below.trans ?_ (Below.mono (by assumption) (by first|omega|(simp;done)|(simp;omega)))|refine Below.alloc ?_ (by first|omega|(simp;done)|(simp;omega)) _|refine Below.setCell ?_ (by first|omega|(simp;done)|(simp;omega)) _|refine Below.drew ?_|refine aT ?_ _))⟩
 case rest=>
  obtain⟨rfl,Q⟩:=hcut;obtain⟨N,rfl⟩:∃N:World,N=wc:=⟨_,rfl⟩
  have M:=kH (H1.out.below Q);have hz2q:=Q.size;have mV:=O.below Q O.lt;have hx2:=mV.cell 2;have hx3:=mV.cell 3;have hc4:N.cell? ⟨E.gp,4,none⟩=some (.slice W I Z):=M.out.blk.cell 4 |>.trans (by rw[jf.out,S.out];rfl)
  have X:Below w.heap.size w N:=P.trans (Q.mono P.size);have DC:=kH X;clear P Q O X;cases fl
  ·have q:=M.out.own
   rw[jf.out,S.out]at q;have T:=kH q;have hgs:=pR.out;have hgl2:E.gp<N.heap.size:=by omega
   have hgw2:w.heap.size<N.heap.size:=by omega
   have hne:(Value.slice W I Z).ownBlock≠some E.gp:=T.out.cB M.out.blk (by decide);have Y:(Value.slice W I Z).ownBlock≠some w.heap.size:=T.out.cB mV (by decide);have hlo:=hE.low;have hfz:=M.out.blk.frozen 4;have fH:=kH hne;have vJ:=kH Y;clear q hne Y;go_wp2_with fail
   refine eQ (fun w'=>w'.cell? ⟨E.gp,4,none⟩=some (.slice W I Z)/\w'.cell? ⟨w.heap.size,2,none⟩=some (.int .i64 (C.at_:Int))/\w'.cell? ⟨w.heap.size,3,none⟩=some (.int .i64 (C.end_:Int))) [16] [true,true,true,true,true,true,true,true,true,true,true,true,false,false,false,false,false] (by kernel_rfl) (by kernel_rfl) rfl (by kernel_rfl) ?_;have hS0:N.drew.cell? ⟨E.gp,4,none⟩=some (.slice W I Z)/\N.drew.cell? ⟨w.heap.size,2,none⟩=some (.int .i64 (C.at_:Int))/\N.drew.cell? ⟨w.heap.size,3,none⟩=some (.int .i64 (C.end_:Int)):=⟨hc4,hx2,hx3⟩
   iterate 12(refine ic rfl hS0 (by intro w' hSw;obtain⟨f,hs2,hs3⟩:=hSw;go_simp;rfl) ?_;simp only[Act.put,sA,sZ,sC])
   refine ib (w':=N.drew.alloc (.cells #[.int .i64 c,.int .i64 (C.at_:Int),.int .i64 (C.end_:Int),.string (bf x),.slice none 0 0] 78)) rfl (by go_simp;rfl) ?_ ?_
   ·exact fun _=>⟨by go_simp,by go_simp,by go_simp⟩
   simp only[Act.put,sA,sZ,sC];refine sP rfl (iG _ (.tmp 43) (.tmp 51) _ rfl E.lo 78 i0 _ 5 64 Tryz.underlying31 hi0 hz0 hz1 hz2 rfl (.slice W I Z) I (v.st.ds.flatMap bO) rfl (T.out.drew.alloc _) ⟨N.heap.size,0,none⟩ 1 1 (bO ⟨c,C.at_,C.end_,bf x⟩) rfl rfl (ji _ _ _ _ _ _ _ (by go_simp) (by go_simp) (by go_simp) (by go_simp) (by go_simp)) (by simp[bO,Value.oneCell']) (by simp only[maxLen];omega) (by omega) (by simp;omega) ?_);intro v3 w3 J B vG;obtain⟨A3,c3,hv3,-,-⟩:=J.shape;subst hv3;have hz3:=B.size;simp at hz3
   have q1:w3.cell? ⟨E.gp,4,none⟩=some (.slice W I Z):=by
    rw[B.cell_far _ (by simp;omega) (fun U=>fH.out U.symm)];go_simp
   have q2:w3.cell? ⟨w.heap.size,2,none⟩=some (.int .i64 (C.at_:Int)):=by
    rw[B.cell_far _ (by simp;omega) (fun U=>vJ.out U.symm)];go_simp
   have q3:w3.cell? ⟨w.heap.size,3,none⟩=some (.int .i64 (C.end_:Int)):=by
    rw[B.cell_far _ (by simp;omega) (fun U=>vJ.out U.symm)];go_simp
   have y:=aj.grown (aj.alloc (aj.drew M.out.blk) (.cells #[.int .i64 c,.int .i64 (C.at_:Int),.int .i64 (C.end_:Int),.string (bf x),.slice none 0 0] 78)) B (fun U=>fH.out U.symm);have q4:=y.frozen 4;have HB3:=kH y;clear y;refine⟨fun _=>⟨q1,q2,q3⟩,?_⟩;iterate 2(simp only[Act.put,sA,sZ,sC];refine ib (w':=w3) rfl (by go_simp;rfl) (fun _=>⟨q1,q2,q3⟩) ?_)
   simp only[Act.put,sA,sZ,sC];refine iU (w':=w3.setCell ⟨E.gp,4,none⟩ (.slice A3 (I+1) c3)) rfl (by go_simp) (by simp) ?_;refine jm ?_;simp only[Act.put]
   have F:iI E.l v.st c x=⟨v.st.k,v.st.last,v.st.ds++[⟨c,C.at_,C.end_,bf x⟩]⟩:=by
    unfold iI;rw[HKK.out,zG.out];split
    ·rename_i d R
     have G:=z.out;rw[R]at G;rw[if_neg (of_decide_eq_false G)]
    ·rfl
   have N7:=kH F;have Nq:=kH J;have Nu:=kH B;have HAT3:=kH vG;clear F J B vG;go_wp2_with fail
   go_end0
   have hwz:=DC.out.size;refine⟨⟨_,rfl⟩,⟨iI E.l v.st c x,.slice A3 (I+1) c3⟩,rfl,⟨?_,?_,?_,?_,M.out.good.rep c x,?_⟩,?_,?_⟩
   ·have:=HB3.out.gu 4 (.slice A3 (I+1) c3)
    rw[N7.out];simpa using this
   ·have EK:(Value.slice A3 (I+1) c3).ownBlock≠some E.gp:=Nq.out.cB HB3.out (by decide)
    have:=Nq.out.setCell EK (p:=⟨E.gp,4,none⟩) (.slice A3 (I+1) c3);rw[N7.out];simp only[aam,List.flatMap_append,S.out];simpa using this
   ·have K:=M.out.toks
    have hnt:(Value.slice E.A E.n E.c).ownBlock≠some E.gp:=K.cB M.out.blk (by decide);refine(((K.drew).alloc _).kept Nu.out ?_).setCell hnt _
    cases Ju:(Value.slice E.A E.n E.c).ownBlock with
    | none=>exact .inl rfl
    | some g=>exact .inr (fun U=>K.apart T.out (by decide) g Ju U.symm)
   ·rw[N7.out];exact M.out.at_
   ·rw[N7.out];exact M.out.last
   ·exact((((aF.refl (fun g=>g=E.gp\/v.lv.ownBlock=some g) w).below DC.out).drew.alloc _).grown Nu.out (fun g hg=>.inl (.inr (by rw[jf.out,S.out];exact hg)))).setCell (.inl (.inl rfl)) _
   ·rcases HAT3.out with h1|h1
    ·exact .inl (by rw[jf.out,S.out];exact h1)
    ·refine .inr fun g hg=>?_
     have hg2:(Value.slice A3 (I+1) c3).ownBlock=some g:=hg;rw[h1]at hg2;simp at hg2;omega
  ·have F:iI E.l v.st c x=v.st:=by
    unfold iI;split
    ·rename_i d R
     have G:=z.out;rw[R]at G;rw[if_pos];rw[HKK.out,zG.out];simpa using G
    ·rename_i R
     have G:=z.out;rw[R]at G;cases G
   have N7:=kH F;clear F;go_wp2_with fail
   refine bodyPost_ret (results_none rfl _ _ _) rfl ?_;exact⟨⟨_,rfl⟩,v,N7.out.symm,M.out,PM.of_below DC.out⟩
def Ae(E:PE)(w:World)(v:PV)(st:PS)(w':World):Prop:=∃v',v'.st=st/\PW w' E v'/\PM E w v w' v'
theorem gm(E:PE)(H:E.Ok)(v:PV)(x:bB)(w:World)(C:PW w E v):
 Calls Tryz.prog 128 #[.pointer (some ⟨E.gp,0,none⟩),.string (bf x)] w fun e w'=>e= .returned (.bool (bF E.bs E.l v.st x))/\Ae E w v (bI E.bs E.l v.st x) w':=by
 have B:=zl E H v x w C;unfold bI;obtain⟨b,F⟩:∃b,bF E.bs E.l v.st x=b:=⟨_,rfl⟩
 rw[F]at B⊢;have D:=kH B;have J:=kH F;clear B F;cases b
 ·go_in
  go_wp2_with fail
  refine D.out.mono ?_;rintro e I ⟨rfl,A⟩;go_wp2_with fail
  go_ret
  exact⟨rfl,v,rfl,C.below A,PM.of_below A⟩
 ·go_in
  go_wp2_with fail
  refine D.out.mono ?_;rintro e I ⟨rfl,A⟩;go_wp2_with fail
  refine(rf E H v I (C.below A) (fB J.out)).mono ?_;rintro e L ⟨rfl,K,G⟩;go_wp2_with fail
  go_ret
  exact⟨rfl,_,rfl,K,(PM.of_below A).trans G⟩
theorem kM(E:PE)(M:E.Ok)(v:PV)(x:bB)(w:World)(K:PW w E v):
 Calls Tryz.prog 126 #[.pointer (some ⟨E.gp,0,none⟩),.string (bf x)] w fun e w'=>e= .returned (.bool (bF E.bs E.l v.st x))/\Ae E w v (aL E.bs E.l v.st x) w':=by
 have B:=gm E M v x w K;unfold bI at B;unfold aL;obtain⟨b,N⟩:∃b,bF E.bs E.l v.st x=b:=⟨_,rfl⟩
 rw[N]at B⊢;have L:=kH B;clear B N;cases b
 ·go_in
  go_wp2_with fail
  refine L.out.mono ?_;rintro e O ⟨rfl,H,A,I,D⟩;have F:H.st=v.st:=by simpa using A
  have C:=kH F;clear A F;go_wp2_with fail
  refine(tu E M H 4 x O I).mono ?_;rintro e S ⟨⟨u,rfl⟩,R,G,Q,J⟩;have P:=kH G;clear G;go_wp2_with fail
  go_ret
  exact⟨rfl,R,by rw[P.out,C.out],Q,D.trans J⟩
 ·go_in
  go_wp2_with fail
  refine L.out.mono ?_;rintro e O ⟨rfl,H,A,I,D⟩;have C:=kH A;clear A;go_wp2_with fail
  go_ret
  exact⟨rfl,H,C.out,I,D⟩
theorem uF(E:PE)(I:E.Ok)(v:PV)(w:World)(D:PW w E v):
 Calls Tryz.prog 125 #[.pointer (some ⟨E.gp,0,none⟩)] w fun e w'=>e= .returned (.string (bf (cK E.bs E.l v.st)))/\Ae E w v (dK E.l v.st) w':=by
 have B:=qb E I v w D;unfold cK dK;obtain⟨k,J⟩:∃x,bM E.l v.st=x:=⟨_,rfl⟩
 rw[J]at B⊢;have L:=kH B;have M:=kH J;clear B J;by_cases F:k=0
 ·subst F
  go_in
  go_wp2_with fail
  refine L.out.mono ?_;rintro e K ⟨rfl,A⟩;go_wp2_with fail
  refine(rf E I v K (D.below A) (by rw[M.out];decide)).mono ?_;rintro e R ⟨rfl,H,C⟩;go_wp2_with fail
  go_ret
  exact⟨rfl,_,rfl,H,(PM.of_below A).trans C⟩
 ·have O:((k:Int)==0)=false:=by simp;omega
  have P:(k==0)=false:=by simp[F]
  rw[if_neg F,if_neg F];clear F;go_in
  go_wp2_with fail
  refine L.out.mono ?_;rintro e K ⟨rfl,A⟩;go_wp2_with fail
  refine(tu E I v 4 [110,97,109,101] K (D.below A)).mono ?_;rintro e R ⟨⟨u,rfl⟩,Q,G,H,C⟩;have N:=kH G;clear G;go_wp2_with fail
  go_ret
  exact⟨rfl,Q,N.out,H,(PM.of_below A).trans C⟩
theorem bY.first{w:World}{lo:Nat}{A:Option Addr}{n c:Nat}{t:ae}{ts:List ae}(h:bY w lo (.slice A n c) n (t::ts)):∃b B,A=some ⟨b,B,none⟩/\b<w.heap.size/\w.cell? ⟨b,B+2,none⟩=some (.int .i64 t.at_):=by
 obtain⟨vals,F,G,H⟩:=h;obtain⟨v,O,rfl,L,-⟩:=G;have J:0<n:=by rw[<- H];simp
 obtain⟨g,B,E,K,-,-,-,C,I⟩:=F.form J;cases K
 refine⟨g,B,rfl,C,?_⟩
 cases t with
 | node k x a e kids=>
  obtain⟨M,N,D,rfl,-⟩:=L;exact I 2 _ rfl
theorem Kt(E:PE)(hE:E.Ok)(v:PV)(w:World)(J:PW w E v)(first:Nat)(kind:Int)(t:bB)(lo:Nat)(A:Option Addr)(n c:Nat)(ts:List ae)(hk:bY w lo (.slice A n c) n ts):
 Calls Tryz.prog 71 #[.pointer (some ⟨E.gp,0,none⟩),.int .i64 (first:Int),.int .i64 kind,.string (bf t),.slice A n c] w fun e w'=>e= .returned (.agg #[.int .i64 kind,.string (bf t),.int .i64 (bP E.l v.st first ts),.int .i64 (v.st.last:Int),.slice A n c])/\Below w.heap.size w w':=by
 obtain⟨b,off,hEA,hb,-,c1,c2,c3,-,-,-,-,-⟩:=J.open hE;have I:=J.blk.lt;obtain⟨D,m⟩:∃x:Int,(if first<v.st.k then((iA E.l first).at_:Int) else(v.st.last:Int))=x:=⟨_,rfl⟩
 obtain⟨a2,T⟩:∃x,bP E.l v.st first ts=x:=⟨_,rfl⟩
 have jy:∀w':World,Below w.heap.size w w'->w'.cell? ⟨E.gp,1,none⟩=some (.slice (some ⟨b,off,none⟩) E.n E.c)/\w'.cell? ⟨E.gp,2,none⟩=some (.int .i64 (v.st.k:Int))/\w'.cell? ⟨E.gp,3,none⟩=some (.int .i64 (v.st.last:Int)):=fun w' M=>⟨(M.cell (p:=⟨E.gp,_,none⟩) I).trans c1,(M.cell (p:=⟨E.gp,_,none⟩) I).trans c2,(M.cell (p:=⟨E.gp,_,none⟩) I).trans c3⟩
 have eY:=kH jy;have K:=kH m;have y:=kH T;have HK:=kH hk;rw[T];clear jy m T hk;go_in
 go_wp2_with fail
 generalize L:w.alloc (.cells #[.int .i64 0,.string ⟨#[]⟩,.int .i64 0,.int .i64 0,.slice none 0 0] 24)=W1
 have U:Below w.heap.size w W1:=by rw[<- L];(repeat (first|exact Below.refl _ _|assumption|refine Below.trans ?_ (Below.mono (by assumption) (by first|omega|(simp;done)|(simp;omega)))|refine Below.alloc ?_ (by first|omega|(simp;done)|(simp;omega)) _|refine Below.setCell ?_ (by first|omega|(simp;done)|(simp;omega)) _|refine Below.drew ?_|refine aT ?_ _))
 have Q:aj W1 w.heap.size 24 #[.int .i64 0,.string ⟨#[]⟩,.int .i64 0,.int .i64 0,.slice none 0 0]:=by rw[<- L];exact aj.new w _ _
 have hs1:W1.heap.size=w.heap.size+1:=by rw[<- L];simp
 have hBd:Below w.heap.size w W1.drew:=U.drew;clear L;go_region_held3 (fun w'=>w'.cell? ⟨E.gp,1,none⟩=some (.slice (some ⟨b,off,none⟩) E.n E.c)/\w'.cell? ⟨E.gp,2,none⟩=some (.int .i64 (v.st.k:Int))/\w'.cell? ⟨E.gp,3,none⟩=some (.int .i64 (v.st.last:Int))) ((refine eY.out _ ?_;(repeat (first|exact Below.refl _ _|assumption|refine Below.trans ?_ (Below.mono (by assumption) (by first|omega|(simp;done)|(simp;omega)))|refine Below.alloc ?_ (by first|omega|(simp;done)|(simp;omega)) _|refine Below.setCell ?_ (by first|omega|(simp;done)|(simp;omega)) _|refine Below.drew ?_|refine aT ?_ _)))) (fail)
 generalize R:(W1.alloc (.cells #[.int .i64 kind,.string (bf t),.int .i64 (v.st.last:Int),.int .i64 (v.st.last:Int),.slice A n c] 24)).drew=W2
 have V:Below W1.heap.size W1 W2:=by rw[<- R];(repeat (first|exact Below.refl _ _|assumption|refine Below.trans ?_ (Below.mono (by assumption) (by first|omega|(simp;done)|(simp;omega)))|refine Below.alloc ?_ (by first|omega|(simp;done)|(simp;omega)) _|refine Below.setCell ?_ (by first|omega|(simp;done)|(simp;omega)) _|refine Below.drew ?_|refine aT ?_ _))
 have z:aj W2 W1.heap.size 24 #[.int .i64 kind,.string (bf t),.int .i64 (v.st.last:Int),.int .i64 (v.st.last:Int),.slice A n c]:=by rw[<- R];exact(aj.new W1 _ _).drew
 have q:aj W2 w.heap.size 24 #[.int .i64 0,.string ⟨#[]⟩,.int .i64 0,.int .i64 0,.slice none 0 0]:=Q.below V Q.lt;have B:Below w.heap.size w W2:=U.trans (V.mono (by omega));rw[hs1]at z;have hs2:=z.lt;have hp2:=J.below B;have H2:=kH hp2;have d1:=(B.cell (p:=⟨E.gp,1,none⟩) I).trans c1;have d2:=(B.cell (p:=⟨E.gp,2,none⟩) I).trans c2;have n2:=z.cell 2;have f2:=z.frozen 2;have vB:=kH z;have HR2:=kH q;have DC:=kH B;have hk2:=J.at_;clear R z q B V hs1 eY Q U hBd c1 c2 c3 J hp2;obtain⟨lk,X⟩:∃lk,v.st.k=lk:=⟨_,rfl⟩
 obtain⟨Y,j⟩:∃Y,v.st.last=Y:=⟨_,rfl⟩
 rw[X]at d2 hk2;have Eo:=kH X;have Z:=kH j;go_upto_if 29 with fail
 clear X j;go_cut [] (fun wx=>aj wx (w.heap.size+1) 24 #[.int .i64 kind,.string (bf t),.int .i64 D,.int .i64 (Y:Int),.slice A n c]/\aF (fun g=>g=w.heap.size+1) W2 wx)
 case first=>
  by_cases C:first<lk
  ·have f:(first:Int)<(lk:Int):=by omega
   have hfn:(first:Int)<E.n:=by omega
   obtain⟨b',off',r,M,-,-,t2,-⟩:=H2.out.tok hE (k:=first) (by omega);rw[hEA]at r;cases r
   have H:((iA E.l first).at_:Int)=D:=by rw[<- K.out,if_pos (by rw[Eo.out];exact C)]
   rw[H]at t2;have OZ:((w.heap.size+1==E.gp)=false):=by simp;omega
   clear H;go_wp2_with fail
   go_meet
   exact⟨by have:=vB.out.gu 2 (.int .i64 D);simpa [Z.out] using this,(aF.refl (fun g=>g=w.heap.size+1) W2).setCell (.inl rfl) _⟩
  ·have f:¬(first:Int)<(lk:Int):=by omega
   have H:(Y:Int)=D:=by rw[<- K.out,if_neg (by rw[Eo.out];exact C),Z.out]
   have HAT:=kH H;clear H;go_wp2_with fail
   go_meet
   exact⟨by have:=vB.out;rw[Z.out]at this;rw[<- HAT.out];exact this,aF.refl _ _⟩
 case rest=>
  obtain⟨O,uu⟩:=hcut;have W:Below w.heap.size w wc:=DC.out.trans (uu.toBelow (by omega) (by intro g hg;omega));have hs3:=uu.size;have G:=HK.out.keeps (bZ.of_below W);have F:=HR2.out.since uu (by omega);have HR3:=kH F;have jA:=kH O;have P:=kH W;have n0:=O.cell 0;have n1:=O.cell 1;have n2:=O.cell 2;have n3:=O.cell 3;have n4:=O.cell 4;have f2:=O.frozen 2;have r0:=F.cell 0;have r1:=F.cell 1;have r2:=F.cell 2;have r3:=F.cell 3;have r4:=F.cell 4;have g0:=F.frozen 0;have g1:=F.frozen 1;have g2:=F.frozen 2;have g3:=F.frozen 3;have g4:=F.frozen 4;obtain⟨wz,rfl⟩:∃wz:World,wz=wc:=⟨_,rfl⟩
  clear uu W F O
  cases ts with
  | nil=>
   have d:n=0:=by
    obtain⟨_,_,_,h3⟩:=G;exact h3.symm
   subst d
   have u:D=a2:=by
    rw[<- y.out,<- K.out];rfl
   have HA:=kH u;have hg1:decide ((0:Int)<((0:Nat):Int))=false:=by simp
   clear u G;go_wp2_with fail
   go_quiet (fail)
   go_wp2_with fail
   have S:=HA.out;subst S;rw[Z.out];refine bodyPost_ret (v:=.agg #[.int .i64 kind,.string (bf t),.int .i64 D,.int .i64 (Y:Int),.slice A 0 c]) (by simp[results,Tryz.results71,go_sem, *]) rfl ⟨rfl,(((((aT P.out _).setCell (aab _) _).setCell (aab _) _).setCell (aab _) _).setCell (aab _) _).setCell (aab _) _⟩
  | cons t0 ts=>
   obtain⟨kb,N,rfl,hkb,hka⟩:=G.first
   have d:0<n:=by
    obtain⟨_,_,_,h3⟩:=G;rw[<- h3];simp
   have hg1:decide ((0:Int)<(n:Int))=true:=decide_eq_true (by omega);have hn0i:(0:Int)<(n:Int):=by omega
   have u:(if t0.at_<D then t0.at_ else D)=a2:=by
    rw[<- y.out,<- K.out];rfl
   have HA:=kH u;clear u G;by_cases C:t0.at_<D
   ·have hlb:decide (t0.at_<D)=true:=decide_eq_true C
    go_wp2_with fail
    go_quiet (fail)
    go_wp2_with fail
    have S:=HA.out;rw[if_pos C]at S;subst S;rw[Z.out];refine bodyPost_ret (v:=.agg #[.int .i64 kind,.string (bf t),.int .i64 t0.at_,.int .i64 (Y:Int),.slice (some ⟨kb,N,none⟩) n c]) (by simp[results,Tryz.results71,go_sem, *]) rfl ⟨rfl,((((((aT P.out _).setCell (p:=⟨w.heap.size+1,2,none⟩) (Nat.le_succ _) _).setCell (aab _) _).setCell (aab _) _).setCell (aab _) _).setCell (aab _) _).setCell (aab _) _⟩
   ·have hlb:decide (t0.at_<D)=false:=decide_eq_false C
    go_wp2_with fail
    go_quiet (fail)
    go_wp2_with fail
    have S:=HA.out;rw[if_neg (by omega)]at S;subst S;rw[Z.out];refine bodyPost_ret (v:=.agg #[.int .i64 kind,.string (bf t),.int .i64 D,.int .i64 (Y:Int),.slice (some ⟨kb,N,none⟩) n c]) (by simp[results,Tryz.results71,go_sem, *]) rfl ⟨rfl,(((((aT P.out _).setCell (aab _) _).setCell (aab _) _).setCell (aab _) _).setCell (aab _) _).setCell (aab _) _⟩
def bD(E:PE)(w:World)(v:PV)(r:ae×PS)(e:Ending)(w':World):Prop:=
 ∃k t a z A n c,e= .returned (.agg #[.int .i64 k,.string t,.int .i64 a,.int .i64 z,.slice A n c])/\aC w' (fun g=>w.heap.size<=g) r.1 [.int .i64 k,.string t,.int .i64 a,.int .i64 z,.slice A n c]/\Ae E w v r.2 w'
theorem PM.blk{E:PE}{w w':World}{v D:PV}(C:PM E w v w' D)(h:PW w E v){g:Nat}{A:Array Value}(B:aj w g 24 A):aj w' g 24 A:=
 B.keep (C.dX (P:=fun _=>True) h g A trivial B)
theorem aj.five{w:World}{g:Nat}{A:TypeId}{a b c d e:Value}(h:aj w g A #[a,b,c,d,e]):
 (w.cell? ⟨g,0,none⟩=some a/\w.cell? ⟨g,1,none⟩=some b/\w.cell? ⟨g,2,none⟩=some c/\w.cell? ⟨g,3,none⟩=some d/\w.cell? ⟨g,4,none⟩=some e) /\
 (w.frozen? ⟨g,0,none⟩=false/\w.frozen? ⟨g,1,none⟩=false/\w.frozen? ⟨g,2,none⟩=false/\w.frozen? ⟨g,3,none⟩=false/\w.frozen? ⟨g,4,none⟩=false):=
 ⟨⟨h.cell 0,h.cell 1,h.cell 2,h.cell 3,h.cell 4⟩,h.frozen 0,h.frozen 1,h.frozen 2,h.frozen 3,h.frozen 4⟩
def fw(w:World)(g:Nat)(a b c d e:Value):World:=((((w.setCell ⟨g,0,none⟩ a).setCell ⟨g,1,none⟩ b).setCell ⟨g,2,none⟩ c).setCell ⟨g,3,none⟩ d).setCell ⟨g,4,none⟩ e
theorem bJ{E:PE}{w B:World}{v G:PV}{t:ae}{L:PS}{k a z:Int}{x:ByteArray}{A:Option Addr}{n c:Nat}{M:Array Value}(C:PW B E G)(K:PM E w v B G)(I:G.st=L)(J:aj B w.heap.size 24 M)(P:E.gp<w.heap.size)
 (N:aC B (fun g=>w.heap.size+1<=g) t [.int .i64 k,.string x,.int .i64 a,.int .i64 z,.slice A n c]):
 bD E w v (t,L) (.returned (.agg #[.int .i64 k,.string x,.int .i64 a,.int .i64 z,.slice A n c])) (fw B w.heap.size (.int .i64 k) (.string x) (.int .i64 a) (.int .i64 z) (.slice A n c)):=by
 have F:aF (fun g=>g=w.heap.size) B (fw B w.heap.size (.int .i64 k) (.string x) (.int .i64 a) (.int .i64 z) (.slice A n c)):=by
  unfold fw;exact(((((aF.refl (fun g=>g=w.heap.size) B).setCell (.inl rfl) _).setCell (.inl rfl) _).setCell (.inl rfl) _).setCell (.inl rfl) _).setCell (.inl rfl) _
 have Q:bZ (fun g=>w.heap.size+1<=g) B (fw B w.heap.size (.int .i64 k) (.string x) (.int .i64 a) (.int .i64 z) (.slice A n c)):=fun g _ R O=>F.block g (aae.1 O).1 (by omega)
 refine⟨k,x,a,z,A,n,c,rfl,aC.weak (fun g _ D=>by omega) _ _ (aC.keeps Q _ _ N),G,I,⟨C.blk.since F (by omega),C.own.since F (fun g D H=>C.own.cB J (by decide) (by rw[D,H])),C.toks.since F (fun g D H=>C.toks.cB J (by decide) (by rw[D,H])),C.at_,C.good,C.last⟩,K.since.step F (fun g D=>.inr (by omega)),K.fresh⟩
theorem iK(E:PE)(B:E.Ok)(v:PV)(w:World)(A:PW w E v)(first:Nat)(kind:Int)(t:bB)(lo:Nat):
 Calls Tryz.prog 71 #[.pointer (some ⟨E.gp,0,none⟩),.int .i64 (first:Int),.int .i64 kind,.string (bf t),.slice none 0 0] w fun e w'=>e= .returned (.agg #[.int .i64 kind,.string (bf t),.int .i64 (bP E.l v.st first []),.int .i64 (v.st.last:Int),.slice none 0 0])/\Below w.heap.size w w'/\aC w' (fun g=>lo<=g) (aI E.l v.st first kind t []) [.int .i64 kind,.string (bf t),.int .i64 (bP E.l v.st first []),.int .i64 (v.st.last:Int),.slice none 0 0]:=by
 refine(Kt E B v w A first kind t lo none 0 0 [] (bY.nil w lo)).mono ?_;rintro e w' ⟨rfl,C⟩;exact⟨rfl,C,(bY.nil w' lo).node _ _ _ _⟩
theorem Og{E:PE}(B:E.Ok)(k:Nat):(bf (bK E.bs E.l k)).size<=4096:=by
 have A:(bf (bK E.bs E.l k)).size=(bK E.bs E.l k).length:=by simp[bf,ByteArray.size]
 have C:=B.size;have D:E.bs.length=E.s.size:=by unfold PE.bs;simp
 rw[A];unfold bK Cq uD;simp only[List.length_take,List.length_drop];omega
theorem typ_any(E:PE)(D:E.Ok)(v:PV)(w:World)(hpw:PW w E v):Calls Tryz.prog 182 #[.pointer (some ⟨E.gp,0,none⟩)] w (bD E w v (uC E.bs E.l v.st)):=by
 have M:=hpw.blk.lt;have hk2:w.cell? ⟨E.gp,2,none⟩=some (.int .i64 (v.st.k:Int)):=hpw.blk.cell 2;go_in
 go_wp2_with fail
 generalize d:w.alloc (.cells #[.int .i64 0,.string ⟨#[]⟩,.int .i64 0,.int .i64 0,.slice none 0 0] 24)=W1
 have hb1:Below w.heap.size w W1:=by rw[<- d];exact ag _ _
 have iE:aj W1 w.heap.size 24 #[.int .i64 0,.string ⟨#[]⟩,.int .i64 0,.int .i64 0,.slice none 0 0]:=by rw[<- d];exact aj.new w _ _
 have hs1:W1.heap.size=w.heap.size+1:=by rw[<- d];simp
 have hm1:=PM.of_below (E:=E) (v:=v) hb1;have h1:=hpw.below hb1;have P1:=hm1;have pR:=kH hs1;have jK:=kH hm1;clear d hs1 hm1 hb1;by_cases CJ:bF E.bs E.l v.st [98,111,111,108]=true
 ·have S:Hid (uC E.bs E.l v.st=(aI E.l (aB E.l v.st) v.st.k 9 [98,111,111,108] [],aB E.l v.st)):=kH (by unfold uC;rw[if_pos CJ])
  have Er:Hid (bI E.bs E.l v.st [98,111,111,108]=aB E.l v.st):=kH (by unfold bI;rw[if_pos CJ]);have Nw:=kH CJ;clear CJ;refine(gm E D v [98,111,111,108] _ h1).mono ?_;rintro e w2 ⟨rfl,R,X,h2,K⟩;rw[Nw.out];have fU:=kH X;have V:=K.blk h1 iE;have P2:=P1.trans K;clear X K;rw[Er.out]at fU;go_wp2_with fail
  refine(iK E D R _ h2 v.st.k 9 [98,111,111,108] (w.heap.size+1)).mono ?_;rintro e w3 ⟨rfl,hb3,jN⟩;have j:=h2.below hb3;have m:=V.below hb3 V.lt;obtain⟨⟨z,y,u,t,q⟩,g0,g1,g2,g3,g4⟩:=m.five;go_wp2_with fail
  have T:=kH (bJ (v:=v) j (P2.trans (PM.of_below hb3)) rfl m M jN);clear jN;refine bodyPost_ret (v:=.agg #[.int .i64 9,.string (bf [98,111,111,108]),.int .i64 (bP E.l R.st v.st.k []),.int .i64 (R.st.last:Int),.slice none 0 0]) (by simp[results,Tryz.results182,go_sem,z,y,u,t,q]) rfl ?_;exact Eq.mp (congrArg (fun r=>bD E w v r _ _) (show(aI E.l R.st v.st.k 9 [98,111,111,108] [],R.st)=_ by rw[fU.out,S.out])) T.out
 have hb0:bF E.bs E.l v.st [98,111,111,108]=false:=by simpa using CJ
 have Er:Hid (bI E.bs E.l v.st [98,111,111,108]=v.st):=kH (by unfold bI;rw[if_neg CJ]);have Nw:=kH hb0;have lV:=kH CJ;clear CJ hb0;refine(gm E D v [98,111,111,108] _ h1).mono ?_;rintro e w2 ⟨rfl,R,X,h2,K⟩;rw[Nw.out];have fU:=kH X;have V:=K.blk h1 iE;have P2:=P1.trans K;clear X K;rw[Er.out]at fU;go_wp2_with fail
 by_cases B:bF E.bs E.l v.st [105,110,116]=true
 ·have qD:Hid (bF E.bs E.l R.st [105,110,116]=true):=kH (by rw[fU.out];exact B)
  have HAI:Hid (bI E.bs E.l R.st [105,110,116]=aB E.l v.st):=kH (by rw[fU.out];unfold bI;rw[if_pos B]);refine(gm E D R [105,110,116] _ h2).mono ?_;rintro e w3 ⟨rfl,N,Y,j,eB⟩;rw[qD.out];have P:=kH Y;have m:=eB.blk h2 V;have P3:=P2.trans eB;clear Y eB;rw[HAI.out]at P;have Oa:=kH B;clear B;go_wp2_with fail
  by_cases H:bF E.bs E.l (aB E.l v.st) [91]=true
  ·have qE:Hid (bF E.bs E.l N.st [91]=true):=kH (by rw[P.out];exact H)
   have FW:Hid (bI E.bs E.l N.st [91]=aB E.l (aB E.l v.st)):=kH (by rw[P.out];unfold bI;rw[if_pos H]);refine(gm E D N [91] _ j).mono ?_;rintro e w4 ⟨rfl,O,Z,Q,iD⟩;rw[qE.out];have c:=kH Z;have U:=iD.blk j m;have P4:=P3.trans iD;clear Z iD;rw[FW.out]at c;have YL:=kH H;clear H;go_wp2_with fail
   have G:=qb E D O _ Q;rw[c.out]at G;obtain⟨k,hk⟩:∃x,bM E.l (aB E.l (aB E.l v.st))=x:=⟨_,rfl⟩
   rw[hk]at G;have HK:=kH hk;have qX:=kH G;clear hk G;by_cases X9:k=2
   ·subst X9
    refine qX.out.mono ?_;rintro e w5 ⟨rfl,C⟩;have h5:=Q.below C;have eZ:=U.below C U.lt;have P5:=P4.trans (PM.of_below C);go_wp2_with fail
    refine(rf E D O _ h5 (by rw[c.out,HK.out];decide)).mono ?_;rintro e w6 ⟨rfl,L,I⟩;have f:=I.blk h5 eZ;have g:=P5.trans I;obtain⟨F,A⟩:∃F:PV,(⟨aB E.l O.st,O.lv⟩:PV)=F:=⟨_,rfl⟩
    rw[A]at L g;have b:Hid (F.st=aB E.l (aB E.l (aB E.l v.st))):=kH (by rw[<- A,c.out]);clear A I;go_wp2_with fail
    refine(M3 (bf (bK E.bs E.l O.st.k)) _ (Og D _)).mono ?_;rintro e w7 ⟨rfl,rfl⟩;have hdt:bf (gH (bf (bK E.bs E.l O.st.k)).data.toList)=bf (gH (bK E.bs E.l (aB E.l (aB E.l v.st)).k)):=by rw[c.out];rfl
    rw[hdt];clear hdt;go_wp2_with fail
    refine(kM E D F [93] _ L).mono ?_;rintro e w8 ⟨rfl,n,ed,h8,dY⟩;have gQ:=kH ed;have eF:=dY.blk L f;have P8:=g.trans dY;clear ed dY;rw[b.out]at gQ;go_wp2_with fail
    have S:Hid (uC E.bs E.l v.st=(aI E.l (aL E.bs E.l (aB E.l (aB E.l (aB E.l v.st))) [93]) v.st.k 10 (gH (bK E.bs E.l (aB E.l (aB E.l v.st)).k)) [],aL E.bs E.l (aB E.l (aB E.l (aB E.l v.st))) [93])):=kH (by
     unfold uC;rw[if_neg lV.out,if_pos Oa.out];simp only;rw[if_pos YL.out]
     rw[HK.out,if_pos rfl,if_pos rfl])
    refine(iK E D n _ h8 v.st.k 10 (gH (bK E.bs E.l (aB E.l (aB E.l v.st)).k)) (w.heap.size+1)).mono ?_;rintro e w9 ⟨rfl,eP,nE⟩;have h9:=h8.below eP;have eU:=eF.below eP eF.lt;obtain⟨⟨z,y,u,t,q⟩,g0,g1,g2,g3,g4⟩:=eU.five;go_wp2_with fail
    have T:=kH (bJ (v:=v) h9 (P8.trans (PM.of_below eP)) rfl eU M nE);clear nE;refine bodyPost_ret (v:=.agg #[.int .i64 10,.string (bf (gH (bK E.bs E.l (aB E.l (aB E.l v.st)).k))),.int .i64 (bP E.l n.st v.st.k []),.int .i64 (n.st.last:Int),.slice none 0 0]) (by simp[results,Tryz.results182,go_sem,z,y,u,t,q]) rfl ?_;exact Eq.mp (congrArg (fun r=>bD E w v r _ _) (show(aI E.l n.st v.st.k 10 (gH (bK E.bs E.l (aB E.l (aB E.l v.st)).k)) [],n.st)=_ by rw[gQ.out,S.out])) T.out
   ·have hki:((k:Int)==2)=false:=by simp;omega
    have hkn:(k==2)=false:=by simp[X9]
    refine qX.out.mono ?_;rintro e w5 ⟨rfl,C⟩;have h5:=Q.below C;have eZ:=U.below C U.lt;have P5:=P4.trans (PM.of_below C);go_wp2_with fail
    refine(tu E D O 4 [110,117,109,98,101,114] _ h5).mono ?_;rintro e w6 ⟨⟨u6,rfl⟩,F,A,L,I⟩;have b:=kH A;rw[c.out]at b;have f:=I.blk h5 eZ;have g:=P5.trans I;clear A I;go_wp2_with fail
    refine(kM E D F [93] _ L).mono ?_;rintro e w8 ⟨rfl,n,ed,h8,dY⟩;have gQ:=kH ed;have eF:=dY.blk L f;have P8:=g.trans dY;clear ed dY;rw[b.out]at gQ;go_wp2_with fail
    have S:Hid (uC E.bs E.l v.st=(aI E.l (aL E.bs E.l (iI E.l (aB E.l (aB E.l v.st)) 4 [110,117,109,98,101,114]) [93]) v.st.k 10 [] [],aL E.bs E.l (iI E.l (aB E.l (aB E.l v.st)) 4 [110,117,109,98,101,114]) [93])):=kH (by
     unfold uC;rw[if_neg lV.out,if_pos Oa.out];simp only;rw[if_pos YL.out]
     rw[HK.out,if_neg X9,if_neg X9])
    refine(iK E D n _ h8 v.st.k 10 [] (w.heap.size+1)).mono ?_;rintro e w9 ⟨rfl,eP,nE⟩;have h9:=h8.below eP;have eU:=eF.below eP eF.lt;obtain⟨⟨z,y,u,t,q⟩,g0,g1,g2,g3,g4⟩:=eU.five;go_wp2_with fail
    have T:=kH (bJ (v:=v) h9 (P8.trans (PM.of_below eP)) rfl eU M nE);clear nE;refine bodyPost_ret (v:=.agg #[.int .i64 10,.string (bf []),.int .i64 (bP E.l n.st v.st.k []),.int .i64 (n.st.last:Int),.slice none 0 0]) (by simp[results,Tryz.results182,go_sem,z,y,u,t,q]) rfl ?_;exact Eq.mp (congrArg (fun r=>bD E w v r _ _) (show(aI E.l n.st v.st.k 10 [] [],n.st)=_ by rw[gQ.out,S.out])) T.out
  ·have hbr0:bF E.bs E.l (aB E.l v.st) [91]=false:=by simpa using H
   have qE:Hid (bF E.bs E.l N.st [91]=false):=kH (by rw[P.out];exact hbr0);have FW:Hid (bI E.bs E.l N.st [91]=aB E.l v.st):=kH (by rw[P.out];unfold bI;rw[if_neg H]);have YL:=kH H;clear H hbr0;refine(gm E D N [91] _ j).mono ?_;rintro e w4 ⟨rfl,O,Z,Q,iD⟩;rw[qE.out];have c:=kH Z;have U:=iD.blk j m;have P4:=P3.trans iD;clear Z iD;rw[FW.out]at c;go_wp2_with fail
   have S:Hid (uC E.bs E.l v.st=(aI E.l (aB E.l v.st) v.st.k 9 [105,110,116] [],aB E.l v.st)):=kH (by
    unfold uC;rw[if_neg lV.out,if_pos Oa.out];simp only
    rw[if_neg YL.out])
   refine(iK E D O _ Q v.st.k 9 [105,110,116] (w.heap.size+1)).mono ?_;rintro e w5 ⟨rfl,C,jU⟩;have h5:=Q.below C;have eZ:=U.below C U.lt;obtain⟨⟨z,y,u,t,q⟩,g0,g1,g2,g3,g4⟩:=eZ.five;go_wp2_with fail
   have T:=kH (bJ (v:=v) h5 (P4.trans (PM.of_below C)) rfl eZ M jU);clear jU;refine bodyPost_ret (v:=.agg #[.int .i64 9,.string (bf [105,110,116]),.int .i64 (bP E.l O.st v.st.k []),.int .i64 (O.st.last:Int),.slice none 0 0]) (by simp[results,Tryz.results182,go_sem,z,y,u,t,q]) rfl ?_;exact Eq.mp (congrArg (fun r=>bD E w v r _ _) (show(aI E.l O.st v.st.k 9 [105,110,116] [],O.st)=_ by rw[c.out,S.out])) T.out
 ·have W:bF E.bs E.l v.st [105,110,116]=false:=by simpa using B
  have qD:Hid (bF E.bs E.l R.st [105,110,116]=false):=kH (by rw[fU.out];exact W);have HAI:Hid (bI E.bs E.l R.st [105,110,116]=v.st):=kH (by rw[fU.out];unfold bI;rw[if_neg B]);have Oa:=kH B;clear B W;refine(gm E D R [105,110,116] _ h2).mono ?_;rintro e w3 ⟨rfl,N,Y,j,eB⟩;rw[qD.out];have P:=kH Y;have m:=eB.blk h2 V;have P3:=P2.trans eB;clear Y eB;rw[HAI.out]at P;go_wp2_with fail
  have G:=qb E D N _ j;rw[P.out]at G;obtain⟨k,hk⟩:∃x,bM E.l v.st=x:=⟨_,rfl⟩
  rw[hk]at G;have HK:=kH hk;have qX:=kH G;clear hk G;by_cases hk0:k=0
  ·subst hk0
   refine qX.out.mono ?_;rintro e w4 ⟨rfl,J⟩;have Q:=j.below J;have U:=m.below J m.lt;have P4:=P3.trans (PM.of_below J);go_wp2_with fail
   refine(rf E D N _ Q (by rw[P.out,HK.out];decide)).mono ?_;rintro e w6 ⟨rfl,L,I⟩;have f:=I.blk Q U;have g:=P4.trans I;obtain⟨F,A⟩:∃F:PV,(⟨aB E.l N.st,N.lv⟩:PV)=F:=⟨_,rfl⟩
   rw[A]at L g;have b:Hid (F.st=aB E.l v.st):=kH (by rw[<- A,P.out]);have hwd:bK E.bs E.l N.st.k=bK E.bs E.l v.st.k:=by rw[P.out]
   rw[hwd];clear A I hwd;go_wp2_with fail
   have S:Hid (uC E.bs E.l v.st=(aI E.l (aB E.l v.st) v.st.k 9 (bK E.bs E.l v.st.k) [],aB E.l v.st)):=kH (by
    unfold uC
    rw[if_neg lV.out,if_neg Oa.out,if_pos HK.out])
   refine(iK E D F _ L v.st.k 9 (bK E.bs E.l v.st.k) (w.heap.size+1)).mono ?_;rintro e w7 ⟨rfl,dF,lQ⟩;have h7:=L.below dF;have fD:=f.below dF f.lt;obtain⟨⟨z,y,u,t,q⟩,g0,g1,g2,g3,g4⟩:=fD.five;go_wp2_with fail
   have T:=kH (bJ (v:=v) h7 (g.trans (PM.of_below dF)) rfl fD M lQ);clear lQ;refine bodyPost_ret (v:=.agg #[.int .i64 9,.string (bf (bK E.bs E.l v.st.k)),.int .i64 (bP E.l F.st v.st.k []),.int .i64 (F.st.last:Int),.slice none 0 0]) (by simp[results,Tryz.results182,go_sem,z,y,u,t,q]) rfl ?_;exact Eq.mp (congrArg (fun r=>bD E w v r _ _) (show(aI E.l F.st v.st.k 9 (bK E.bs E.l v.st.k) [],F.st)=_ by rw[b.out,S.out])) T.out
  ·have hki:((k:Int)==0)=false:=by simp;omega
   have hkn:(k==0)=false:=by simp[hk0]
   refine qX.out.mono ?_;rintro e w4 ⟨rfl,J⟩;have Q:=j.below J;have U:=m.below J m.lt;have P4:=P3.trans (PM.of_below J);go_wp2_with fail
   refine(tu E D N 4 [116,121,112,101] _ Q).mono ?_;rintro e w6 ⟨⟨u6,rfl⟩,F,A,L,I⟩;have b:=kH A;rw[P.out]at b;have f:=I.blk Q U;have g:=P4.trans I;clear A I;go_wp2_with fail
   have S:Hid (uC E.bs E.l v.st=(aI E.l (iI E.l v.st 4 [116,121,112,101]) v.st.k 1 [] [],iI E.l v.st 4 [116,121,112,101])):=kH (by
    unfold uC
    rw[if_neg lV.out,if_neg Oa.out,if_neg (by rw[HK.out];exact hk0)])
   refine(iK E D F _ L v.st.k 1 [] (w.heap.size+1)).mono ?_;rintro e w7 ⟨rfl,dF,lQ⟩;have h7:=L.below dF;have fD:=f.below dF f.lt;obtain⟨⟨z,y,u,t,q⟩,g0,g1,g2,g3,g4⟩:=fD.five;go_wp2_with fail
   have T:=kH (bJ (v:=v) h7 (g.trans (PM.of_below dF)) rfl fD M lQ);clear lQ;refine bodyPost_ret (v:=.agg #[.int .i64 1,.string (bf []),.int .i64 (bP E.l F.st v.st.k []),.int .i64 (F.st.last:Int),.slice none 0 0]) (by simp[results,Tryz.results182,go_sem,z,y,u,t,q]) rfl ?_;exact Eq.mp (congrArg (fun r=>bD E w v r _ _) (show(aI E.l F.st v.st.k 1 [] [],F.st)=_ by rw[b.out,S.out])) T.out
end Go.Proofs.YtoepemlnlpamlaaGreat
