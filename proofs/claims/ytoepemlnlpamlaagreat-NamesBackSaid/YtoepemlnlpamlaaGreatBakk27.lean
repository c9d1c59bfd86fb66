/- The law NamesBack holds for every text and every number: it returns true, and its arguments read as before. No condition. Part 27: Vis3 VisW VisH VisA0 VisA1. -/
import Derived.Test.YtoepemlnlpamlaaGreatBakk26
set_option maxRecDepth 100000
set_option maxHeartbeats 4000000
namespace Go.Proofs.YtoepemlnlpamlaaGreat
open Go.RowKit
theorem bne_dec(a b:Int):(a !=b)=decide (a≠b):=by by_cases h:a=b<;>simp[h]
theorem Og(E:RC)(G:aW)(B:Nat)(hB:B<=E.base)(x:ByteArray)(a e:Int)(kids:List aa)(hih:∀k∈kids,fI E G B k):fI E G B (.node 3 x a e kids):=by
 intro i s p ms r V w A c h hs hsep hk hcap hbase hv hrb;obtain⟨nk,hnk⟩:∃q,kids.length=q:=⟨_,rfl⟩
 have hvk:lT s.isEmpty kids=true:=by
  rw[pY,if_neg (by decide),if_neg (by decide),if_neg (by decide)]at hv;exact hv
 have hq:aF G i (.node 3 x a e kids) s r=ae G i kids 0 kids.length s { aQ (aC r i (aj (ak s))) 0 r.next (.node 3 x a e kids) (decide ((aN G.globals x).getD 0≠(r.next:Int))) with owner:=(r.next:Int) }:=by rw[bY,if_pos rfl]
 rw[hq,hnk];obtain⟨Q,hQ⟩:∃Q,ae G i kids 0 nk s { aQ (aC r i (aj (ak s))) 0 r.next (.node 3 x a e kids) (decide ((aN G.globals x).getD 0≠(r.next:Int))) with owner:=(r.next:Int) }=Q:=⟨_,rfl⟩
 rw[hQ];have HQ:=kH hQ;clear hq hQ;unfold aX;have rT:(aa.node 3 x a e kids).kind=3/\(aa.node 3 x a e kids).text=x/\(aa.node 3 x a e kids).at_=a/\(aa.node 3 x a e kids).end_=e/\(aa.node 3 x a e kids).kids=kids:=⟨rfl,rfl,rfl,rfl,rfl⟩
 rw[rT.1,rT.2.1,rT.2.2.1,rT.2.2.2.1,rT.2.2.2.2,hnk];rw[rT.2.2.2.2]at hk hcap;rw[hnk]at hcap;obtain⟨nx,hnx⟩:∃q,r.next=q:=⟨_,rfl⟩
 have hnb:nx<=1000000:=by have:=hrb.room;have:=hrb.most;omega
 have qV:w.cell? ⟨E.rp,7,none⟩=some (.int .i64 (nx:Int)):=by rw[<- hnx];exact h.blk.cell 7
 have hrw:=h.blk.lt;have hwn:IntKind.i64.wrap ((nx:Int)+1)=(nx:Int)+1:=IntWalk.i64_in _ (by omega);have hfx:=h.blk.frozen 7;have H:=kH h;have HS:=kH hs;have HK:=kH hk;have dI:=kH hrb;have bD:=kH hnx;have fQ:=kH hnk;have kX:=kH hvk;have eH:=kH hih;have HCAP:=kH hcap;have dJ:=kH hbase;clear h hs hk hrb hnx hnk hvk hih hv rT hcap hbase;go_enter Tryz.func79,Tryz.ntmps79
 go_upto_if 32 with fail
 generalize hW3:(((w.setCell ⟨E.rp,7,none⟩ (.int .i64 ((nx:Int)+1))).alloc (.cells #[.pointer (some ⟨E.rp,0,none⟩)] 68)).alloc (.cells #[.int .i64 3,.string x,.int .i64 a,.int .i64 e,.slice A nk c] 24))=W3
 obtain⟨hr3,hk3⟩:=H.out.Sl (nx+1) (fun _=>False)
 have hbW:Below w.heap.size (w.setCell ⟨E.rp,7,none⟩ (.int .i64 ((nx:Int)+1))) W3:=by
  rw[<- hW3];have h1:=af (w.setCell ⟨E.rp,7,none⟩ (.int .i64 ((nx:Int)+1))) (.cells #[.pointer (some ⟨E.rp,0,none⟩)] 68);have h2:=af ((w.setCell ⟨E.rp,7,none⟩ (.int .i64 ((nx:Int)+1))).alloc (.cells #[.pointer (some ⟨E.rp,0,none⟩)] 68)) (.cells #[.int .i64 3,.string x,.int .i64 a,.int .i64 e,.slice A nk c] 24);have h3:=h1.trans (h2.mono (by simp));simpa using h3
 have hsz3:W3.heap.size=w.heap.size+2:=by rw[<- hW3];simp
 have zQ:ai W3 (w.heap.size+1) 24 #[.int .i64 3,.string x,.int .i64 a,.int .i64 e,.slice A nk c]:=by
  have:=ai.new ((w.setCell ⟨E.rp,7,none⟩ (.int .i64 ((nx:Int)+1))).alloc (.cells #[.pointer (some ⟨E.rp,0,none⟩)] 68)) 24 #[.int .i64 3,.string x,.int .i64 a,.int .i64 e,.slice A nk c];rw[hW3]at this;simpa using this
 have hp3:ai W3 w.heap.size 68 #[.pointer (some ⟨E.rp,0,none⟩)]:=by
  have:=(ai.new (w.setCell ⟨E.rp,7,none⟩ (.int .i64 ((nx:Int)+1))) 68 #[.pointer (some ⟨E.rp,0,none⟩)]).alloc (.cells #[.int .i64 3,.string x,.int .i64 a,.int .i64 e,.slice A nk c] 24);rw[hW3]at this;simpa using this
 have HR3:Hid (aS E G { r with next:=nx+1 } V W3):=kH (hr3.below (by simpa using hbW));have fZ:Hid (KX E (fun _=>False) w W3):=kH (hk3.trans (KX.of_below (M:=fun _=>False) (by simpa using hbW)) (fun g hg=>.inl hg));have iF:Hid (bK W3 E.base p s ms):=kH (bK.kx fZ.out H.out.nX HS.out (fun _ _ h=>h));have mi:=kH zQ;have iA:=kH hp3;have HSZ3:=kH hsz3;have c5:W3.cell? ⟨E.rp,5,none⟩=some (.map (some E.vi)):=HR3.out.blk.cell 5;have p0:=hp3.cell 0;have qw:=HR3.out.blk.lt;have qQ:=hp3.lt;clear hW3 hr3 hk3 hbW zQ hp3 hsz3 qV hfx;go_cut [] (fun wx=> ∃Vx,Hid (aS E G (aC r i (aj (ak s))) Vx wx)/\Hid (KX E (fun g=>g=E.vi) W3 wx))
 case first=>
  cases i with
  | false=>
   go_wp2_with fail
   go_meet
   exact⟨V,by have:=HR3.out;rw[<- bD.out]at this;exact kH this,kH (KX.refl _ _ _)⟩
  | true=>
   have hbz:E.base<=W3.heap.size:=aaE dJ.out fZ.out.size;have hall:=Tq E.base s p ms W3.drew (bK.below ((Below.refl _ W3).drew) iF.out) (by have:=dI.out.VP;have:=bD.out;omega);have iB:=kH hall
   have nH:∀w':World,az (fun g=>g=E.vi) W3 w'->w'.cell? ⟨E.rp,5,none⟩=some (.map (some E.vi))/\w'.cell? ⟨w.heap.size,0,none⟩=some (.pointer (some ⟨E.rp,0,none⟩)):=fun w' hw=>by
    have nm:∀{g:Nat}{t:TypeId}{cs:Array Value},ai W3 g t cs->g≠E.vi:=fun hb e=>by
     obtain⟨es,ck,ho⟩:=HR3.out.vi.isMap;subst e;have:W3.heap[_]? =some (Obj.cells _ _ (0,0)):=hb;rw[ho]at this;cases this
    exact⟨(HR3.out.blk.since hw (nm HR3.out.blk)).cell 5,(iA.out.since hw (nm iA.out)).cell 0⟩
   have eY:=kH nH;have hs0:az (fun g=>g=E.vi) W3 W3.drew:=(az.refl _ W3).drew
   have kP:(nx:Int) ∉ r.bQ.map (·.1):=fun hm=>by
    obtain⟨y,hy,he⟩:=List.mem_map.1 hm;have:=dI.out.bQ y hy;have:=bD.out;omega
   have HVN:=kH kP;clear hall nH kP;go_wp2_with fail
   go_region_held3 (fun w'=>w'.cell? ⟨E.rp,5,none⟩=some (.map (some E.vi))/\w'.cell? ⟨w.heap.size,0,none⟩=some (.pointer (some ⟨E.rp,0,none⟩))) (exact eY.out _ (by assumption)) ((go_at_call 145;refine iB.out.mono ?_;rintro e5 w5 ⟨v5,rfl,jR,hb5⟩;have hs5:=hs0.below hb5;obtain⟨w6,hrun,gu,Qd,hz6⟩:=fe (P:=Tryz.prog) (KK:=kF) (t:=72) (kt:=3) (et:=28) Tryz.underlying72 Tryz.underlying3 ((aZ.drew HR3.out.vi).G6 hb5) (nx:Int) v5;change (Instr.mapUpdate 72 (.map (some E.vi)) (Value.int .i64 (nx:Int)) v5).run Tryz.prog w5=_ at hrun;have hs6:az (fun g=>g=E.vi) w5 w6:=(az.refl (fun g=>g=E.vi) w5).grown Qd (fun k hk=>by cases hk;exact .inl rfl);have hs7:=hs5.trans hs6))
   have hlen:(aj (ak s)).length=(ak s).length:=List.length_mergeSort _;have wG:Below W3.heap.size W3 w5:=((Below.refl _ W3).drew).trans hb5;have Ki:=HR3.out.Sz hbz wG (nx:Int) (aj (ak s)) v5 (by rw[hlen];exact jR) HVN.out (fun g=>g=E.vi) rfl gu hs6;have HNOTE:=kH Ki;clear Ki hs5 hs6 hs7 hz6 gu wG hb5 jR hs0 hrun Qd;go_wp2_with fail
   go_meet
   exact⟨_,by have:=HNOTE.out.1;rw[<- bD.out]at this;exact kH this,kH HNOTE.out.2⟩
 case rest=>
  obtain⟨Vx,gF,mq⟩:=hcut;have hnx:(aC r i (aj (ak s))).next=nx+1:=by rw[<- bD.out];rfl
  have Li:Hid (KX E (fun g=>g=E.vi) w wc):=kH ((fZ.out.mono (fun _ hf=>hf.elim)).trans mq.out (fun g hg=>.inl hg));have Ah:Hid (bK wc E.base p s ms):=kH (bK.kx mq.out HR3.out.nX iF.out (fun m hm e=>(hsep.apart m hm).2.2.2 e));have M3:=HR3.out.xG mq.out mi.out;have hpX:=HR3.out.Ey mq.out iA.out;have hlk:=fun q=>pg (wc.drewN q) E.g G.globals (aZ.drewN gF.out.gl q) x
  obtain⟨gi,hgi⟩:∃q,(bJ G.globals x).getD 0=q:=⟨_,rfl⟩
  obtain⟨gb,hgb⟩:∃q,(bJ G.globals x).isSome=q:=⟨_,rfl⟩
  rw[hgi,hgb]at hlk;have c0:=gF.out.blk.cell 0;have lr:=gF.out.blk.lt;have q0:=hpX.cell 0;have lp:=hpX.lt;have n0:=M3.cell 0;have n1:=M3.cell 1;have n2:=M3.cell 2;have n3:=M3.cell 3;have n4:=M3.cell 4;have ln:=M3.lt;have HNXB:=kH M3;have HPXB:=kH hpX;have uF:=kH hgi;have yY:=kH hgb;clear M3 hpX hgi hgb c5 p0 qw qQ;have hsl:=dH.none_ r i (aj (ak s))
  have hdec:∀q al,Calls Tryz.prog 147 #[.pointer (some ⟨E.rp,0,none⟩),.int .i64 0,.int .i64 (nx:Int),.agg #[.int .i64 3,.string x,.int .i64 a,.int .i64 e,.slice A nk c],.bool al] (wc.drewN q) fun e' w'=>e'= .returned (.bool (!al))/\∃V',aS E G (aQ (aC r i (aj (ak s))) 0 nx (.node 3 x a e kids) al) V' w'/\KX E (fun _=>False) (wc.drewN q) w':=fun q al=>by
   have h1:=dI.out;have h2:=h1.room;have h3:=qA (.node 3 x a e kids);have:=zZ E G (aC r i (aj (ak s))) Vx (wc.drewN q) (gF.out.below (aY (Below.refl _ _) q)) (by show r.ds.length<=_;have:=h1.ds;have:=bD.out;omega) (by show r.aO.length<=_;have:=h1.aO;have:=bD.out;omega) (aaE dJ.out (KX.low Li.out dJ.out).size) 0 nx (by show nx<r.uses.length;have:=bD.out;omega) (.node 3 x a e kids) A c al (fun _=>False);rw[<- fQ.out];exact this
  have Rl:=kH hdec;clear hdec hsl;go_wp2_with fail
  go_quiet (fail)
  go_wp2_with fail
  refine(Rl.out _ _).mono ?_;rintro e8 w8 ⟨rfl,V8,h8,k8⟩;have Xf:KX E (fun _=>False) wc w8:=(KX.of_below (M:=fun _=>False) (aY (Below.refl wc.heap.size wc) _)).trans k8 (fun g hg=>hg.elim);have HS8:Hid (bK w8 E.base p s ms):=kH (bK.kx Xf gF.out.nX Ah.out (fun _ _ h=>h));have FD:=kH (gF.out.xG Xf HNXB.out);have HP8:=kH (gF.out.Ey Xf HPXB.out);have mH:Hid (KX E (fun g=>g=E.vi) w w8):=kH (Li.out.trans Xf (fun g hg=>hg.elim));have Bb:=kH h8;have q8:=HP8.out.cell 0;have zM:=HP8.out.lt;have o8:w8.cell? ⟨E.rp,8,none⟩=some (.int .i64 (aQ (aC r i (aj (ak s))) 0 nx (.node 3 x a e kids) (gi !=(nx:Int))).owner):=Bb.out.blk.cell 8;have l8:=Bb.out.blk.lt;have m0:=FD.out.cell 0;have m4:=FD.out.cell 4;have lm8:=FD.out.lt;have fo8:=Bb.out.blk.frozen 8;obtain⟨ow,how⟩:∃q,(aQ (aC r i (aj (ak s))) 0 nx (.node 3 x a e kids) (gi !=(nx:Int))).owner=q:=⟨_,rfl⟩
  rw[how]at o8;obtain⟨GR,rC⟩:=Bb.out.OA (nx:Int) (fun _=>False);obtain⟨W9,qz⟩:∃W9,w8.setCell ⟨E.rp,8,none⟩ (.int .i64 (nx:Int))=W9:=⟨_,rfl⟩
  rw[qz]at GR rC
  have Zf:qY r { aQ (aC r i (aj (ak s))) 0 nx (.node 3 x a e kids) (gi !=(nx:Int)) with owner:=(nx:Int) }:=by
   have:=dH.trans (dH.declare r i (aj (ak s)) 0 (.node 3 x a e kids) (gi !=(nx:Int))) (dH.owner _ (nx:Int));rw[bD.out]at this;exact this
  have hne9:({ aQ (aC r i (aj (ak s))) 0 nx (.node 3 x a e kids) (gi !=(nx:Int)) with owner:=(nx:Int) }:RS).next=nx+1:=by
   have:=rD r i (aj (ak s)) 0 (.node 3 x a e kids) (gi !=(nx:Int));rw[bD.out]at this;exact this
  have hrb9:RB { aQ (aC r i (aj (ak s))) 0 nx (.node 3 x a e kids) (gi !=(nx:Int)) with owner:=(nx:Int) } s (ag ((kids.drop 0).take nk)):=by
   refine dI.out.slow Zf (by have:=Zf.next;omega) ?_;rw[hne9,<- fQ.out];have:=bD.out;simp[ah];omega
  have hcall:=Pq E G B hB kids eH.out i s p ms _ V8 W9 3 x a e A nk c 0 nk nk (w.heap.size+1) w.heap.size fQ.out (by omega) GR (bK.kx rC Bb.out.nX HS8.out (fun _ _ h=>h)) hsep (aD.below (((KX.low mH.out dJ.out).trans (KX.low rC (aaE dJ.out (KX.low mH.out dJ.out).size))).mono hB) (aaD _) _ _ _ HK.out) HCAP.out (by omega) (aaE (aaE dJ.out (KX.low mH.out dJ.out).size) rC.size) (Bb.out.xG rC FD.out) (Bb.out.Ey rC HP8.out) kX.out hrb9
  have jT:ae G i kids 0 nk s { aQ (aC r i (aj (ak s))) 0 nx (.node 3 x a e kids) (gi !=(nx:Int)) with owner:=(nx:Int) }=Q:=by
   rw[<- HQ.out,bne_dec,<- uF.out,bD.out]
  rw[jT]at hcall;have m9:=(Bb.out.xG rC FD.out).cell 4;have lm9:=(Bb.out.xG rC FD.out).lt;have HC9:=kH hcall;have FE:=kH rC;clear hcall rC GR jT hrb9 hne9 Zf how Xf h8 k8;go_wp2_with (rw[qz])
  refine HC9.out.mono ?_;rintro e10 bf ⟨rfl,yA,h10,s10,k10⟩;have HE:Hid (∃V',aS E G Q.1 V' bf/\bK bf E.base p Q.2 ms/\KX E (fun g=>g=E.vi\/ms.head? =some g) w bf):=kH ⟨yA,h10,s10,((mH.out.mono (M':=fun g=>g=E.vi\/ms.head? =some g) (fun _ h=>.inl h)).trans FE.out (fun g hg=>hg.elim)).trans k10 (fun g hg=>.inl hg)⟩;clear h10 s10 k10 HC9 m9;go_wp2_with fail
  go_end0
  exact⟨rfl,HE.out⟩
structure NB where
 kids:List aa
 k:Int
 x:ByteArray
 a:Int
 z:Int
 A:Option Addr
 nk:Nat
 c:Nat
 bn:Nat
 br:Nat
structure VW (E:RC) (G:aW) (B:Nat) (N:NB) (w0:World) (M:Nat->Prop) (r:RS) (V:RV) (s:aK) (p:Option Addr) (ms:List Nat) (w:World):Prop where
 R:aS E G r V w
 S:bK w E.base p s ms
 N_:ai w N.bn 24 #[.int .i64 N.k,.string N.x,.int .i64 N.a,.int .i64 N.z,.slice N.A N.nk N.c]
 P:ai w N.br 68 #[.pointer (some ⟨E.rp,0,none⟩)]
 K:KX E M w0 w
 KD:aD w B N.A 0 N.kids
 base:E.base<=w.heap.size
 low:B<=E.base
section
variable {E:RC}{G:aW}{B:Nat}{N:NB}{w0 w w':World}{M M':Nat->Prop}{r r':RS}{V V':RV}{s s':aK}{p p':Option Addr}{ms ms':List Nat}
theorem VW.step(h:VW E G B N w0 M r V s p ms w)(hk:KX E M' w w')(hr:aS E G r' V' w')(hs:bK w' E.base p' s' ms')(hM:∀g,M' g->M g\/w0.heap.size<=g):VW E G B N w0 M r' V' s' p' ms' w' where
 R:=hr
 S:=hs
 N_:=h.R.xG hk h.N_
 P:=h.R.Ey hk h.P
 K:=h.K.trans hk hM
 KD:=aD.below ((KX.low hk h.base).mono h.low) (aaD _) _ _ _ h.KD
 base:=aaE h.base hk.size
 low:=h.low
theorem VW.NV(h:VW E G B N w0 M r V s p ms w)(hk:KX E M' w w')(hr:aS E G r' V' w')(hms:∀m∈ms,¬M' m)(hM:∀g,M' g->M g\/w0.heap.size<=g):VW E G B N w0 M r' V' s p ms w':=
 h.step hk hr (bK.kx hk h.R.nX h.S hms) hM
theorem VW.below(h:VW E G B N w0 M r V s p ms w)(hb:Below w.heap.size w w'):VW E G B N w0 M r V s p ms w':=
 h.step (KX.of_below (M:=fun _=>False) hb) (h.R.below hb) (h.S.below hb) (fun _ hf=>hf.elim)
theorem VW.drewN(h:VW E G B N w0 M r V s p ms w)(q:Nat):VW E G B N w0 M r V s p ms (w.drewN q):=h.below (aY (Below.refl _ _) q)
theorem VW.other(h:VW E G B N w0 M r V s p ms w)(hs:bK w E.base p' s' ms'):VW E G B N w0 M r V s' p' ms' w:=⟨h.R,hs,h.N_,h.P,h.K,h.KD,h.base,h.low⟩
theorem VW.cells(h:VW E G B N w0 M r V s p ms w):(w.cell? ⟨N.br,0,none⟩=some (.pointer (some ⟨E.rp,0,none⟩))/\N.br<w.heap.size)/\(w.cell? ⟨N.bn,0,none⟩=some (.int .i64 N.k)/\w.cell? ⟨N.bn,1,none⟩=some (.string N.x)/\w.cell? ⟨N.bn,2,none⟩=some (.int .i64 N.a)/\w.cell? ⟨N.bn,3,none⟩=some (.int .i64 N.z)/\w.cell? ⟨N.bn,4,none⟩=some (.slice N.A N.nk N.c)/\N.bn<w.heap.size) /\
 (w.cell? ⟨E.rp,0,none⟩=some (.map (some E.g))/\w.cell? ⟨E.rp,1,none⟩=some (.map (some E.f))/\w.cell? ⟨E.rp,2,none⟩=some (.map (some E.k))/\w.cell? ⟨E.rp,8,none⟩=some (.int .i64 r.owner)/\E.rp<w.heap.size):=
 ⟨⟨h.P.cell 0,h.P.lt⟩,⟨h.N_.cell 0,h.N_.cell 1,h.N_.cell 2,h.N_.cell 3,h.N_.cell 4,h.N_.lt⟩,⟨h.R.blk.cell 0,h.R.blk.cell 1,h.R.blk.cell 2,h.R.blk.cell 8,h.R.blk.lt⟩⟩
theorem VW.drew(h:VW E G B N w0 M r V s p ms w):VW E G B N w0 M r V s p ms w.drew:=h.below ((Below.refl _ _).drew)
theorem VW.kids(h:VW E G B N w0 M r V s p ms w)(hih:∀k∈N.kids,fI E G B k)(i:Bool)(f n Mv:Nat)(hto:Mv=f+n)(hnk:N.kids.length=N.nk)(hfn:f+n<=N.nk)(hcap:N.nk<=N.c)(hv:lT s.isEmpty N.kids=true)(hrb:RB r s (ag ((N.kids.drop f).take n)))(hsep:Cn E ms)
 (hM:∀g,(g=E.vi\/ms.head? =some g)->M g\/w0.heap.size<=g):
 Calls Tryz.prog 146 #[.int .i64 (f:Int),.int .i64 (Mv:Int),.pointer p,.bool i,.pointer (some ⟨N.bn,0,none⟩),.pointer (some ⟨N.br,0,none⟩)] w fun e w'=>e= .returned (.tuple #[])/\KX E (fun g=>g=E.vi\/ms.head? =some g) w w'/\∃V',VW E G B N w0 M (ae G i N.kids f n s r).1 V' (ae G i N.kids f n s r).2 p ms w':=
 (Pq E G B h.low N.kids hih i s p ms r V w N.k N.x N.a N.z N.A N.nk N.c f n Mv N.bn N.br hnk hto h.R h.S hsep h.KD hcap hfn h.base h.N_ h.P hv hrb).mono fun _ _ ⟨h1,V',h2,h3,h4⟩=>⟨h1,h4,V',h.step h4 h2 h3 hM⟩
theorem VW.Oj(h:VW E G B N w0 M r V s p ms w)(t:aa)(ht:t.kind=N.k/\t.text=N.x/\t.at_=N.a/\t.end_=N.z/\t.kids=N.kids)(hnk:N.kids.length=N.nk)(hP:r.aO.length<=1000000)(n:Nat)(hn:n<r.uses.length)(tq:Option Int)(y:Int)(hy:∀k,tq=some k->k=y):
 Calls Tryz.prog 149 #[.pointer (some ⟨E.rp,0,none⟩),.int .i64 (n:Int),.agg #[.int .i64 N.k,.string N.x,.int .i64 N.a,.int .i64 N.z,.slice N.A N.nk N.c],.int .i64 y,.bool tq.isSome] w fun e w'=>e= .returned (.tuple #[])/\∃V',VW E G B N w0 M (fC r n t tq) V' s p ms w':=by
 have:=use_any E G r V w h.R hP h.base n hn t N.A N.c tq y hy (fun _=>False);unfold aX at this;rw[ht.1,ht.2.1,ht.2.2.1,ht.2.2.2.1,ht.2.2.2.2,hnk]at this;exact this.mono fun _ _ ⟨h1,V',h2,h3⟩=>⟨h1,V',h.NV h3 h2 (fun _ _ hf=>hf) (fun _ hf=>hf.elim)⟩
theorem VW.QN(h:VW E G B N w0 M r V s p ms w)(t:aa)(ht:t.kind=N.k/\t.text=N.x/\t.at_=N.a/\t.end_=N.z/\t.kids=N.kids)(hnk:N.kids.length=N.nk)(hD:r.ds.length<=1000000)(hP:r.aO.length<=1000000)(kind:Int)(n:Nat)(hn:n<r.uses.length)(al:Bool):
 Calls Tryz.prog 147 #[.pointer (some ⟨E.rp,0,none⟩),.int .i64 kind,.int .i64 (n:Int),.agg #[.int .i64 N.k,.string N.x,.int .i64 N.a,.int .i64 N.z,.slice N.A N.nk N.c],.bool al] w fun e w'=>e= .returned (.bool (!al))/\∃V',VW E G B N w0 M (aQ r kind n t al) V' s p ms w':=by
 have:=zZ E G r V w h.R hD hP h.base kind n hn t N.A N.c al (fun _=>False);unfold aX at this;rw[ht.1,ht.2.1,ht.2.2.1,ht.2.2.2.1,ht.2.2.2.2,hnk]at this;exact this.mono fun _ _ ⟨h1,V',h2,h3⟩=>⟨h1,V',h.NV h3 h2 (fun _ _ hf=>hf) (fun _ hf=>hf.elim)⟩
theorem VW.nz(h:VW E G B N w0 M r V s p ms w)(t:aa)(ht:t.kind=N.k/\t.text=N.x/\t.at_=N.a/\t.end_=N.z/\t.kids=N.kids)(hnk:N.kids.length=N.nk)(hD:r.ds.length<=1000000)(hP:r.aO.length<=1000000)(kind:Int)(n:Nat)(hn:n<r.uses.length)
 (l:jr) (s2:aK) (m:Nat) (vY:List Nat) (hs2:bK w E.base p' (l::s2) (m::vY)) (hsep:Cn E (m::vY)) (hM:M m\/w0.heap.size<=m):
 Calls Tryz.prog 148 #[.pointer (some ⟨E.rp,0,none⟩),.int .i64 kind,.int .i64 (n:Int),.agg #[.int .i64 N.k,.string N.x,.int .i64 N.a,.int .i64 N.z,.slice N.A N.nk N.c],.pointer p'] w fun e w'=>e= .returned (.tuple #[])/\KX E (fun g=>g=m) w w'/\∃V',VW E G B N w0 M (aA G r kind n t (l::s2)).1 V' (aA G r kind n t (l::s2)).2 p' (m::vY) w':=by
 have:=NI E G r V w h.R hD hP h.base kind n hn t N.A N.c l s2 p' m vY hs2 hsep;unfold aX at this;rw[ht.1,ht.2.1,ht.2.2.1,ht.2.2.2.1,ht.2.2.2.2,hnk]at this;exact this.mono fun _ _ ⟨h1,V',h2,h3,h4⟩=>⟨h1,h4,V',h.step h4 h2 h3 (fun g hg=>by rw[hg];exact hM)⟩
theorem bK.tail{b m:Nat}(h:bK w E.base (some ⟨b,0,none⟩) s (m::ms))(hb:ai w b 95 #[.pointer p,.map (some m)]):bK w E.base p s.tail ms:=by
 cases s with
 | nil=>exact absurd h.2 (by simp)
 | cons l s=>
  obtain⟨b',m',p',ms',h1,h2,_,_,h5,_,h7⟩:=h;simp only[List.cons.injEq]at h2;obtain⟨rfl,rfl⟩:=h2;simp only[aaI,Addr.mk.injEq,and_true]at h1;subst h1;have e1:w.heap[b]? =some (Obj.cells _ _ (0,0)):=hb;have e2:w.heap[b]? =some (Obj.cells _ _ (0,0)):=h5;rw[e1]at e2;simp at e2;rw[e2];exact h7
theorem bK.head{b m:Nat}{l:jr}(h:bK w E.base (some ⟨b,0,none⟩) (l::s) (m::ms)):aZ jg w m (jF l)/\E.base<=b/\E.base<=m/\∃p,ai w b 95 #[.pointer p,.map (some m)]/\bK w E.base p s ms:=by
 obtain⟨b',m',p',ms',h1,h2,h3,h4,h5,h6,h7⟩:=h;simp only[List.cons.injEq]at h2;obtain⟨rfl,rfl⟩:=h2;simp only[aaI,Addr.mk.injEq,and_true]at h1;subst h1;exact⟨h6,h3,h4,p',h5,h7⟩
theorem VW.xC(h:VW E G B N w0 M r V s p ms w)(hk:KX E M' w w'){g:Nat}{cs:Array Value}(hb:ai w g 95 cs):ai w' g 95 cs:=
 hk.blk hb (by decide) (by decide) (by decide) (fun e=>h.R.nX g cs e hb)
theorem Cn.cons{m:Nat}(h:Cn E ms)(hm:m ∉ ms)(h2:m≠E.g/\m≠E.f/\m≠E.k/\m≠E.vi):Cn E (m::ms):=
 ⟨List.nodup_cons.2 ⟨hm,h.nodup⟩,fun x hx=>by rcases List.mem_cons.1 hx with rfl|hx;exact h2;exact h.apart x hx⟩
theorem bK.lt:∀{s:aK}{p:Option Addr}{ms:List Nat},bK w E.base p s ms->∀m∈ms,m<w.heap.size
 | [],_,_,h,m,hm=>by rw[h.2]at hm;cases hm
 | _::_,_,_,⟨_,m',_,ms',_,h2,_,_,_,h6,h7⟩,m,hm=>by
  rw[h2]at hm;rcases List.mem_cons.1 hm with rfl|hm
  ·exact h6.lt
  ·exact bK.lt h7 m hm
theorem VW.EK(h:VW E G B N w0 M r V s p ms w){p1:Option Addr}{s1:aK}{ms1:List Nat}(hs1:bK w E.base p1 s1 ms1)(hsep1:Cn E ms1):
 Calls Tryz.prog 48 #[.pointer p1] w fun e w'=> ∃b m,e= .returned (.pointer (some ⟨b,0,none⟩))/\w.heap.size<=m/\ai w' b 95 #[.pointer p1,.map (some m)]/\aZ jg w' m []/\bK w' E.base (some ⟨b,0,none⟩) ([]::s1) (m::ms1)/\Cn E (m::ms1)/\Below w.heap.size w w'/\VW E G B N w0 M r V s p ms w':=by
 refine(EJ p1 w).mono ?_;rintro e w' ⟨b,m,h1,h2,h3,h4,h5,h6⟩;have hv:=h.below h6;refine⟨b,m,h1,h3,h4,h5,⟨b,m,p1,ms1,rfl,rfl,aaE h.base h2,aaE h.base h3,h4,h5,hs1.below h6⟩,hsep1.cons (fun hm=>?_) ?_,h6,hv⟩
 ·have:=bK.lt hs1 m hm
  omega
 ·have g1:=h.R.gl.lt
  have g2:=h.R.fl.lt;have g3:=h.R.kn.lt;have g4:=h.R.vi.lt;exact⟨by omega,by omega,by omega,by omega⟩
theorem VW.end_(h:VW E G B N w0 (fun g=>g=E.vi\/ms.head? =some g) r V s p ms w):∃V',aS E G r V' w/\bK w E.base p s ms/\KX E (fun g=>g=E.vi\/ms.head? =some g) w0 w:=⟨V,h.R,h.S,h.K⟩
end
theorem J9(w:World)(r:Nat)(l:jr)(h:aZ jg w r (jF l))(x:ByteArray):
 (Instr.lookup 70 (.map (some r)) (.string x) false).run Tryz.prog w= .ok (.int .i64 ((bJ l x).getD 0)) w:=by
 have:=uU (P:=Tryz.prog) (KK:=jg) (t:=70) (kt:=9) (et:=3) Tryz.underlying70 Tryz.underlying9 Ho h x;unfold jF at this;rw[EE]at this
 cases hl:bJ l x with
 | none=>rw[hl]at this;exact this
 | some k=>rw[hl]at this;exact this
theorem uj(w:World)(r:Nat)(l:List (Int×Int))(h:aZ kF w r (uH l))(x:Int):
 (Instr.lookup 71 (.map (some r)) (.int .i64 x) false).run Tryz.prog w= .ok (.int .i64 ((bJ l x).getD 0)) w:=by
 have:=uU (P:=Tryz.prog) (KK:=kF) (t:=71) (kt:=3) (et:=3) Tryz.underlying71 Tryz.underlying3 Ho h x;unfold uH at this;rw[EE]at this
 cases hl:bJ l x with
 | none=>rw[hl]at this;exact this
 | some k=>rw[hl]at this;exact this
theorem QS(a b:Int):(a !=b)=decide (a≠b):=by by_cases h:a=b<;>simp[h]
theorem RB.kids{r q:RS}{s s':aK}{t:aa}{f n:Nat}(h:RB r s (ah t))(k:qY r q)(ha:(ak s').length+r.next<=(ak s).length+q.next)(hn:q.next<=r.next+1+ag (t.kids.take f)):RB q s' (ag ((t.kids.drop f).take n)):=by
 refine h.slow k ha ?_;have h1:=qA t;have h2:=Ac t.kids f n;have h3:=BD t;omega
section
variable {E:RC}{G:aW}{B:Nat}{k:Int}{x:ByteArray}{a e:Int}{kids:List aa}{i:Bool}{s:aK}{p:Option Addr}{ms:List Nat}{r:RS}{V:RV}{w:World}{A:Option Addr}{c nk nx:Nat}
theorem BS(h:aS E G r V w)(hrb:RB r s (ah (.node k x a e kids)))(hnk:kids.length=nk):∃nx:Nat,Hid (r.next=nx)/\nx<=1000000/\nk<=1000000/\w.cell? ⟨E.rp,7,none⟩=some (.int .i64 (nx:Int))/\E.rp<w.heap.size/\IntKind.i64.wrap ((nx:Int)+1)=(nx:Int)+1/\w.frozen? ⟨E.rp,7,none⟩=false:=by
 have h1:=hrb.room;have h2:=hrb.most;have h3:=kC kids;rw[ah]at h1;exact⟨r.next,kH rfl,by omega,by omega,h.blk.cell 7,h.blk.lt,IntWalk.i64_in _ (by omega),h.blk.frozen 7⟩
theorem BQ{W3:World}(H:Hid (aS E G r V w))(HS:Hid (bK w E.base p s ms))(hW3:(((w.setCell ⟨E.rp,7,none⟩ (.int .i64 ((nx:Int)+1))).alloc (.cells #[.pointer (some ⟨E.rp,0,none⟩)] 68)).alloc (.cells #[.int .i64 k,.string x,.int .i64 a,.int .i64 e,.slice A nk c] 24))=W3):
 Hid (aS E G { r with next:=nx+1 } V W3)/\Hid (KX E (fun _=>False) w W3)/\Hid (bK W3 E.base p s ms)/\Hid (ai W3 (w.heap.size+1) 24 #[.int .i64 k,.string x,.int .i64 a,.int .i64 e,.slice A nk c])/\Hid (ai W3 w.heap.size 68 #[.pointer (some ⟨E.rp,0,none⟩)]) /\
  W3.cell? ⟨E.rp,5,none⟩=some (.map (some E.vi))/\W3.cell? ⟨w.heap.size,0,none⟩=some (.pointer (some ⟨E.rp,0,none⟩))/\E.rp<W3.heap.size/\w.heap.size<W3.heap.size:=by
 obtain⟨hr3,hk3⟩:=H.out.Sl (nx+1) (fun _=>False)
 have hbW:Below w.heap.size (w.setCell ⟨E.rp,7,none⟩ (.int .i64 ((nx:Int)+1))) W3:=by
  rw[<- hW3];have h1:=af (w.setCell ⟨E.rp,7,none⟩ (.int .i64 ((nx:Int)+1))) (.cells #[.pointer (some ⟨E.rp,0,none⟩)] 68);have h2:=af ((w.setCell ⟨E.rp,7,none⟩ (.int .i64 ((nx:Int)+1))).alloc (.cells #[.pointer (some ⟨E.rp,0,none⟩)] 68)) (.cells #[.int .i64 k,.string x,.int .i64 a,.int .i64 e,.slice A nk c] 24);have h3:=h1.trans (h2.mono (by simp));simpa using h3
 have zQ:ai W3 (w.heap.size+1) 24 #[.int .i64 k,.string x,.int .i64 a,.int .i64 e,.slice A nk c]:=by
  have:=ai.new ((w.setCell ⟨E.rp,7,none⟩ (.int .i64 ((nx:Int)+1))).alloc (.cells #[.pointer (some ⟨E.rp,0,none⟩)] 68)) 24 #[.int .i64 k,.string x,.int .i64 a,.int .i64 e,.slice A nk c];rw[hW3]at this;simpa using this
 have hp3:ai W3 w.heap.size 68 #[.pointer (some ⟨E.rp,0,none⟩)]:=by
  have:=(ai.new (w.setCell ⟨E.rp,7,none⟩ (.int .i64 ((nx:Int)+1))) 68 #[.pointer (some ⟨E.rp,0,none⟩)]).alloc (.cells #[.int .i64 k,.string x,.int .i64 a,.int .i64 e,.slice A nk c] 24);rw[hW3]at this;simpa using this
 have HR3:aS E G { r with next:=nx+1 } V W3:=hr3.below (by simpa using hbW);have fZ:KX E (fun _=>False) w W3:=hk3.trans (KX.of_below (M:=fun _=>False) (by simpa using hbW)) (fun g hg=>.inl hg);exact⟨kH HR3,kH fZ,kH (bK.kx fZ H.out.nX HS.out (fun _ _ h=>h)),kH zQ,kH hp3,HR3.blk.cell 5,hp3.cell 0,HR3.blk.lt,hp3.lt⟩
variable {W3:World}
theorem BP(HR3:Hid (aS E G { r with next:=nx+1 } V W3)) (iA:Hid (ai W3 w.heap.size 68 #[.pointer (some ⟨E.rp,0,none⟩)])) (iF:Hid (bK W3 E.base p s ms)) (dI:Hid (RB r s (ah (.node k x a e kids)))) (bD:Hid (r.next=nx)) (hn:nx<=1000000):
 Hid (Calls Tryz.prog 145 #[.pointer p] W3.drew fun e w'=> ∃v,e= .returned v/\aL w' W3.drew.heap.size 3 1 v (ak s).length (iE (aj (ak s)))/\Below W3.drew.heap.size W3.drew w') /\
  Hid (∀w':World,az (fun g=>g=E.vi) W3 w'->w'.cell? ⟨E.rp,5,none⟩=some (.map (some E.vi))/\w'.cell? ⟨w.heap.size,0,none⟩=some (.pointer (some ⟨E.rp,0,none⟩)))/\az (fun g=>g=E.vi) W3 W3.drew:=by
 refine⟨kH (Tq E.base s p ms W3.drew (bK.below ((Below.refl _ W3).drew) iF.out) (by have:=dI.out.VP;have:=bD.out;omega)),kH fun w' hw=>?_,(az.refl _ W3).drew⟩
 have nm:∀{g:Nat}{t:TypeId}{cs:Array Value},ai W3 g t cs->g≠E.vi:=fun hb e=>by
  obtain⟨es,ck,ho⟩:=HR3.out.vi.isMap;subst e;have:W3.heap[_]? =some (Obj.cells _ _ (0,0)):=hb;rw[ho]at this;cases this
 exact⟨(HR3.out.blk.since hw (nm HR3.out.blk)).cell 5,(iA.out.since hw (nm iA.out)).cell 0⟩
theorem BO{w5:World}(HR3:Hid (aS E G { r with next:=nx+1 } V W3)) (hb5:Below W3.drew.heap.size W3.drew w5) (hs0:az (fun g=>g=E.vi) W3 W3.drew) (v5:Value):
 az (fun g=>g=E.vi) W3 w5/\∃w6,(Instr.mapUpdate 72 (.map (some E.vi)) (Value.int .i64 (nx:Int)) v5).run Tryz.prog w5= .ok () w6/\Hid (aZ kF w6 E.vi (o5 V.vals (nx:Int) v5)/\az (fun g=>g=E.vi) w5 w6)/\az (fun g=>g=E.vi) W3 w6:=by
 have hs5:=hs0.below hb5;obtain⟨w6,hrun,gu,Qd,hz6⟩:=fe (P:=Tryz.prog) (KK:=kF) (t:=72) (kt:=3) (et:=28) Tryz.underlying72 Tryz.underlying3 ((aZ.drew HR3.out.vi).G6 hb5) (nx:Int) v5;have hs6:az (fun g=>g=E.vi) w5 w6:=(az.refl (fun g=>g=E.vi) w5).grown Qd (fun k hk=>by cases hk;exact .inl rfl);exact⟨hs5,w6,hrun,kH ⟨gu,hs6⟩,hs5.trans hs6⟩
theorem BN{w5 w6:World}{v5:Value}(HR3:Hid (aS E G { r with next:=nx+1 } V W3)) (fZ:Hid (KX E (fun _=>False) w W3)) (dI:Hid (RB r s (ah (.node k x a e kids)))) (bD:Hid (r.next=nx)) (dJ:Hid (E.base<=w.heap.size)) (hb5:Below W3.drew.heap.size W3.drew w5) (jR:aL w5 W3.drew.heap.size 3 1 v5 (ak s).length (iE (aj (ak s))))
 (lh:Hid (aZ kF w6 E.vi (o5 V.vals (nx:Int) v5)/\az (fun g=>g=E.vi) w5 w6)):∃Vx,Hid (aS E G (aC r true (aj (ak s))) Vx w6)/\Hid (KX E (fun g=>g=E.vi) W3 w6):=by
 have hlen:(aj (ak s)).length=(ak s).length:=List.length_mergeSort _
 have Ki:=HR3.out.Sz (aaE dJ.out fZ.out.size) (((Below.refl _ W3).drew).trans hb5) (nx:Int) (aj (ak s)) v5 (by rw[hlen];exact jR) (fun hm=>by
  obtain⟨y,hy,he⟩:=List.mem_map.1 hm;have:=dI.out.bQ y hy;have:=bD.out
  omega) (fun g=>g=E.vi) rfl lh.out.1 lh.out.2
 exact⟨_,by have:=Ki.1;rw[<- bD.out]at this;exact kH this,kH Ki.2⟩
theorem BM{wc:World}{Vx:RV}(hB:B<=E.base)(hsep:Cn E ms)(gF:Hid (aS E G (aC r i (aj (ak s))) Vx wc))(mq:Hid (KX E (fun g=>g=E.vi) W3 wc))(HR3:Hid (aS E G { r with next:=nx+1 } V W3)) (fZ:Hid (KX E (fun _=>False) w W3)) (iF:Hid (bK W3 E.base p s ms))
 (mi:Hid (ai W3 (w.heap.size+1) 24 #[.int .i64 k,.string x,.int .i64 a,.int .i64 e,.slice A nk c])) (iA:Hid (ai W3 w.heap.size 68 #[.pointer (some ⟨E.rp,0,none⟩)])) (HK:Hid (aD w B A 0 kids)) (dI:Hid (RB r s (ah (.node k x a e kids)))) (bD:Hid (r.next=nx)) (dJ:Hid (E.base<=w.heap.size)) (hn:nx<=1000000):
 Hid (VW E G B ⟨kids,k,x,a,e,A,nk,c,w.heap.size+1,w.heap.size⟩ w (fun g=>g=E.vi\/ms.head? =some g) (aC r i (aj (ak s))) Vx s p ms wc)/\Hid ((aC r i (aj (ak s))).ds.length<=1000000)/\Hid ((aC r i (aj (ak s))).aO.length<=1000000)/\Hid (nx<(aC r i (aj (ak s))).uses.length) /\
  Hid (∀u:RS,u.next=r.next+1->u.next<=r.next+1+ag ((aa.node k x a e kids).kids.take 0)):=by
 have Li:KX E (fun g=>g=E.vi) w wc:=(fZ.out.mono (fun _ hf=>hf.elim)).trans mq.out (fun g hg=>.inl hg);have h1:=dI.out.room;have h2:=bD.out;rw[ah]at h1;refine⟨kH ⟨gF.out,bK.kx mq.out HR3.out.nX iF.out (fun m hm e=>(hsep.apart m hm).2.2.2 e),HR3.out.xG mq.out mi.out,HR3.out.Ey mq.out iA.out,Li.mono (fun _ h=>.inl h),aD.below ((KX.low Li dJ.out).mono hB) (aaD _) _ _ _ HK.out,aaE dJ.out (KX.low Li dJ.out).size,hB⟩,kH ?_,kH ?_,kH ?_,kH fun u hu=>by rw[hu];exact Nat.le_add_right _ _⟩
 ·show r.ds.length<=_
  have:=dI.out.ds;omega
 ·show r.aO.length<=_
  have:=dI.out.aO;omega
 ·show nx<r.uses.length
  omega
theorem BJ{wc:World}{Vx:RV}{q:RS}(gF:Hid (aS E G q Vx wc))(x:ByteArray):∃(gi:Int) (gb:Bool),Hid ((bJ G.globals x).getD 0=gi)/\Hid ((bJ G.globals x).isSome=gb)/\∀q,(Instr.lookup 70 (.map (some E.g)) (.string x) true).run Tryz.prog (wc.drewN q)= .ok (.tuple #[.int .i64 gi,.bool gb]) (wc.drewN q):=
 ⟨_,_,kH rfl,kH rfl,fun q=>pg (wc.drewN q) E.g G.globals (aZ.drewN gF.out.gl q) x⟩
end
theorem Rt(E:RC)(G:aW)(B:Nat)(hB:B<=E.base)(k:Int)(x:ByteArray)(a e:Int)(kids:List aa)(hih:∀k∈kids,fI E G B k)(hk3:¬k=3)(hk4:¬k=4)(hk5:¬k=5)(hk7:¬k=7)(DJ:¬k=8)(hk11:¬k=11)(pG:¬k=12)(qI:¬k=16)(Zt:¬k=20)(hk22:¬k=22)(hk27:¬k=27)(hk19:¬k=19)(rC:¬k=9):fI E G B (.node k x a e kids):=by
 intro i s p ms r V w A c h hs hsep hk hcap hbase hv hrb;obtain⟨nk,hnk⟩:∃q,kids.length=q:=⟨_,rfl⟩
 have hvk:lT s.isEmpty kids=true:=by
  rw[pY,if_neg hk5,if_neg hk11,if_neg (by omega)]at hv;exact hv
 have hq:aF G i (aa.node k x a e kids) s r=ae G i kids 0 kids.length s (gH G s r (aC r i (aj (ak s))) (aa.node k x a e kids)):=by
  rw[bY,if_neg hk3,if_neg hk4,if_neg hk5,if_neg (by omega),if_neg hk11,if_neg pG,if_neg qI]
 rw[hq];obtain⟨Q,hQ⟩:∃Q,ae G i kids 0 kids.length s (gH G s r (aC r i (aj (ak s))) (aa.node k x a e kids))=Q:=⟨_,rfl⟩
 rw[hQ];have HQ:=kH hQ;clear hq hQ;rw[show aX (aa.node k x a e kids) A c= .agg #[.int .i64 k,.string x,.int .i64 a,.int .i64 e,.slice A nk c] by rw[<- hnk];rfl];obtain⟨nx,bD,hnb,yI,qV,hrw,hwn,hfx⟩:=BS h hrb hnk;have H:=kH h;have HS:=kH hs;have HK:Hid (aD w B A 0 kids):=kH hk;have dI:=kH hrb;have fQ:=kH hnk;have kX:=kH hvk;have eH:=kH hih;have HCAP:Hid (nk<=c):=kH (by rw[<- hnk];exact hcap);have dJ:=kH hbase;clear h hs hk hrb hnk hvk hih hv hcap hbase;go_enter Tryz.func79,Tryz.ntmps79
 go_upto_if 32 with fail
 generalize hW3:World.alloc (World.alloc (World.setCell w _ _) _) _=W3
 obtain⟨HR3,fZ,iF,mi,iA,c5,p0,qw,qQ⟩:=BQ H HS hW3;clear hW3 qV hfx;go_cut [] (fun wx=> ∃Vx,Hid (aS E G (aC r i (aj (ak s))) Vx wx)/\Hid (KX E (fun g=>g=E.vi) W3 wx))
 case first=>
  cases i with
  | false=>
   go_wp2_with fail
   go_meet
   exact⟨V,by have:=HR3.out;rw[<- bD.out]at this;exact kH this,kH (KX.refl _ _ _)⟩
  | true=>
   obtain⟨iB,eY,hs0⟩:=BP HR3 iA iF dI bD hnb;go_wp2_with fail
   go_region_held3 (fun w'=>w'.cell? ⟨E.rp,5,none⟩=some (.map (some E.vi))/\w'.cell? ⟨w.heap.size,0,none⟩=some (.pointer (some ⟨E.rp,0,none⟩))) (exact eY.out _ (by assumption)) ((go_at_call 145;refine iB.out.mono ?_;rintro e5 w5 ⟨v5,rfl,jR,hb5⟩;obtain⟨hs5,w6,hrun,lh,hs7⟩:=BO HR3 hb5 hs0 v5))
   have HX:=kH (BN HR3 fZ dI bD dJ hb5 jR lh);clear hs5 hs7 lh hb5 jR hs0 hrun;go_wp2_with fail
   go_meet
   exact HX.out
 case rest=>
  obtain⟨Vx,gF,mq⟩:=hcut;obtain⟨HV,HD,qE,HU,rE⟩:=BM hB hsep gF mq HR3 fZ iF mi iA HK dI bD dJ hnb;obtain⟨gi,gb,uF,yY,hlk⟩:=BJ gF x;obtain⟨⟨q0,lp⟩,⟨n0,n1,n2,n3,n4,ln⟩,⟨c0,c1,c2,c8,lr⟩⟩:=HV.out.cells;clear c5 p0 qw qQ c8
  have hu:gH G s r (aC r i (aj (ak s))) (aa.node k x a e kids)=(aC r i (aj (ak s))):=by
   unfold gH;show(if k=20 then _ else if k=22 then _ else if k=27 then _ else if k=19 then _ else if k=9/\dC x=false then _ else _)=_;rw[if_neg Zt,if_neg hk22,if_neg hk27,if_neg hk19,if_neg (fun(h:k=9/\dC x=false)=>rC h.1)]
  have hcall:=fun q=>(HV.out.drewN q).kids eH.out i 0 nk nk (by omega) fQ.out (by show 0+nk<=nk;omega) HCAP.out kX.out (dI.out.kids (t:=(aa.node k x a e kids)) (dH.none_ r i _) (Nat.add_le_add_left (Nat.le_succ _) _) (rE.out _ rfl)) hsep (fun g hg=>.inl hg)
  have jT:ae G i kids 0 nk s (aC r i (aj (ak s)))=Q:=by rw[<- HQ.out,hu,fQ.out]
  have oF:=kH jT;have ND:=kH hcall;clear hcall jT hu;go_wp2_with fail
  go_quiet (fail)
  go_wp2_with fail
  refine(ND.out _).mono ?_;rintro e10 bf ⟨rfl,-,yA,h10⟩;have HE:Hid (∃V',aS E G Q.1 V' bf/\bK bf E.base p Q.2 ms/\KX E (fun g=>g=E.vi\/ms.head? =some g) w bf):=kH (by rw[<- oF.out];exact h10.end_);clear h10 ND;go_wp2_with fail
  go_end0
  exact⟨rfl,HE.out⟩
theorem TR(E:RC)(G:aW)(B:Nat)(hB:B<=E.base)(x:ByteArray)(a e:Int)(kids:List aa)(hih:∀k∈kids,fI E G B k):fI E G B (.node 20 x a e kids):=by
 intro i s p ms r V w A c h hs hsep hk hcap hbase hv hrb;obtain⟨nk,hnk⟩:∃q,kids.length=q:=⟨_,rfl⟩
 have hvk:lT s.isEmpty kids=true:=by
  rw[pY,if_neg (by decide),if_neg (by decide),if_neg (by decide)]at hv;exact hv
 have hq:aF G i (aa.node 20 x a e kids) s r=ae G i kids 0 kids.length s (gH G s r (aC r i (aj (ak s))) (aa.node 20 x a e kids)):=by
  rw[bY];repeat (rw[if_neg (by decide)])
 rw[hq];obtain⟨Q,hQ⟩:∃Q,ae G i kids 0 kids.length s (gH G s r (aC r i (aj (ak s))) (aa.node 20 x a e kids))=Q:=⟨_,rfl⟩
 rw[hQ];have HQ:=kH hQ;clear hq hQ;rw[show aX (aa.node 20 x a e kids) A c= .agg #[.int .i64 20,.string x,.int .i64 a,.int .i64 e,.slice A nk c] by rw[<- hnk];rfl];obtain⟨nx,bD,hnb,yI,qV,hrw,hwn,hfx⟩:=BS h hrb hnk;have H:=kH h;have HS:=kH hs;have HK:Hid (aD w B A 0 kids):=kH hk;have dI:=kH hrb;have fQ:=kH hnk;have kX:=kH hvk;have eH:=kH hih;have HCAP:Hid (nk<=c):=kH (by rw[<- hnk];exact hcap);have dJ:=kH hbase;clear h hs hk hrb hnk hvk hih hv hcap hbase;go_enter Tryz.func79,Tryz.ntmps79
 go_upto_if 32 with fail
 generalize hW3:World.alloc (World.alloc (World.setCell w _ _) _) _=W3
 obtain⟨HR3,fZ,iF,mi,iA,c5,p0,qw,qQ⟩:=BQ H HS hW3;clear hW3 qV hfx;go_cut [] (fun wx=> ∃Vx,Hid (aS E G (aC r i (aj (ak s))) Vx wx)/\Hid (KX E (fun g=>g=E.vi) W3 wx))
 case first=>
  cases i with
  | false=>
   go_wp2_with fail
   go_meet
   exact⟨V,by have:=HR3.out;rw[<- bD.out]at this;exact kH this,kH (KX.refl _ _ _)⟩
  | true=>
   obtain⟨iB,eY,hs0⟩:=BP HR3 iA iF dI bD hnb;go_wp2_with fail
   go_region_held3 (fun w'=>w'.cell? ⟨E.rp,5,none⟩=some (.map (some E.vi))/\w'.cell? ⟨w.heap.size,0,none⟩=some (.pointer (some ⟨E.rp,0,none⟩))) (exact eY.out _ (by assumption)) ((go_at_call 145;refine iB.out.mono ?_;rintro e5 w5 ⟨v5,rfl,jR,hb5⟩;obtain⟨hs5,w6,hrun,lh,hs7⟩:=BO HR3 hb5 hs0 v5))
   have HX:=kH (BN HR3 fZ dI bD dJ hb5 jR lh);clear hs5 hs7 lh hb5 jR hs0 hrun;go_wp2_with fail
   go_meet
   exact HX.out
 case rest=>
  obtain⟨Vx,gF,mq⟩:=hcut;obtain⟨HV,HD,qE,HU,rE⟩:=BM hB hsep gF mq HR3 fZ iF mi iA HK dI bD dJ hnb;obtain⟨gi,gb,uF,yY,hlk⟩:=BJ gF x;obtain⟨⟨q0,lp⟩,⟨n0,n1,n2,n3,n4,ln⟩,⟨c0,c1,c2,c8,lr⟩⟩:=HV.out.cells;clear c5 p0 qw qQ c8;obtain⟨tq,qR⟩:∃tq,bV s x=tq:=⟨_,rfl⟩
  have HTQ:=kH qR
  have jT:ae G i kids 0 nk s (fC (aC r i (aj (ak s))) nx (aa.node 20 x a e kids) tq)=Q:=by
   rw[<- HQ.out,fQ.out,<- qR,<- bD.out];rfl
  have oF:=kH jT;have pQ:Hid (qY r (fC (aC r i (aj (ak s))) nx (aa.node 20 x a e kids) tq)):=kH (by have:=dH.Cv r i (aj (ak s)) (aa.node 20 x a e kids) tq;rw[bD.out]at this;exact this);have jb:Hid ((fC (aC r i (aj (ak s))) nx (aa.node 20 x a e kids) tq).next=r.next+1):=kH (by cases tq<;>rfl);clear jT;have hfind:=fun q=>Jc E.base x (wc.drewN q) s p ms ((HV.out.drewN q).S)
  have kg:=fun q=>(HV.out.drewN q).Oj (aa.node 20 x a e kids) ⟨rfl,rfl,rfl,rfl,rfl⟩ fQ.out qE.out nx HU.out tq (tq.getD 0) (fun k hk=>by rw[hk];rfl)
  rw[qR]at hfind;have HF:=kH hfind;have xg:=kH kg;clear hfind kg qR;go_wp2_with fail
  go_quiet (fail)
  go_wp2_with fail
  refine(HF.out _).mono ?_;rintro e7 w7 ⟨rfl,hw7⟩;subst hw7;go_wp2_with fail
  refine(xg.out _).mono ?_;rintro e8 w8 ⟨rfl,V8,h8⟩;obtain⟨⟨q8,zM⟩,⟨-,-,-,-,n8,GD⟩,-⟩:=h8.cells;have hcall:=h8.kids eH.out i 0 nk nk (by omega) fQ.out (by show 0+nk<=nk;omega) HCAP.out kX.out (dI.out.kids (t:=(aa.node 20 x a e kids)) pQ.out (Nat.add_le_add_left pQ.out.next _) (rE.out _ jb.out)) hsep (fun g hg=>.inl hg);rw[oF.out]at hcall;have HC:=kH hcall;clear hcall h8;go_wp2_with fail
  refine HC.out.mono ?_;rintro e10 bf ⟨rfl,-,yA,h10⟩;have HE:Hid (∃V',aS E G Q.1 V' bf/\bK bf E.base p Q.2 ms/\KX E (fun g=>g=E.vi\/ms.head? =some g) w bf):=kH h10.end_;clear h10 HC q8 n8;go_wp2_with fail
  go_end0
  exact⟨rfl,HE.out⟩
end Go.Proofs.YtoepemlnlpamlaaGreat
