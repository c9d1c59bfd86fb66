/- The law NamesVisibleAt holds where what it reads is of bulk at most 1048576: it returns true, and its arguments read as before. Part 40: Rw7 ShR Shp9. -/
import Derived.Test.YtoepemlnlpamlaaGreatVisa21
import Derived.Test.YtoepemlnlpamlaaGreatVisa39
set_option maxRecDepth 100000
set_option maxHeartbeats 4000000
namespace Go.Proofs.YtoepemlnlpamlaaGreat
open Go.RowKit
theorem PT(n:Nat)(G:n<=1000000)(w:World):
 (Instr.makeSlice 28 (.int .i64 (n:Int)) (.int .i64 (n:Int))).run Tryz.prog w= .ok (.slice (some ⟨w.heap.size,0,none⟩) n n) (w.alloc (.cells (iB (List.replicate n (0:Int))).toArray 3)):=by
 obtain⟨F,A,B,C,D⟩:=info_parts yJ;have h:=run_make (P:=Tryz.prog) w 28 3 F _ Tryz.underlying28 A B .i64 .i64 n n (by omega) (by omega) (by rw[D];omega) (by omega);rw[h];simp only[Int.toNat_natCast,C,Nat.mul_one]
 have E:madeCells (Value.int .i64 0).cells n=(iB (List.replicate n (0:Int))).toArray:=by
  apply Array.ext'
  show(madeCells #[Value.int .i64 0] n).toList=_;rw[toList_madeCells_one];simp[iB]
 rw[E]
def NH(t:ae)(mk:Int):RW:=(bR (iy (bT t) 0 (-1) []) mk t (-1) [] ⟨[],List.replicate (ai t) (-1),[],0,[]⟩).1
def yO(t:ae)(mk:Int):RW:={ NH t mk with uses:=(NH t mk).uses.map (jX (NH t mk).ds) }
theorem rep_set(N i:Nat)(h:i<N)(a b:Int):(List.replicate i a++List.replicate (N - i) b).set i a=List.replicate (i+1) a++List.replicate (N - (i+1)) b:=by
 rw[List.set_append_right _ _ (by simp),List.length_replicate,Nat.sub_self,show N - i=(N - (i+1))+1 by omega,List.replicate_succ,sZ,List.replicate_succ'];simp
theorem QC{A:Type}(f:A->A)(l:List A)(i:Nat)(x:A)(h:l[i]? =some x):((l.take i).map f++l.drop i).set i (f x)=(l.take (i+1)).map f++l.drop (i+1):=by
 have B:=(aah.1 h).1;have D:=(aah.1 h).2;have C:((l.take i).map f).length=i:=by simp;omega
 rw[List.set_append_right _ _ (by omega),C,Nat.sub_self,List.drop_eq_getElem_cons B,sZ,List.take_add_one,h,List.map_append];simp
theorem QD{A:Type}(f:A->A)(l:List A)(i:Nat)(x:A)(h:l[i]? =some x):((l.take i).map f++l.drop i)[i]? =some x:=by
 have C:=(aah.1 h).1;have B:((l.take i).map f).length=i:=by simp;omega
 rw[aal (by omega),B,Nat.sub_self,List.getElem?_drop];exact h
theorem wpHG_run{P:Program}{A:Array Oper}{Q:Exit->Act->World->Prop}{S:World->Prop}{ex:List Nat}{k:Nat}{B:List Bool}{o:Oper}{rest:List Oper}{a:Act}{w w':World}{v:Value}(D:Region.wanted o (yielded A a.tmps)=true)
 (E:(execOp a.eval o).run P w= .ok (.value v) w') (C:ex.contains k=false->S w') (h:uj P A Q S ex (k+1) B rest (a.put o.dst v) w'):uj P A Q S ex k (false::B) (o::rest) a w:=
 Qm D (by unfold Oper.wp;rw[E];exact⟨C,h⟩)
theorem YT{P:Program}{A:Array Oper}{Q:Exit->Act->World->Prop}{S:World->Prop}{ex:List Nat}{k:Nat}{B:List Bool}{o:Oper}{rest:List Oper}{a:Act}{w w':World}(D:Region.wanted o (yielded A a.tmps)=true)
 (E:(execOp a.eval o).run P w= .ok .skip w') (C:ex.contains k=false->S w') (h:uj P A Q S ex (k+1) B rest (a.put o.dst undef) w'):uj P A Q S ex k (false::B) (o::rest) a w:=
 Qm D (by unfold Oper.wp;rw[E];exact⟨C,h⟩)
structure L1 (w:World) (rp ub N lg c2:Nat) (A2:Option Addr) (mk:Int) (G:List Dc) (nc:Array Value) (i:Nat) (wr:World):Prop where
 B:aj wr rp 84 #[.slice none 0 0,.slice (some ⟨ub,0,none⟩) N N,.slice none 0 0,.slice A2 lg c2,.int .i64 0,.int .i64 mk,.slice none 0 0]
 U:aK wr w.heap.size 3 1 (.slice (some ⟨ub,0,none⟩) N N) N (iB (List.replicate i (-1)++List.replicate (N - i) 0))
 G:aK wr w.heap.size 49 4 (.slice A2 lg c2) lg (G.flatMap dL)
 Nd:aj wr w.heap.size 24 nc
 Bl:Below w.heap.size w wr
theorem QV(t:ae)(A:Option Addr)(c:Nat)(mk:Int)(w:World)(hN:ai t<=1000000)(r:t.kids.length<=c)(hk:aJ w w.heap.size A 0 t.kids):
 Calls Tryz.prog 43 #[aZ t A c,.int .i64 mk] w fun e w'=> ∃(E:RE) (V:RQ),e= .returned (.pointer (some ⟨E.rp,0,none⟩))/\E.lo=w.heap.size/\dP E (iy (bT t) 0 (-1) []) mk (yO t mk) V w'/\Below w.heap.size w w':=by
 have k:=PT (ai t) hN;obtain⟨k0,x0,a0,z0,n0,-,-,-,-,-,jw⟩:=dR t A c;obtain⟨W1,hW1⟩:∃W1,w.alloc (.cells #[.int .i64 k0,.string x0,.int .i64 a0,.int .i64 z0,.slice A n0 c] 24)=W1:=⟨_,rfl⟩
 have hb1:Below w.heap.size w W1:=by rw[<- hW1];exact ag _ _
 have hT1:aj W1 w.heap.size 24 #[.int .i64 k0,.string x0,.int .i64 a0,.int .i64 z0,.slice A n0 c]:=by rw[<- hW1];exact aj.new w _ _
 have hkW:∀W,Below w.heap.size w W->aJ W W.heap.size A 0 t.kids:=fun W R=>aJ.mono R.size _ _ _ (aJ.below R (aab _) _ _ _ hk)
 have Sl:=QY t A c W1 hN r (hkW W1 hb1);have P:=fun(W:World) (R:Below w.heap.size w W)=>AQ (ai t) t A c W (aab _) (by omega) (hkW W R)
 obtain⟨G,hG⟩:∃z,iy (bT t) 0 (-1) []=z:=⟨_,rfl⟩
 obtain⟨N,Ac⟩:∃z,ai t=z:=⟨_,rfl⟩
 have hGl:G.length<=N:=by
  rw[<- hG,<- Ac,<- iY];have:=O8 (bT t) 0 (-1) [];simpa using this
 have hGn:∀d∈G,0<=d.node/\d.node<=1000000:=fun d hd=>by
  rw[<- hG]at hd;rcases Jw _ _ _ _ d hd with h|h
  ·cases h
  ·rw[iY]at h
   omega
 have hGh:∀y∈bT t,y.kind=3\/y.kind=4\/y.kind=5->∃d,nN G (decide (y.kind=4)) y.text=some d:=fun y hy h=>by rw[<- hG];exact glob_has hy h
 obtain⟨W,hW⟩:∃z,NH t mk=z:=⟨_,rfl⟩
 have Z:=hW;unfold NH at Z;rw[hG,Ac]at Z;have hsp:=Es G mk t (-1) [] ⟨[],List.replicate N (-1),[],0,[]⟩
 have hub:=UM (M:=1000002) (fun d hd=>by have:=hGn d hd;omega) mk t (-1) [] ⟨[],List.replicate N (-1),[],0,[]⟩ ⟨aab _,by simp⟩ (fun v hv=>by
  have:=List.eq_of_mem_replicate hv
  omega) (by show((0:Nat):Int)+(ai t:Int)<=1000002;omega)
 rw[Z]at hsp hub
 have ZK:W.uses.length=N:=by
  have:=hsp.1.us;rw[this];exact List.length_replicate
 have hdl:W.ds.length<=1000000:=by
  have this:W.ds.length<=0+ai t:=hsp.1.Pe;omega
 have hfin:yO t mk= { W with uses:=W.uses.map (jX W.ds) }:=by unfold yO;rw[hW]
 rw[hG]at Sl⊢;rw[hfin];rw[Ac]at k P hN;obtain⟨ca,Vp⟩:∃z,(iB (List.replicate N (0:Int))).toArray=z:=⟨_,rfl⟩
 rw[Vp]at k;have Ii:=kH Vp;clear Vp;rw[jw]at Sl P⊢;obtain⟨lg,xO⟩:∃z,G.length=z:=⟨_,rfl⟩
 rw[xO]at Sl hGl;have HGLO:=kH Sl;have YJ:=kH P;have Cg:=kH hkW;have HG:Hid (G.length=lg/\lg<=N):=kH ⟨xO,hGl⟩;have Ep:=kH hGn;have HGH:=kH hGh;have HW:=kH Z;have zF:=kH hub;have Ps:Hid (W.uses.length=N/\W.ds.length<=1000000):=kH ⟨ZK,hdl⟩;have HB1:=kH hb1;have HT1:=kH hT1;have vQ:=kH Ac;have FU:=kH jw;have HCAP:=kH r;have HK:=kH hk;obtain⟨⟨t0,t1,t2,t3,t4⟩,-⟩:=hT1.five;have I:=hT1.lt;clear hb1 hT1 hkW Sl P hG Ac hGl hGn hGh hW Z hsp hub ZK hdl hfin jw xO r hk;go_in
 go_wp2_with (rw[hW1])
 clear t0 t1 t2 t3 t4 I hW1;refine HGLO.out.mono ?_;rintro e2 w2 ⟨A2,c2,rfl,hO2,hb2⟩;obtain⟨W3,hW3⟩:∃z,w2.alloc (.cells #[.slice none 0 0,.slice none 0 0,.slice none 0 0,.slice A2 lg c2,.int .i64 0,.int .i64 mk,.slice none 0 0] 84)=z:=⟨_,rfl⟩
 have hb3:Below w2.heap.size w2 W3:=by rw[<- hW3];exact ag _ _
 have cZ:aj W3 w2.heap.size 84 #[.slice none 0 0,.slice none 0 0,.slice none 0 0,.slice A2 lg c2,.int .i64 0,.int .i64 mk,.slice none 0 0]:=by rw[<- hW3];exact aj.new _ _ _
 obtain⟨J,MB⟩:∃z,w2.heap.size=z:=⟨_,rfl⟩
 have ik:Below W1.heap.size W1 W3:=hb2.trans (hb3.mono hb2.size);have EU:Below w.heap.size w W3:=HB1.out.trans (ik.mono HB1.out.size);have hrlo:w.heap.size<=J:=by rw[<- MB];exact aac HB1.out.size hb2.size
 rw[MB]at cZ;have jA:=kH (HT1.out.below ik HT1.out.lt);have FT:=kH ((hO2.below hb3 (fun g H=>(hO2.lt g H).2)).mono HB1.out.size);have HB3:=kH EU;have T:=kH cZ;have HRLO:=kH hrlo;obtain⟨⟨t0,t1,t2,t3,t4⟩,-⟩:=jA.out.five;have I:=jA.out.lt;have HRP:=kH MB;have HW3:=kH hW3;clear hb3 cZ ik EU hO2 hb2 hrlo HGLO HT1 MB hW3 t0 t1 t2 t3 t4 I;obtain⟨⟨t0,t1,t2,t3,t4⟩,-⟩:=(jA.out).five;have I:=jA.out.lt;go_upto_region 2 with fail
 rw[HW3.out,HRP.out];go_wp2_with fail
 refine(YJ.out W3 HB3.out).mono ?_;rintro e4 w4 ⟨rfl,S⟩;obtain⟨D,XM⟩:∃z,w4.heap.size=z:=⟨_,rfl⟩
 obtain⟨W5,jD⟩:∃z,(w4.setCell ⟨J,1,none⟩ (.slice (some ⟨D,0,none⟩) N N)).alloc (.cells ca 3)=z:=⟨_,rfl⟩
 have hL1:L1 w J D N lg c2 A2 mk G #[.int .i64 k0,.string x0,.int .i64 a0,.int .i64 z0,.slice A n0 c] 0 W5:=by
  have hs:aF (fun g=>g=J) w4 W5:=by
   rw[<- jD];exact((aF.refl (fun g=>g=J) w4).setCell (.inl rfl) _).alloc _
  have ek:=T.out.below S T.out.lt;have hO4:=FT.out.below S (fun g H=>(FT.out.lt g H).2);have Vu:=jA.out.below S jA.out.lt;have hB4:Below w.heap.size w w4:=HB3.out.trans (S.mono HB3.out.size);have hsz:(w4.setCell ⟨J,1,none⟩ (.slice (some ⟨D,0,none⟩) N N)).heap.size=D:=by rw[<- XM];simp[World.setCell]
  have hU:aK W5 w.heap.size 3 1 (.slice (some ⟨D,0,none⟩) N N) N (iB (List.replicate N (0:Int))):=by
   have hbn:=aj.new (w4.setCell ⟨J,1,none⟩ (.slice (some ⟨D,0,none⟩) N N)) 3 ca;rw[hsz,jD]at hbn;have:=aK.block (base:=w.heap.size) (size:=1) (n:=N) (by rw[<- XM];exact hB4.size) hbn (by simp only[maxLen];omega) (by rw[<- Ii.out];simp[iB]);rw[<- Ii.out]at this;simpa using this
  refine⟨?_,?_,hO4.since hs (fun g H e=>hO4.cB ek (by decide) (by rw[H,e])),Vu.since hs (fun e=>?_),hs.toBelow ?_ (fun g H=>?_) |> hB4.trans⟩
  ·rw[<- jD]
   have:=(ek.gu 1 (.slice (some ⟨D,0,none⟩) N N)).alloc (.cells ca 3);simpa using this
  ·simpa using hU
  ·have:=jA.out.lt
   have h2:=T.out;rw[<- e]at h2;have h3:=jA.out;unfold aj at h2 h3;rw[h2]at h3;simp at h3
  ·exact hB4.size
  ·rw[H];exact HRLO.out
 have uw:=kH hL1;have ek:=T.out.below S T.out.lt;have c41:=ek.cell 1;have f41:=ek.frozen 1;have l4:=ek.lt;have HW5:=kH jD;have HUBB:=kH XM;clear hL1 ek S YJ t0 t1 t2 t3 t4 I jD XM;go_upto_region 3 with fail
 rw[HUBB.out,HW5.out];clear c41 f41 l4;go_wp2_with fail
 go_loopg [6] N (fun gk s6 wr=> ∃i:Nat,s6= .int .i64 (i:Int)/\i+gk=N/\Hid (L1 w J D N lg c2 A2 mk G #[.int .i64 k0,.string x0,.int .i64 a0,.int .i64 z0,.slice A n0 c] i wr))
 case atStart=>exact⟨0,rfl,by omega,uw⟩
 case round=>
  obtain⟨i,rfl,hin,C⟩:=hrel;have hib:i<=N:=by omega
  have qD:=kH hin;have c1:=C.out.B.cell 1;have l1:=C.out.B.lt;clear hin;by_cases F:i<N
  ·obtain⟨g,off,cap,hv,-,-,-,hgl,O⟩:=C.out.U.form (by omega)
   cases hv
   have hlen:(List.replicate i (-1:Int)++List.replicate (N - i) 0).length=N:=by simp;omega
   obtain⟨u,hu⟩:∃z,(List.replicate i (-1:Int)++List.replicate (N - i) 0)[i]? =some z:=⟨_,aaf (by rw[hlen];exact F)⟩
   have mi:wr.cell? ⟨D,i,none⟩=some (.int .i64 u):=by
    have:=O i (.int .i64 u) (by show(List.map _ _)[i]? =_;rw[List.getElem?_map,hu];rfl);simpa using this
   obtain⟨cur,hcur⟩:=C.out.U.typed (g:=D) rfl;have hfu:wr.frozen? ⟨D,i,none⟩=false:=by simp[World.frozen?,hcur]
   have hsn:aF (fun x=>x=D) wr (wr.setCell ⟨D,i,none⟩ (.int .i64 (-1))):=(aF.refl (fun x=>x=D) wr).setCell (.inl rfl) _
   have hne:∀{g:Nat}{t:TypeId}{cs:Array Value},aj wr g t cs->t≠3->g≠D:=fun R ht e=>by
    subst e;exact C.out.U.cB R (fun e=>ht e.symm) rfl
   have hN1:Hid (L1 w J D N lg c2 A2 mk G #[.int .i64 k0,.string x0,.int .i64 a0,.int .i64 z0,.slice A n0 c] (i+1) (wr.setCell ⟨D,i,none⟩ (.int .i64 (-1)))):=kH (by
    have hU:=C.out.U.set1 i F (.int .i64 (-1));rw[Nat.zero_add]at hU;refine⟨C.out.B.since hsn (hne C.out.B (by decide)),?_,C.out.G.since hsn (fun g H e=>C.out.G.apart C.out.U (by decide) g H (by rw[e];rfl)),C.out.Nd.since hsn (hne C.out.Nd (by decide)),C.out.Bl.trans (hsn.toBelow C.out.Bl.size (fun g H=>by rw[H];exact(C.out.U.lt D rfl).1))⟩;rw[<- rep_set N i F (-1) 0];show aK _ _ _ _ _ _ (List.map _ _);rw[List.map_set]
    exact hU)
   have Sj:(i:Int)<(N:Int):=by omega
   have hi00:¬((i:Int)<0):=by omega
   have hw2:IntKind.i64.wrap ((i:Int)+1)=(i:Int)+1:=IntWalk.i64_in _ (by omega);clear hlen hu O hcur hsn C;go_wp2_with fail
   go_roundg (gk - 1)
   case measure=>have:=qD.out;omega
   case rel=>exact⟨i+1,by simp,by have:=qD.out;omega,hN1⟩
  ·have hie:i=N:=by omega
   subst hie;obtain⟨⟨t0,t1,t2,t3,t4⟩,-⟩:=C.out.Nd.five;have I:=C.out.Nd.lt;obtain⟨W8,oz⟩:∃z,wr.alloc (.cells #[] 3)=z:=⟨_,rfl⟩
   have dU:Below wr.heap.size wr W8:=by rw[<- oz];exact ag _ _
   obtain⟨E,hE⟩:∃E:RE,E=⟨w.heap.size,W8.heap.size,J,some ⟨D,0,none⟩,i,A2,c2⟩:=⟨_,rfl⟩
   have Yf:Below w.heap.size w W8:=C.out.Bl.trans (dU.mono C.out.Bl.size)
   have eF:dP E G mk ⟨[],List.replicate i (-1),[],0,[]⟩ ⟨none,0,none,0,none,0⟩ W8:=by
    rw[hE];refine⟨?_,aK.nil _ _ _ _,?_,aK.nil _ _ _ _,?_,fun g H=>?_,gP.nil _ _ _,⟨Yf.size,HRLO.out⟩,aab _⟩
    ·have:=C.out.B.below dU C.out.B.lt
     show aj W8 J _ #[.slice none 0 0,.slice (some ⟨D,0,none⟩) (List.replicate i (-1:Int)).length i,.slice none 0 0,.slice A2 G.length c2,.int .i64 0,.int .i64 mk,.slice none 0 0];rw[List.length_replicate,HG.out.1];exact this
    ·have:=C.out.U.below dU (fun g H=>(C.out.U.lt g H).2)
     rw[Nat.sub_self,List.replicate_zero,List.append_nil]at this;show aK W8 w.heap.size _ 1 (.slice (some ⟨D,0,none⟩) (List.replicate i (-1:Int)).length i) (List.replicate i (-1:Int)).length _;rw[List.length_replicate];exact this
    ·have:=C.out.G.below dU (fun g H=>(C.out.G.lt g H).2)
     show aK W8 w.heap.size _ 4 (.slice A2 G.length c2) G.length _;rw[HG.out.1];exact this
    ·have h1:=H
     rw[show G.length=lg from HG.out.1]at h1;exact Nat.lt_of_lt_of_le (C.out.G.lt g h1).2 dU.size
   have hsc:gP W8 (E.uA.map (·.block)) (some ⟨wr.heap.size,0,none⟩) []:=gP.nil _ _ _;have hroom:Yz G ⟨[],List.replicate i (-1),[],0,[]⟩ [] t:=⟨aab _,aab _,by show 0+ai t<=(List.replicate i (-1:Int)).length;rw[List.length_replicate,vQ.out];omega,by show(List.replicate i (-1:Int)).length<=_;rw[List.length_replicate];exact hN,by have:=HG.out;omega,Ep.out,⟨aab _,by simp⟩,HGH.out⟩
   have L:=Oi E G mk w.heap.size (by rw[hE];exact aab _) (ai t) t (aab _) (-1) [] ⟨[],List.replicate i (-1),[],0,[]⟩ _ W8 (some ⟨wr.heap.size,0,none⟩) 0 0 A c eF hsc rfl (aab _) (aJ.below Yf (aab _) _ _ _ HK.out) HCAP.out hroom (by rw[hE];exact aab _);rw[FU.out,HW.out]at L;have iN:=kH L;have HBW8:=kH Yf;have HRR:=kH eF;have JM:Hid (E.rp=J/\E.lo=w.heap.size/\E.uA=some ⟨D,0,none⟩/\E.uc=i):=kH (by rw[hE];exact⟨rfl,rfl,rfl,rfl⟩);rw[JM.out.1]at iN;obtain⟨⟨v0,v1,v2,v3,v4⟩,-⟩:=(C.out.Nd.below dU C.out.Nd.lt).five;have lv:=Nat.lt_of_lt_of_le I dU.size;clear L Yf eF hsc hroom dU hE C;go_wp2_with (rw[oz])
   clear t0 t1 t2 t3 t4 I v0 v1 v2 v3 v4 lv oz c1 l1;refine iN.out.mono ?_;rintro e9 w9 ⟨A9,n9,c9,rfl,-,-,-,Y,h9,k9⟩;obtain⟨nd,hnd⟩:∃z,W.ds.length=z:=⟨_,rfl⟩
   have lh:=kH hnd;have H9:=kH h9;have K9:=kH k9;have hndb:nd<=1000000:=by have:=Ps.out.2;omega
   clear h9 k9 hnd iN;go_wp2_with fail
   go_loopg [7] i (fun gk s7 wr=> ∃j:Nat,s7= .int .i64 (j:Int)/\j+gk=i/\Hid (dP E G mk { W with uses:=(W.uses.take j).map (jX W.ds)++W.uses.drop j } Y wr/\KW E w9 wr))
   case atStart=>exact⟨0,rfl,by omega,kH ⟨H9.out,KW.refl _ _⟩⟩
   case round=>
    obtain⟨j,rfl,hjn,HJ⟩:=hrel;have hjb:j<=i:=by omega
    have HJN:=kH hjn;have EM:((W.uses.take j).map (jX W.ds)++W.uses.drop j).length=i:=by have:=Ps.out.1;simp;omega
    have K:=HJ.out.1.blk;rw[JM.out.1,JM.out.2.2.1,JM.out.2.2.2,show({ W with uses:=(W.uses.take j).map (jX W.ds)++W.uses.drop j }:RW).uses.length=i from EM,show({ W with uses:=(W.uses.take j).map (jX W.ds)++W.uses.drop j }:RW).ds.length=nd from lh.out]at K;have r0:=K.cell 0;have r1:=K.cell 1;have lr:=K.lt;clear hjn;by_cases F:j<i
    ·obtain⟨u,hu⟩:∃z,W.uses[j]? =some z:=⟨_,aaf (by rw[Ps.out.1];exact F)⟩
     have hub:=zF.out u (aan hu);have hget:=QD (jX W.ds) W.uses j u hu;have hset:=QC (jX W.ds) W.uses j u hu;have nD:=HJ.out.1.us;rw[JM.out.2.2.1]at nD;obtain⟨g,off,cap,hv,-,-,-,-,O⟩:=nD.form (by rw[show({ W with uses:=(W.uses.take j).map (jX W.ds)++W.uses.drop j }:RW).uses.length=i from EM];omega);cases hv
     have mi:wr.cell? ⟨D,j,none⟩=some (.int .i64 u):=by
      have:=O j (.int .i64 u) (by show(List.map _ _)[j]? =_;rw[List.getElem?_map,hget];rfl);simpa using this
     have NZ:=kH hset;have hji:(j:Int)<(i:Int):=by omega
     have hj0:¬((j:Int)<0):=by omega
     have hw2:IntKind.i64.wrap ((j:Int)+1)=(j:Int)+1:=IntWalk.i64_in _ (by omega);have HBJ:=kH K;clear O nD hget hset hu K;by_cases f:u< -1
     ·have hwu:IntKind.i64.wrap (-2 - u)= -2 - u:=IntWalk.i64_in _ (by omega)
      have MI:jX W.ds u=K4 W.ds (-2 - u):=by
       unfold jX K4;rw[if_pos f];rfl
      have m:Below wr.heap.size wr wr.drew:=(Below.refl _ _).drew;have Q:=fun(X:World) (R:Below wr.heap.size wr X)=>PX Y.dA nd Y.dc W.ds (-2 - u) X (((HJ.out.1.ds.rowAt (cells:=dL) (l:=W.ds) rfl rfl (fun _ _=>rfl) rfl).below R (aab _)).mono R.size) lh.out hndb
      rw[<- MI]at Q;obtain⟨y,hy⟩:∃z,jX W.ds u=z:=⟨_,rfl⟩
      rw[hy]at Q;have Ih:=kH Q;have HY:=kH hy;have eY:Hid (∀X,Below wr.heap.size wr X->X.cell? ⟨J,0,none⟩=some (.slice Y.dA nd Y.dc)/\X.cell? ⟨J,1,none⟩=some (.slice (some ⟨D,0,none⟩) i i)/\X.cell? ⟨D,j,none⟩=some (.int .i64 u)):=kH fun X R=>⟨(HBJ.out.below R HBJ.out.lt).cell 0,(HBJ.out.below R HBJ.out.lt).cell 1,(R.cell (p:=⟨D,j,none⟩) (World.block_lt_of_cell? wr _ mi)).trans mi⟩
      have hS0:=eY.out _ m;clear Q hy MI;go_wp2_with fail
      refine dD (fun X=>X.cell? ⟨J,0,none⟩=some (.slice Y.dA nd Y.dc)/\X.cell? ⟨J,1,none⟩=some (.slice (some ⟨D,0,none⟩) i i)/\X.cell? ⟨D,j,none⟩=some (.int .i64 u)) [16] [true,true,true,true,true,true,true,true,true,true,true,true,true,true,false,false,false] (by kernel_rfl) (by kernel_rfl) rfl (by kernel_rfl) ?_;iterate 14((first|(refine dB (by rfl) hS0 ?_)|(refine bV (by rfl) hS0 (by intro w' hSw;obtain⟨hs1,hs2,hs3⟩:=hSw;go_simp;rfl) ?_));simp only[Act.put,sA,sZ,sC])
      refine eH (by rfl) (by go_simp) ((Ih.out _ m).mono ?_);rintro e5 w5 ⟨rfl,hb5⟩;have qh:Below wr.heap.size wr w5:=m.trans (hb5.mono m.size);have hS5:=eY.out _ qh;have h5:=HJ.out.1.below qh;obtain⟨bu,ou,hA,hbu,hcu5,hfu5,b⟩:=h5.yV j (by rw[show({ W with uses:=(W.uses.take j).map (jX W.ds)++W.uses.drop j }:RW).uses.length=i from EM];exact F);rw[JM.out.2.2.1]at hA;cases hA
      rw[Nat.zero_add]at hcu5 hfu5 b;refine⟨_,rfl,fun _=>hS5,?_⟩;simp only[Act.put,sA,sZ,sC];have hl1:=hS5.2.1;refine wpHG_run (w':=w5) (by rfl) (by go_simp;rfl) (fun _=>hS5) ?_;simp only[Act.put,sA,sZ,sC];refine YT (w':=w5.setCell ⟨D,j,none⟩ (.int .i64 y)) (by rfl) (by go_simp) (by simp) ?_;refine gJ ?_;simp only[Act.put]
      have bG:Hid (dP E G mk { W with uses:=(W.uses.take (j+1)).map (jX W.ds)++W.uses.drop (j+1) } Y (w5.setCell ⟨D,j,none⟩ (.int .i64 y))/\KW E w9 (w5.setCell ⟨D,j,none⟩ (.int .i64 y))):=kH (by
       obtain⟨g1,g2⟩:=b y;refine⟨?_,(HJ.out.2.trans (KW.of_below qh)).trans g2⟩;rw[<- NZ.out,HY.out]
       exact g1)
      clear b h5 hb5 qh hS5 hS0 m hcu5 hfu5 hl1 Ih;go_wp2_with fail
      go_roundg (gk - 1)
      case measure=>have:=HJN.out;omega
      case rel=>exact⟨j+1,by simp,by have:=HJN.out;omega,bG⟩
     ·have hge:¬u< -1:=f
      have MI:jX W.ds u=u:=by
       unfold jX;rw[if_neg f]
      have bG:Hid (dP E G mk { W with uses:=(W.uses.take (j+1)).map (jX W.ds)++W.uses.drop (j+1) } Y wr/\KW E w9 wr):=kH (by
       refine⟨?_,HJ.out.2⟩;have h1:=NZ.out;rw[MI]at h1;rw[<- h1]
       have h2:((W.uses.take j).map (jX W.ds)++W.uses.drop j).set j u=(W.uses.take j).map (jX W.ds)++W.uses.drop j:=by
        refine List.ext_getElem? fun q=>?_
        rw[List.getElem?_set];split
        ·rename_i hq
         subst hq;rw[if_pos (by rw[EM];exact F)];have nD:=HJ.out.1.us;rw[JM.out.2.2.1]at nD;obtain⟨g,off,cap,hv,-,-,-,-,O⟩:=nD.form (by rw[show({ W with uses:=(W.uses.take j).map (jX W.ds)++W.uses.drop j }:RW).uses.length=i from EM];omega);cases hv
         have h5:=aaf (l:=(W.uses.take j).map (jX W.ds)++W.uses.drop j) (i:=j) (by rw[EM];exact F);have h3:=O j (.int .i64 (((W.uses.take j).map (jX W.ds)++W.uses.drop j)[j]'(by rw[EM];exact F))) (by show(List.map _ _)[j]? =_;rw[List.getElem?_map,h5];rfl);rw[Nat.zero_add,mi]at h3;simp only[aag,Value.int.injEq,true_and]at h3;rw[h5,<- h3]
        ·rfl
       rw[h2]
       exact HJ.out.1)
      clear MI;go_wp2_with fail
      go_roundg (gk - 1)
      case measure=>have:=HJN.out;omega
      case rel=>exact⟨j+1,by simp,by have:=HJN.out;omega,bG⟩
    ·have OX:j=i:=by omega
     subst OX
     have aO:Hid (dP E G mk { W with uses:=W.uses.map (jX W.ds) } Y wr/\Below w.heap.size w wr):=kH (by
      obtain⟨g1,g2⟩:=HJ.out;rw[List.take_of_length_le (by rw[Ps.out.1];exact aab _),List.drop_of_length_le (by rw[Ps.out.1];exact aab _),List.append_nil]at g1;have hlow:=(K9.out.trans g2).low HRR.out;rw[JM.out.2.1]at hlow
      exact⟨g1,HBW8.out.trans hlow⟩)
     clear K HJ;go_wp2_with fail
     go_ret
     exact⟨E,by rw[JM.out.1];rfl,JM.out.2.1,⟨Y,aO.out.1⟩,aO.out.2⟩
def uV:List Int:=[3,4,5,7,8,12,16,19,20,22,27]
def mK(k:Int)(x:ByteArray):Bool:=
 if uV.any (fun y=>decide (k=y)) then df x
 else if k=9 then decide (x=⟨#[105,110,116]⟩) || decide (x=⟨#[98,111,111,108]⟩) || df x
 else if k=10\/k=24 then jk x
 else if k=25 then decide (x=⟨#[116,114,117,101]⟩) || decide (x=⟨#[102,97,108,115,101]⟩)
 else if k=28 then decide (x=⟨#[45]⟩) || decide (x=⟨#[110,111,116]⟩)
 else if k=29 then kJ BU x
 else decide (x=⟨#[]⟩)
def kV(kind:Int)(i:Nat)(k:Int)(x:ByteArray):Bool:=
 if kind=2 then decide (k=3) || decide (k=5)
 else if kind=3 then decide (k=4)
 else if kind=4 then decide (k=9)&&dM x
 else if kind=5 then decide (i=0)&&decide (k=6) || decide (i=1)&&(dC k || decide (k=0)) || decide (i=2)&&decide (k=11)
 else if kind=6 then decide (k=7) || decide (k=8)
 else if kind=7\/kind=8 then dC k || decide (k=0)
 else if kind=11 then ll k
 else if kind=12 then decide (i=0)&&(dC k || decide (k=0)) || decide (i=1)&&aQ k
 else if kind=13 then decide (i=0)&&jv k || decide (i=1)&&aQ k
 else if kind=14 then decide (i=0)&&aQ k || decide (i=1)&&decide (k=11) || decide (i=2)&&(decide (k=11) || decide (k=14) || decide (k=0))
 else if kind=15 then decide (i=0)&&aQ k || decide (i=1)&&decide (k=11)
 else if kind=16 then decide (i<2)&&aQ k || decide (i=2)&&decide (k=11)
 else if kind=17 then aQ k || decide (k=0)
 else if kind=21 then decide (i=0)&&decide (k=20) || decide (i=1)&&aQ k
 else if kind=22\/kind=23 then decide (k=20)
 else aQ k
def uW(k:Int):Nat×Nat:=
 if k=2\/k=6\/k=11\/k=19\/k=27 then(0,4096)
 else if k=3\/k=26 then(1,4096)
 else if k=5\/k=14\/k=16 then(3,3)
 else if k=12\/k=13\/k=15\/k=21\/k=29 then(2,2)
 else if k=4\/k=7\/k=8\/k=17\/k=18\/k=22\/k=23\/k=28 then(1,1)
 else(0,0)
def rF(k:Int)(x:ByteArray)(n:Nat):Bool:=decide (0<=k)&& !decide (k=1)&&decide (k<=29)&&mK k x&&decide ((uW k).1<=n)&&decide (n<=(uW k).2)
mutual
def uE:ae->Bool
 | .node k x _ _ kids=>rF k x kids.length&&oH k 0 kids
def oH(k:Int):Nat->List ae->Bool
 | _,[]=>true
 | i,t::ts=>kV k i t.kind t.text&&uE t&&oH k (i+1) ts
end
def jW(k:Int):Nat->List ae->Bool
 | _,[]=>true
 | i,t::ts=>kV k i t.kind t.text&&jW k (i+1) ts
theorem Fv(k:Int):∀(ts:List ae) (i:Nat),oH k i ts=(jW k i ts&&ts.all uE)
 | [],_=>rfl
 | t::ts,i=>by
  rw[oH,jW,Fv k ts (i+1),List.all_cons];cases kV k i t.kind t.text<;>cases uE t<;>cases jW k (i+1) ts<;>rfl
theorem Jg(p:ae->Bool):∀ts:List ae,(dz ts).all p=ts.all fun t=>(bT t).all p
 | []=>rfl
 | t::ts=>by rw[dz,List.all_append,Jg p ts,List.all_cons]
theorem QO(k:Int)(x:ByteArray)(a e:Int)(ts:List ae):fP (.node k x a e ts)=(fC (.node k x a e ts)&&ts.all fP):=by
 unfold fP;rw[bT,List.all_cons,Jg]
theorem Gw{A:yx}{p:Int->Bool}(h:A.list=some p):∀(ts:List ae) (i:Nat),dm A i ts=ts.all fun t=>p t.kind
 | [],_=>rfl
 | t::ts,i=>by
  rw[dm,Gw h ts (i+1),List.all_cons];unfold kR;rw[h]
theorem OL{k:Int}{p:Int->ByteArray->Bool}(h:∀i j x,kV k i j x=p j x):∀(ts:List ae) (i:Nat),jW k i ts=ts.all fun t=>p t.kind t.text
 | [],_=>rfl
 | t::ts,i=>by rw[jW,OL h ts (i+1),List.all_cons,h]
theorem Yp(x:ByteArray):decide (x.size=0)=decide (x=⟨#[]⟩):=by
 have:(x.size=0)↔(x=⟨#[]⟩):=by
  constructor
  ·intro h
   cases x with
   | mk d=>
    have:d.size=0:=h;rw[Array.eq_empty_of_size_eq_zero this]
  ·rintro rfl
   rfl
 exact decide_eq_decide.2 this
theorem Wz(b x:ByteArray):(b.toList==x.toList)=decide (x=b):=by
 have:(b.toList=x.toList)↔x=b:=by
  rw[ByteArray.toList_eq,ByteArray.toList_eq];constructor
  ·intro h
   cases b with
   | mk lb=>
    cases x with
    | mk lx=>
     have A:lb.toList=lx.toList:=h;rw[Array.toList_inj.1 A]
  ·rintro rfl
   rfl
 rw[Bool.eq_iff_iff,beq_iff_eq,this,decide_eq_true_iff]
theorem KR(a b x:ByteArray):kJ [a,b] x=(decide (x=a) || decide (x=b)):=by
 unfold kJ;simp only[List.any_cons,List.any_nil,Bool.or_false,Wz]
theorem CZ{t:ae}(h:mf t.kind=none):fC t=false:=by
 unfold fC;rw[h]
theorem Sv{k:Int}(x:ByteArray)(n:Nat)(A:0<=k)(B:k≠1)(C:k<=29):rF k x n=(mK k x&&(decide ((uW k).1<=n)&&decide (n<=(uW k).2))):=by
 unfold rF;rw[decide_eq_true A,decide_eq_false B,decide_eq_true C];cases mK k x<;>simp
theorem dec_two(n p:Nat):(decide (p<=n)&&decide (n<=p))=decide (n=p):=by
 rw[Bool.eq_iff_iff];simp only[aad,decide_eq_true_eq];omega
theorem lK{k:Int}{x:ByteArray}(h:mK k x=decide (x=⟨#[]⟩)):mK k x=fq x:=h.trans (Yp x).symm
theorem Zp:∀t:ae,t.kids.length<=4096->(rF t.kind t.text t.kids.length&&jW t.kind 0 t.kids)=fC t:=by
 rintro⟨k,x,a,e,ts⟩ P;show(rF k x ts.length&&jW k 0 ts)=_;have O:ts.length<=4096:=P;by_cases G:0<=k
 case neg=>
  have:fC (.node k x a e ts)=false:=CZ (by
   show mf k=none
   cases k with
   | ofNat m=>exact absurd (Int.natCast_nonneg m) G
   | negSucc m=>rfl)
  rw[this];unfold rF;rw[decide_eq_false G];rfl
 obtain⟨m,rfl⟩:∃m:Nat,k=(m:Int):=⟨k.toNat,by omega⟩
 by_cases Q:m<=29
 case neg=>
  have:fC (.node (m:Int) x a e ts)=false:=CZ (by
   show oh m=none;unfold oh
   split<;>first|omega|rfl)
  rw[this];unfold rF;rw[decide_eq_false (p:=((m:Int)<=29)) (by omega)];cases decide (0<=(m:Int))<;>cases decide ((m:Int)=1)<;>rfl
 have D:m=0\/m=1\/m=2\/m=3\/m=4\/m=5\/m=6\/m=7\/m=8\/m=9\/m=10\/m=11\/m=12\/m=13\/m=14\/m=15\/m=16\/m=17\/m=18\/m=19\/m=20\/m=21\/m=22\/m=23\/m=24\/m=25\/m=26\/m=27\/m=28\/m=29:=by omega
 have B:∀(C:ByteArray->Bool) (p:Int->Bool) (F:Nat),m≠1->oh m=some ⟨C,[],some p,(F:Int)⟩->m≠4->(∀i j y,kV (m:Int) i j y=p j)->mK (m:Int) x=C x->uW (m:Int)=(F,4096)->(rF (m:Int) x ts.length&&jW (m:Int) 0 ts)=fC (.node (m:Int) x a e ts):=by
  intro C p F N I R J K L
  have H:fC (.node (m:Int) x a e ts)=oJ ⟨C,[],some p,(F:Int)⟩ (.node (m:Int) x a e ts):=by
   unfold fC;show(match oh m with|none=>false|some sh=>oJ sh _&&(if (m:Int)=4 then CX _ else true))=_;rw[I];show(oJ _ _&&(if (m:Int)=4 then CX _ else true))=_;rw[if_neg (by omega),Bool.and_true]
  rw[H,Sv x ts.length G (by omega) (by omega),K,L,decide_eq_true (show ts.length<=(F,4096).2 from O),Bool.and_true,OL (p:=fun j _=>p j) J];unfold oJ qQ;rw[Gw (p:=p) rfl];show _=(C x&&decide ((F:Int)<=(ts.length:Int))&&_);rw[show decide ((F:Int)<=(ts.length:Int))=decide (F<=ts.length) from decide_eq_decide.2 (by omega)];rfl
 have A:∀(C:ByteArray->Bool) (E:List (Int->Bool)),m≠1->oh m=some ⟨C,E,none,0⟩->mK (m:Int) x=C x->uW (m:Int)=(E.length,E.length)->(ts.length=E.length->(jW (m:Int) 0 ts)=(dm ⟨C,E,none,0⟩ 0 ts&&(if (m:Int)=4 then CX (.node (m:Int) x a e ts) else true)))->(rF (m:Int) x ts.length&&jW (m:Int) 0 ts)=fC (.node (m:Int) x a e ts):=by
  intro C E N I J L K
  have H:fC (.node (m:Int) x a e ts)=(oJ ⟨C,E,none,0⟩ (.node (m:Int) x a e ts)&&(if (m:Int)=4 then CX (.node (m:Int) x a e ts) else true)):=by
   unfold fC;show(match oh m with|none=>false|some sh=>oJ sh _&&(if (m:Int)=4 then CX _ else true))=_;rw[I]
  rw[H,Sv x ts.length G (by omega) (by omega),J,L,dec_two];show _=(C x&&decide (ts.length=E.length)&&dm _ 0 ts&&_);by_cases M:ts.length=E.length
  ·rw[K M,decide_eq_true M,Bool.and_true,Bool.and_assoc]
  ·rw[decide_eq_false M,Bool.and_false,Bool.false_and,Bool.false_and,Bool.false_and]
 clear P Q;rcases D with rfl|rfl|rfl|rfl|rfl|rfl|rfl|rfl|rfl|rfl|rfl|rfl|rfl|rfl|rfl|rfl|rfl|rfl|rfl|rfl|rfl|rfl|rfl|rfl|rfl|rfl|rfl|rfl|rfl|rfl
 ·exact A fq [] (by decide) rfl (lK rfl) rfl (fun h=>by cases ts with|nil=>rfl|cons _ _=>cases h)
 ·have:fC (.node ((1:Nat):Int) x a e ts)=false:=CZ rfl
  rw[this];rfl
 ·exact B fq (bS [3,5]) 0 (by decide) rfl (by decide) (fun i j y=>by simp[kV,bS]) (lK rfl) rfl
 ·exact B df (bS [4]) 1 (by decide) rfl (by decide) (fun i j y=>by simp[kV,bS]) rfl rfl
 ·refine A df [bS [9]] (by decide) rfl rfl rfl (fun h=>?_)
  match ts,h with
  | [t1],_=>simp[jW,kV,dm,kR,bS,CX,ae.kids]
 ·refine A df [bS [6],gL dC,bS [11]] (by decide) rfl rfl rfl (fun h=>?_)
  match ts,h with
  | [t1,t2,t3],_=>simp[jW,kV,dm,kR,bS,gL,Bool.or_comm]
 ·exact B fq (bS [7,8]) 0 (by decide) rfl (by decide) (fun i j y=>by simp[kV,bS]) (lK rfl) rfl
 ·refine A df [gL dC] (by decide) rfl rfl rfl (fun h=>?_)
  match ts,h with
  | [t1],_=>simp[jW,kV,dm,kR,gL,Bool.or_comm]
 ·refine A df [gL dC] (by decide) rfl rfl rfl (fun h=>?_)
  match ts,h with
  | [t1],_=>simp[jW,kV,dm,kR,gL,Bool.or_comm]
 ·exact A NC [] (by decide) rfl (by show _=NC x;simp[mK,uV,NC,nL,DU,KR]) rfl (fun h=>by cases ts with|nil=>rfl|cons _ _=>cases h)
 ·exact A jk [] (by decide) rfl rfl rfl (fun h=>by cases ts with|nil=>rfl|cons _ _=>cases h)
 ·exact B fq ll 0 (by decide) rfl (by decide) (fun i j y=>by simp[kV]) (lK rfl) rfl
 ·refine A df [gL dC,aQ] (by decide) rfl rfl rfl (fun h=>?_)
  match ts,h with
  | [t1,t2],_=>simp[jW,kV,dm,kR,gL,Bool.or_comm]
 ·refine A fq [jv,aQ] (by decide) rfl (lK rfl) rfl (fun h=>?_)
  match ts,h with
  | [t1,t2],_=>simp[jW,kV,dm,kR,Bool.or_comm]
 ·refine A fq [aQ,bS [11],gL (bS [11,14])] (by decide) rfl (lK rfl) rfl (fun h=>?_)
  match ts,h with
  | [t1,t2,t3],_=>(simp[jW,kV,dm,kR,bS,gL];cases decide (t3.kind=0)<;>cases decide (t3.kind=11)<;>cases decide (t3.kind=14)<;>simp)
 ·refine A fq [aQ,bS [11]] (by decide) rfl (lK rfl) rfl (fun h=>?_)
  match ts,h with
  | [t1,t2],_=>simp[jW,kV,dm,kR,bS,Bool.or_comm]
 ·refine A df [aQ,aQ,bS [11]] (by decide) rfl rfl rfl (fun h=>?_)
  match ts,h with
  | [t1,t2,t3],_=>simp[jW,kV,dm,kR,bS,Bool.or_comm]
 ·refine A fq [gL aQ] (by decide) rfl (lK rfl) rfl (fun h=>?_)
  match ts,h with
  | [t1],_=>simp[jW,kV,dm,kR,gL,Bool.or_comm]
 ·refine A fq [aQ] (by decide) rfl (lK rfl) rfl (fun h=>?_)
  match ts,h with
  | [t1],_=>simp[jW,kV,dm,kR]
 ·exact B df aQ 0 (by decide) rfl (by decide) (fun i j y=>by simp[kV]) rfl rfl
 ·exact A df [] (by decide) rfl rfl rfl (fun h=>by cases ts with|nil=>rfl|cons _ _=>cases h)
 ·refine A fq [bS [20],aQ] (by decide) rfl (lK rfl) rfl (fun h=>?_)
  match ts,h with
  | [t1,t2],_=>simp[jW,kV,dm,kR,bS,Bool.or_comm]
 ·refine A df [bS [20]] (by decide) rfl rfl rfl (fun h=>?_)
  match ts,h with
  | [t1],_=>simp[jW,kV,dm,kR,bS,Bool.or_comm]
 ·refine A fq [bS [20]] (by decide) rfl (lK rfl) rfl (fun h=>?_)
  match ts,h with
  | [t1],_=>simp[jW,kV,dm,kR,bS,Bool.or_comm]
 ·exact A jk [] (by decide) rfl rfl rfl (fun h=>by cases ts with|nil=>rfl|cons _ _=>cases h)
 ·exact A (nL Fb) [] (by decide) rfl (by show _=nL Fb x;simp[mK,uV,nL,Fb,KR]) rfl (fun h=>by cases ts with|nil=>rfl|cons _ _=>cases h)
 ·exact B fq aQ 1 (by decide) rfl (by decide) (fun i j y=>by simp[kV]) (lK rfl) rfl
 ·exact B df aQ 0 (by decide) rfl (by decide) (fun i j y=>by simp[kV]) rfl rfl
 ·refine A (nL Qz) [aQ] (by decide) rfl (by show _=nL Qz x;simp[mK,uV,nL,Qz,KR]) rfl (fun h=>?_)
  match ts,h with
  | [t1],_=>simp[jW,kV,dm,kR]
 ·refine A (nL BU) [aQ,aQ] (by decide) rfl (by show _=nL BU x;simp[mK,uV,nL]) rfl (fun h=>?_)
  match ts,h with
  | [t1,t2],_=>simp[jW,kV,dm,kR]
mutual
theorem IZ:∀t:ae,ai t<=4096->uE t=fP t
 | .node k x a e ts,h=>by
  have A:ai (.node k x a e ts)=1+aD ts:=rfl
  rw[uE,Fv,QO,<- Zp (.node k x a e ts) (by
   show ts.length<=4096;have:=jO ts
   omega),Gd ts (by omega)]
  show _=(rF k x ts.length&&jW k 0 ts&&_);rw[Bool.and_assoc]
theorem Gd:∀ts:List ae,aD ts<=4096->ts.all uE=ts.all fP
 | [],_=>rfl
 | t::ts,h=>by
  rw[aD]at h;rw[List.all_cons,List.all_cons,IZ t (by omega),Gd ts (by omega)]
end
theorem RType_any(k:Int)(w:World):Calls Tryz.prog 206 #[.int .i64 k] w fun e w'=>e= .returned (.bool (dC k))/\w=w':=by
 by_cases h:k=9
 ·subst h
  go_in
  go_wp2_with fail
  go_ret
  exact⟨rfl,rfl⟩
 ·have B:(k==9)=false:=by simpa using h
  have A:Hid (dC k=(k==10)):=kH (by unfold dC;rw[decide_eq_false h,Bool.false_or,Bool.eq_iff_iff];simp);clear h;go_in
  go_wp2_with fail
  go_ret
  rw[A.out];exact⟨rfl,rfl⟩
theorem RExpr_any(k:Int)(w:World):Calls Tryz.prog 207 #[.int .i64 k] w fun e w'=>e= .returned (.bool (aQ k))/\w=w':=by
 by_cases h:20<=k
 ·have A:Hid (aQ k=decide (k<=29)):=kH (by unfold aQ;rw[decide_eq_true h,Bool.true_and])
  go_in
  go_wp2_with fail
  go_ret
  rw[A.out];exact⟨rfl,rfl⟩
 ·have A:Hid (aQ k=false):=kH (by unfold aQ;rw[decide_eq_false h];rfl)
  go_in
  go_wp2_with fail
  go_ret
  rw[A.out];exact⟨rfl,rfl⟩
theorem RStmt_any(k:Int)(w:World):Calls Tryz.prog 26 #[.int .i64 k] w fun e w'=>e= .returned (.bool (ll k))/\w=w':=by
 by_cases h:12<=k
 ·have A:Hid (ll k=decide (k<=19)):=kH (by unfold ll;rw[decide_eq_true h,Bool.true_and])
  go_in
  go_wp2_with fail
  go_ret
  rw[A.out];exact⟨rfl,rfl⟩
 ·have A:Hid (ll k=false):=kH (by unfold ll;rw[decide_eq_false h];rfl)
  go_in
  go_wp2_with fail
  go_ret
  rw[A.out];exact⟨rfl,rfl⟩
theorem YA(k:Int)(w:World):Calls Tryz.prog 208 #[.int .i64 k] w fun e w'=>e= .returned (.bool (jv k))/\w=w':=by
 by_cases h:k=20
 ·subst h
  go_in
  go_wp2_with fail
  go_ret
  exact⟨rfl,rfl⟩
 ·have C:(k==20)=false:=by simpa using h
  by_cases A:k=21
  ·subst A
   go_in
   go_wp2_with fail
   go_ret
   exact⟨rfl,rfl⟩
  ·have D:(k==21)=false:=by simpa using A
   have B:Hid (jv k=(k==22)):=kH (by unfold jv;rw[decide_eq_false h,decide_eq_false A,Bool.false_or,Bool.false_or,Bool.eq_iff_iff];simp);clear h A;go_in
   go_wp2_with fail
   go_ret
   rw[B.out];exact⟨rfl,rfl⟩
theorem most_any(k:Int)(B:0<=k)(A:k<=29)(w:World):Calls Tryz.prog 153 #[.int .i64 k] w fun e w'=>e= .returned (.tuple #[.int .i64 ((uW k).1:Int),.int .i64 ((uW k).2:Int)])/\w=w':=by
 have C:k=0\/k=1\/k=2\/k=3\/k=4\/k=5\/k=6\/k=7\/k=8\/k=9\/k=10\/k=11\/k=12\/k=13\/k=14\/k=15\/k=16\/k=17\/k=18\/k=19\/k=20\/k=21\/k=22\/k=23\/k=24\/k=25\/k=26\/k=27\/k=28\/k=29:=by omega
 clear B A;rcases C with rfl|rfl|rfl|rfl|rfl|rfl|rfl|rfl|rfl|rfl|rfl|rfl|rfl|rfl|rfl|rfl|rfl|rfl|rfl|rfl|rfl|rfl|rfl|rfl|rfl|rfl|rfl|rfl|rfl|rfl
 all_goals
  go_in
  go_wp2_with fail
  go_ret2
  try exact⟨rfl,rfl⟩
end Go.Proofs.YtoepemlnlpamlaaGreat
