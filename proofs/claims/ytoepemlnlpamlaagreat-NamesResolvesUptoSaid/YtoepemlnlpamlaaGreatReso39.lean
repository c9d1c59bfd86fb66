/- The law NamesResolves holds where what it reads is of bulk at most 1048576: it returns true, and its argument reads as before. Part 39: Rw7 ShR Shp9. -/
import Derived.Test.YtoepemlnlpamlaaGreatReso21
import Derived.Test.YtoepemlnlpamlaaGreatReso38
set_option maxRecDepth 100000
set_option maxHeartbeats 4000000
namespace Go.Proofs.YtoepemlnlpamlaaGreat
open Go.RowKit
theorem OL(n:Nat)(hn:n<=1000000)(w:World):
 (Instr.makeSlice 28 (.int .i64 (n:Int)) (.int .i64 (n:Int))).run Tryz.prog w= .ok (.slice (some ⟨w.heap.size,0,none⟩) n n) (w.alloc (.cells (gY (List.replicate n (0:Int))).toArray 3)):=by
 obtain⟨i0,hi0,hz0,hz1,hz2⟩:=info_parts Au;have h:=run_make (P:=Tryz.prog) w 28 3 i0 _ Tryz.underlying28 hi0 hz0 .i64 .i64 n n (by omega) (by omega) (by rw[hz2];omega) (by omega);rw[h];simp only[Int.toNat_natCast,hz1,Nat.mul_one]
 have h2:madeCells (Value.int .i64 0).cells n=(gY (List.replicate n (0:Int))).toArray:=by
  apply Array.ext'
  show(madeCells #[Value.int .i64 0] n).toList=_;rw[toList_madeCells_one];simp[gY]
 rw[h2]
def MO(t:ae)(mk:Int):RW:=(bQ (il (bY t) 0 (-1) []) mk t (-1) [] ⟨[],List.replicate (au t) (-1),[],0,[]⟩).1
def En(t:ae)(mk:Int):RW:={ MO t mk with uses:=(MO t mk).uses.map (jJ (MO t mk).ds) }
theorem rep_set(N i:Nat)(h:i<N)(a b:Int):(List.replicate i a++List.replicate (N - i) b).set i a=List.replicate (i+1) a++List.replicate (N - (i+1)) b:=by
 rw[List.set_append_right _ _ (by simp),List.length_replicate,Nat.sub_self,show N - i=(N - (i+1))+1 by omega,List.replicate_succ,sZ,List.replicate_succ'];simp
theorem Ps{α:Type}(f:α->α)(l:List α)(i:Nat)(x:α)(h:l[i]? =some x):((l.take i).map f++l.drop i).set i (f x)=(l.take (i+1)).map f++l.drop (i+1):=by
 have hlt:=(abK.1 h).1;have hx:=(abK.1 h).2;have hl:((l.take i).map f).length=i:=by simp;omega
 rw[List.set_append_right _ _ (by omega),hl,Nat.sub_self,List.drop_eq_getElem_cons hlt,sZ,List.take_add_one,h,List.map_append];simp
theorem Pt{α:Type}(f:α->α)(l:List α)(i:Nat)(x:α)(h:l[i]? =some x):((l.take i).map f++l.drop i)[i]? =some x:=by
 have hlt:=(abK.1 h).1;have hl:((l.take i).map f).length=i:=by simp;omega
 rw[abO (by omega),hl,Nat.sub_self,List.getElem?_drop];exact h
theorem ZK{P:Program}{ops:Array Oper}{Q:Exit->Act->World->Prop}{S:World->Prop}{ex:List Nat}{k:Nat}{ss:List Bool}{o:Oper}{rest:List Oper}{a:Act}{w w':World}{v:Value}(hg:Region.wanted o (yielded ops a.tmps)=true)
 (hr:(execOp a.eval o).run P w= .ok (.value v) w') (hS:ex.contains k=false->S w') (h:tF P ops Q S ex (k+1) ss rest (a.put o.dst v) w'):tF P ops Q S ex k (false::ss) (o::rest) a w:=
 O8 hg (by unfold Oper.wp;rw[hr];exact⟨hS,h⟩)
theorem Xw{P:Program}{ops:Array Oper}{Q:Exit->Act->World->Prop}{S:World->Prop}{ex:List Nat}{k:Nat}{ss:List Bool}{o:Oper}{rest:List Oper}{a:Act}{w w':World}(hg:Region.wanted o (yielded ops a.tmps)=true)
 (hr:(execOp a.eval o).run P w= .ok .skip w') (hS:ex.contains k=false->S w') (h:tF P ops Q S ex (k+1) ss rest (a.put o.dst undef) w'):tF P ops Q S ex k (false::ss) (o::rest) a w:=
 O8 hg (by unfold Oper.wp;rw[hr];exact⟨hS,h⟩)
structure L1 (w:World) (rp ub N lg c2:Nat) (A2:Option Addr) (mk:Int) (G:List Dc) (nc:Array Value) (i:Nat) (wr:World):Prop where
 B:ai wr rp 84 #[.slice none 0 0,.slice (some ⟨ub,0,none⟩) N N,.slice none 0 0,.slice A2 lg c2,.int .i64 0,.int .i64 mk,.slice none 0 0]
 U:aL wr w.heap.size 3 1 (.slice (some ⟨ub,0,none⟩) N N) N (gY (List.replicate i (-1)++List.replicate (N - i) 0))
 G:aL wr w.heap.size 49 4 (.slice A2 lg c2) lg (G.flatMap cB)
 Nd:ai wr w.heap.size 24 nc
 Bl:Below w.heap.size w wr
theorem PX(t:ae)(A:Option Addr)(c:Nat)(mk:Int)(w:World)(hN:au t<=1000000)(hcap:t.kids.length<=c)(hk:aK w w.heap.size A 0 t.kids):
 Calls Tryz.prog 43 #[bD t A c,.int .i64 mk] w fun e w'=> ∃(E:RE) (V:RQ),e= .returned (.pointer (some ⟨E.rp,0,none⟩))/\E.lo=w.heap.size/\dL E (il (bY t) 0 (-1) []) mk (En t mk) V w'/\Below w.heap.size w w':=by
 have hmake:=OL (au t) hN;obtain⟨k0,x0,a0,z0,n0,-,-,-,-,-,kX⟩:=fq t A c;obtain⟨W1,hW1⟩:∃W1,w.alloc (.cells #[.int .i64 k0,.string x0,.int .i64 a0,.int .i64 z0,.slice A n0 c] 24)=W1:=⟨_,rfl⟩
 have hb1:Below w.heap.size w W1:=by rw[<- hW1];exact ag _ _
 have hT1:ai W1 w.heap.size 24 #[.int .i64 k0,.string x0,.int .i64 a0,.int .i64 z0,.slice A n0 c]:=by rw[<- hW1];exact ai.new w _ _
 have hkW:∀W,Below w.heap.size w W->aK W W.heap.size A 0 t.kids:=fun W hb=>aK.mono hb.size _ _ _ (aK.below hb (abE _) _ _ _ hk)
 have Q5:=Qa t A c W1 hN hcap (hkW W1 hb1);have hcnt:=fun(W:World) (hb:Below w.heap.size w W)=>L9 (au t) t A c W (abE _) (by omega) (hkW W hb)
 obtain⟨G,hG⟩:∃z,il (bY t) 0 (-1) []=z:=⟨_,rfl⟩
 obtain⟨N,zm⟩:∃z,au t=z:=⟨_,rfl⟩
 have hGl:G.length<=N:=by
  rw[<- hG,<- zm,<- mh];have:=Ob (bY t) 0 (-1) [];simpa using this
 have hGn:∀d∈G,0<=d.node/\d.node<=1000000:=fun d hd=>by
  rw[<- hG]at hd;rcases IG _ _ _ _ d hd with h|h
  ·cases h
  ·rw[mh]at h
   omega
 have hGh:∀y∈bY t,y.kind=3\/y.kind=4\/y.kind=5->∃d,mW G (decide (y.kind=4)) y.text=some d:=fun y hy h=>by rw[<- hG];exact aa6 hy h
 obtain⟨W,hW⟩:∃z,MO t mk=z:=⟨_,rfl⟩
 have hW':=hW;unfold MO at hW';rw[hG,zm]at hW';have hsp:=Dx G mk t (-1) [] ⟨[],List.replicate N (-1),[],0,[]⟩
 have hub:=Tv (M:=1000002) (fun d hd=>by have:=hGn d hd;omega) mk t (-1) [] ⟨[],List.replicate N (-1),[],0,[]⟩ ⟨abE _,by simp⟩ (fun v hv=>by
  have:=List.eq_of_mem_replicate hv
  omega) (by show((0:Nat):Int)+(au t:Int)<=1000002;omega)
 rw[hW']at hsp hub
 have Yw:W.uses.length=N:=by
  have:=hsp.1.us;rw[this];exact List.length_replicate
 have hdl:W.ds.length<=1000000:=by
  have this:W.ds.length<=0+au t:=hsp.1.Og;omega
 have hfin:En t mk= { W with uses:=W.uses.map (jJ W.ds) }:=by unfold En;rw[hW]
 rw[hG]at Q5⊢;rw[hfin];rw[zm]at hmake hcnt hN;obtain⟨ca,Uc⟩:∃z,(gY (List.replicate N (0:Int))).toArray=z:=⟨_,rfl⟩
 rw[Uc]at hmake;have GG:=kH Uc;clear Uc;rw[kX]at Q5 hcnt⊢;obtain⟨lg,wV⟩:∃z,G.length=z:=⟨_,rfl⟩
 rw[wV]at Q5 hGl;have HGLO:=kH Q5;have Xn:=kH hcnt;have Dt:=kH hkW;have HG:Hid (G.length=lg/\lg<=N):=kH ⟨wV,hGl⟩;have Du:=kH hGn;have HGH:=kH hGh;have HW:=kH hW';have yV:=kH hub;have Ov:Hid (W.uses.length=N/\W.ds.length<=1000000):=kH ⟨Yw,hdl⟩;have HB1:=kH hb1;have HT1:=kH hT1;have uX:=kH zm;have BV:=kH kX;have HCAP:=kH hcap;have HK:=kH hk;obtain⟨⟨t0,t1,t2,t3,t4⟩,-⟩:=hT1.five;have lt':=hT1.lt;clear hb1 hT1 hkW Q5 hcnt hG zm hGl hGn hGh hW hW' hsp hub Yw hdl hfin kX wV hcap hk;go_enter Tryz.func43,Tryz.ntmps43
 go_wp2_with (rw[hW1])
 clear t0 t1 t2 t3 t4 lt' hW1;refine HGLO.out.mono ?_;rintro e2 w2 ⟨A2,c2,rfl,hO2,hb2⟩;obtain⟨W3,hW3⟩:∃z,w2.alloc (.cells #[.slice none 0 0,.slice none 0 0,.slice none 0 0,.slice A2 lg c2,.int .i64 0,.int .i64 mk,.slice none 0 0] 84)=z:=⟨_,rfl⟩
 have hb3:Below w2.heap.size w2 W3:=by rw[<- hW3];exact ag _ _
 have bT:ai W3 w2.heap.size 84 #[.slice none 0 0,.slice none 0 0,.slice none 0 0,.slice A2 lg c2,.int .i64 0,.int .i64 mk,.slice none 0 0]:=by rw[<- hW3];exact ai.new _ _ _
 obtain⟨rp,Lr⟩:∃z,w2.heap.size=z:=⟨_,rfl⟩
 have ic:Below W1.heap.size W1 W3:=hb2.trans (hb3.mono hb2.size);have Ee:Below w.heap.size w W3:=HB1.out.trans (ic.mono HB1.out.size);have hrlo:w.heap.size<=rp:=by rw[<- Lr];exact abF HB1.out.size hb2.size
 rw[Lr]at bT;have jH:=kH (HT1.out.below ic HT1.out.lt);have IV:=kH ((hO2.below hb3 (fun g hg=>(hO2.lt g hg).2)).mono HB1.out.size);have HB3:=kH Ee;have HR3:=kH bT;have HRLO:=kH hrlo;obtain⟨⟨t0,t1,t2,t3,t4⟩,-⟩:=jH.out.five;have lt':=jH.out.lt;have HRP:=kH Lr;have HW3:=kH hW3;clear hb3 bT ic Ee hO2 hb2 hrlo HGLO HT1 Lr hW3 t0 t1 t2 t3 t4 lt';obtain⟨⟨t0,t1,t2,t3,t4⟩,-⟩:=(jH.out).five;have lt':=jH.out.lt;go_upto_region 2 with fail
 rw[HW3.out,HRP.out];go_wp2_with fail
 refine(Xn.out W3 HB3.out).mono ?_;rintro e4 w4 ⟨rfl,hb4⟩;obtain⟨ub,Wi⟩:∃z,w4.heap.size=z:=⟨_,rfl⟩
 obtain⟨W5,jk⟩:∃z,(w4.setCell ⟨rp,1,none⟩ (.slice (some ⟨ub,0,none⟩) N N)).alloc (.cells ca 3)=z:=⟨_,rfl⟩
 have hL1:L1 w rp ub N lg c2 A2 mk G #[.int .i64 k0,.string x0,.int .i64 a0,.int .i64 z0,.slice A n0 c] 0 W5:=by
  have hs:aF (fun g=>g=rp) w4 W5:=by
   rw[<- jk];exact((aF.refl (fun g=>g=rp) w4).setCell (.inl rfl) _).alloc _
  have dX:=HR3.out.below hb4 HR3.out.lt;have hO4:=IV.out.below hb4 (fun g hg=>(IV.out.lt g hg).2);have Uh:=jH.out.below hb4 jH.out.lt;have hB4:Below w.heap.size w w4:=HB3.out.trans (hb4.mono HB3.out.size);have hsz:(w4.setCell ⟨rp,1,none⟩ (.slice (some ⟨ub,0,none⟩) N N)).heap.size=ub:=by rw[<- Wi];simp[World.setCell]
  have hU:aL W5 w.heap.size 3 1 (.slice (some ⟨ub,0,none⟩) N N) N (gY (List.replicate N (0:Int))):=by
   have hbn:=ai.new (w4.setCell ⟨rp,1,none⟩ (.slice (some ⟨ub,0,none⟩) N N)) 3 ca;rw[hsz,jk]at hbn;have:=aL.block (base:=w.heap.size) (size:=1) (n:=N) (by rw[<- Wi];exact hB4.size) hbn (by simp only[maxLen];omega) (by rw[<- GG.out];simp[gY]);rw[<- GG.out]at this;simpa using this
  refine⟨?_,?_,hO4.since hs (fun g hg e=>hO4.bZ dX (by decide) (by rw[hg,e])),Uh.since hs (fun e=>?_),hs.toBelow ?_ (fun g hg=>?_) |> hB4.trans⟩
  ·rw[<- jk]
   have:=(dX.fM 1 (.slice (some ⟨ub,0,none⟩) N N)).alloc (.cells ca 3);simpa using this
  ·simpa using hU
  ·have:=jH.out.lt
   have h2:=HR3.out;rw[<- e]at h2;have h3:=jH.out;unfold ai at h2 h3;rw[h2]at h3;simp at h3
  ·exact hB4.size
  ·rw[hg];exact HRLO.out
 have tN:=kH hL1;have dX:=HR3.out.below hb4 HR3.out.lt;have c41:=dX.cell 1;have f41:=dX.frozen 1;have l4:=dX.lt;have HW5:=kH jk;have HUBB:=kH Wi;clear hL1 dX hb4 Xn t0 t1 t2 t3 t4 lt' jk Wi;go_upto_region 3 with fail
 rw[HUBB.out,HW5.out];clear c41 f41 l4;go_wp2_with fail
 go_loopg [6] N (fun gk s6 wr=> ∃i:Nat,s6= .int .i64 (i:Int)/\i+gk=N/\Hid (L1 w rp ub N lg c2 A2 mk G #[.int .i64 k0,.string x0,.int .i64 a0,.int .i64 z0,.slice A n0 c] i wr))
 case atStart=>exact⟨0,rfl,by omega,tN⟩
 case round=>
  obtain⟨i,rfl,hin,HI⟩:=hrel;have hib:i<=N:=by omega
  have rH:=kH hin;have c1:=HI.out.B.cell 1;have l1:=HI.out.B.lt;clear hin;by_cases hlt:i<N
  ·obtain⟨g,off,cap,hv,-,-,-,hgl,hcs⟩:=HI.out.U.form (by omega)
   cases hv
   have hlen:(List.replicate i (-1:Int)++List.replicate (N - i) 0).length=N:=by simp;omega
   obtain⟨u,hu⟩:∃z,(List.replicate i (-1:Int)++List.replicate (N - i) 0)[i]? =some z:=⟨_,abI (by rw[hlen];exact hlt)⟩
   have mY:wr.cell? ⟨ub,i,none⟩=some (.int .i64 u):=by
    have:=hcs i (.int .i64 u) (by show(List.map _ _)[i]? =_;rw[List.getElem?_map,hu];rfl);simpa using this
   obtain⟨cur,hcur⟩:=HI.out.U.typed (g:=ub) rfl;have hfu:wr.frozen? ⟨ub,i,none⟩=false:=by simp[World.frozen?,hcur]
   have hsn:aF (fun x=>x=ub) wr (wr.setCell ⟨ub,i,none⟩ (.int .i64 (-1))):=(aF.refl (fun x=>x=ub) wr).setCell (.inl rfl) _
   have hne:∀{g:Nat}{t:TypeId}{cs:Array Value},ai wr g t cs->t≠3->g≠ub:=fun hb ht e=>by
    subst e;exact HI.out.U.bZ hb (fun e=>ht e.symm) rfl
   have hN1:Hid (L1 w rp ub N lg c2 A2 mk G #[.int .i64 k0,.string x0,.int .i64 a0,.int .i64 z0,.slice A n0 c] (i+1) (wr.setCell ⟨ub,i,none⟩ (.int .i64 (-1)))):=kH (by
    have hU:=HI.out.U.set1 i hlt (.int .i64 (-1));rw[Nat.zero_add]at hU;refine⟨HI.out.B.since hsn (hne HI.out.B (by decide)),?_,HI.out.G.since hsn (fun g hg e=>HI.out.G.apart HI.out.U (by decide) g hg (by rw[e];rfl)),HI.out.Nd.since hsn (hne HI.out.Nd (by decide)),HI.out.Bl.trans (hsn.toBelow HI.out.Bl.size (fun g hg=>by rw[hg];exact(HI.out.U.lt ub rfl).1))⟩;rw[<- rep_set N i hlt (-1) 0];show aL _ _ _ _ _ _ (List.map _ _);rw[List.map_set]
    exact hU)
   have aaH:(i:Int)<(N:Int):=by omega
   have hi00:¬((i:Int)<0):=by omega
   have hw2:IntKind.i64.wrap ((i:Int)+1)=(i:Int)+1:=IntWalk.i64_in _ (by omega);clear hlen hu hcs hcur hsn HI;go_wp2_with fail
   go_roundg (gk - 1)
   case measure=>have:=rH.out;omega
   case rel=>exact⟨i+1,by simp,by have:=rH.out;omega,hN1⟩
  ·have hie:i=N:=by omega
   subst hie;obtain⟨⟨t0,t1,t2,t3,t4⟩,-⟩:=HI.out.Nd.five;have lt':=HI.out.Nd.lt;obtain⟨W8,nQ⟩:∃z,wr.alloc (.cells #[] 3)=z:=⟨_,rfl⟩
   have dW:Below wr.heap.size wr W8:=by rw[<- nQ];exact ag _ _
   obtain⟨E,hE⟩:∃E:RE,E=⟨w.heap.size,W8.heap.size,rp,some ⟨ub,0,none⟩,i,A2,c2⟩:=⟨_,rfl⟩
   have WH:Below w.heap.size w W8:=HI.out.Bl.trans (dW.mono HI.out.Bl.size)
   have eB:dL E G mk ⟨[],List.replicate i (-1),[],0,[]⟩ ⟨none,0,none,0,none,0⟩ W8:=by
    rw[hE];refine⟨?_,aL.nil _ _ _ _,?_,aL.nil _ _ _ _,?_,fun g hg=>?_,gK.nil _ _ _,⟨WH.size,HRLO.out⟩,abE _⟩
    ·have:=HI.out.B.below dW HI.out.B.lt
     show ai W8 rp _ #[.slice none 0 0,.slice (some ⟨ub,0,none⟩) (List.replicate i (-1:Int)).length i,.slice none 0 0,.slice A2 G.length c2,.int .i64 0,.int .i64 mk,.slice none 0 0];rw[List.length_replicate,HG.out.1];exact this
    ·have:=HI.out.U.below dW (fun g hg=>(HI.out.U.lt g hg).2)
     rw[Nat.sub_self,List.replicate_zero,List.append_nil]at this;show aL W8 w.heap.size _ 1 (.slice (some ⟨ub,0,none⟩) (List.replicate i (-1:Int)).length i) (List.replicate i (-1:Int)).length _;rw[List.length_replicate];exact this
    ·have:=HI.out.G.below dW (fun g hg=>(HI.out.G.lt g hg).2)
     show aL W8 w.heap.size _ 4 (.slice A2 G.length c2) G.length _;rw[HG.out.1];exact this
    ·have h1:=hg
     rw[show G.length=lg from HG.out.1]at h1;exact Nat.lt_of_lt_of_le (HI.out.G.lt g h1).2 dW.size
   have hsc:gK W8 (E.uA.map (·.block)) (some ⟨wr.heap.size,0,none⟩) []:=gK.nil _ _ _;have hroom:Xe G ⟨[],List.replicate i (-1),[],0,[]⟩ [] t:=⟨abE _,abE _,by show 0+au t<=(List.replicate i (-1:Int)).length;rw[List.length_replicate,uX.out];omega,by show(List.replicate i (-1:Int)).length<=_;rw[List.length_replicate];exact hN,by have:=HG.out;omega,Du.out,⟨abE _,by simp⟩,HGH.out⟩
   have hcall:=Nj E G mk w.heap.size (by rw[hE];exact abE _) (au t) t (abE _) (-1) [] ⟨[],List.replicate i (-1),[],0,[]⟩ _ W8 (some ⟨wr.heap.size,0,none⟩) 0 0 A c eB hsc rfl (abE _) (aK.below WH (abE _) _ _ _ HK.out) HCAP.out hroom (by rw[hE];exact abE _);rw[BV.out,HW.out]at hcall;have jo:=kH hcall;have HBW8:=kH WH;have HRR:=kH eB;have I6:Hid (E.rp=rp/\E.lo=w.heap.size/\E.uA=some ⟨ub,0,none⟩/\E.uc=i):=kH (by rw[hE];exact⟨rfl,rfl,rfl,rfl⟩);rw[I6.out.1]at jo;obtain⟨⟨v0,v1,v2,v3,v4⟩,-⟩:=(HI.out.Nd.below dW HI.out.Nd.lt).five;have lv:=Nat.lt_of_lt_of_le lt' dW.size;clear hcall WH eB hsc hroom dW hE HI;go_wp2_with (rw[nQ])
   clear t0 t1 t2 t3 t4 lt' v0 v1 v2 v3 v4 lv nQ c1 l1;refine jo.out.mono ?_;rintro e9 w9 ⟨A9,n9,c9,rfl,-,-,-,V9,h9,k9⟩;obtain⟨nd,hnd⟩:∃z,W.ds.length=z:=⟨_,rfl⟩
   have lC:=kH hnd;have H9:=kH h9;have K9:=kH k9;have hndb:nd<=1000000:=by have:=Ov.out.2;omega
   clear h9 k9 hnd jo;go_wp2_with fail
   go_loopg [7] i (fun gk s7 wr=> ∃j:Nat,s7= .int .i64 (j:Int)/\j+gk=i/\Hid (dL E G mk { W with uses:=(W.uses.take j).map (jJ W.ds)++W.uses.drop j } V9 wr/\KW E w9 wr))
   case atStart=>exact⟨0,rfl,by omega,kH ⟨H9.out,KW.refl _ _⟩⟩
   case round=>
    obtain⟨j,rfl,hjn,HJ⟩:=hrel;have hjb:j<=i:=by omega
    have HJN:=kH hjn;have D8:((W.uses.take j).map (jJ W.ds)++W.uses.drop j).length=i:=by have:=Ov.out.1;simp;omega
    have hbj:=HJ.out.1.blk;rw[I6.out.1,I6.out.2.2.1,I6.out.2.2.2,show({ W with uses:=(W.uses.take j).map (jJ W.ds)++W.uses.drop j }:RW).uses.length=i from D8,show({ W with uses:=(W.uses.take j).map (jJ W.ds)++W.uses.drop j }:RW).ds.length=nd from lC.out]at hbj;have r0:=hbj.cell 0;have r1:=hbj.cell 1;have lr:=hbj.lt;clear hjn;by_cases hlt:j<i
    ·obtain⟨u,hu⟩:∃z,W.uses[j]? =some z:=⟨_,abI (by rw[Ov.out.1];exact hlt)⟩
     have hub:=yV.out u (abQ hu);have hget:=Pt (jJ W.ds) W.uses j u hu;have hset:=Ps (jJ W.ds) W.uses j u hu;have mK:=HJ.out.1.us;rw[I6.out.2.2.1]at mK;obtain⟨g,off,cap,hv,-,-,-,-,hcs⟩:=mK.form (by rw[show({ W with uses:=(W.uses.take j).map (jJ W.ds)++W.uses.drop j }:RW).uses.length=i from D8];omega);cases hv
     have mY:wr.cell? ⟨ub,j,none⟩=some (.int .i64 u):=by
      have:=hcs j (.int .i64 u) (by show(List.map _ _)[j]? =_;rw[List.getElem?_map,hget];rfl);simpa using this
     have M7:=kH hset;have hji:(j:Int)<(i:Int):=by omega
     have hj0:¬((j:Int)<0):=by omega
     have hw2:IntKind.i64.wrap ((j:Int)+1)=(j:Int)+1:=IntWalk.i64_in _ (by omega);have HBJ:=kH hbj;clear hcs mK hget hset hu hbj;by_cases hneg:u< -1
     ·have hwu:IntKind.i64.wrap (-2 - u)= -2 - u:=IntWalk.i64_in _ (by omega)
      have LB:jJ W.ds u=J2 W.ds (-2 - u):=by
       unfold jJ J2;rw[if_pos hneg];rfl
      have hd1:Below wr.heap.size wr wr.drew:=(Below.refl _ _).drew;have hdec:=fun(X:World) (hb:Below wr.heap.size wr X)=>OO V9.dA nd V9.dc W.ds (-2 - u) X (((HJ.out.1.ds.rowAt (cells:=cB) (l:=W.ds) rfl rfl (fun _ _=>rfl) rfl).below hb (abE _)).mono hb.size) lC.out hndb
      rw[<- LB]at hdec;obtain⟨y,hy⟩:∃z,jJ W.ds u=z:=⟨_,rfl⟩
      rw[hy]at hdec;have GD:=kH hdec;have HY:=kH hy;have dU:Hid (∀X,Below wr.heap.size wr X->X.cell? ⟨rp,0,none⟩=some (.slice V9.dA nd V9.dc)/\X.cell? ⟨rp,1,none⟩=some (.slice (some ⟨ub,0,none⟩) i i)/\X.cell? ⟨ub,j,none⟩=some (.int .i64 u)):=kH fun X hb=>⟨(HBJ.out.below hb HBJ.out.lt).cell 0,(HBJ.out.below hb HBJ.out.lt).cell 1,(hb.cell (p:=⟨ub,j,none⟩) (World.block_lt_of_cell? wr _ mY)).trans mY⟩
      have hS0:=dU.out _ hd1;clear hdec hy LB;go_wp2_with fail
      refine dZ (fun X=>X.cell? ⟨rp,0,none⟩=some (.slice V9.dA nd V9.dc)/\X.cell? ⟨rp,1,none⟩=some (.slice (some ⟨ub,0,none⟩) i i)/\X.cell? ⟨ub,j,none⟩=some (.int .i64 u)) [16] [true,true,true,true,true,true,true,true,true,true,true,true,true,true,false,false,false] (by kernel_rfl) (by kernel_rfl) rfl (by kernel_rfl) ?_;iterate 14((first|(refine eG (by rfl) hS0 ?_)|(refine dz (by rfl) hS0 (by intro w' hSw;obtain⟨hs1,hs2,hs3⟩:=hSw;go_simp;rfl) ?_));simp only[Act.put,sA,sZ,sC])
      refine gm (by rfl) (by go_simp) ((GD.out _ hd1).mono ?_);rintro e5 w5 ⟨rfl,hb5⟩;have pQ:Below wr.heap.size wr w5:=hd1.trans (hb5.mono hd1.size);have hS5:=dU.out _ pQ;have h5:=HJ.out.1.below pQ;obtain⟨bu,ou,hA,hbu,hcu5,hfu5,hput⟩:=h5.yo j (by rw[show({ W with uses:=(W.uses.take j).map (jJ W.ds)++W.uses.drop j }:RW).uses.length=i from D8];exact hlt);rw[I6.out.2.2.1]at hA;cases hA
      rw[Nat.zero_add]at hcu5 hfu5 hput;refine⟨_,rfl,fun _=>hS5,?_⟩;simp only[Act.put,sA,sZ,sC];have hl1:=hS5.2.1;refine ZK (w':=w5) (by rfl) (by go_simp;rfl) (fun _=>hS5) ?_;simp only[Act.put,sA,sZ,sC];refine Xw (w':=w5.setCell ⟨ub,j,none⟩ (.int .i64 y)) (by rfl) (by go_simp) (by simp) ?_;refine iU ?_;simp only[Act.put]
      have bF:Hid (dL E G mk { W with uses:=(W.uses.take (j+1)).map (jJ W.ds)++W.uses.drop (j+1) } V9 (w5.setCell ⟨ub,j,none⟩ (.int .i64 y))/\KW E w9 (w5.setCell ⟨ub,j,none⟩ (.int .i64 y))):=kH (by
       obtain⟨g1,g2⟩:=hput y;refine⟨?_,(HJ.out.2.trans (KW.of_below pQ)).trans g2⟩;rw[<- M7.out,HY.out]
       exact g1)
      clear hput h5 hb5 pQ hS5 hS0 hd1 hcu5 hfu5 hl1 GD;go_wp2_with fail
      go_roundg (gk - 1)
      case measure=>have:=HJN.out;omega
      case rel=>exact⟨j+1,by simp,by have:=HJN.out;omega,bF⟩
     ·have hge:¬u< -1:=hneg
      have LB:jJ W.ds u=u:=by
       unfold jJ;rw[if_neg hneg]
      have bF:Hid (dL E G mk { W with uses:=(W.uses.take (j+1)).map (jJ W.ds)++W.uses.drop (j+1) } V9 wr/\KW E w9 wr):=kH (by
       refine⟨?_,HJ.out.2⟩;have h1:=M7.out;rw[LB]at h1;rw[<- h1]
       have h2:((W.uses.take j).map (jJ W.ds)++W.uses.drop j).set j u=(W.uses.take j).map (jJ W.ds)++W.uses.drop j:=by
        refine List.ext_getElem? fun q=>?_
        rw[List.getElem?_set];split
        ·rename_i hq
         subst hq;rw[if_pos (by rw[D8];exact hlt)];have mK:=HJ.out.1.us;rw[I6.out.2.2.1]at mK;obtain⟨g,off,cap,hv,-,-,-,-,hcs⟩:=mK.form (by rw[show({ W with uses:=(W.uses.take j).map (jJ W.ds)++W.uses.drop j }:RW).uses.length=i from D8];omega);cases hv
         have h5:=abI (l:=(W.uses.take j).map (jJ W.ds)++W.uses.drop j) (i:=j) (by rw[D8];exact hlt);have h3:=hcs j (.int .i64 (((W.uses.take j).map (jJ W.ds)++W.uses.drop j)[j]'(by rw[D8];exact hlt))) (by show(List.map _ _)[j]? =_;rw[List.getElem?_map,h5];rfl);rw[Nat.zero_add,mY]at h3;simp only[abJ,Value.int.injEq,true_and]at h3;rw[h5,<- h3]
        ·rfl
       rw[h2]
       exact HJ.out.1)
      clear LB;go_wp2_with fail
      go_roundg (gk - 1)
      case measure=>have:=HJN.out;omega
      case rel=>exact⟨j+1,by simp,by have:=HJN.out;omega,bF⟩
    ·have NT:j=i:=by omega
     subst NT
     have aO:Hid (dL E G mk { W with uses:=W.uses.map (jJ W.ds) } V9 wr/\Below w.heap.size w wr):=kH (by
      obtain⟨g1,g2⟩:=HJ.out;rw[List.take_of_length_le (by rw[Ov.out.1];exact abE _),List.drop_of_length_le (by rw[Ov.out.1];exact abE _),List.append_nil]at g1;have hlow:=(K9.out.trans g2).low HRR.out;rw[I6.out.2.1]at hlow
      exact⟨g1,HBW8.out.trans hlow⟩)
     clear hbj HJ;go_wp2_with fail
     go_ret
     exact⟨E,by rw[I6.out.1];rfl,I6.out.2.1,⟨V9,aO.out.1⟩,aO.out.2⟩
def uF:List Int:=[3,4,5,7,8,12,16,19,20,22,27]
def lY(k:Int)(x:ByteArray):Bool:=
 if uF.any (fun y=>decide (k=y)) then cO x
 else if k=9 then decide (x=⟨#[105,110,116]⟩) || decide (x=⟨#[98,111,111,108]⟩) || cO x
 else if k=10\/k=24 then je x
 else if k=25 then decide (x=⟨#[116,114,117,101]⟩) || decide (x=⟨#[102,97,108,115,101]⟩)
 else if k=28 then decide (x=⟨#[45]⟩) || decide (x=⟨#[110,111,116]⟩)
 else if k=29 then lT Bb x
 else decide (x=⟨#[]⟩)
def ky(kind:Int)(i:Nat)(k:Int)(x:ByteArray):Bool:=
 if kind=2 then decide (k=3) || decide (k=5)
 else if kind=3 then decide (k=4)
 else if kind=4 then decide (k=9)&&dJ x
 else if kind=5 then decide (i=0)&&decide (k=6) || decide (i=1)&&(di k || decide (k=0)) || decide (i=2)&&decide (k=11)
 else if kind=6 then decide (k=7) || decide (k=8)
 else if kind=7\/kind=8 then di k || decide (k=0)
 else if kind=11 then kG k
 else if kind=12 then decide (i=0)&&(di k || decide (k=0)) || decide (i=1)&&aP k
 else if kind=13 then decide (i=0)&&jh k || decide (i=1)&&aP k
 else if kind=14 then decide (i=0)&&aP k || decide (i=1)&&decide (k=11) || decide (i=2)&&(decide (k=11) || decide (k=14) || decide (k=0))
 else if kind=15 then decide (i=0)&&aP k || decide (i=1)&&decide (k=11)
 else if kind=16 then decide (i<2)&&aP k || decide (i=2)&&decide (k=11)
 else if kind=17 then aP k || decide (k=0)
 else if kind=21 then decide (i=0)&&decide (k=20) || decide (i=1)&&aP k
 else if kind=22\/kind=23 then decide (k=20)
 else aP k
def uG(k:Int):Nat×Nat:=
 if k=2\/k=6\/k=11\/k=19\/k=27 then(0,4096)
 else if k=3\/k=26 then(1,4096)
 else if k=5\/k=14\/k=16 then(3,3)
 else if k=12\/k=13\/k=15\/k=21\/k=29 then(2,2)
 else if k=4\/k=7\/k=8\/k=17\/k=18\/k=22\/k=23\/k=28 then(1,1)
 else(0,0)
def qU(k:Int)(x:ByteArray)(n:Nat):Bool:=decide (0<=k)&& !decide (k=1)&&decide (k<=29)&&lY k x&&decide ((uG k).1<=n)&&decide (n<=(uG k).2)
mutual
def tT:ae->Bool
 | .node k x _ _ kids=>qU k x kids.length&&nW k 0 kids
def nW(k:Int):Nat->List ae->Bool
 | _,[]=>true
 | i,t::ts=>ky k i t.kind t.text&&tT t&&nW k (i+1) ts
end
def jI(k:Int):Nat->List ae->Bool
 | _,[]=>true
 | i,t::ts=>ky k i t.kind t.text&&jI k (i+1) ts
theorem EE(k:Int):∀(ts:List ae) (i:Nat),nW k i ts=(jI k i ts&&ts.all tT)
 | [],_=>rfl
 | t::ts,i=>by
  rw[nW,jI,EE k ts (i+1),List.all_cons];cases ky k i t.kind t.text<;>cases tT t<;>cases jI k (i+1) ts<;>rfl
theorem Ii(p:ae->Bool):∀ts:List ae,(dN ts).all p=ts.all fun t=>(bY t).all p
 | []=>rfl
 | t::ts=>by rw[dN,List.all_append,Ii p ts,List.all_cons]
theorem PK(k:Int)(x:ByteArray)(a e:Int)(ts:List ae):fJ (.node k x a e ts)=(eX (.node k x a e ts)&&ts.all fJ):=by
 unfold fJ;rw[bY,List.all_cons,Ii]
theorem FE{sh:xJ}{p:Int->Bool}(h:sh.list=some p):∀(ts:List ae) (i:Nat),df sh i ts=ts.all fun t=>p t.kind
 | [],_=>rfl
 | t::ts,i=>by
  rw[df,FE h ts (i+1),List.all_cons];unfold ko;rw[h]
theorem NI{k:Int}{p:Int->ByteArray->Bool}(h:∀i j x,ky k i j x=p j x):∀(ts:List ae) (i:Nat),jI k i ts=ts.all fun t=>p t.kind t.text
 | [],_=>rfl
 | t::ts,i=>by rw[jI,NI h ts (i+1),List.all_cons,h]
theorem WU(x:ByteArray):decide (x.size=0)=decide (x=⟨#[]⟩):=by
 have:(x.size=0)↔(x=⟨#[]⟩):=by
  constructor
  ·intro h
   cases x with
   | mk d=>
    have:d.size=0:=h;rw[Array.eq_empty_of_size_eq_zero this]
  ·rintro rfl
   rfl
 exact decide_eq_decide.2 this
theorem U1(b x:ByteArray):(b.toList==x.toList)=decide (x=b):=by
 have:(b.toList=x.toList)↔x=b:=by
  rw[ByteArray.toList_eq,ByteArray.toList_eq];constructor
  ·intro h
   cases b with
   | mk lb=>
    cases x with
    | mk lx=>
     have h':lb.toList=lx.toList:=h;rw[Array.toList_inj.1 h']
  ·rintro rfl
   rfl
 rw[Bool.eq_iff_iff,beq_iff_eq,this,decide_eq_true_iff]
theorem JS(a b x:ByteArray):lT [a,b] x=(decide (x=a) || decide (x=b)):=by
 unfold lT;simp only[List.any_cons,List.any_nil,Bool.or_false,U1]
theorem Cc{t:ae}(h:lK t.kind=none):eX t=false:=by
 unfold eX;rw[h]
theorem Ra{k:Int}(x:ByteArray)(n:Nat)(h0:0<=k)(h1:k≠1)(h2:k<=29):qU k x n=(lY k x&&(decide ((uG k).1<=n)&&decide (n<=(uG k).2))):=by
 unfold qU;rw[decide_eq_true h0,decide_eq_false h1,decide_eq_true h2];cases lY k x<;>simp
theorem dec_two(n p:Nat):(decide (p<=n)&&decide (n<=p))=decide (n=p):=by
 rw[Bool.eq_iff_iff];simp only[abG,decide_eq_true_eq];omega
theorem kS{k:Int}{x:ByteArray}(h:lY k x=decide (x=⟨#[]⟩)):lY k x=eQ x:=h.trans (WU x).symm
theorem Yc:∀t:ae,t.kids.length<=4096->(qU t.kind t.text t.kids.length&&jI t.kind 0 t.kids)=eX t:=by
 rintro⟨k,x,a,e,ts⟩ hn;show(qU k x ts.length&&jI k 0 ts)=_;have hn':ts.length<=4096:=hn;by_cases h0:0<=k
 case neg=>
  have:eX (.node k x a e ts)=false:=Cc (by
   show lK k=none
   cases k with
   | ofNat m=>exact absurd (Int.natCast_nonneg m) h0
   | negSucc m=>rfl)
  rw[this];unfold qU;rw[decide_eq_false h0];rfl
 obtain⟨m,rfl⟩:∃m:Nat,k=(m:Int):=⟨k.toNat,by omega⟩
 by_cases BQ:m<=29
 case neg=>
  have:eX (.node (m:Int) x a e ts)=false:=Cc (by
   show nM m=none;unfold nM
   split<;>first|omega|rfl)
  rw[this];unfold qU;rw[decide_eq_false (p:=((m:Int)<=29)) (by omega)];cases decide (0<=(m:Int))<;>cases decide ((m:Int)=1)<;>rfl
 have hcases:m=0\/m=1\/m=2\/m=3\/m=4\/m=5\/m=6\/m=7\/m=8\/m=9\/m=10\/m=11\/m=12\/m=13\/m=14\/m=15\/m=16\/m=17\/m=18\/m=19\/m=20\/m=21\/m=22\/m=23\/m=24\/m=25\/m=26\/m=27\/m=28\/m=29:=by omega
 have hlist:∀(tx:ByteArray->Bool) (p:Int->Bool) (mo:Nat),m≠1->nM m=some ⟨tx,[],some p,(mo:Int)⟩->m≠4->(∀i j y,ky (m:Int) i j y=p j)->lY (m:Int) x=tx x->uG (m:Int)=(mo,4096)->(qU (m:Int) x ts.length&&jI (m:Int) 0 ts)=eX (.node (m:Int) x a e ts):=by
  intro tx p mo hm1 h1 h4 h2 h3 h5
  have e1:eX (.node (m:Int) x a e ts)=nY ⟨tx,[],some p,(mo:Int)⟩ (.node (m:Int) x a e ts):=by
   unfold eX;show(match nM m with|none=>false|some sh=>nY sh _&&(if (m:Int)=4 then Ca _ else true))=_;rw[h1];show(nY _ _&&(if (m:Int)=4 then Ca _ else true))=_;rw[if_neg (by omega),Bool.and_true]
  rw[e1,Ra x ts.length h0 (by omega) (by omega),h3,h5,decide_eq_true (show ts.length<=(mo,4096).2 from hn'),Bool.and_true,NI (p:=fun j _=>p j) h2];unfold nY qB;rw[FE (p:=p) rfl];show _=(tx x&&decide ((mo:Int)<=(ts.length:Int))&&_);rw[show decide ((mo:Int)<=(ts.length:Int))=decide (mo<=ts.length) from decide_eq_decide.2 (by omega)];rfl
 have hfix:∀(tx:ByteArray->Bool) (ps:List (Int->Bool)),m≠1->nM m=some ⟨tx,ps,none,0⟩->lY (m:Int) x=tx x->uG (m:Int)=(ps.length,ps.length)->(ts.length=ps.length->(jI (m:Int) 0 ts)=(df ⟨tx,ps,none,0⟩ 0 ts&&(if (m:Int)=4 then Ca (.node (m:Int) x a e ts) else true)))->(qU (m:Int) x ts.length&&jI (m:Int) 0 ts)=eX (.node (m:Int) x a e ts):=by
  intro tx ps hm1 h1 h2 h5 h3
  have e1:eX (.node (m:Int) x a e ts)=(nY ⟨tx,ps,none,0⟩ (.node (m:Int) x a e ts)&&(if (m:Int)=4 then Ca (.node (m:Int) x a e ts) else true)):=by
   unfold eX;show(match nM m with|none=>false|some sh=>nY sh _&&(if (m:Int)=4 then Ca _ else true))=_;rw[h1]
  rw[e1,Ra x ts.length h0 (by omega) (by omega),h2,h5,dec_two];show _=(tx x&&decide (ts.length=ps.length)&&df _ 0 ts&&_);by_cases hl:ts.length=ps.length
  ·rw[h3 hl,decide_eq_true hl,Bool.and_true,Bool.and_assoc]
  ·rw[decide_eq_false hl,Bool.and_false,Bool.false_and,Bool.false_and,Bool.false_and]
 clear hn BQ;rcases hcases with rfl|rfl|rfl|rfl|rfl|rfl|rfl|rfl|rfl|rfl|rfl|rfl|rfl|rfl|rfl|rfl|rfl|rfl|rfl|rfl|rfl|rfl|rfl|rfl|rfl|rfl|rfl|rfl|rfl|rfl
 ·exact hfix eQ [] (by decide) rfl (kS rfl) rfl (fun h=>by cases ts with|nil=>rfl|cons _ _=>cases h)
 ·have:eX (.node ((1:Nat):Int) x a e ts)=false:=Cc rfl
  rw[this];rfl
 ·exact hlist eQ (bR [3,5]) 0 (by decide) rfl (by decide) (fun i j y=>by simp[ky,bR]) (kS rfl) rfl
 ·exact hlist cO (bR [4]) 1 (by decide) rfl (by decide) (fun i j y=>by simp[ky,bR]) rfl rfl
 ·refine hfix cO [bR [9]] (by decide) rfl rfl rfl (fun h=>?_)
  match ts,h with
  | [t1],_=>simp[jI,ky,df,ko,bR,Ca,ae.kids]
 ·refine hfix cO [bR [6],gG di,bR [11]] (by decide) rfl rfl rfl (fun h=>?_)
  match ts,h with
  | [t1,t2,t3],_=>simp[jI,ky,df,ko,bR,gG,Bool.or_comm]
 ·exact hlist eQ (bR [7,8]) 0 (by decide) rfl (by decide) (fun i j y=>by simp[ky,bR]) (kS rfl) rfl
 ·refine hfix cO [gG di] (by decide) rfl rfl rfl (fun h=>?_)
  match ts,h with
  | [t1],_=>simp[jI,ky,df,ko,gG,Bool.or_comm]
 ·refine hfix cO [gG di] (by decide) rfl rfl rfl (fun h=>?_)
  match ts,h with
  | [t1],_=>simp[jI,ky,df,ko,gG,Bool.or_comm]
 ·exact hfix MK [] (by decide) rfl (by show _=MK x;simp[lY,uF,MK,mU,CV,JS]) rfl (fun h=>by cases ts with|nil=>rfl|cons _ _=>cases h)
 ·exact hfix je [] (by decide) rfl rfl rfl (fun h=>by cases ts with|nil=>rfl|cons _ _=>cases h)
 ·exact hlist eQ kG 0 (by decide) rfl (by decide) (fun i j y=>by simp[ky]) (kS rfl) rfl
 ·refine hfix cO [gG di,aP] (by decide) rfl rfl rfl (fun h=>?_)
  match ts,h with
  | [t1,t2],_=>simp[jI,ky,df,ko,gG,Bool.or_comm]
 ·refine hfix eQ [jh,aP] (by decide) rfl (kS rfl) rfl (fun h=>?_)
  match ts,h with
  | [t1,t2],_=>simp[jI,ky,df,ko,Bool.or_comm]
 ·refine hfix eQ [aP,bR [11],gG (bR [11,14])] (by decide) rfl (kS rfl) rfl (fun h=>?_)
  match ts,h with
  | [t1,t2,t3],_=>(simp[jI,ky,df,ko,bR,gG];cases decide (t3.kind=0)<;>cases decide (t3.kind=11)<;>cases decide (t3.kind=14)<;>simp)
 ·refine hfix eQ [aP,bR [11]] (by decide) rfl (kS rfl) rfl (fun h=>?_)
  match ts,h with
  | [t1,t2],_=>simp[jI,ky,df,ko,bR,Bool.or_comm]
 ·refine hfix cO [aP,aP,bR [11]] (by decide) rfl rfl rfl (fun h=>?_)
  match ts,h with
  | [t1,t2,t3],_=>simp[jI,ky,df,ko,bR,Bool.or_comm]
 ·refine hfix eQ [gG aP] (by decide) rfl (kS rfl) rfl (fun h=>?_)
  match ts,h with
  | [t1],_=>simp[jI,ky,df,ko,gG,Bool.or_comm]
 ·refine hfix eQ [aP] (by decide) rfl (kS rfl) rfl (fun h=>?_)
  match ts,h with
  | [t1],_=>simp[jI,ky,df,ko]
 ·exact hlist cO aP 0 (by decide) rfl (by decide) (fun i j y=>by simp[ky]) rfl rfl
 ·exact hfix cO [] (by decide) rfl rfl rfl (fun h=>by cases ts with|nil=>rfl|cons _ _=>cases h)
 ·refine hfix eQ [bR [20],aP] (by decide) rfl (kS rfl) rfl (fun h=>?_)
  match ts,h with
  | [t1,t2],_=>simp[jI,ky,df,ko,bR,Bool.or_comm]
 ·refine hfix cO [bR [20]] (by decide) rfl rfl rfl (fun h=>?_)
  match ts,h with
  | [t1],_=>simp[jI,ky,df,ko,bR,Bool.or_comm]
 ·refine hfix eQ [bR [20]] (by decide) rfl (kS rfl) rfl (fun h=>?_)
  match ts,h with
  | [t1],_=>simp[jI,ky,df,ko,bR,Bool.or_comm]
 ·exact hfix je [] (by decide) rfl rfl rfl (fun h=>by cases ts with|nil=>rfl|cons _ _=>cases h)
 ·exact hfix (mU Es) [] (by decide) rfl (by show _=mU Es x;simp[lY,uF,mU,Es,JS]) rfl (fun h=>by cases ts with|nil=>rfl|cons _ _=>cases h)
 ·exact hlist eQ aP 1 (by decide) rfl (by decide) (fun i j y=>by simp[ky]) (kS rfl) rfl
 ·exact hlist cO aP 0 (by decide) rfl (by decide) (fun i j y=>by simp[ky]) rfl rfl
 ·refine hfix (mU Po) [aP] (by decide) rfl (by show _=mU Po x;simp[lY,uF,mU,Po,JS]) rfl (fun h=>?_)
  match ts,h with
  | [t1],_=>simp[jI,ky,df,ko]
 ·refine hfix (mU Bb) [aP,aP] (by decide) rfl (by show _=mU Bb x;simp[lY,uF,mU]) rfl (fun h=>?_)
  match ts,h with
  | [t1,t2],_=>simp[jI,ky,df,ko]
mutual
theorem Hq:∀t:ae,au t<=4096->tT t=fJ t
 | .node k x a e ts,h=>by
  have hc:au (.node k x a e ts)=1+aG ts:=rfl
  rw[tT,EE,PK,<- Yc (.node k x a e ts) (by
   show ts.length<=4096;have:=kV ts
   omega),Fh ts (by omega)]
  show _=(qU k x ts.length&&jI k 0 ts&&_);rw[Bool.and_assoc]
theorem Fh:∀ts:List ae,aG ts<=4096->ts.all tT=ts.all fJ
 | [],_=>rfl
 | t::ts,h=>by
  rw[aG]at h;rw[List.all_cons,List.all_cons,Hq t (by omega),Fh ts (by omega)]
end
theorem Zl(k:Int)(w:World):Calls Tryz.prog 206 #[.int .i64 k] w fun e w'=>e= .returned (.bool (di k))/\w=w':=by
 by_cases h:k=9
 ·subst h
  go_enter Tryz.func206,Tryz.ntmps206
  go_wp2_with fail
  go_ret
  exact⟨rfl,rfl⟩
 ·have h1:(k==9)=false:=by simpa using h
  have h2:Hid (di k=(k==10)):=kH (by unfold di;rw[decide_eq_false h,Bool.false_or,Bool.eq_iff_iff];simp);clear h;go_enter Tryz.func206,Tryz.ntmps206
  go_wp2_with fail
  go_ret
  rw[h2.out];exact⟨rfl,rfl⟩
theorem Zn(k:Int)(w:World):Calls Tryz.prog 207 #[.int .i64 k] w fun e w'=>e= .returned (.bool (aP k))/\w=w':=by
 by_cases h:20<=k
 ·have h2:Hid (aP k=decide (k<=29)):=kH (by unfold aP;rw[decide_eq_true h,Bool.true_and])
  go_enter Tryz.func207,Tryz.ntmps207
  go_wp2_with fail
  go_ret
  rw[h2.out];exact⟨rfl,rfl⟩
 ·have h2:Hid (aP k=false):=kH (by unfold aP;rw[decide_eq_false h];rfl)
  go_enter Tryz.func207,Tryz.ntmps207
  go_wp2_with fail
  go_ret
  rw[h2.out];exact⟨rfl,rfl⟩
theorem Zm(k:Int)(w:World):Calls Tryz.prog 26 #[.int .i64 k] w fun e w'=>e= .returned (.bool (kG k))/\w=w':=by
 by_cases h:12<=k
 ·have h2:Hid (kG k=decide (k<=19)):=kH (by unfold kG;rw[decide_eq_true h,Bool.true_and])
  go_enter Tryz.func26,Tryz.ntmps26
  go_wp2_with fail
  go_ret
  rw[h2.out];exact⟨rfl,rfl⟩
 ·have h2:Hid (kG k=false):=kH (by unfold kG;rw[decide_eq_false h];rfl)
  go_enter Tryz.func26,Tryz.ntmps26
  go_wp2_with fail
  go_ret
  rw[h2.out];exact⟨rfl,rfl⟩
theorem Xf(k:Int)(w:World):Calls Tryz.prog 208 #[.int .i64 k] w fun e w'=>e= .returned (.bool (jh k))/\w=w':=by
 by_cases h:k=20
 ·subst h
  go_enter Tryz.func208,Tryz.ntmps208
  go_wp2_with fail
  go_ret
  exact⟨rfl,rfl⟩
 ·have h1:(k==20)=false:=by simpa using h
  by_cases h3:k=21
  ·subst h3
   go_enter Tryz.func208,Tryz.ntmps208
   go_wp2_with fail
   go_ret
   exact⟨rfl,rfl⟩
  ·have h4:(k==21)=false:=by simpa using h3
   have h2:Hid (jh k=(k==22)):=kH (by unfold jh;rw[decide_eq_false h,decide_eq_false h3,Bool.false_or,Bool.false_or,Bool.eq_iff_iff];simp);clear h h3;go_enter Tryz.func208,Tryz.ntmps208
   go_wp2_with fail
   go_ret
   rw[h2.out];exact⟨rfl,rfl⟩
theorem aai(k:Int)(h0:0<=k)(BQ:k<=29)(w:World):Calls Tryz.prog 153 #[.int .i64 k] w fun e w'=>e= .returned (.tuple #[.int .i64 ((uG k).1:Int),.int .i64 ((uG k).2:Int)])/\w=w':=by
 have hc:k=0\/k=1\/k=2\/k=3\/k=4\/k=5\/k=6\/k=7\/k=8\/k=9\/k=10\/k=11\/k=12\/k=13\/k=14\/k=15\/k=16\/k=17\/k=18\/k=19\/k=20\/k=21\/k=22\/k=23\/k=24\/k=25\/k=26\/k=27\/k=28\/k=29:=by omega
 clear h0 BQ;rcases hc with rfl|rfl|rfl|rfl|rfl|rfl|rfl|rfl|rfl|rfl|rfl|rfl|rfl|rfl|rfl|rfl|rfl|rfl|rfl|rfl|rfl|rfl|rfl|rfl|rfl|rfl|rfl|rfl|rfl|rfl
 all_goals
  go_enter Tryz.func153,Tryz.ntmps153
  go_wp2_with fail
  go_ret2
  try exact⟨rfl,rfl⟩
end Go.Proofs.YtoepemlnlpamlaaGreat
