/- Collect agrees with the reference. Part 16: ColC2 ColS KBfs KChainM KChain KSolveM KOwn KSort KSolve KEq. -/
import Derived.Test.YtoepemlnlpamlaaGreatColl15
set_option maxRecDepth 100000
set_option maxHeartbeats 4000000
namespace Go.Proofs.YtoepemlnlpamlaaGreat
open Go.RowKit
theorem aaE{w:World}{B base D n c:Nat}{A:Option Addr}{ts:List ae}{vals:List (List Value)}(M:aG w base 24 5 (.slice A n c) n (List.flatten vals))(Q:n=ts.length)(N:gF w B ts vals)(L:B<=D)(E:∀g,(Value.slice A n c).ownBlock=some g->g<D):aD w D A 0 ts:=by
 by_cases H:0<n
 ·obtain⟨g,C,F,S,-,-,-,-,O⟩:=M.form H
  cases S
  refine aD.mk (E g rfl) fun j t P=>?_
  obtain⟨G,I,J⟩:=N.get P;refine⟨G,fun q v R=>?_,jH.mono L _ _ I⟩;have K:=O _ _ (J q v R);rw[Nat.zero_add,show C+j*5+q=C+(j*5+q) by omega];exact K
 cases ts with
 | nil=>trivial
 | cons t ts=>simp at Q;omega
structure ab7 (lo cb:Nat) (NA:Option Addr) (nn nc:Nat) (dA:Option Addr) (nd dc:Nat) (uA:Option Addr) (nu uc:Nat) (RA:Option Addr) (rn rc:Nat) (vals:List (List Value)) (ts:List ae) (nm:List ByteArray) (W0 W:World):Prop where
 blk:ah W cb 120 #[.slice NA nn nc,.slice dA nd dc,.slice uA nu uc,.slice RA rn rc,.slice none 0 0]
 TS:aG W lo 24 5 (.slice NA nn nc) nn (List.flatten vals)
 vls:gF W lo ts vals
 rcs:oC W lo RA rn rc nm
 bel:Below lo W0 W
 cb:lo<=cb
 len:nn=ts.length
section
variable {lo cb nn nc nd dc nu uc rn rc:Nat}{NA dA uA RA:Option Addr}{vals:List (List Value)}{ts:List ae}{nm:List ByteArray}{W0 W:World}
theorem oC.keep{w w':World}{n c:Nat}{A:Option Addr}(h:oC w lo A n c nm)(E:∀{v:Value}{n:Nat}{B:List Value},aG w lo 164 2 v n B->aG w' lo 164 2 v n B):oC w' lo A n c nm:=by
 obtain⟨F,C,D⟩:=h;exact⟨F,E C,D⟩
theorem oC.mono{w:World}{lo' n c:Nat}{A:Option Addr}{nm:List ByteArray}(h:oC w lo A n c nm)(D:lo'<=lo):oC w lo' A n c nm:=by
 obtain⟨E,B,C⟩:=h;exact⟨E,B.mono D,C⟩
theorem Ka{M N O P Q:Value}{Z:World}(D:lo<=cb)(C:ah Z cb 120 #[M,N,O,P,Q])(F:aG Z lo 24 5 (.slice NA nn nc) nn (List.flatten vals))(I:gF Z lo ts vals)(H:oC Z lo RA rn rc nm)(J:Below lo W0 Z)(K:nn=ts.length)(B:lo<=Z.heap.size):
 ab7 lo cb NA nn nc dA nd dc uA nu uc RA rn rc vals ts nm W0 (fZ Z cb (.slice NA nn nc) (.slice dA nd dc) (.slice uA nu uc) (.slice RA rn rc) (.slice none 0 0)) where
 blk:=C.tZ _ _ _ _ _
 TS:=F.since kI fun g E h=>by
  have A:=F.bB C (by decide);rw[E,h]at A;exact A rfl
 vls:=I.below (kI.toBelow B fun q L=>by omega) (ab9 _)
 rcs:=H.keep fun h=>h.since kI fun g E G=>by
  have A:=h.bB C (by decide);rw[E,G]at A;exact A rfl
 bel:=J.trans (kI.toBelow B fun q L=>by omega)
 cb:=D
 len:=K
theorem cfin_rh{C:CM}(h:ab7 lo cb NA nn nc dA nd dc uA nu uc RA rn rc vals C.N C.nm W0 W)(D:W0.heap.size=lo)(V:aS 4 bQ W0 lo dA C.ds)(X:aS 1 gu W0 lo uA C.us)(H:C.ds.length=nd)(J:C.us.length=nu)(U:C.N.length<=200000)(P O R:Int)(Q:ByteArray):
 kD ⟨cb,W.heap.size,P,Q,O,R,NA,nn,nc,RA,rn,rc,dA,nd,dc,uA,nu,uc⟩ [] W/\RH ⟨cb,W.heap.size,P,Q,O,R,NA,nn,nc,RA,rn,rc,dA,nd,dc,uA,nu,uc⟩ C W.heap.size W:=by
 have A:lo<=W.heap.size:=by rw[<- D];exact(h.bel.mono (Nat.le_of_eq D) |>.size)
 have E:∀w',CX W.heap.size cb W w'->aD w' W.heap.size NA 0 C.N/\aS 1 gu w' W.heap.size uA C.us/\aS 4 bQ w' W.heap.size dA C.ds/\jI w' W.heap.size RA rn C.nm:=fun w' K=>by
  have L:=K.low A h.cb A;have B:=h.bel.trans L;refine⟨aaE (K.own h.TS (by decide) (h.TS.bB h.blk (by decide))) h.len (h.vls.below L (ab9 _)) A (fun g I=>(h.TS.lt g I).2),(X.below B (ab9 _)).mono A,(V.below B (ab9 _)).mono A,?_⟩;refine(h.rcs.keep fun M=>K.own M (by decide) (M.bB h.blk (by decide))).recs fun g I=>?_
  obtain⟨y,T,-⟩:=h.rcs;exact(T.lt g I).2
 obtain⟨s1,Y,Z,z⟩:=E W (CX.refl _ _ _);refine⟨⟨none,0,h.blk,aG.nil _ _ _ _⟩,s1,h.len.symm,Y,J,Z,H,z,ab9 _,U,E,fun F S G=>?_⟩;have G:NA=some ⟨F,S,none⟩:=G;subst G;exact⟨fun e=>h.TS.bB h.blk (by decide) (show some F=some cb from congrArg some e),(h.TS.lt F rfl).2⟩
end
theorem P5(C:CM)(l:List ae)(i:Nat):(jD C (l.take i) 0 (-1)).1.length<=(jD C l 0 (-1)).1.length:=by
 have h:=yJ C (l.take i) (l.drop i) 0 (-1);rw[List.take_append_drop]at h;rw[h,acm];omega
structure WX (E:CE) (C:CM) (B:Nat) (i p:Nat) (w w':World):Prop where
 rc:kD E (jD C (C.N.take i) 0 (-1)).1 w'
 rh:RH E C B w'
 pr:xw C i p
 cx:CX E.base E.cb w w'
theorem Qf(t:ae)(A:Option Addr)(c:Nat)(w:World)(hN:aB t<=4096)(a1:t.kids.length<=c)(hk:aD w w.heap.size A 0 t.kids):
 Calls Tryz.prog 34 #[aO t A c] w (Fv t w):=by
 have a7:∀W,Below w.heap.size w W->Calls Tryz.prog 13 #[aO t A c] W (qN t W):=fun W x=>(Qe t A c W hN a1 (aD.mono x.size _ _ _ (aD.below x (ab9 _) _ _ _ hk))).mono fun e w' h=>qN.ref h
 have a6:dC t=true->∀W,Below w.heap.size w W->Calls Tryz.prog 62 #[aO t A c] W _:=fun hv W x=>P7 t A c W hN (aD.mono x.size _ _ _ (aD.below x (ab9 _) _ _ _ hk)) hv
 have aw:∀W lo,Below w.heap.size w W->w.heap.size<=lo->lo<=W.heap.size->Calls Tryz.prog 36 #[aO t A c] W (RL W lo (aM t)):=fun W lo x R h2=>Ex (aB t) t A c W lo h2 (ab9 _) (by omega) a1 (aD.mono R _ _ _ (aD.below x (ab9 _) _ _ _ hk))
 obtain⟨k0,x0,a0,z0,n0,-,-,-,-,-,dH⟩:=aW t A c;rw[dH]at a7 a6 aw⊢;obtain⟨W1, aq⟩:=ag (w.alloc (.cells #[.int .i64 k0,.string x0,.int .i64 a0,.int .i64 z0,.slice A n0 c] 24));have aE:Below w.heap.size w W1:=by rw[<- aq];exact ai _ _
 have Ch:ah W1 w.heap.size 24 #[.int .i64 k0,.string x0,.int .i64 a0,.int .i64 z0,.slice A n0 c]:=by rw[<- aq];exact ah.new _ _ _
 have bG:=kH (a7 W1 aE);have Hu:=kH a6;have a8:=kH aw;have HT:Hid (aB t<=4096):=kH hN;have lY:=kH aE;have BI:=kH Ch;obtain⟨⟨m0,m1,m2,m3,m4⟩,-⟩:=Ch.five;have lm:=Ch.lt;clear a7 a6 aw dH aE Ch hk a1 hN;go_in
 go_wp2_with (rw[aq])
 clear m0 m1 m2 m3 m4 lm aq
 cases hv:dC t with
 | false=>
  have HV:=kH hv;clear hv;refine bG.out.mono ?_;rintro e3 w3 b;obtain⟨dA,nd,dc,uA,nu,uc,lA,nl,lc,rfl,P⟩:=qN.bad HV.out b;obtain⟨D, nK⟩:=ag (w3.alloc (.cells #[.slice dA nd dc,.slice uA nu uc] 30));have M:Below w3.heap.size w3 D:=by rw[<- nK];exact ai _ _
  have mF:Hid (Below w.heap.size w D):=kH (lY.out.trans ((P.trans (M.mono P.size)).mono lY.out.size));clear P M b;go_wp2_with (rw[nK])
  go_ret2
  exact Zd HV.out rfl mF.out
 | true=>
  have HV:=kH hv;have O8:=kH (Hu.out hv);clear hv;refine bG.out.mono ?_;rintro e3 w3 b;obtain⟨nd, b1⟩:=ag ((aZ t).ds.length);obtain⟨nu, b3⟩:=ag ((aZ t).uses.length);obtain⟨dA,dc,uA,uc,lA,lc,rfl,r1,r2,P⟩:=qN.ok HV.out b;rw[b1,b3];obtain⟨D, nK⟩:=ag (w3.alloc (.cells #[.slice dA nd dc,.slice uA nu uc] 30));obtain⟨g3, b0⟩:=ag w3.heap.size;have M:Below w3.heap.size w3 D:=by rw[<- nK];exact ai _ _
  have ay:ah D g3 30 #[.slice dA nd dc,.slice uA nu uc]:=by rw[<- nK,<- b0];exact ah.new _ _ _
  have NZ:=(BI.out.below P BI.out.lt).below M (BI.out.below P BI.out.lt).lt;have YL:Below w.heap.size w D:=lY.out.trans ((P.trans (M.mono P.size)).mono lY.out.size)
  have fE:∀W,Below D.heap.size D W->W.cell? ⟨w.heap.size,0,none⟩=some (.int .i64 k0)/\W.cell? ⟨w.heap.size,1,none⟩=some (.string x0)/\W.cell? ⟨w.heap.size,2,none⟩=some (.int .i64 a0)/\W.cell? ⟨w.heap.size,3,none⟩=some (.int .i64 z0)/\W.cell? ⟨w.heap.size,4,none⟩=some (.slice A n0 c)/\W.cell? ⟨g3,0,none⟩=some (.slice dA nd dc)/\W.cell? ⟨g3,1,none⟩=some (.slice uA nu uc):=fun W x=>by
   have R:=NZ.below x NZ.lt;have h2:=ay.below x ay.lt;exact⟨R.cell 0,R.cell 1,R.cell 2,R.cell 3,R.cell 4,h2.cell 0,h2.cell 1⟩
  have an:Hid (aS 4 bQ D D.heap.size dA (aZ t).ds/\aS 1 gu D D.heap.size uA (aZ t).uses/\(aZ t).ds.length=nd/\(aZ t).uses.length=nu):=kH ⟨(r1.below M (ab9 _)).mono M.size,(r2.below M (ab9 _)).mono M.size,b1,b3⟩;obtain⟨nn, b2⟩:=ag ((aM t).length);have rV:=kH b2;have mF:=kH YL;have bP:=kH fE;have R8:=kH (And.intro nK b0);have oM:Below D.heap.size D D.drew:=(Below.refl _ _).drew;have ad:=fE _ oM;obtain⟨lo, ar⟩:=ag D.heap.size;have K:=kH ar
  have vV:Hid (∀(W:World) (h:Below D.heap.size D W),Calls Tryz.prog 36 #[.agg #[.int .i64 k0,.string x0,.int .i64 a0,.int .i64 z0,.slice A n0 c]] W fun e w'=> ∃NA nc vals,e= .returned (.slice NA nn nc)/\aG w' W.heap.size 24 5 (.slice NA nn nc) nn (List.flatten vals)/\gF w' lo (aM t) vals/\Below W.heap.size W w'):=kH fun W x=>(a8.out W lo (mF.out.trans (x.mono mF.out.size)) (by rw[<- ar];exact mF.out.size) (by rw[<- ar];exact x.size)).mono fun e w' ⟨v,n,vals,R,h2,b,h4,h5⟩=>by
   rw[b2]at h2;subst h2;obtain⟨NA,nc,rfl,-,-⟩:=b.shape;exact⟨NA,nc,vals,R,b,h4,h5⟩
  have ZM:Hid (∀(W:World) (h:Below D.heap.size D W),Calls Tryz.prog 62 #[.agg #[.int .i64 k0,.string x0,.int .i64 a0,.int .i64 z0,.slice A n0 c]] W fun e w'=> ∃S n c',e= .returned (.slice S n c')/\oC w' W.heap.size S n c' (jc t.kids)/\Below W.heap.size W w'):=kH fun W x=>O8.out W (mF.out.trans (x.mono mF.out.size))
  have aa:=kH (Nf HV.out);clear r1 r2 P M ay NZ YL fE b1 b3 nK b0 b b2 Hu O8 a8 ar;go_upto_region 2 with fail
  rw[R8.out.1,R8.out.2];clear R8;go_upto_region 4 with fail
  go_cut [7] (fun s7 wx=> ∃(cb:Nat) (NA:Option Addr) (nc:Nat) (RA:Option Addr) (rn rc:Nat) (vals:List (List Value)),s7= .pointer (some ⟨cb,0,none⟩)/\Hid (ab7 lo cb NA nn nc dA nd dc uA nu uc RA rn rc vals (aM t) (jc t.kids) D wx))
  case first=>
   refine mO (fun W=>W.cell? ⟨w.heap.size,0,none⟩=some (.int .i64 k0)/\W.cell? ⟨w.heap.size,1,none⟩=some (.string x0)/\W.cell? ⟨w.heap.size,2,none⟩=some (.int .i64 a0)/\W.cell? ⟨w.heap.size,3,none⟩=some (.int .i64 z0)/\W.cell? ⟨w.heap.size,4,none⟩=some (.slice A n0 c)/\W.cell? ⟨g3,0,none⟩=some (.slice dA nd dc)/\W.cell? ⟨g3,1,none⟩=some (.slice uA nu uc)) [7] (.soft 0 (.soft 2 (.soft 3 (.fork 1 (.fork 4 (.soft 5 (.hard 6 (.hard 7 .done))) 6 (.hard 4 (.soft 5 (.hard 7 .done)))) 6 (.hard 1 (.hard 4 (.soft 5 (.hard 7 .done)))))))) (by kernel_rfl) (by kernel_rfl) rfl (by kernel_rfl) ?_
   iterate 3
    refine dX (by simp only[acj,aci,ach];rfl) (by rfl) ad (by intro w' ao;obtain⟨bu,bx,bB,bI,bM,bN,bT⟩:=ao;go_simp;rfl) ?_;simp only[Act.put,sA,sZ,sC]
   have bm:lo<=D.drew.heap.size:=Nat.le_of_eq K.out.symm;refine sN ?_ ?_
   ·refine ig (by simp only[acj,aci,ach];rfl) (by rfl) (by go_simp) ((vV.out D.drew oM).mono ?_)
    rintro e1 w1 ⟨NA,nc,vals,rfl,m,z,V⟩;have F:Below D.heap.size D w1:=oM.trans (V.mono oM.size);replace m:=m.mono (base':=lo) (by rw[<- K.out];exact oM.size)
    have k:=bP.out _ F;refine⟨_,rfl,fun _=>k,?_⟩;simp only[Act.put,sA,sZ,sC];refine sN ?_ ?_
    ·refine ig (by simp only[acj,aci,ach];rfl) (by rfl) (by go_simp) ((ZM.out w1 F).mono ?_)
     rintro e2 f ⟨RA,rn,rc,rfl,J,H⟩;have I:Below D.heap.size D f:=F.trans (H.mono F.size);replace J:=J.mono (lo':=lo) (by rw[<- K.out];exact F.size)
     have O:=m.below H (fun g hg=>(m.lt g hg).2);have U:=z.below H (aca (Nat.le_of_eq K.out.symm) F.size);have L:=bP.out _ I;refine⟨_,rfl,fun _=>L,?_⟩;simp only[Act.put,sA,sZ,sC];refine dX (by simp only[acj,aci,ach];rfl) (by rfl) L (by intro w' ao;go_simp;rfl) ?_;simp only[Act.put,sA,sZ,sC];obtain⟨cb, G⟩:=ag f.heap.size;obtain⟨Y, r⟩:=ag (f.alloc (.cells #[.slice none 0 0,.slice none 0 0,.slice none 0 0,.slice none 0 0,.slice none 0 0] 120));have l:Below f.heap.size f Y:=by rw[<- r];exact ai _ _
     have mX:ah Y cb 120 #[.slice none 0 0,.slice none 0 0,.slice none 0 0,.slice none 0 0,.slice none 0 0]:=by rw[<- r,<- G];exact ah.new _ _ _
     have Q:Below D.heap.size D Y:=I.trans (l.mono I.size);have X:lo<=cb:=by rw[<- K.out,<- G];exact I.size
     have sG:=bP.out _ Q;refine cB (gY (v:=.pointer (some ⟨cb,0,none⟩)) (w':=Y) (by simp only[acj,aci,ach];rfl) (by rfl) (by first|(go_simp;done)|(go_simp;rw[r,G])|(go_simp;rw[G];rfl)) (fun _=>sG) ?_);simp only[Act.put,sA,sZ,sC];have nL:=O.below l (fun g hg=>(O.lt g hg).2);have az:=U.below l (aca (Nat.le_of_eq K.out.symm) I.size);have bl:=J.keep fun h=>h.below l (fun g hg=>(h.lt g hg).2)
     have u:=mX;obtain⟨⟨m0,m1,m2,m3,m4⟩,f0,f1,f2,f3,f4⟩:=u.five;have lm:=u.lt;refine cB (je (w':=fZ Y cb (.slice NA nn nc) (.slice dA nd dc) (.slice uA nu uc) (.slice RA rn rc) (.slice none 0 0)) (by simp only[acj,aci,ach];rfl) (by rfl) (by go_simp;rfl) (by simp) ?_);simp only[Act.put];refine kR ?_;have HQ:=kH (Ka (dA:=dA) (nd:=nd) (dc:=dc) (uA:=uA) (nu:=nu) (uc:=uc) X u nL az bl (Q.mono (Nat.le_of_eq K.out.symm)) rV.out.symm (aca (Nat.le_of_eq K.out.symm) Q.size));clear m0 m1 m2 m3 m4 f0 f1 f2 f3 f4 lm u;generalize fZ Y cb (.slice NA nn nc) (.slice dA nd dc) (.slice uA nu uc) (.slice RA rn rc) (.slice none 0 0)=ZZ at HQ⊢
     clear ad F I Q V H l m O z U J mX r G X k L sG oM;go_wp2_with fail
     go_meet
     exact⟨cb,NA,nc,RA,rn,rc,vals,rfl,HQ⟩
    obtain⟨cb, G⟩:=ag w1.heap.size;obtain⟨Y, r⟩:=ag (w1.alloc (.cells #[.slice none 0 0,.slice none 0 0,.slice none 0 0,.slice none 0 0,.slice none 0 0] 120));have l:Below w1.heap.size w1 Y:=by rw[<- r];exact ai _ _
    have mX:ah Y cb 120 #[.slice none 0 0,.slice none 0 0,.slice none 0 0,.slice none 0 0,.slice none 0 0]:=by rw[<- r,<- G];exact ah.new _ _ _
    have Q:Below D.heap.size D Y:=F.trans (l.mono F.size);have X:lo<=cb:=by rw[<- K.out,<- G];exact F.size
    have sG:=bP.out _ Q;refine(gY (v:=.pointer (some ⟨cb,0,none⟩)) (w':=Y) (by simp only[acj,aci,ach];rfl) (by rfl) (by first|(go_simp;done)|(go_simp;rw[r,G])|(go_simp;rw[G];rfl)) (fun _=>sG) ?_);simp only[Act.put,sA,sZ,sC];have nL:=m.below l (fun g hg=>(m.lt g hg).2);have az:=z.below l (aca (Nat.le_of_eq K.out.symm) F.size);refine cB (ig (by simp only[acj,aci,ach];rfl) (by rfl) (by go_simp) ((ZM.out Y Q).mono ?_));rintro e2 f ⟨RA,rn,rc,rfl,J,H⟩;have I:Below D.heap.size D f:=Q.trans (H.mono Q.size);replace J:=J.mono (lo':=lo) (by rw[<- K.out];exact Q.size)
    have O:=nL.below H (fun g hg=>(nL.lt g hg).2);have U:=az.below H (aca (Nat.le_of_eq K.out.symm) Q.size);have L:=bP.out _ I;refine⟨_,rfl,fun _=>L,?_⟩;simp only[Act.put,sA,sZ,sC];refine dX (by simp only[acj,aci,ach];rfl) (by rfl) L (by intro w' ao;go_simp;rfl) ?_;simp only[Act.put,sA,sZ,sC];have u:=mX.below H mX.lt;obtain⟨⟨m0,m1,m2,m3,m4⟩,f0,f1,f2,f3,f4⟩:=u.five;have lm:=u.lt;refine cB (je (w':=fZ f cb (.slice NA nn nc) (.slice dA nd dc) (.slice uA nu uc) (.slice RA rn rc) (.slice none 0 0)) (by simp only[acj,aci,ach];rfl) (by rfl) (by go_simp;rfl) (by simp) ?_);simp only[Act.put];refine kR ?_;have HQ:=kH (Ka (dA:=dA) (nd:=nd) (dc:=dc) (uA:=uA) (nu:=nu) (uc:=uc) X u O U J (I.mono (Nat.le_of_eq K.out.symm)) rV.out.symm (aca (Nat.le_of_eq K.out.symm) I.size));clear m0 m1 m2 m3 m4 f0 f1 f2 f3 f4 lm u;generalize fZ f cb (.slice NA nn nc) (.slice dA nd dc) (.slice uA nu uc) (.slice RA rn rc) (.slice none 0 0)=ZZ at HQ⊢
    clear ad F I Q V H l m O z U J mX r G X k L sG oM;go_wp2_with fail
    go_meet
    exact⟨cb,NA,nc,RA,rn,rc,vals,rfl,HQ⟩
   obtain⟨cb, G⟩:=ag D.drew.heap.size;obtain⟨Y, r⟩:=ag (D.drew.alloc (.cells #[.slice none 0 0,.slice none 0 0,.slice none 0 0,.slice none 0 0,.slice none 0 0] 120));have l:Below D.drew.heap.size D.drew Y:=by rw[<- r];exact ai _ _
   have mX:ah Y cb 120 #[.slice none 0 0,.slice none 0 0,.slice none 0 0,.slice none 0 0,.slice none 0 0]:=by rw[<- r,<- G];exact ah.new _ _ _
   have Q:Below D.heap.size D Y:=oM.trans (l.mono oM.size);have X:lo<=cb:=by rw[<- K.out,<- G];exact oM.size
   have sG:=bP.out _ Q;refine(gY (v:=.pointer (some ⟨cb,0,none⟩)) (w':=Y) (by simp only[acj,aci,ach];rfl) (by rfl) (by first|(go_simp;done)|(go_simp;rw[r,G])|(go_simp;rw[G];rfl)) (fun _=>sG) ?_);simp only[Act.put,sA,sZ,sC];refine cB (ig (by simp only[acj,aci,ach];rfl) (by rfl) (by go_simp) ((vV.out Y Q).mono ?_));rintro e1 w1 ⟨NA,nc,vals,rfl,m,z,V⟩;have F:Below D.heap.size D w1:=Q.trans (V.mono Q.size);replace m:=m.mono (base':=lo) (by rw[<- K.out];exact Q.size)
   have k:=bP.out _ F;refine⟨_,rfl,fun _=>k,?_⟩;simp only[Act.put,sA,sZ,sC];refine cB (ig (by simp only[acj,aci,ach];rfl) (by rfl) (by go_simp) ((ZM.out w1 F).mono ?_));rintro e2 f ⟨RA,rn,rc,rfl,J,H⟩;have I:Below D.heap.size D f:=F.trans (H.mono F.size);replace J:=J.mono (lo':=lo) (by rw[<- K.out];exact F.size)
   have O:=m.below H (fun g hg=>(m.lt g hg).2);have U:=z.below H (aca (Nat.le_of_eq K.out.symm) F.size);have L:=bP.out _ I;refine⟨_,rfl,fun _=>L,?_⟩;simp only[Act.put,sA,sZ,sC];refine dX (by simp only[acj,aci,ach];rfl) (by rfl) L (by intro w' ao;go_simp;rfl) ?_;simp only[Act.put,sA,sZ,sC];have u:=(mX.below V mX.lt).below H (mX.below V mX.lt).lt;obtain⟨⟨m0,m1,m2,m3,m4⟩,f0,f1,f2,f3,f4⟩:=u.five;have lm:=u.lt;refine cB (je (w':=fZ f cb (.slice NA nn nc) (.slice dA nd dc) (.slice uA nu uc) (.slice RA rn rc) (.slice none 0 0)) (by simp only[acj,aci,ach];rfl) (by rfl) (by go_simp;rfl) (by simp) ?_);simp only[Act.put];refine kR ?_;have HQ:=kH (Ka (dA:=dA) (nd:=nd) (dc:=dc) (uA:=uA) (nu:=nu) (uc:=uc) X u O U J (I.mono (Nat.le_of_eq K.out.symm)) rV.out.symm (aca (Nat.le_of_eq K.out.symm) I.size));clear m0 m1 m2 m3 m4 f0 f1 f2 f3 f4 lm u;generalize fZ f cb (.slice NA nn nc) (.slice dA nd dc) (.slice uA nu uc) (.slice RA rn rc) (.slice none 0 0)=ZZ at HQ⊢
   clear ad F I Q V H l m O z U J mX r G X k L sG oM;go_wp2_with fail
   go_meet
   exact⟨cb,NA,nc,RA,rn,rc,vals,rfl,HQ⟩
  obtain⟨cb,NA,nc,RA,rn,rc,vals,rfl,HC⟩:=hcut;obtain⟨wo,rfl⟩:∃W:World,W=wc:=⟨_,rfl⟩
  obtain⟨b7,b9⟩:=cfin_rh (C:=mI t) HC.out K.out (by rw[<- K.out];exact an.out.1) (by rw[<- K.out];exact an.out.2.1) an.out.2.2.1 an.out.2.2.2 (by show(aM t).length<=_;rw[eZ];have:=HT.out;omega) 0 0 0 ⟨#[]⟩;obtain⟨E,hE⟩:∃E:CE,(⟨cb,wo.heap.size,0,⟨#[]⟩,0,0,NA,nn,nc,RA,rn,rc,dA,nd,dc,uA,nu,uc⟩:CE)=E:=⟨_,rfl⟩
  rw[hE]at b7 b9;have Z:Hid (E.cb=cb/\E.base=wo.heap.size/\E.rA=NA/\E.rn=nn/\E.rc=nc):=by rw[<- hE];exact kH ⟨rfl,rfl,rfl,rfl,rfl⟩
  have al:Hid (Below w.heap.size w wo/\w.heap.size<=cb/\w.heap.size<=wo.heap.size):=by
   have R:=mF.out.trans (HC.out.bel.mono (by rw[<- K.out];exact mF.out.size));exact kH ⟨R,aca mF.out.size (by rw[K.out];exact HC.out.cb),R.size⟩
  have bk:Hid (WX E (mI t) wo.heap.size 0 0 wo wo):=kH ⟨b7,b9,xw.zero _,CX.refl _ _ _⟩;clear b7 b9 hE HC bP ad oM;go_wp2_with fail
  go_loopg [8,9] nn (fun gk s8 s9 wr=> ∃(i p:Nat),i+gk=nn/\s8= .int .i64 (p:Int)/\s9= .int .i64 (i:Int)/\Hid (WX E (mI t) wo.heap.size i p wo wr))
  case atStart=>exact⟨0,0,by omega,rfl,rfl,bk⟩
  obtain⟨i,p,hi,rfl,rfl,d⟩:=hrel;by_cases bn:i<nn
  ·have bo:(i:Int)<(nn:Int):=by omega
   have bt:nn<=200000:=by rw[<- rV.out,eZ];have:=HT.out;omega
   have NL:IntKind.i64.wrap ((i:Int)+1)=(i:Int)+1:=IntWalk.i64_in _ (by omega);obtain⟨y,hy⟩:∃y,(mI t).N[i]? =some y:=⟨_,ace (show i<(aM t).length by rw[rV.out];exact bn)⟩
   obtain⟨gb,go,T,c2,hA,bb,u0,-,-,-,-,-⟩:=vC d.out.rh.nd hy;rw[Z.out.2.2.1]at hA;subst hA;have av:=Y7 HV.out (by have:=HT.out;omega) aa.out
   have bh:(jD (mI t) ((mI t).N.take i) 0 (-1)).1.length+y.kids.length+8<=1000000:=by
    have R:=P5 (mI t) (mI t).N i;have h2:=J9 t;have b:=(av.sub i y hy).2;have h4:=eY y;have h5:=dO y.kids;have h6:=HT.out;have h7:(jD (mI t) (mI t).N 0 (-1)).1.length=(rH t).length:=rfl;omega
   have EN:=Qd (E:=E) (C:=mI t) (B:=wo.heap.size) (out:=(jD (mI t) ((mI t).N.take i) 0 (-1)).1) (w:=wr) (t:=y) (n:=i) ⟨d.out.rc,d.out.rh,by rw[Z.out.2.1];exact d.out.cx.size,av,hy,bh⟩ (if y.kind=5 then i else p) (kT y i (jD (mI t) ((mI t).N.take i) 0 (-1)).2) (xw.ret HV.out d.out.pr hy);have b6:=xw.step d.out.pr hy;obtain⟨p',j⟩:∃q,(if y.kind=5 then i else p)=q:=⟨_,rfl⟩
   obtain⟨yk, bj⟩:=ag y.kind;rw[j]at EN b6;rw[bj]at u0 j;unfold gX at EN;rw[Z.out.1]at EN;have Sn:Hid (Calls Tryz.prog 63 #[.pointer (some ⟨cb,0,none⟩),.int .i64 (i:Int),.int .i64 (p':Int)] wr fun e w'=>e= .returned (.tuple #[])/\WX E (mI t) wo.heap.size (i+1) p' wo w'):=kH (EN.mono fun e w' ⟨R,h2,b⟩=>⟨R,by rw[Nq _ hy];exact h2,d.out.rh.cx (by rw[Z.out.1];exact b),b6,d.out.cx.trans (by rw[Z.out.1];exact b)⟩);have hC:=d.out.rc;obtain⟨oA,oc,hC,-⟩:=hC;have c0:=hC.cell 0;have lc:=hC.lt;simp only[Z.out.1,Z.out.2.2.1,Z.out.2.2.2.1,Z.out.2.2.2.2]at c0 lc;have ax:wr.cell? ⟨cb,0,none⟩=some (.slice (some ⟨gb,go,none⟩) nn nc):=by simpa using c0
   have bc:gb<wr.heap.size:=Nat.lt_of_lt_of_le bb d.out.rh.bw;clear EN b6 bh av hC c0 bb hy bj;by_cases h5:yk=5
   ·subst h5
    have b5:p'=i:=by rw[<- j,if_pos rfl]
    subst b5;clear j;go_wp2_with fail
    refine Sn.out.mono ?_;rintro e4 w4 ⟨rfl,ab⟩;have au:=kH ab;clear ab u0 ax lc bc;go_wp2_with fail
    go_roundg (gk - 1)
    case measure=>omega
    exact⟨p'+1,p',by omega,rfl,by simp,au⟩
   have b5:p'=p:=by rw[<- j,if_neg h5]
   subst b5;have br:(yk==5)=false:=by simpa using h5
   clear j;go_wp2_with fail
   refine Sn.out.mono ?_;rintro e4 w4 ⟨rfl,ab⟩;have au:=kH ab;clear ab u0 ax lc bc;go_wp2_with fail
   go_roundg (gk - 1)
   case measure=>omega
   exact⟨i+1,p',by omega,rfl,by simp,au⟩
  have bd:i=nn:=by omega
  have bs:¬(i:Int)<(nn:Int):=by omega
  have b8:kD E (rH t) wr:=by
   have R:=d.out.rc;rw[bd,<- rV.out,show(mI t).N.take (aM t).length=aM t from List.take_length]at R;exact R
  obtain⟨oA,oc,hC,hO⟩:=b8;have af:aS 8 aT wr wr.heap.size oA (rH t):=hO.rowAt (cells:=aT) rfl rfl (fun _ _=>rfl) rfl;have ba:Below w.heap.size w wr:=al.out.1.trans (d.out.cx.low al.out.2.2 (by rw[Z.out.1];exact al.out.2.1) (by rw[Z.out.2.1];exact al.out.2.2));obtain⟨on, b4⟩:=ag ((rH t).length);rw[b4]at hC;have c0:=hC.cell 0;have c4:=hC.cell 4;have lc:=hC.lt;simp only[Z.out.1,Z.out.2.2.1,Z.out.2.2.2.1,Z.out.2.2.2.2]at c0 c4 lc;have ax:wr.cell? ⟨cb,0,none⟩=some (.slice NA nn nc):=by simpa using c0
  have bp:wr.cell? ⟨cb,4,none⟩=some (.slice oA on oc):=by simpa using c4
  have HF:Hid (aS 8 aT wr wr.heap.size oA (rH t)/\Below w.heap.size w wr/\(rH t).length=on):=kH ⟨af,ba,b4⟩;clear hC hO af ba b4 c0 c4 bd;go_wp2_with fail
  go_ret2
  exact Zc HV.out HF.out.2.2 rfl HF.out.1 HF.out.2.1
theorem Zn(R S:Option Addr)(n f d:Nat)(l:List bD)(w:World)(U:aS 8 aT w w.heap.size R l)(V:aS 8 aT w w.heap.size S l)(Z:l.length=n)(hn:n<=2000000):
 Calls Tryz.prog 35 #[.slice R n f,.slice S n d] w fun e w'=>e= .returned (.bool true)/\Below w.heap.size w w':=by
 have j:=kH U;have g:=kH V;have T:=kH Z;clear U V Z;go_in
 go_wp2_with fail
 go_loopg [5] n (fun gk s wr=> ∃k:Nat,k+gk=n/\s= .int .i64 k/\Below w.heap.size w wr)
 case atStart=>exact⟨0,by omega,rfl,Below.refl _ _⟩
 obtain⟨k,hk,rfl,E⟩:=hrel;by_cases K:k<n
 ·have L:l[k]? =some (l[k]'(by rw[T.out];exact K)):=ace _
  generalize l[k]'(by rw[T.out];exact K)=x at L
  obtain⟨z,y,v,u,t,r,q,m⟩:=x;obtain⟨C,F,O,I,A⟩:=(j.out.below E (ab9 _)) k _ L;obtain⟨D,G,P,J,B⟩:=(g.out.below E (ab9 _)) k _ L;have X:C<wr.heap.size:=Nat.lt_of_lt_of_le I E.size;have Y:D<wr.heap.size:=Nat.lt_of_lt_of_le J E.size;subst O;subst P;have p0:wr.cell? ⟨C,F+k*8,none⟩=some (.int .i64 z):=by simpa using A 0 _ rfl
  have p1:wr.cell? ⟨C,F+k*8+1,none⟩=some (.int .i64 y):=A 1 _ rfl;have p2:wr.cell? ⟨C,F+k*8+2,none⟩=some (.int .i64 v):=A 2 _ rfl;have p3:wr.cell? ⟨C,F+k*8+3,none⟩=some (.int .i64 u):=A 3 _ rfl;have p4:wr.cell? ⟨C,F+k*8+4,none⟩=some (.int .i64 t):=A 4 _ rfl;have p5:wr.cell? ⟨C,F+k*8+5,none⟩=some (.string r):=A 5 _ rfl;have p6:wr.cell? ⟨C,F+k*8+6,none⟩=some (.int .i64 q):=A 6 _ rfl;have p7:wr.cell? ⟨C,F+k*8+7,none⟩=some (.int .i64 m):=A 7 _ rfl;have q0:wr.cell? ⟨D,G+k*8,none⟩=some (.int .i64 z):=by simpa using B 0 _ rfl
  have q1:wr.cell? ⟨D,G+k*8+1,none⟩=some (.int .i64 y):=B 1 _ rfl;have q2:wr.cell? ⟨D,G+k*8+2,none⟩=some (.int .i64 v):=B 2 _ rfl;have q3:wr.cell? ⟨D,G+k*8+3,none⟩=some (.int .i64 u):=B 3 _ rfl;have q4:wr.cell? ⟨D,G+k*8+4,none⟩=some (.int .i64 t):=B 4 _ rfl;have q5:wr.cell? ⟨D,G+k*8+5,none⟩=some (.string r):=B 5 _ rfl;have q6:wr.cell? ⟨D,G+k*8+6,none⟩=some (.int .i64 q):=B 6 _ rfl;have q7:wr.cell? ⟨D,G+k*8+7,none⟩=some (.int .i64 m):=B 7 _ rfl;have c:(k:Int)<(n:Int):=by omega
  have b:IntKind.i64.wrap ((k:Int)+1)=(k:Int)+1:=IntWalk.i64_in _ (by omega);have M:=kH E;clear A B L E I J;go_wp2_with fail
  refine dF (fun W=>W=wr.drew) [] [true,true,true,true,true,true,true,true,true] (by kernel_rfl) (by kernel_rfl) rfl (by kernel_rfl) ?_;have H:wr.drew=wr.drew:=rfl;iterate 9(refine eD rfl H (by intro w' Q;obtain rfl:=Q;go_simp;rfl) ?_;simp only[Act.put,sA,sZ,sC])
  refine gp ?_;have N:Hid (Below w.heap.size w wr.drew):=kH M.out.drew;clear p0 p1 p2 p3 p4 p5 p6 p7 q0 q1 q2 q3 q4 q5 q6 q7 H;go_wp2_with fail
  go_roundg (gk - 1)
  case measure=>omega
  exact⟨k+1,by omega,by simp,N.out⟩
 have M:=kH E;clear E;go_wp2_with fail
 go_ret
 exact⟨rfl,M.out⟩
end Go.Proofs.YtoepemlnlpamlaaGreat
namespace Go.Proofs.YtoepemlnlpamlaaGreat
structure Sy (E:List (List dS)) (n:Nat) (F:List Nat) (d:List Int):Prop where
 len:d.length=n
 lo:∀v,v<n -> -1<=d.getD v 0
 zero:∀v,v<n->(d.getD v 0=0↔v∈F)
 pred:∀v,v<n->0<d.getD v 0->∃u,u<n/\(∃e∈E.getD u [],e.dD=v)/\d.getD u 0=d.getD v 0 - 1
 next:∀u,u<n->0<=d.getD u 0->∀e∈E.getD u [],0<=d.getD e.dD 0/\d.getD e.dD 0<=d.getD u 0+1
structure yE (E:List (List dS)) (n:Nat) (F:List Nat) (now:Option Nat) (left:List dS) (out:List Int) (todo:List Nat):Prop where
 len:out.length=n
 lo:∀v,v<n -> -1<=out.getD v 0
 zero:∀v,v<n->(out.getD v 0=0↔v∈F)
 pred:∀v,v<n->0<out.getD v 0->∃u,u<n/\(∃e∈E.getD u [],e.dD=v)/\out.getD u 0=out.getD v 0 - 1
 BV:∀u∈todo,u<n/\0<=out.getD u 0
 nowOk:∀v,now=some v->v<n/\0<=out.getD v 0/\(∀u∈todo,out.getD v 0<=out.getD u 0)/\(∀x,x<n->out.getD x 0<=out.getD v 0+1)/\(∀e∈left,e∈E.getD v [])
 sorted:todo.Pairwise (fun a b=>out.getD a 0<=out.getD b 0)
 top:∀h,todo.head? =some h->∀x,x<n->out.getD x 0<=out.getD h 0+1
 done:∀u,u<n->0<=out.getD u 0->u ∉ todo->now≠some u->∀e∈E.getD u [],0<=out.getD e.dD 0/\out.getD e.dD 0<=out.getD u 0+1
 half:∀v,now=some v->∀e∈E.getD v [],e∈left\/(0<=out.getD e.dD 0/\out.getD e.dD 0<=out.getD v 0+1)
theorem yE.step{E:List (List dS)}{n:Nat}{F:List Nat}{v:Nat}{e:dS}{left:List dS}{out:List Int}{G:List Nat}(h:yE E n F (some v) (e::left) out G)(X:e.dD<n):
 yE E n F (some v) left (jh v (out,G) e).1 (jh v (out,G) e).2:=by
 obtain⟨m,R,Y,S,O⟩:=h.nowOk v rfl;unfold jh;by_cases P:out.getD e.dD 0<0
 ·simp only[if_pos P]
  have d:e.dD<out.length:=by rw[h.len];exact X
  have L:=fun j=>EW out e.dD j (out.getD v 0+1) 0 d
  have z:e.dD≠v:=by rintro rfl;omega
  have T:(out.set e.dD (out.getD v 0+1)).getD v 0=out.getD v 0:=by rw[L,if_neg z]
  have c:e.dD ∉ G:=fun D=>by have:=(h.BV _ D).2;omega
  have A:∀u,0<=out.getD u 0->(out.set e.dD (out.getD v 0+1)).getD u 0=out.getD u 0:=fun u B=>by
   rw[L,if_neg];rintro rfl;omega
  have C:(out.set e.dD (out.getD v 0+1)).getD e.dD 0=out.getD v 0+1:=by rw[L,if_pos rfl]
  have J:∀x,x<n->(out.set e.dD (out.getD v 0+1)).getD x 0<=out.getD v 0+1:=fun x H=>by
   rw[L];split
   ·omega
   exact S x H
  refine⟨by simpa using h.len,fun u B=>?_,fun u B=>?_,fun u B M=>?_,fun u B=>?_,fun q I=>?_,?_,fun q I x H=>?_,fun u B N Q r f K=>?_,fun q I f K=>?_⟩
  ·rw[L]
   split
   ·omega
   exact h.lo u B
  ·rw[L]
   split
   ·rename_i H
    subst H;constructor
    ·intro h0;omega
    intro g;have:=(h.zero _ X).2 g;omega
   exact h.zero u B
  ·by_cases H:e.dD=u
   ·subst H
    exact⟨v,m,⟨e,O e (by simp),rfl⟩,by rw[T,C];omega⟩
   rw[L,if_neg H]at M;obtain⟨p,hp,y,k⟩:=h.pred u B M;refine⟨p,hp,y,?_⟩;rw[A p (by omega),L,if_neg H];exact k
  ·rcases List.mem_append.1 B with B|B
   ·rw[A u (h.BV u B).2];exact h.BV u B
   simp at B;subst B;exact⟨X,by rw[C];omega⟩
  ·cases I
   rw[T];refine⟨m,R,fun u B=>?_,J,fun f K=>O f (by simp[K])⟩;rcases List.mem_append.1 B with B|B
   ·rw[A u (h.BV u B).2];exact Y u B
   simp at B;subst B;rw[C];omega
  ·rw[List.pairwise_append]
   refine⟨?_,by simp,fun a U b V=>?_⟩
   ·refine h.sorted.imp_of_mem fun {a b} U V Z=>?_
    rw[A a (h.BV a U).2,A b (h.BV b V).2];exact Z
   simp at V;subst V;rw[A a (h.BV a U).2,C];exact S a (h.BV a U).1
  ·cases G with
   | nil=>
    simp at I;subst I;rw[C];have:=J x H;omega
   | cons t ts=>
    simp at I;subst I;rw[A t (h.BV t (by simp)).2];have h1:=J x H;have h2:=Y t (by simp);omega
  ·by_cases H:e.dD=u
   ·exact absurd (List.mem_append.2 (.inr (by simp[H]))) Q
   rw[L,if_neg H]at N;have l:=h.done u B N (fun D=>Q (List.mem_append.2 (.inl D))) r f K;rw[A _ l.1,A u N];exact l
  cases I
  rcases h.half v rfl f K with D|D
  ·rcases List.mem_cons.1 D with rfl|D
   ·exact .inr ⟨by rw[C];omega,by rw[C,T];omega⟩
   exact .inl D
  exact .inr ⟨by rw[A _ D.1];exact D.1,by rw[A _ D.1,T];exact D.2⟩
 simp only[if_neg P];refine⟨h.len,h.lo,h.zero,h.pred,h.BV,fun q I=>?_,h.sorted,h.top,h.done,fun q I f K=>?_⟩
 ·cases I
  exact⟨m,R,Y,S,fun f K=>O f (by simp[K])⟩
 cases I
 rcases h.half v rfl f K with D|D
 ·rcases List.mem_cons.1 D with rfl|D
  ·exact .inr ⟨by omega,S _ X⟩
  exact .inl D
 exact .inr D
theorem yE.fold{E:List (List dS)}{n:Nat}{F:List Nat}{v:Nat}(B:List dS):∀{out:List Int}{A:List Nat},yE E n F (some v) B out A->(∀e∈B,e.dD<n) ->
 yE E n F (some v) [] (B.foldl (jh v) (out,A)).1 (B.foldl (jh v) (out,A)).2:=by
 induction B with
 | nil=>exact fun h _=>h
 | cons e B ih=>
  intro out A h C;exact ih (h.step (C e (by simp))) (fun f D=>C f (by simp[D]))
theorem yE.pop{E:List (List dS)}{n:Nat}{F:List Nat}{v:Nat}{out:List Int}{rest:List Nat}(h:yE E n F none [] out (v::rest)):yE E n F (some v) (E.getD v []) out rest:=by
 have C:=List.pairwise_cons.1 h.sorted;refine⟨h.len,h.lo,h.zero,h.pred,fun u D=>h.BV u (by simp[D]),fun q A=>?_,C.2,fun q A x L=>?_,fun u D G I H=>?_,fun q A f K=>?_⟩
 ·cases A
  exact⟨(h.BV v (by simp)).1,(h.BV v (by simp)).2,C.1,h.top v rfl,fun e J=>J⟩
 ·have M:=h.top v rfl x L
  cases rest with
  | nil=>simp at A
  | cons t ts=>
   simp at A;subst A;have:=C.1 t (by simp);omega
 ·refine h.done u D G (fun B=>?_) (by simp)
  rcases List.mem_cons.1 B with rfl|B
  ·exact H rfl
  exact I B
 cases A
 exact .inl K
theorem yE.end_{E:List (List dS)}{n:Nat}{F:List Nat}{v:Nat}{out:List Int}{A:List Nat}(h:yE E n F (some v) [] out A):yE E n F none [] out A:=by
 refine⟨h.len,h.lo,h.zero,h.pred,h.BV,fun q C=>(by cases C),h.sorted,h.top,fun u J D G _ e H=>?_,fun q C=>(by cases C)⟩;by_cases I:v=u
 ·subst I
  rcases h.half v rfl e H with B|B
  ·cases B
  exact B
 exact h.done u J D G (by simpa using I) e H
theorem AA{E:List (List dS)}{n:Nat}(C:∀es∈E,∀e∈es,e.dD<n)(v:Nat):∀e∈E.getD v [],e.dD<n:=by
 intro e A;rw[List.getD_eq_getElem?_getD]at A
 cases B:E[v]? with
 | none=>rw[B]at A;simp at A
 | some es=>rw[B]at A;exact C es (acn B) e A
theorem abH{E:List (List dS)}{n:Nat}{F:List Nat}(C:∀es∈E,∀e∈es,e.dD<n):∀(m K:Nat) (out:List Int) (A:List Nat),A.length+neg out=m->Fu n K out A->yE E n F none [] out A->Sy E n F (Hg E m out A):=by
 intro m
 induction m using Nat.strongRecOn with
 | _ m ih=>
  intro K out A I H h
  cases A with
  | nil=>
   rw[Eb];exact⟨h.len,h.lo,h.zero,h.pred,fun u L G=>h.done u L G (by simp) (by simp)⟩
  | cons v rest=>
   have B:=H.good.fold (E.getD v []) (AA C v);have J:=(h.pop.fold (E.getD v []) (AA C v)).end_;rw[<- I,Cu H C];have D:=B.2;simp only at D;simp only[aco]at I;exact ih _ (by omega) K _ _ rfl (B.1.fair B.2) J
theorem bfs_le{E:List (List dS)}{n:Nat}(F:∀es∈E,∀e∈es,e.dD<n):∀(m K:Nat) (out:List Int) (A:List Nat),A.length+neg out=m->Fu n K out A->∀x∈Hg E m out A,x<=K:=by
 intro m
 induction m using Nat.strongRecOn with
 | _ m ih=>
  intro K out A G C
  cases A with
  | nil=>
   rw[Eb];intro x H;have:=C.hi x H;omega
  | cons v rest=>
   have B:=C.good.fold (E.getD v []) (AA F v);rw[<- G,Cu C F];have D:=B.2;simp only at D;simp only[aco]at G;exact ih _ (by omega) K _ _ rfl (B.1.fair B.2)
theorem aby(E:List (List dS))(n:Nat)(F:List Nat)(A:∀es∈E,∀e∈es,e.dD<n)(B:∀u∈F,u<n):∀x∈ji E n F,x<=(F.length+n:Nat):=by
 rw[<- Db E n F A B];exact bfs_le A _ _ _ _ rfl (AB n F B)
theorem UG(n:Nat)(F:List Nat)(C:∀u∈F,u<n):∀out:List Int,out.length=n->(∀v,v<n -> -1<=out.getD v 0/\out.getD v 0<=0) ->
 (∀v,v<n->((mr out F).getD v 0=0↔(v∈F\/out.getD v 0=0)) /\ -1<=(mr out F).getD v 0/\(mr out F).getD v 0<=0):=by
 induction F with
 | nil=>intro out _ h v A;exact⟨by simp[mr],h v A⟩
 | cons u F ih=>
  intro out E h v A;have H:u<out.length:=by rw[E];exact C u (by simp)
  have D:=fun j=>EW out u j 0 0 H
  obtain⟨a,b⟩:=ih (fun x B=>C x (by simp[B])) (out.set u 0) (by simpa using E) (fun x B=>by
   rw[D];split
   ·omega
   exact h x B) v A
  refine⟨?_,b⟩;show(mr (out.set u 0) F).getD v 0=0↔_;rw[a,D];by_cases e:u=v
  ·simp[e]
  have G:v≠u:=fun x=>e x.symm
  simp[e,G]
theorem xg(E:List (List dS))(n:Nat)(F:List Nat)(K:∀es∈E,∀e∈es,e.dD<n)(C:∀u∈F,u<n):Sy E n F (ji E n F):=by
 rw[<- Db E n F K C]
 have O:∀v,v<n->(List.replicate n (-1:Int)).getD v 0= -1:=fun v B=>by
  rw[List.getD_eq_getElem?_getD,List.getElem?_replicate,if_pos B];rfl
 have H:=UG n F C (List.replicate n (-1)) (by simp) (fun v B=>by rw[O v B];omega)
 have A:∀v,v<n->((mr (List.replicate n (-1)) F).getD v 0=0↔v∈F):=fun v B=>by
  rw[(H v B).1,O v B];simp
 refine abH K _ _ _ _ rfl (AB n F C) ⟨by rw[Gb];simp,fun v B=>(H v B).2.1,A,fun v B N=>?_,fun u D=>⟨C u D,?_⟩,fun q G=>(by cases G),?_,fun q G x S=>?_,fun u D Q I=>?_,fun q G=>(by cases G)⟩
 ·have:=(H v B).2.2
  omega
 ·rw[(A u (C u D)).2 D]
  omega
 ·refine List.Pairwise.imp_of_mem (R:=fun _ _=>True) (fun {a b} L M _=>?_) (List.pairwise_of_forall (fun _ _=>trivial))
  rw[(A a (C a L)).2 L,(A b (C b M)).2 M];omega
 ·have P:=(H x S).2.2
  have J:q∈F:=List.mem_of_mem_head? G;rw[(A q (C q J)).2 J];omega
 have P:=(H u D).2.2;exact absurd ((A u D).1 (by omega)) I
def KA(far:List Int)(ok:Nat->Bool)(st:Int×List Nat)(v:Nat):Int×List Nat:=
 if far.getD v 0<0\/(0<=st.1/\st.1<far.getD v 0) then st
 else if ok v=false then st
 else if st.1<0\/far.getD v 0<st.1 then(far.getD v 0,[v]) else(st.1,st.2++[v])
def gK(far:List Int)(ok:Nat->Bool)(n:Nat):Int×List Nat:=(List.range n).foldl (KA far ok) (-1,[])
def sw(left:List Int)(v:Nat)(nx:Int×Int)(e:dS):Int×Int:=
 if left.getD e.dD 0=left.getD v 0 - 1/\(nx.1<0\/(e.fQ:Int)<nx.1) then((e.fQ:Int),(e.dD:Int)) else nx
def KV(E:List (List dS))(left:List Int)(v:Nat):Int×Int:=(E.getD v []).foldl (sw left v) (-1,0)
def uH(E:List (List dS))(left:List Int):Nat->Nat->List Int->Nat×List Int
 | 0,v,out=>(v,out)
 | f+1,v,out=>if 0<left.getD v 0 then uH E left f (KV E left v).2.toNat (out++[(KV E left v).1]) else(v,out)
def oo(E:List (List dS))(n:Nat)(other:Nat->Option Nat)(i s0:Nat):Option (List Int):=
 if (gK (ji E n [s0]) (fun v=>(other v).isSome) n).1<0 then none
 else
  let left:=ji E n (gK (ji E n [s0]) (fun v=>(other v).isSome) n).2
  let wk:=uH E left (left.getD s0 0).toNat s0 [(i:Int)]
  some (wk.2++[(((other wk.1).getD 0:Nat):Int)])
theorem Gl(A:List Int)(B:Nat->Bool)(k:Nat):gK A B (k+1)=KA A B (gK A B k) k:=by
 unfold gK;rw[List.range_succ,List.foldl_append];rfl
theorem Pw(A:List Int)(C:Nat->Bool)(k:Nat):(∀v∈(gK A C k).2,v<k/\C v=true/\A.getD v 0=(gK A C k).1)/\((gK A C k).1<0↔(gK A C k).2=[])/\(gK A C k).2.length<=k /\ -1<=(gK A C k).1:=by
 induction k with
 | zero=>simp[gK]
 | succ k ih=>
  rw[Gl];obtain⟨D,H,J,F⟩:=ih;generalize gK A C k=st at*
  unfold KA;by_cases G:A.getD k 0<0\/(0<=st.1/\st.1<A.getD k 0)
  ·rw[if_pos G]
   exact⟨fun v B=>⟨by have:=(D v B).1;omega,(D v B).2⟩,H,by omega,F⟩
  rw[if_neg G];by_cases E:C k=false
  ·rw[if_pos E]
   exact⟨fun v B=>⟨by have:=(D v B).1;omega,(D v B).2⟩,H,by omega,F⟩
  rw[if_neg E];have I:C k=true:=by simpa using E
  by_cases c3:st.1<0\/A.getD k 0<st.1
  ·rw[if_pos c3]
   refine⟨fun v B=>?_,?_,by simp,by omega⟩
   ·simp at B
    subst B;exact⟨by omega,I,rfl⟩
   show A.getD k 0<0↔[k]=[];exact⟨fun h=>by omega,fun h=>by cases h⟩
  rw[if_neg c3];refine⟨fun v B=>?_,?_,by simp;omega,F⟩
  ·rcases List.mem_append.1 B with B|B
   ·exact⟨by have:=(D v B).1;omega,(D v B).2⟩
   simp at B;subst B;exact⟨by omega,I,by omega⟩
  show st.1<0↔st.2++[k]=[];exact⟨fun h=>by omega,fun h=>by simp at h⟩
theorem Vg(left:List Int)(v:Nat)(E:List dS):∀(A:Int×Int),(A.1<0\/∃e:dS,A=((e.fQ:Int),(e.dD:Int))/\left.getD e.dD 0=left.getD v 0 - 1) ->
 ((E.foldl (sw left v) A).1<0/\A.1<0/\(∀e∈E,left.getD e.dD 0≠left.getD v 0 - 1)) \/
 (∃e:dS,E.foldl (sw left v) A=((e.fQ:Int),(e.dD:Int))/\left.getD e.dD 0=left.getD v 0 - 1/\(A=((e.fQ:Int),(e.dD:Int))\/e∈E)/\(0<=A.1->(e.fQ:Int)<=A.1)/\∀f∈E,left.getD f.dD 0=left.getD v 0 - 1->e.fQ<=f.fQ):=by
 induction E with
 | nil=>
  intro A h;rcases h with h| ⟨e,rfl,P⟩
  ·exact .inl ⟨h,h,by simp⟩
  exact .inr ⟨e,rfl,P,.inl rfl,fun _=>Int.le_refl _,by simp⟩
 | cons x E ih=>
  intro A h;rw[List.foldl_cons];by_cases F:left.getD x.dD 0=left.getD v 0 - 1/\(A.1<0\/(x.fQ:Int)<A.1)
  ·have L:sw left v A x=((x.fQ:Int),(x.dD:Int)):=if_pos F
   rw[L];rcases ih _ (.inr ⟨x,rfl,F.1⟩) with⟨G,D,C⟩| ⟨e,G,D,C,J,K⟩
   ·simp at D
    omega
   have H:=J (by simp);refine .inr ⟨e,G,D,.inr ?_,fun T=>?_,fun f B I=>?_⟩
   ·rcases C with C|C
    ·have:e=x:=by
      cases e;cases x
      simp at C;simp;omega
     simp[this]
    simp[C]
   ·have:=F.2
    simp only at H;omega
   rcases List.mem_cons.1 B with rfl|B
   ·simp only at H
    omega
   exact K f B I
  have L:sw left v A x=A:=if_neg F;rw[L];rcases ih A h with⟨G,D,C⟩| ⟨e,G,D,C,J,K⟩
  ·refine .inl ⟨G,D,fun f B=>?_⟩
   rcases List.mem_cons.1 B with rfl|B
   ·exact fun O=>F ⟨O,.inl D⟩
   exact C f B
  refine .inr ⟨e,G,D,C.imp id (fun S=>by simp[S]),J,fun f B I=>?_⟩;rcases List.mem_cons.1 B with rfl|B
  ·rcases h with h| ⟨M,rfl,Q⟩
   ·exact absurd ⟨I,.inl h⟩ F
   have N:=J (by simp);simp only at N;have U:¬((f.fQ:Int)<(M.fQ:Int)):=fun R=>F ⟨I,.inr R⟩
   omega
  exact K f B I
theorem Vk{E:List (List dS)}{n:Nat}{F:List Nat}{left:List Int}(M:Sy E n F left)(H:∀u v,u<n->(∃e∈E.getD u [],e.dD=v)->∃e∈E.getD v [],e.dD=u){v:Nat}(P:v<n)(B:0<left.getD v 0):
 ∃e∈E.getD v [],KV E left v=((e.fQ:Int),(e.dD:Int))/\left.getD e.dD 0=left.getD v 0 - 1/\∀f∈E.getD v [],left.getD f.dD 0=left.getD v 0 - 1->e.fQ<=f.fQ:=by
 obtain⟨u,O,G,D⟩:=M.pred v P B;obtain⟨e,N,C⟩:=H u v O G;rcases Vg left v (E.getD v []) (-1,0) (.inl (by simp)) with⟨_,_,A⟩| ⟨I,J,K,A,_,L⟩
 ·exact absurd (by rw[C];exact D) (A e N)
 refine⟨I,?_,J,K,L⟩;rcases A with A|A
 ·simp at A
 exact A
theorem U8{E:List (List dS)}{n:Nat}{F:List Nat}{K:Nat}{A left:List Int}(H:Sy E n [K] A)(M:Sy E n F left)
 (L:∀u v,u<n->(∃e∈E.getD u [],e.dD=v)->∃e∈E.getD v [],e.dD=u):∀(m v:Nat),v<n->A.getD v 0=(m:Int)->0<=left.getD v 0->0<=left.getD K 0:=by
 intro m
 induction m with
 | zero=>
  intro v B I D;have:=(H.zero v B).1 (by simpa using I);simp at this;subst this;exact D
 | succ m ih=>
  intro v B I D;obtain⟨u,J,G,O⟩:=H.pred v B (by omega);obtain⟨e,N,C⟩:=L u v J G;have:=(M.next v B D e N).1;rw[C]at this;exact ih u J (by omega) this
open Go.RowKit
def ZP(w:World)(r:Option (List Int))(e:Ending)(w':World):Prop:=
 match r with
 | none=>e= .returned (.tuple #[.slice none 0 0,.bool false])/\Below w.heap.size w w'
 | some out=> ∃v,e= .returned (.tuple #[v,.bool true])/\aG w' w.heap.size 3 1 v out.length (bL out)/\Below w.heap.size w w'
structure UF (n nl:Nat) (l:List bD) (E:List (List dS)) (M:Nat->List Nat):Prop where
 lnl:l.length=nl
 en:E.length=n
 G8:∀es∈E,∀e∈es,e.dD<n
 len:∀es∈E,es.length<=1000000
 fQ:∀es∈E,∀e∈es,e.fQ<nl
 mark:∀v,∀j∈M v,j<nl
 mlen:∀v,(M v).length<=1000000
 sym:∀u v,u<n->(∃e∈E.getD u [],e.dD=v)->∃e∈E.getD v [],e.dD=u
 hn:n<=5000
 hnl:nl<=1000000
theorem TM(w:World)(B g z:Nat)(D:g<B)(h:w.cell? ⟨g,0,none⟩=some (.int .i64 (z:Int))):aS 1 pQ w B (some ⟨g,0,none⟩) [z]:=by
 intro k c C
 cases k with
 | zero=>
  simp at C;subst C;refine⟨g,0,rfl,D,fun j v A=>?_⟩
  cases j with
  | zero=>simp[pQ]at A;subst A;exact h
  | succ j=>simp[pQ]at A
 | succ k=>simp at C
theorem Y8(AL AE:Option Addr)(nl cL n cE r:Nat)(l:List bD)(E:List (List dS))(M:Nat->List Nat)(i F:Nat)(w:World)
 (hG:pJ w w.heap.size AL AE r l E M) (ok:UF n nl l E M) (c:bD) (hc:l[i]? =some c) (vP:c.a=(F:Int)) (u:F<n):
 Calls Tryz.prog 102 #[.agg #[.slice AL nl cL,.slice AE n cE,.map (some r)],.int .i64 (i:Int)] w (ZP w (oo E n (iA l M i) i F)):=by
 obtain⟨i0,aa,aq,ar,au⟩:=info_parts mH;have ck:i<nl:=by rw[<- ok.lnl];exact(acg.1 hc).1
 have hn:=ok.hn;have dK:=ok.hnl;obtain⟨lb,kr,hA,dH,c9⟩:=hG.cons i c hc;subst hA
 have cM:w.cell? ⟨lb,kr+i*8+1,none⟩=some (.int .i64 (F:Int)):=by
  rw[<- vP];exact c9 1 _ rfl
 have HG:=kH hG;have J:=kH ok;clear c9 hc vP hG ok;go_in
 go_wp2_with fail
 generalize ax:w.alloc (.cells #[.slice (some ⟨lb,kr,none⟩) nl cL,.slice AE n cE,.map (some r)] 153)=W0
 have bZ:W0.heap.size=w.heap.size+1:=by rw[<- ax];simp
 have zh:Below w.heap.size w W0:=by rw[<- ax];exact ai w _
 have bX:ah W0 w.heap.size 153 #[.slice (some ⟨lb,kr,none⟩) nl cL,.slice AE n cE,.map (some r)]:=by rw[<- ax];exact ah.new w _ _
 have vU:=kH bZ;have av:=kH bX;clear bZ bX ax;have c7:Below w.heap.size w (W0.alloc (.cells #[.int .i64 (F:Int)] 3)):=zh.alloc (by have:=vU.out;omega) _;refine(zT _ _ AE n cE E _ 1 1 [F] (W0.alloc (.cells #[.int .i64 (F:Int)] 3)) ((HG.out.Iy.below c7 (ab9 _)).mono (by have:=vU.out;simp;omega)) J.out.en J.out.G8 J.out.len (TM _ _ _ _ (by have:=vU.out;simp;omega) (by rw[<- vU.out];simp)) rfl (by omega) (by simpa using u) hn (by omega)).mono ?_;rintro e t ⟨gf,rfl,cg,b8,c8⟩
 have K:Below (w.heap.size+1) W0 t:=by
  have h1:=ai W0 (.cells #[.int .i64 (F:Int)] 3);rw[vU.out]at h1;exact h1.trans (c8.mono (by have:=vU.out;simp;omega))
 have a8:gf<t.heap.size:=b8.lt;have cW:w.heap.size+1<=gf:=by have:=vU.out;simp at cg;omega
 have cV:t.cell? ⟨w.heap.size,1,none⟩=some (.slice AE n cE):=(K.cell (p:=⟨w.heap.size,1,none⟩) (by simp)).trans (av.out.cell 1);have bu:=kH b8;clear c8 cg b8 c7;go_wp2_with fail
 clear cV
 go_loopg [34,9,8] n (fun gk dm s9 s8 wr=> ∃k:Nat,k+gk=n/\dm= .int .i64 k/\s9= .int .i64 (gK (ji E n [F]) (fun v=>(iA l M i v).isSome) k).1 /\
  aG wr t.heap.size 3 1 s8 (gK (ji E n [F]) (fun v=>(iA l M i v).isSome) k).2.length (bL ((gK (ji E n [F]) (fun v=>(iA l M i v).isSome) k).2.map fun x:Nat=>(x:Int)))/\Below t.heap.size t wr)
 case atStart=>exact⟨0,by omega,rfl,rfl,aG.nil _ _ _ _,Below.refl _ _⟩
 obtain⟨k,hk,rfl,rfl,hT,z⟩:=hrel;have db:k<=n:=by omega
 have Z:=kH hk;have HT:=kH hT;clear hk hT;have D:=Pw (ji E n [F]) (fun v=>(iA l M i v).isSome) k;have bs:=Gl (ji E n [F]) (fun v=>(iA l M i v).isSome) k;have hI:=bu.out.below z a8;have az:=xg E n [F] J.out.G8 (by simpa using u);by_cases bp:k<n
 ·have cU:=az.lo k bp
  have cf:=hI.cell (i:=k) (by rw[az.len];exact bp);have uj:=D.2.2.2;have a1:=D.2.2.1;have O:=kH bs;clear bs D hI az;generalize gK (ji E n [F]) (fun v=>(iA l M i v).isSome) k=st at*
  obtain⟨fv, Ud⟩:=ag ((ji E n [F]).getD k 0);rw[Ud]at cf cU;have UD:=kH Ud;clear Ud;obtain⟨N,I⟩:=st;simp only at uj a1;by_cases c1:fv<0
  ·go_wp2_with fail
   go_roundg (gk - 1)
   case measure=>have:=Z.out;omega
   have B:gK (ji E n [F]) (fun v=>(iA l M i v).isSome) (k+1)=(N,I):=by
    rw[O.out];exact if_pos (.inl (by rw[UD.out];exact c1))
   refine⟨k+1,by have:=Z.out;omega,by go_num,?_⟩;rw[B];exact⟨rfl,HT.out,z⟩
  by_cases c2:0<=N/\N<fv
  ·obtain⟨c2,c3⟩:=c2
   go_wp2_with fail
   go_roundg (gk - 1)
   case measure=>have:=Z.out;omega
   have B:gK (ji E n [F]) (fun v=>(iA l M i v).isSome) (k+1)=(N,I):=by
    rw[O.out];exact if_pos (.inr (by rw[UD.out];exact⟨c2,c3⟩))
   refine⟨k+1,by have:=Z.out;omega,by go_num,?_⟩;rw[B];exact⟨rfl,HT.out,z⟩
  have Q:Below w.heap.size w wr:=zh.trans ((K.mono (by omega)).trans (z.mono (by omega)));have G:=(av.out.below K (by omega)).below z (by omega);have S:=G.cell 0;have T:=G.cell 1;have U:=G.cell 2;simp only[acj,ach,aci]at S T U;have dg:w.heap.size<wr.heap.size:=G.lt;have cm:I.length<=5000:=by omega
  clear G;have a7:N<0\/(0<=N/\fv<N)\/(0<=N/\fv<=N/\N<=fv):=by omega
  clear c2;rcases a7 with c4| ⟨c4,c5⟩| ⟨c4,c5,c6⟩
  all_goals
   go_wp2_with fail
   refine(Ns _ AE nl cL n cE r l E M i k wr (HG.out.later Q) J.out.lnl ck (J.out.mark k) (J.out.mlen k)).mono ?_;rintro e R ⟨rfl,y⟩;have A:Below t.heap.size t R:=z.trans (y.mono z.size);have gN:=HT.out.below y (fun g d=>(HT.out.lt g d).2);have bM:=bu.out.below A a8;have bl:=bM.cell (i:=k) (by rw[(xg E n [F] J.out.G8 (by simpa using u)).len];exact bp);rw[UD.out]at bl;have b5:=kH gN;clear y S T U Q gN bM cf
   cases ho:iA l M i k with
   | none=>
    have m:=kH ho;clear ho;simp only[Option.isSome_none,Option.getD_none];go_wp2_with fail
    go_roundg (gk - 1)
    case measure=>have:=Z.out;omega
    have B:gK (ji E n [F]) (fun v=>(iA l M i v).isSome) (k+1)=(N,I):=by
     rw[O.out];unfold KA;rw[if_neg (by rw[UD.out];simp only;omega),if_pos (by show(iA l M i k).isSome=false;rw[m.out];rfl)]
    refine⟨k+1,by have:=Z.out;omega,by go_num,?_⟩;rw[B];exact⟨rfl,b5.out,A⟩
   | some j=>?_
  all_goals
   have m:=kH ho;clear ho;simp only[Option.isSome_some,Option.getD_some]
   have B:gK (ji E n [F]) (fun v=>(iA l M i v).isSome) (k+1)=if N<0\/fv<N then(fv,[k]) else(N,I++[k]):=by
    rw[O.out];unfold KA;rw[if_neg (by rw[UD.out];simp only;omega),if_neg (by show ¬(iA l M i k).isSome=false;rw[m.out];simp)];simp only[UD.out]
   have AQ:=kH B;clear B O
  ·go_wp2_with (at_builtin;go_must (refine dW _ rfl (.tmp 77) (.tmp 79) _ rfl t.heap.size 3 i0 _ 1 8 Tryz.underlying28 aa aq ar au rfl (.slice none 0 0) 0 [] rfl (aG.nil _ _ _ _) ⟨R.heap.size,0,none⟩ 1 1 [.int .i64 (k:Int)] rfl rfl (lU _ _ _ (by go_simp)) (by simp[Value.oneCell']) (by simp only[maxLen];omega) (by omega) (by have:=A.size;simp;omega) ?_);intro v' w3 H C ay)
   go_roundg (gk - 1)
   case measure=>have:=Z.out;omega
   refine⟨k+1,by have:=Z.out;omega,by go_num,?_⟩;rw[AQ.out,if_pos (.inl c4)];exact⟨rfl,by simpa using H,Below.grown (A.alloc A.size _) C (by have:=A.size;simp;omega) (by simp[Value.ownBlock])⟩
  ·go_wp2_with (at_builtin;go_must (refine dW _ rfl (.tmp 77) (.tmp 79) _ rfl t.heap.size 3 i0 _ 1 8 Tryz.underlying28 aa aq ar au rfl (.slice none 0 0) 0 [] rfl (aG.nil _ _ _ _) ⟨R.heap.size,0,none⟩ 1 1 [.int .i64 (k:Int)] rfl rfl (lU _ _ _ (by go_simp)) (by simp[Value.oneCell']) (by simp only[maxLen];omega) (by omega) (by have:=A.size;simp;omega) ?_);intro v' w3 H C ay)
   go_roundg (gk - 1)
   case measure=>have:=Z.out;omega
   refine⟨k+1,by have:=Z.out;omega,by go_num,?_⟩;rw[AQ.out,if_pos (.inr c5)];exact⟨rfl,by simpa using H,Below.grown (A.alloc A.size _) C (by have:=A.size;simp;omega) (by simp[Value.ownBlock])⟩
  go_wp2_with (at_builtin;go_must (refine dW _ rfl (.tmp 77) (.tmp 79) _ rfl t.heap.size 3 i0 _ 1 8 Tryz.underlying28 aa aq ar au rfl u8 I.length (bL (I.map fun x:Nat=>(x:Int))) rfl (by exact b5.out.alloc _) ⟨R.heap.size,0,none⟩ 1 1 [.int .i64 (k:Int)] rfl rfl (lU _ _ _ (by go_simp)) (by simp[Value.oneCell']) (by simp only[maxLen];omega) (by omega) (by have:=A.size;simp;omega) ?_);intro v' w3 H C ay)
  go_roundg (gk - 1)
  case measure=>have:=Z.out;omega
  refine⟨k+1,by have:=Z.out;omega,by go_num,?_⟩;rw[AQ.out,if_neg (by omega)];exact⟨rfl,by simpa using H,Below.grown (A.alloc A.size _) C (by have:=A.size;simp;omega) (fun g d=>(b5.out.lt g d).1)⟩
 have dd:k=n:=by omega
 subst dd;generalize VJ:gK (ji E k [F]) (fun v=>(iA l M i v).isSome) k=st at*
 obtain⟨N,I⟩:=st;have O:=kH VJ;clear bs VJ Z hI az db;simp only at D;have uj: -1<=N:=D.2.2.2;have a1:I.length<=k:=D.2.2.1;have ab:=D.2.1;have cy:∀v∈I,v<k:=fun v hv=>(D.1 v hv).1
 have cx:∀v∈I,(ji E k [F]).getD v 0=N:=fun v hv=>(D.1 v hv).2.2
 have cH:=kH cx;have Zx:=kH cy;have b3:=kH ab;clear D cy ab cx;by_cases c0:N<0
 ·go_wp2_with fail
  go_ret2
  have Y:oo E k (iA l M i) i F=none:=by
   unfold oo;rw[O.out,if_pos c0]
  rw[Y];exact⟨rfl,zh.trans ((K.mono (by omega)).trans (z.mono (by omega)))⟩
 have cr:I≠[]:=fun h=>c0 (b3.out.2 h)
 have br:0<I.length:=List.length_pos_iff.2 cr;have Q:Below w.heap.size w wr:=zh.trans ((K.mono (by omega)).trans (z.mono (by omega)));have G:=(av.out.below K (by omega)).below z (by omega);have S:=G.cell 0;have T:=G.cell 1;have U:=G.cell 2;simp only[acj,ach,aci]at S T U;obtain⟨At,ct,bx,_,_⟩:=HT.out.shape;have al:aS 1 pQ wr wr.heap.size At I:=HT.out.rowAt bx (NI I) (by intro c _;rfl) rfl;subst bx;go_wp2_with fail
 refine(zT _ _ AE k cE E At I.length ct I wr (HG.out.later Q).Iy J.out.en J.out.G8 J.out.len al rfl br Zx.out hn (by omega)).mono ?_;rintro e R ⟨gl,rfl,dw,b9,y⟩;have A:Below t.heap.size t R:=z.trans (y.mono z.size);have bm:gl<R.heap.size:=b9.lt;have bh:=xg E k I J.out.G8 Zx.out;have cl:=aby E k I J.out.G8 Zx.out
 have Y:oo E k (iA l M i) i F=some ((uH E (ji E k I) ((ji E k I).getD F 0).toNat F [(i:Int)]).2++[(((iA l M i (uH E (ji E k I) ((ji E k I).getD F 0).toNat F [(i:Int)]).1).getD 0:Nat):Int)]):=by
  unfold oo;rw[O.out,if_neg (by simp only;omega)]
 have bG:=kH Y;have cF:=kH b9;clear al y z S T U G Q b9 Y HT;generalize ji E k I=left at*
 have cn:∀v,v<k->left.getD v 0<=10000:=fun v hv=>by
  have:=cl _ (EX (l:=left) (i:=v) (by rw[bh.len];exact hv));have h1:=hn;have h2:=a1;omega
 have Jt:=kH bh;have b4:=kH cn;clear bh cl cn;go_wp2_with fail
 have dB:0<=left.getD F 0:=by
  obtain⟨t0,b1⟩:=List.exists_mem_of_ne_nil I cr;have h1:=cH.out t0 b1;exact U8 (xg E k [F] J.out.G8 (by simpa using u)) Jt.out J.out.sym N.toNat t0 (Zx.out t0 b1) (by omega) (by rw[(Jt.out.zero t0 (Zx.out t0 b1)).2 b1];omega)
 go_loopg [14,15] (left.getD F 0).toNat (fun gk PV dk wr=> ∃v X,v<k/\left.getD v 0=(gk:Int)/\dk= .int .i64 (v:Nat)/\aG wr R.heap.size 3 1 PV X.length (bL X)/\Below R.heap.size R wr /\
  uH E left gk v X=uH E left (left.getD F 0).toNat F [(i:Int)]/\X.length+gk<=10001)
 case atStart=>
  have h1:=b4.out F u;refine⟨F,[(i:Int)],u,by omega,rfl,?_,ai _ _,rfl,by show 1+(left.getD F 0).toNat<=10001;omega⟩;exact aG.block (n:=1) (cur:=#[.int .i64 (i:Int)]) (ab9 _) (heap_alloc_new _ _) (by simp[maxLen]) rfl
 obtain⟨v,X,hv,cp,rfl,hO,P,an,dQ⟩:=hrel;have m:=kH hO;have Mi:=kH cp;have bw:=kH an;clear hO cp an;have b7:=cF.out.below P bm;have cP:=b7.cell (i:=v) (by rw[Jt.out.len];exact hv);rw[Mi.out]at cP;have Q:Below w.heap.size w wr:=zh.trans ((K.mono (by omega)).trans ((A.mono (by omega)).trans (P.mono (by have:=A.size;omega))));have G:=((av.out.below K (by omega)).below A (by omega)).below P (by have:=A.size;omega);have S:=G.cell 0;have T:=G.cell 1;have U:=G.cell 2;simp only[acj,ach,aci]at S T U;have dx:w.heap.size<wr.heap.size:=G.lt;have bn:gl<wr.heap.size:=b7.lt;clear G;by_cases hp:0<gk
 ·have Yo:v<E.length:=by rw[J.out.en];exact hv
  have bk:E[v]? =some E[v]:=ace Yo;obtain⟨eb,dn,Ai,ci,hA,dq,cT,cc⟩:=(HG.out.later Q).Iy v _ bk;subst hA;have dr:E[v].length<=1000000:=J.out.len _ (List.getElem_mem Yo);have cd:∀e∈E[v],e.dD<k:=J.out.G8 _ (List.getElem_mem Yo);have bI:E.getD v []=E[v]:=by rw[List.getD_eq_getElem?_getD,bk];rfl
  have cv:=Vk Jt.out J.out.sym hv (by rw[Mi.out];omega);have cu:KV E left v=E[v].foldl (sw left v) (-1,0):=by unfold KV;rw[bI]
  have bN:=kH cv;have sJ:=kH cu;have ZK:=kH cd;have cD:=kH cc;clear cv cu cd cc bk bI;generalize E[v]=es at*
  go_wp2_with fail
  clear cT;obtain⟨wo,rfl⟩:∃wo:World,wo=wr:=⟨_,rfl⟩
  obtain⟨f,rfl⟩:∃f:Nat,f=gk:=⟨_,rfl⟩
  go_loopg [102] es.length (fun cI bt wx=> ∃q:Nat,q+cI=es.length/\bt= .int .i64 q/\ah wx wo.heap.size 157 #[.int .i64 ((es.take q).foldl (sw left v) (-1,0)).1,.int .i64 ((es.take q).foldl (sw left v) (-1,0)).2]/\Below wo.heap.size wo wx)
  case atStart=>exact⟨0,by omega,rfl,ah.new _ _ _,ai _ _⟩
  obtain⟨q,hq,rfl,hN,aw⟩:=hrel;have dR:q<=es.length:=by omega
  have HQ:=kH hq;clear hq;have cX:wo.heap.size<wr.heap.size:=hN.lt;have aE:=hN.cell 0;have b0:=hN.cell 1;simp only[acj,ach,aci]at aE b0;have HN:=kH hN;clear hN;by_cases ad:q<es.length
  ·have bj:es[q]? =some es[q]:=ace ad
   obtain⟨ib,QB,hA,dy,bo⟩:=(cD.out.below aw (ab9 _)) q _ bj;subst hA;have dp:wr.cell? ⟨ib,QB+q*2,none⟩=some (.int .i64 (es[q].fQ:Int)):=bo 0 _ rfl;have cM:wr.cell? ⟨ib,QB+q*2+1,none⟩=some (.int .i64 (es[q].dD:Int)):=bo 1 _ rfl;have MO:es[q].dD<k:=ZK.out _ (List.getElem_mem ad);have B:=sH (sw left v) (-1,0) es q _ bj;have HS:=kH B;have ba:=b7.below aw bn;have cN:=ba.cell (i:=es[q].dD) (by rw[Jt.out.len];exact MO);have cR:=ba.cell (i:=v) (by rw[Jt.out.len];exact hv);rw[Mi.out]at cR;have df:=Jt.out.lo _ MO;have cY:=b4.out _ MO;have da:ib<wr.heap.size:=by omega
   have cj:gl<wr.heap.size:=by omega
   have dv:(f:Int)<=10000:=by rw[<- Mi.out];exact b4.out v hv
   clear bo bj B ba;generalize es[q]=L at*
   generalize List.foldl (sw left v) (-1,0) (List.take q es)=nx at*
   obtain⟨de, bd⟩:=ag (left.getD L.dD 0);rw[bd]at cN df cY;have b2:=kH bd;clear bd;obtain⟨V,nb⟩:=nx;simp only at aE b0;have cz:(L.dD:Int)<(k:Int):=by omega
   have dj:(v:Int)<(k:Int):=by omega
   by_cases cA:de=(f:Int) - 1
   ·have hA:(de==(f:Int) - 1)=true:=by simpa using cA
    have cQ:V<0\/(0<=V/\(L.fQ:Int)<V)\/(0<=V/\V<=(L.fQ:Int)):=by omega
    have dt:=HN.out.frozen 0;have du:=HN.out.frozen 1;rcases cQ with c1| ⟨c1,c2⟩| ⟨c1,c2⟩
    ·go_wp2_with fail
     go_quiet (fail)
     go_wp2_with fail
     go_roundg (gk - 1)
     case measure=>have:=HQ.out;omega
     refine⟨q+1,by have:=HQ.out;omega,by go_num,?_⟩;rw[HS.out,show sw left v (V,nb) L=((L.fQ:Int),(L.dD:Int)) from if_pos (by rw[b2.out,Mi.out];exact⟨cA,.inl c1⟩)];have bb:=HN.out;exact⟨by(refine ah.set2 (a:=.int .i64 V) (b:=.int .i64 nb) ?_ _ _;(repeat (first|assumption|refine ah.drew ?_|refine ah.drewN ?_ _|refine ah.alloc ?_ _|refine ah.far ?_ (by first|assumption|omega|(simp;omega)) _))),by(repeat first|exact .refl _ _|assumption|refine .trans ?_ (.mono (by assumption) ?_)|refine .alloc ?_ ?_ _|refine .setCell ?_ ?_ _|refine .drew ?_|refine aL ?_ _|omega|(simp<;>omega))⟩
    ·have cS:decide (V<0)=false:=by simp;omega
     go_wp2_with fail
     go_quiet (fail)
     go_wp2_with fail
     go_roundg (gk - 1)
     case measure=>have:=HQ.out;omega
     refine⟨q+1,by have:=HQ.out;omega,by go_num,?_⟩;rw[HS.out,show sw left v (V,nb) L=((L.fQ:Int),(L.dD:Int)) from if_pos (by rw[b2.out,Mi.out];exact⟨cA,.inr c2⟩)];have bb:=HN.out;exact⟨by(refine ah.set2 (a:=.int .i64 V) (b:=.int .i64 nb) ?_ _ _;(repeat (first|assumption|refine ah.drew ?_|refine ah.drewN ?_ _|refine ah.alloc ?_ _|refine ah.far ?_ (by first|assumption|omega|(simp;omega)) _))),by(repeat first|exact .refl _ _|assumption|refine .trans ?_ (.mono (by assumption) ?_)|refine .alloc ?_ ?_ _|refine .setCell ?_ ?_ _|refine .drew ?_|refine aL ?_ _|omega|(simp<;>omega))⟩
    have cS:decide (V<0)=false:=by simp;omega
    go_wp2_with fail
    go_quiet (fail)
    go_wp2_with fail
    go_roundg (gk - 1)
    case measure=>have:=HQ.out;omega
    refine⟨q+1,by have:=HQ.out;omega,by go_num,?_⟩;rw[HS.out,show sw left v (V,nb) L=(V,nb) from if_neg (by simp only;omega)];have bb:=HN.out;exact⟨by(repeat (first|assumption|refine ah.drew ?_|refine ah.drewN ?_ _|refine ah.alloc ?_ _|refine ah.far ?_ (by first|assumption|omega|(simp;omega)) _)),by(repeat first|exact .refl _ _|assumption|refine .trans ?_ (.mono (by assumption) ?_)|refine .alloc ?_ ?_ _|refine .setCell ?_ ?_ _|refine .drew ?_|refine aL ?_ _|omega|(simp<;>omega))⟩
   have hA:(de==(f:Int) - 1)=false:=by simpa using cA
   have zG:=kH cA;clear cA;go_wp2_with fail
   go_quiet (fail)
   go_wp2_with fail
   go_roundg (gk - 1)
   case measure=>have:=HQ.out;omega
   refine⟨q+1,by have:=HQ.out;omega,by go_num,?_⟩;rw[HS.out,show sw left v (V,nb) L=(V,nb) from if_neg (by rw[b2.out,Mi.out];exact fun h=>zG.out h.1)];have bb:=HN.out;exact⟨by(repeat (first|assumption|refine ah.drew ?_|refine ah.drewN ?_ _|refine ah.alloc ?_ _|refine ah.far ?_ (by first|assumption|omega|(simp;omega)) _)),by(repeat first|exact .refl _ _|assumption|refine .trans ?_ (.mono (by assumption) ?_)|refine .alloc ?_ ?_ _|refine .setCell ?_ ?_ _|refine .drew ?_|refine aL ?_ _|omega|(simp<;>omega))⟩
  have FO:q=es.length:=by omega
  have af:=bN.out;rw[sJ.out]at af;obtain⟨L,ca,a6,cq,_⟩:=af;have qX:=HN.out;rw[FO,List.take_length,a6]at qX aE b0;simp only at qX aE b0
  have an:uH E left f v X=uH E left (f - 1) L.dD (X++[(L.fQ:Int)]):=by
   obtain⟨g',rfl⟩:∃g',f=g'+1:=⟨f - 1,by omega⟩
   rw[uH,if_pos (by rw[Mi.out];omega),sJ.out,a6];simp
  have b6:=kH an
  have MO:L.dD<k:=by
   have h1:=AA J.out.G8 v L ca;exact h1
  have cC:=kH cq;have OA:=kH qX;clear an cq qX HN a6 ca FO HQ;have bP:=m.out.below aw (fun g d=>(m.out.lt g d).2);have BH:=kH bP;clear bP;go_wp2_with fail
  go_region_held3 (fun w'=>w'.cell? ⟨wo.heap.size,0,none⟩=some (.int .i64 (L.fQ:Int))/\w'.cell? ⟨wo.heap.size,1,none⟩=some (.int .i64 (L.dD:Int))) (first|go_keep|(refine⟨?_,?_⟩ <;>(rw[C.cell_far _ (by simp;omega) (fun e=>by have:=(m.out.lt _ e.symm).2;simp at this)];go_simp))) ((refine Fx _ (by rfl) (.tmp 131) (.tmp 134) _ (by rfl) R.heap.size 3 i0 _ 1 8 Tryz.underlying28 aa aq ar au (by rfl) u14 X.length (bL X) (by rfl) (by have YF:=BH.out;(repeat (first|assumption|refine aG.drew ?_|refine aG.drewN ?_ _|refine aG.alloc ?_ _|refine aG.setCell ?_ (by assumption) _))) ⟨wr.heap.size,0,none⟩ 1 1 [.int .i64 (L.fQ:Int)] (by rfl) (by rfl) (lU _ _ _ (by go_simp)) (by simp[Value.oneCell']) (by simp only[maxLen];omega) (by omega) (by have:=P.size;simp;omega) ?_;intro v' w3 H C ay))
  go_wp2_with fail
  go_roundg (f - 1)
  case measure=>omega
  refine⟨L.dD,X++[(L.fQ:Int)],MO,by rw[cC.out,Mi.out];omega,rfl,by simpa [bL] using H,?_,b6.out.symm.trans bw.out,by simp;omega⟩;have cJ:Below R.heap.size R wr:=P.trans (aw.mono P.size);have dT:=cJ.size;exact Below.grown (by(repeat first|exact .refl _ _|assumption|refine .trans ?_ (.mono (by assumption) ?_)|refine .alloc ?_ ?_ _|refine .setCell ?_ ?_ _|refine .drew ?_|refine aL ?_ _|omega|(simp<;>omega))) C (by simp;omega) (fun g d=>(m.out.lt g d).1)
 go_wp2_with fail
 refine(Ns _ AE nl cL k cE r l E M i v wr (HG.out.later Q) J.out.lnl ck (J.out.mark v) (J.out.mlen v)).mono ?_;rintro e w3 ⟨rfl,bc⟩;have bT:=m.out.below bc (fun g d=>(m.out.lt g d).2);have Sc:=kH bT;have bB:Below R.heap.size R w3:=P.trans (bc.mono P.size)
 have ao:(v,X)=uH E left (left.getD F 0).toNat F [(i:Int)]:=by
  have h0:gk=0:=by omega
  rw[<- bw.out,h0];rfl
 have b6:=kH ao;clear bT bc ao;generalize cw:iA l M i v=ov
 have cG:=kH cw;clear cw;go_wp2_with (at_builtin;go_must (refine dW _ rfl (.tmp 145) (.tmp 147) _ rfl R.heap.size 3 i0 _ 1 8 Tryz.underlying28 aa aq ar au rfl u14 X.length (bL X) rfl (by exact Sc.out.alloc _) ⟨w3.heap.size,0,none⟩ 1 1 [.int .i64 ((ov.getD 0:Nat):Int)] rfl rfl (lU _ _ _ (by go_simp)) (by simp[Value.oneCell']) (by simp only[maxLen];omega) (by omega) (by have:=bB.size;simp;omega) ?_);intro v' w4 H C ay)
 go_ret2
 rw[bG.out,<- b6.out];refine⟨v',rfl,?_,?_⟩
 ·have h1:aG w4 w.heap.size 3 1 v' (X.length+1) (bL X++[.int .i64 ((ov.getD 0:Nat):Int)]):=H.mono (by have:=K.size;have:=A.size;have:=vU.out;omega)
  simp only[cG.out];simpa [bL] using h1
 have LF:Below w.heap.size w w3:=zh.trans ((K.mono (by omega)).trans ((A.mono (by omega)).trans (bB.mono (by have:=A.size;omega))));exact Below.grown (LF.alloc LF.size _) C (by have:=LF.size;simp;omega) (fun g d=>by have:=(m.out.lt g d).1;have:=K.size;have:=A.size;have:=vU.out;omega)
end Go.Proofs.YtoepemlnlpamlaaGreat
namespace Go.Proofs.YtoepemlnlpamlaaGreat
structure qZ where
 k:Int
 n:Int
 r:ByteArray
def iy(t:qZ):List Value:=[.int .i64 t.k,.int .i64 t.n,.string t.r]
def gI:qZ:=⟨0,0,⟨#[]⟩⟩
def bD.mark(c:bD):qZ:=⟨c.tk,c.tl,c.tr⟩
def Cc(n:Nat)(v:Int):Bool:=decide (0<=v)&&decide (v<(n:Int))
def qz(n:Nat)(c:bD):Bool:=Cc n c.a&&((c.kind==0&&vL c.tk c.tl c.tr) || (c.kind==1&&Cc n c.b))
def oz(i:Nat)(c:bD)(v:Nat):List dS:=
 if c.kind=1 then(if c.a=(v:Int) then [⟨i,c.b.toNat⟩] else [])++(if c.b=(v:Int) then [⟨i,c.a.toNat⟩] else []) else []
def bW(l:List bD)(k v:Nat):List dS:=(List.range k).flatMap fun i=>match l[i]? with|some c=>oz i c v|none=>[]
def gD(l:List bD)(n k:Nat):List (List dS):=(List.range n).map (bW l k)
def cK(l:List bD)(k v:Nat):List Nat:=(List.range k).filter fun i=>match l[i]? with|some c=>decide (c.kind=0/\c.a=(v:Int))|none=>false
theorem um(l:List bD)(k v:Nat)(c:bD)(h:l[k]? =some c):bW l (k+1) v=bW l k v++oz k c v:=by
 unfold bW;rw[List.range_succ,List.flatMap_append];simp[h]
theorem DF(l:List bD)(k v:Nat)(c:bD)(h:l[k]? =some c):cK l (k+1) v=if c.kind=0/\c.a=(v:Int) then cK l k v++[k] else cK l k v:=by
 unfold cK;rw[List.range_succ,List.filter_append];by_cases A:c.kind=0/\c.a=(v:Int)
 ·simp[h,A]
 have:(List.filter (fun i=>match l[i]? with|some c=>decide (c.kind=0/\c.a=(v:Int))|none=>false) [k])=[]:=by simp[h];simpa using A
 rw[this,if_neg A,List.append_nil]
theorem MJ(l:List bD)(k a:Nat)(c:bD)(h:l[k]? =some c)(B:c.kind=0)(A:c.a=(a:Int)):cK l (k+1)=fun u=>if u=a then cK l k a++[k] else cK l k u:=by
 funext u
 rw[DF l k u c h];by_cases C:u=a
 ·subst C
  simp[B,A]
 have:¬((a:Int)=(u:Int)):=by omega
 simp[B,A,this,C]
theorem KY(l:List bD)(k:Nat)(c:bD)(h:l[k]? =some c)(A:c.kind≠0):cK l (k+1)=cK l k:=by
 funext u
 rw[DF l k u c h];simp[A]
theorem FL(l:List bD)(k v:Nat):(cK l k v).length<=k:=by
 unfold cK;exact aca (List.length_filter_le _ _) (by simp)
theorem inB_nat{n:Nat}{v:Int}(h:Cc n v=true):∃a:Nat,v=(a:Int)/\a<n:=by
 simp[Cc]at h;exact⟨v.toNat,by omega,by omega⟩
theorem uq(l:List bD)(n k:Nat):(gD l n k).length=n:=by simp[gD]
theorem nU(l:List bD)(n k v:Nat)(A:v<n):(gD l n k)[v]? =some (bW l k v):=by simp[gD,A]
theorem Td(l:List bD)(n k:Nat)(c:bD)(h:l[k]? =some c)(A:c.kind≠1):gD l n (k+1)=gD l n k:=by
 unfold gD;apply List.map_congr_left
 intro v _;rw[um l k v c h];simp[oz,A]
theorem Rm(l:List bD)(n k a b:Nat)(c:bD)(h:l[k]? =some c)(K:c.kind=1)(I:c.a=(a:Int))(J:c.b=(b:Int))(L:a<n)(F:b<n):
 ∀A B,(gD l n k)[a]? =some A->((gD l n k).set a (A++[⟨k,b⟩]))[b]? =some B ->
  ((gD l n k).set a (A++[⟨k,b⟩])).set b (B++[⟨k,a⟩])=gD l n (k+1):=by
 intro A B N D;rw[nU l n k a L]at N;cases N
 apply List.ext_getElem?
 intro v;by_cases O:v<n
 ·rw[nU l n (k+1) v O,um l k v c h,List.getElem?_set]
  have C:=uq l n k;by_cases H:b=v
  ·subst H
   rw[if_pos rfl,if_pos (by simp[C,F])];rw[List.getElem?_set]at D;by_cases E:a=b
   ·subst E
    rw[if_pos rfl,if_pos (by rw[C];exact L)]at D;cases D
    simp[oz,K,I,J]
   rw[if_neg E,nU l n k b F]at D;cases D
   have:¬((a:Int)=(b:Int)):=by omega
   simp[oz,K,I,J,this]
  rw[if_neg H,List.getElem?_set];have G:¬((b:Int)=(v:Int)):=by omega
  by_cases M:a=v
  ·subst M
   rw[if_pos rfl,if_pos (by rw[C];exact L)];simp[oz,K,I,J,G]
  rw[if_neg M,nU l n k v O];have P:¬((a:Int)=(v:Int)):=by omega
  simp[oz,K,I,J,G,P]
 rw[List.getElem?_eq_none (by simp[uq];omega),List.getElem?_eq_none (by rw[uq];omega)]
theorem zK(l:List bD)(k v:Nat)(e:dS):e∈bW l k v↔∃c,l[e.fQ]? =some c/\e.fQ<k/\c.kind=1/\((c.a=(v:Int)/\e.dD=c.b.toNat)\/(c.b=(v:Int)/\e.dD=c.a.toNat)):=by
 unfold bW;rw[List.mem_flatMap];constructor
 ·rintro⟨i,C,A⟩
  rw[List.mem_range]at C
  cases B:l[i]? with
  | none=>rw[B]at A;cases A
  | some c=>
   rw[B]at A;simp only[oz]at A;split at A
   ·rename_i D
    rcases List.mem_append.1 A with A|A
    ·split at A
     ·simp at A
      subst A;exact⟨c,B,C,D,.inl ⟨by assumption,rfl⟩⟩
     cases A
    split at A
    ·simp at A
     subst A;exact⟨c,B,C,D,.inr ⟨by assumption,rfl⟩⟩
    cases A
   cases A
 rintro⟨c,B,C,D,h⟩;refine⟨e.fQ,by simpa using C,?_⟩;rw[B];simp only[oz,D,if_true];rcases h with⟨F,E⟩| ⟨G,E⟩
 ·rw[if_pos F]
  refine List.mem_append.2 (.inl ?_);rw[<- E];simp
 rw[if_pos G];refine List.mem_append.2 (.inr ?_);rw[<- E];simp
theorem FK(l:List bD)(k v i:Nat):i∈cK l k v↔∃c,l[i]? =some c/\i<k/\c.kind=0/\c.a=(v:Int):=by
 unfold cK;rw[List.mem_filter,List.mem_range];constructor
 ·rintro⟨B,h⟩
  cases A:l[i]? with
  | none=>rw[A]at h;cases h
  | some c=>
   rw[A]at h;simp at h;exact⟨c,rfl,B,h.1,h.2⟩
 rintro⟨c,A,B,D,C⟩;exact⟨B,by rw[A];simp[D,C]⟩
theorem zS(l:List bD)(v:Nat):∀k,(bW l k v).length<=2*k:=by
 intro k
 induction k with
 | zero=>simp[bW]
 | succ k ih=>
  cases A:l[k]? with
  | none=>
   have:bW l (k+1) v=bW l k v:=by
    unfold bW;rw[List.range_succ,List.flatMap_append];simp[A]
   rw[this];omega
  | some c=>
   rw[um l k v c A,acm]
   have:(oz k c v).length<=2:=by
    unfold oz;split
    ·rw[acm]
     split<;>split<;>simp
    simp
   omega
theorem M4(l:List bD)(n k a b:Nat)(B C:List dS)(e:dS)(E:B.length<=2*k)(D:b<n)(A:((gD l n k).set a (B++[e]))[b]? =some C):C.length<=2*k+1:=by
 rw[List.getElem?_set]at A;split at A
 ·split at A
  ·cases A
   simp;omega
  cases A
 rw[nU l n k b D]at A;cases A
 have:=zS l b k;omega
theorem graphOk(l:List bD)(n:Nat)(h:∀c∈l,qz n c=true)(S:n<=5000)(V:l.length<=100000):UF n l.length l (gD l n l.length) (cK l l.length):=by
 have H:∀u,u<n->(gD l n l.length).getD u []=bW l l.length u:=fun u N=>by
  rw[List.getD_eq_getElem?_getD,nU l n _ u N];rfl
 have J:∀(i:Nat) (c:bD),l[i]? =some c->c.kind=1->0<=c.a/\c.a<n/\0<=c.b/\c.b<n:=fun i c G C=>by
  have:=h c (acn G);simp[qz,Cc,C]at this;omega
 have K:∀v,v<n->∀e∈bW l l.length v,e.dD<n/\e.fQ<l.length:=fun v F e E=>by
  obtain⟨c,G,L,C,O⟩:=(zK l l.length v e).1 E;have:=J e.fQ c G C;omega
 have B:∀D∈gD l n l.length,∃v,v<n/\D=bW l l.length v:=fun D A=>by
  obtain⟨v,F,rfl⟩:=List.mem_map.1 A;exact⟨v,by simpa using F,rfl⟩
 have I:∀k v,(bW l k v).length<=2*k:=fun k v=>by
  induction k with
  | zero=>simp[bW]
  | succ k ih=>
   cases C:l[k]? with
   | none=>
    have:bW l (k+1) v=bW l k v:=by
     unfold bW;rw[List.range_succ,List.flatMap_append];simp[C]
    rw[this];omega
   | some c=>
    rw[um l k v c C,acm]
    have:(oz k c v).length<=2:=by
     unfold oz;split
     ·rw[acm]
      split<;>split<;>simp
     simp
    omega
 refine⟨rfl,uq _ _ _,fun D A e E=>?_,fun D A=>?_,fun D A e E=>?_,fun v j R=>?_,fun v=>?_,fun u v N ⟨e,E,M⟩=>?_,S,by omega⟩
 ·obtain⟨v,F,rfl⟩:=B D A
  exact(K v F e E).1
 ·obtain⟨v,F,rfl⟩:=B D A
  have:=I l.length v;omega
 ·obtain⟨v,F,rfl⟩:=B D A
  exact(K v F e E).2
 ·obtain⟨c,_,L,_⟩:=(FK l l.length v j).1 R
  exact L
 ·have:(cK l l.length v).length<=l.length:=by
   have:=List.length_filter_le (fun i=>match l[i]? with|some c=>decide (c.kind=0/\c.a=(v:Int))|none=>false) (List.range l.length);simpa [cK] using this
  omega
 rw[H u N]at E;obtain⟨c,G,L,C,O⟩:=(zK l l.length u e).1 E;have U:=J e.fQ c G C;have T:v<n:=by rw[<- M];omega
 refine⟨⟨e.fQ,u⟩,?_,rfl⟩;rw[H v T,zK];refine⟨c,G,L,C,?_⟩;simp only;rcases O with⟨P,Q⟩| ⟨P,Q⟩
 ·right
  exact⟨by omega,by omega⟩
 left
 exact⟨by omega,by omega⟩
def pX(E:List (List dS))(n v:Nat):List Nat:=(List.range n).filter fun w=>decide (0<=(ji E n [v]).getD w 0)
def oU(E:List (List dS))(n:Nat)(l:List bD)(M:Nat->List Nat)(b:Option (List Int)×qZ)(i:Int):Option (List Int)×qZ:=
 match l[i.toNat]? with
 | none=>b
 | some c=>
  ((match oo E n (iA l M i.toNat) i.toNat c.a.toNat with
   | none=>b.1
   | some ch=>(match b.1 with|none=>some ch|some old=>if ch.length<old.length then some ch else some old)),
   if c.tk≠5/\c.tk≠6 then c.mark else b.2)
def iB(M:Nat->List Nat)(cl:List Nat):List Int:=((cl.flatMap M).map fun x:Nat=>(x:Int)).mergeSort fun x y=>decide (x<=y)
def mU{α:Type}(x:α)(l:List α)(cl:List Nat):List α:=cl.foldl (fun o v=>o.set v x) l
structure ym where
 out:List qZ
 chains:List (List Int)
 seen:List Bool
def mf(E:List (List dS))(n:Nat)(l:List bD)(M:Nat->List Nat)(st:ym)(v:Nat):ym:=
 if st.seen.getD v false=true then st
 else
  match (iB M (pX E n v)).foldl (oU E n l M) (none,gI) with
  | (some ch,_)=>⟨st.out,st.chains++[ch],mU true st.seen (pX E n v)⟩
  | (none,t)=>⟨mU t st.out (pX E n v),st.chains,mU true st.seen (pX E n v)⟩
def bS(l:List bD)(n k:Nat):ym:=(List.range k).foldl (mf (gD l n l.length) n l (cK l l.length)) ⟨List.replicate n gI,[],List.replicate n false⟩
theorem qG(l:List bD)(n k:Nat):bS l n (k+1)=mf (gD l n l.length) n l (cK l l.length) (bS l n k) k:=by
 unfold bS;rw[List.range_succ,List.foldl_append];rfl
theorem wE{B:Type}(x:B)(A:List Nat):∀l:List B,(mU x l A).length=l.length:=by
 induction A with
 | nil=>exact fun _=>rfl
 | cons v A ih=>intro l;exact(ih _).trans (by simp)
open Go.RowKit
def jW(w:World)(base ge:Nat)(E:List (List dS)):Prop:=
 ∃vals:List Value,ah w ge 155 vals.toArray/\vals.length=E.length /\
  (∀(v:Nat) (es:List dS),E[v]? =some es->∃x,vals[v]? =some x/\aG w base 157 2 x es.length (es.flatMap j5)) /\
  (∀(u v:Nat) (x y:Value),u≠v->vals[u]? =some x->vals[v]? =some y->∀g,x.ownBlock=some g->y.ownBlock≠some g)
theorem jW.kept{w w':World}{base A:Nat}{E:List (List dS)}(h:jW w base A E)(F:∀g,(g=A\/base<=g)->g<w.heap.size->w'.heap[g]? =w.heap[g]?):jW w' base A E:=by
 obtain⟨vals,C,H,I,J⟩:=h;refine⟨vals,C.keep (F A (.inl rfl) C.lt),H,fun v G K=>?_,J⟩;obtain⟨x,L,B⟩:=I v G K;exact⟨x,L,B.of_block fun g D=>F g (.inr (B.lt g D).1) (B.lt g D).2⟩
theorem jW.at{w:World}{base G:Nat}{E:List (List dS)}(h:jW w base G E){v:Nat}{J:List dS}(c:E[v]? =some J):
 ∃x,w.cell? ⟨G,v,none⟩=some x/\w.frozen? ⟨G,v,none⟩=false/\G<w.heap.size/\aG w base 157 2 x J.length (J.flatMap j5) /\
  ∀(N:World) (I:Value) (e:dS),(∀k,k<w.heap.size->some k≠x.ownBlock->N.heap[k]? =w.heap[k]?)->w.heap.size<=N.heap.size ->
   aG N base 157 2 I (J.length+1) (J.flatMap j5++j5 e)->(I.ownBlock=x.ownBlock\/∃g,I.ownBlock=some g/\w.heap.size<=g)->G<base ->
   jW (N.setCell ⟨G,v,none⟩ I) base G (E.set v (J++[e])):=by
 obtain⟨vals,Q,j,Y,Z⟩:=h;obtain⟨x,V,d⟩:=Y v J c;have P:v<vals.length:=(acg.1 V).1;refine⟨x,?_,Q.frozen v,Q.lt,d,?_⟩
 ·rw[Q.cell v]
  simpa using V
 intro N I e f a6 M t a1;have q:some G≠x.ownBlock:=fun F=>by have:=(d.lt G F.symm).1;omega
 have r:ah N G 155 vals.toArray:=Q.keep (f G Q.lt q);have T:I.ownBlock≠some G:=fun F=>by have:=(M.lt G F).1;omega
 have R:∀u y A,u≠v->vals[u]? =some y->aG w base 157 2 y A.length (List.flatMap j5 A)->aG N base 157 2 y A.length (List.flatMap j5 A):=fun u y A H C B=>
  B.of_block fun g K=>f g (B.lt g K).2 (fun F=>Z u v y x H C V g K F.symm)
 refine⟨vals.set v I,?_,by simpa using j,fun u A H=>?_,fun u l y b O C D g K=>?_⟩
 ·have:=r.dB v I
  simpa using this
 ·rw[List.getElem?_set]at H
  by_cases L:v=u
  ·subst L
   rw[if_pos rfl]at H;have Yo:v<E.length:=(acg.1 c).1;rw[if_pos Yo]at H;cases H
   refine⟨I,by simp[P],?_⟩
   have n:aG N base 157 2 I (J++[e]).length ((J++[e]).flatMap j5):=by
    rw[acm,List.flatMap_append];simpa using M
   exact n.setCell T _
  rw[if_neg L]at H;obtain⟨y,C,B⟩:=Y u A H;refine⟨y,by rw[List.getElem?_set,if_neg L];exact C,(R u y A (Ne.symm L) C B).setCell (fun F=>?_) _⟩;have:=(B.lt G F).1;omega
 rw[List.getElem?_set]at C D
 have key:∀(u:Nat) (y:Value),u≠v->vals[u]? =some y->∀g,y.ownBlock=some g->I.ownBlock≠some g:=fun u y H C g K F=>by
  have m:u<E.length:=by rw[<- j];exact(acg.1 C).1
  obtain⟨y2,U,B⟩:=Y u E[u] (ace m);rw[C]at U;cases U
  rcases t with z| ⟨g5,z,h6⟩
  ·rw[z]at F
   exact Z u v y x H C V g K F
  rw[z]at F;cases F
  have:=(B.lt g K).2;omega
 by_cases H:v=u
 ·subst H
  rw[if_pos rfl,if_pos P]at C;cases C
  rw[if_neg O]at D;intro F;exact key l b (fun X=>O X.symm) D g F K
 rw[if_neg H]at C;by_cases S:v=l
 ·subst S
  rw[if_pos rfl,if_pos P]at D;cases D
  exact key u y (fun X=>H X.symm) C g K
 rw[if_neg S]at D;exact Z u l y b O C D g K
theorem jW.read{w:World}{base B:Nat}{E:List (List dS)}(h:jW w base B E):uu w w.heap.size (some ⟨B,0,none⟩) E:=by
 obtain⟨vals,C,K,H,L⟩:=h;intro v G I;obtain⟨x,J,F⟩:=H v G I;obtain⟨A,c,D,_,_⟩:=F.shape;refine⟨B,0,A,c,rfl,C.lt,?_,F.rowAt D rfl (by intro c _;rfl) rfl⟩;rw[Nat.zero_add,C.cell v,<- D];simpa using J
def jJ(w:World)(base r:Nat)(M:Nat->List Nat):Prop:=
 ∃f,iQ w r f/\(∀v:Nat,aG w base 3 1 ((f v).getD (.slice none 0 0)) (M v).length (bL ((M v).map fun x:Nat=>(x:Int)))) /\
  (∀u v:Nat,u≠v->∀g,((f u).getD (.slice none 0 0)).ownBlock=some g->((f v).getD (.slice none 0 0)).ownBlock≠some g)
theorem jJ.kept{w w':World}{base r:Nat}{M:Nat->List Nat}(h:jJ w base r M)(D:∀g,(g=r\/base<=g)->g<w.heap.size->w'.heap[g]? =w.heap[g]?):jJ w' base r M:=by
 obtain⟨f,B,A,E⟩:=h;exact⟨f,B.keep (D r (.inl rfl) B.lt),fun v=>(A v).of_block fun g C=>D g (.inr ((A v).lt g C).1) ((A v).lt g C).2,E⟩
theorem jJ.grown{w w':World}{base r:Nat}{M:Nat->List Nat}(h:jJ w base r M){x:Value}{n:Nat}{J:List Value}{base':Nat}{e:TypeId}{size:Nat}(I:aG w base' e size x n J)(C:e≠3)
 (F:∀k,k<w.heap.size->some k≠x.ownBlock->w'.heap[k]? =w.heap[k]?) (H:x.ownBlock≠some r):jJ w' base r M:=by
 obtain⟨f,D,B,G⟩:=h;refine⟨f,D.keep (F r D.lt (fun A=>H A.symm)),fun v=>(B v).of_block fun g E=>F g ((B v).lt g E).2 (fun A=>?_),G⟩;exact I.apart (B v) C g A.symm E
theorem jW.grown{w w':World}{base A:Nat}{E:List (List dS)}(h:jW w base A E){x:Value}{n:Nat}{Q:List Value}{base':Nat}{e:TypeId}{size:Nat}(O:aG w base' e size x n Q)(C:e≠157)
 (H:∀k,k<w.heap.size->some k≠x.ownBlock->w'.heap[k]? =w.heap[k]?) (M:x.ownBlock≠some A):jW w' base A E:=by
 obtain⟨vals,F,J,K,L⟩:=h;refine⟨vals,F.keep (H A F.lt (fun B=>M B.symm)),J,fun v I N=>?_,L⟩;obtain⟨y,P,D⟩:=K v I N;exact⟨y,P,D.of_block fun g G=>H g (D.lt g G).2 (fun B=>O.apart D C g B.symm G)⟩
theorem jJ.at{w:World}{base r:Nat}{M:Nat->List Nat}(h:jJ w base r M)(v:Nat):
 ∃f,iQ w r f/\aG w base 3 1 ((f v).getD (.slice none 0 0)) (M v).length (bL ((M v).map fun x:Nat=>(x:Int)))/\r<w.heap.size /\
  ∀(F:World) (G:Value) (i:Nat),(∀k,k<w.heap.size->some k≠((f v).getD (.slice none 0 0)).ownBlock->some k≠some r->F.heap[k]? =w.heap[k]?)->w.heap.size<=F.heap.size ->
   aG F base 3 1 G ((M v).length+1) (bL ((M v).map fun x:Nat=>(x:Int))++[.int .i64 (i:Int)])->(G.ownBlock=((f v).getD (.slice none 0 0)).ownBlock\/∃g,G.ownBlock=some g/\w.heap.size<=g) ->
   iQ F r (fun j=>if j=(v:Int) then some G else f j)->r<base->jJ F base r (fun u=>if u=v then M v++[i] else M u):=by
 obtain⟨f,R,H,N⟩:=h;refine⟨f,R,H v,R.lt,?_⟩;intro F G i S T K P I X;have L:∀u:Nat,u≠v->((u:Int)=(v:Int))=False:=fun u C=>eq_false (by omega)
 have Q:∀u:Nat,((f u).getD (.slice none 0 0)).ownBlock≠some r:=fun u A=>by have:=((H u).lt r A).1;omega
 refine⟨_,I,fun u=>?_,fun u E J g B=>?_⟩
 ·by_cases C:u=v
  ·subst C
   simpa [bL] using K
  simp only[L u C,if_false,if_neg C];exact(H u).of_block fun g B=>S g ((H u).lt g B).2 (fun A=>N u v C g B A.symm) (fun A=>Q u (by rw[B,A]))
 have key:∀u:Nat,u≠v->∀g,((f u).getD (.slice none 0 0)).ownBlock=some g->G.ownBlock≠some g:=fun u C g B A=>by
  rcases P with O| ⟨U,O,V⟩
  ·rw[O]at A
   exact N u v C g B A
  rw[O]at A;cases A
  have:=((H u).lt g B).2;omega
 by_cases C:u=v
 ·subst C
  have D:E≠u:=fun A=>J A.symm
  simp only[if_true,L E D,if_false]at B⊢;exact fun A=>key E D g A (by simpa using B)
 simp only[L u C,if_false]at B;by_cases D:E=v
 ·subst D
  simp only[if_true];exact key u C g B
 simp only[L E D,if_false];exact N u E J g B
theorem jJ.read{w:World}{base r:Nat}{M:Nat->List Nat}(h:jJ w base r M):vT w w.heap.size r M:=by
 obtain⟨f,B,C,E⟩:=h;refine⟨B.lt,f,B,fun v=>?_⟩;obtain⟨A,c,D,_,_⟩:=(C v).shape;exact⟨A,c,D,(C v).rowAt D (NI _) (by intro c _;rfl) rfl⟩
open Go.Sort
theorem sortIK(A:List Int):(A.mergeSort fun x y=>decide (x<=y)).length=A.length:=List.length_mergeSort _
end Go.Proofs.YtoepemlnlpamlaaGreat
namespace Go.Proofs.YtoepemlnlpamlaaGreat
open Go.RowKit
theorem La(v:Int)(n A:Nat)(w:World)(D:w.cell? ⟨A,0,none⟩=some (.int .i64 (n:Int))):
 Calls Tryz.prog 98 #[.int .i64 v,.pointer (some ⟨A,0,none⟩)] w fun e w'=>e= .returned (.bool (Cc n v))/\w=w':=by
 by_cases B:0<=v
 ·by_cases C:v<(n:Int)
  ·go_in
   go_wp2
   go_ret
   exact⟨kS (by simp[Cc,B,C]),rfl⟩
  go_in
  go_wp2
  go_ret
  exact⟨kS (by simp[Cc,B];omega),rfl⟩
 go_in
 go_wp2
 go_ret
 exact⟨kS (by simp[Cc];omega),rfl⟩
theorem WK:(Tryz.prog.info? 155).map (fun i=>(i.zero,i.size,i.bytes))=some (some (.slice none 0 0),1,24):=by kernel_rfl
theorem Y4:(Tryz.prog.info? 157).map (fun i=>(i.zero,i.size,i.bytes))=some (some (.agg #[.int .i64 0,.int .i64 0]),2,16):=by kernel_rfl
theorem Qp(w:World)(g:Nat)(u B:Value)(h:w.cell? ⟨g,0,none⟩=some u)(C:w.cell? ⟨g,1,none⟩=some B):∀j v,[u,B][j]? =some v->w.cell? ((⟨g,0,none⟩:Addr).add j)=some v:=by
 intro j v A
 match j,A with
 | 0,A=>simp at A;subst A;exact h
 | 1,A=>simp at A;subst A;exact C
 | j+2,A=>simp at A
theorem Gu(t e:TypeId)(z:Value)(A:Nat)(L:Tryz.prog.underlying t=some (.slice e))(B:(Tryz.prog.info? e).map (fun i=>(i.zero,i.size,i.bytes))=some (some z,1,A))(M:z.cells= #[z])(I:A<=1000)(n:Nat)(K:n<=1000000)(w:World):
 (Instr.makeSlice t (.int .i64 (n:Int)) (.int .i64 (n:Int))).run Tryz.prog w= .ok (.slice (some ⟨w.heap.size,0,none⟩) n n) (w.alloc (.cells (Array.replicate n z) e)):=by
 obtain⟨N,D,E,F,G⟩:=info_parts B
 have J:(A:Int)*(n:Int)<=1000*1000000:=by
  have H:A*n<=1000*1000000:=Nat.mul_le_mul I K;have C:((A*n:Nat):Int)<=((1000*1000000:Nat):Int):=by exact_mod_cast H
  rw[Int.natCast_mul]at C;exact C
 have h:=run_make (P:=Tryz.prog) w t e N z L D E .i64 .i64 n n (by omega) (by omega) (by rw[G];omega) (by omega);rw[h];simp only[Int.toNat_natCast,F,Nat.mul_one]
 have C:madeCells z.cells n=Array.replicate n z:=by
  apply Array.ext'
  rw[M,toList_madeCells_one];simp
 rw[C]
def lZ(w:World)(B:Nat)(A:Option Addr)(pg:List (List Int)):Prop:=
 ∀k ch,pg[k]? =some ch->∃b off Ai c,A=some ⟨b,off,none⟩/\b<B/\w.cell? ⟨b,off+k,none⟩=some (.slice Ai ch.length c)/\ch.length<=c/\aS 1 (fun z=>[Value.int .i64 z]) w B Ai ch
def lC(w:World)(g:Nat)(l:List qZ):Prop:=ah w g 108 (l.flatMap iy).toArray
def Ot(w:World)(n:Nat)(l:List bD)(e:Ending)(w':World):Prop:=
 Below w.heap.size w w' /\
 if l.all (qz n)=true then
  ∃g A c,e= .returned (.tuple #[.slice (some ⟨g,0,none⟩) n n,.slice A (bS l n n).chains.length c,.int .i64 0])/\w.heap.size<=g/\lC w' g (bS l n n).out/\lZ w' w'.heap.size A (bS l n n).chains
 else e= .returned (.tuple #[.slice none 0 0,.slice none 0 0,.int .i64 1])
theorem BQ{w w':World}{n:Nat}{l:List bD}{k:Nat}{c:bD}(C:l[k]? =some c)(A:qz n c=false)(B:Below w.heap.size w w'):
 Ot w n l (.returned (.tuple #[.slice none 0 0,.slice none 0 0,.int .i64 1])) w':=by
 refine⟨B,?_⟩;rw[if_neg];intro h;have:=List.all_eq_true.1 h c (acn C);rw[A]at this;cases this
theorem Zu(X Y:Option Addr)(B N f d:Nat)(C D:List Int)(w:World)(Q:aS 1 (fun z=>[Value.int .i64 z]) w w.heap.size X C)(R:aS 1 (fun z=>[Value.int .i64 z]) w w.heap.size Y D)(E:C.length=B)(F:D.length=N)(hn:B<=1000000):
 Calls Tryz.prog 16 #[.slice X B f,.slice Y N d] w fun e w'=>e= .returned (.bool (decide (C=D)))/\Below w.heap.size w w':=by
 by_cases J:B=N
 ·subst J
  have m:=kH Q;have l:=kH R;have V:=kH E;have I:=kH F;clear Q R E F;go_in
  go_wp2_with fail
  go_loopg [5] B (fun gk s wr=> ∃k:Nat,k+gk=B/\s= .int .i64 k/\Below w.heap.size w wr/\C.take k=D.take k)
  case atStart=>exact⟨0,by omega,rfl,Below.refl _ _,rfl⟩
  obtain⟨k,q,rfl,r,n⟩:=hrel;have b:k<=B:=by omega
  have u:=kH q;have t:=kH n;clear q n;by_cases G:k<B
  ·have O:C[k]? =some (C[k]'(by rw[V.out];exact G)):=ace _
   have P:D[k]? =some (D[k]'(by rw[I.out];exact G)):=ace _;generalize C[k]'(by rw[V.out];exact G)=x at O
   generalize D[k]'(by rw[I.out];exact G)=y at P
   obtain⟨j,o1,S,c,L⟩:=(m.out.below r (ab9 _)) k _ O;obtain⟨g,o2,T,U,M⟩:=(l.out.below r (ab9 _)) k _ P;subst S;subst T;have hx:wr.cell? ⟨j,o1+k,none⟩=some (.int .i64 x):=by simpa using L 0 _ rfl
   have hy:wr.cell? ⟨g,o2+k,none⟩=some (.int .i64 y):=by simpa using M 0 _ rfl
   have Z:=kH O;have v:=kH P;have a1:(k:Int)<(B:Int):=by omega
   clear L M O P;by_cases H:x=y
   ·subst H
    go_wp2_with fail
    go_quiet (fail)
    go_wp2_with fail
    go_roundg (gk - 1)
    case measure=>have:=u.out;omega
    exact⟨k+1,by have:=u.out;omega,by go_num,by(repeat first|exact .refl _ _|assumption|refine .trans ?_ (.mono (by assumption) ?_)|refine .alloc ?_ ?_ _|refine .setCell ?_ ?_ _|refine .drew ?_|refine aL ?_ _|omega|(simp<;>omega)),Pz t.out Z.out v.out rfl⟩
   have a6:(x !=y)=true:=by simpa using H
   have A:decide (C=D)=false:=by
    refine decide_eq_false fun e=>?_
    have:=Z.out;rw[e,v.out]at this;cases this
    exact H rfl
   have K:=kH A;clear A H;go_wp2_with fail
   go_quiet (fail)
   go_wp2_with fail
   go_ret
   rw[K.out];exact⟨rfl,by(repeat first|exact .refl _ _|assumption|refine .trans ?_ (.mono (by assumption) ?_)|refine .alloc ?_ ?_ _|refine .setCell ?_ ?_ _|refine .drew ?_|refine aL ?_ _|omega|(simp<;>omega))⟩
  have A:decide (C=D)=true:=by
   have h:=t.out;rw[List.take_of_length_le (by rw[V.out];omega),List.take_of_length_le (by rw[I.out];omega)]at h;exact decide_eq_true h
  have K:=kH A;clear A;go_wp2_with fail
  go_ret
  rw[K.out];exact⟨rfl,by(repeat first|exact .refl _ _|assumption|refine .trans ?_ (.mono (by assumption) ?_)|refine .alloc ?_ ?_ _|refine .setCell ?_ ?_ _|refine .drew ?_|refine aL ?_ _|omega|(simp<;>omega))⟩
 have hb:(B !=N)=true:=by simpa using J
 have A:decide (C=D)=false:=decide_eq_false (fun e=>J (by rw[<- E,<- F,e]));have K:=kH A;have U:((B:Int) !=(N:Int))=true:=by simp;omega
 clear A Q R E F;go_in
 go_wp2_with fail
 go_ret
 rw[K.out];exact⟨rfl,by(repeat first|exact .refl _ _|assumption|refine .trans ?_ (.mono (by assumption) ?_)|refine .alloc ?_ ?_ _|refine .setCell ?_ ?_ _|refine .drew ?_|refine aL ?_ _|omega|(simp<;>omega))⟩
def Y2(a b:qZ):Bool:=J7 a.k a.n a.r b.k b.n b.r
def Ao(a b:List qZ):Bool:=decide (a.length=b.length)&&(List.range a.length).all fun i=>match a[i]?,b[i]? with|some x,some y=>Y2 x y|_,_=>true
theorem abv(a:qZ):Y2 a a=true:=by simp[Y2,J7]
theorem Kz(a:List qZ):Ao a a=true:=by
 unfold Ao;rw[decide_eq_true rfl,Bool.true_and,List.all_eq_true];intro i A;rw[List.mem_range]at A;rw[ace A];exact abv _
theorem OG(m l:Option Addr)(C P c1 c2:Nat)(D E:List qZ)(w:World)(U:aS 3 iy w w.heap.size m D)(V:aS 3 iy w w.heap.size l E)(I:D.length=C)(J:E.length=P)(hn:C<=1000000):
 Calls Tryz.prog 58 #[.slice m C c1,.slice l P c2] w fun e w'=>e= .returned (.bool (Ao D E))/\Below w.heap.size w w':=by
 by_cases K:C=P
 ·subst K
  have O:=PY;have F6:=kH O;have H1:=kH U;have H2:=kH V;have M:=kH I;have F:=kH J;clear U V I J O;go_in
  go_wp2_with fail
  go_loopg [5] C (fun gk s wr=> ∃k:Nat,k+gk=C/\s= .int .i64 k/\Below w.heap.size w wr/\∀i,i<k->(match D[i]?,E[i]? with|some x,some y=>Y2 x y|_,_=>true)=true)
  case atStart=>exact⟨0,by omega,rfl,Below.refl _ _,fun i z=>by omega⟩
  obtain⟨k,hk,rfl,b,ht⟩:=hrel;have a6:k<=C:=by omega
  have d:=kH hk;have c:=kH ht;clear hk ht;by_cases B:k<C
  ·have Q:D[k]? =some (D[k]'(by rw[M.out];exact B)):=ace _
   have R:E[k]? =some (E[k]'(by rw[F.out];exact B)):=ace _;generalize D[k]'(by rw[M.out];exact B)=x at Q
   generalize E[k]'(by rw[F.out];exact B)=y at R
   obtain⟨S,u,X,a1,G⟩:=(H1.out.below b (ab9 _)) k _ Q;obtain⟨T,t,Y,Z,H⟩:=(H2.out.below b (ab9 _)) k _ R;subst X;subst Y;have a8:wr.cell? ⟨S,u+k*3,none⟩=some (.int .i64 x.k):=G 0 _ rfl;have aa:wr.cell? ⟨S,u+k*3+1,none⟩=some (.int .i64 x.n):=G 1 _ rfl;have ab:wr.cell? ⟨S,u+k*3+2,none⟩=some (.string x.r):=G 2 _ rfl;have ad:wr.cell? ⟨T,t+k*3,none⟩=some (.int .i64 y.k):=H 0 _ rfl;have af:wr.cell? ⟨T,t+k*3+1,none⟩=some (.int .i64 y.n):=H 1 _ rfl;have al:wr.cell? ⟨T,t+k*3+2,none⟩=some (.string y.r):=H 2 _ rfl;have hq:=F6.out x.k x.n x.r y.k y.n y.r;obtain⟨q, L⟩:=ag (J7 x.k x.n x.r y.k y.n y.r);rw[L]at hq;have j:=kH Q;have g:=kH R;have f:=kH L;have a7:(k:Int)<(C:Int):=by omega
   clear G H Q R L;cases q
   ·have A:Ao D E=false:=by
     unfold Ao;rw[decide_eq_true (by rw[M.out,F.out]),Bool.true_and,List.all_eq_false];refine⟨k,by rw[List.mem_range,M.out];exact B,?_⟩;rw[j.out,g.out];simp[Y2,f.out]
    have N:=kH A;clear A;go_wp2_with fail
    go_quiet (fail)
    go_wp2_with fail
    go_ret
    rw[N.out];exact⟨rfl,by(repeat first|exact .refl _ _|assumption|refine .trans ?_ (.mono (by assumption) ?_)|refine .alloc ?_ ?_ _|refine .setCell ?_ ?_ _|refine .drew ?_|refine aL ?_ _|omega|(simp<;>omega))⟩
   go_wp2_with fail
   go_quiet (fail)
   go_wp2_with fail
   go_roundg (gk - 1)
   case measure=>have:=d.out;omega
   refine⟨k+1,by have:=d.out;omega,by go_num,by(repeat first|exact .refl _ _|assumption|refine .trans ?_ (.mono (by assumption) ?_)|refine .alloc ?_ ?_ _|refine .setCell ?_ ?_ _|refine .drew ?_|refine aL ?_ _|omega|(simp<;>omega)),fun i z=>?_⟩;by_cases v:i=k
   ·subst v
    rw[j.out,g.out];exact f.out
   exact c.out i (by omega)
  have A:Ao D E=true:=by
   unfold Ao;rw[decide_eq_true (by rw[M.out,F.out]),Bool.true_and,List.all_eq_true];intro i z;rw[List.mem_range,M.out]at z;exact c.out i (by omega)
  have N:=kH A;clear A;go_wp2_with fail
  go_ret
  rw[N.out];exact⟨rfl,by(repeat first|exact .refl _ _|assumption|refine .trans ?_ (.mono (by assumption) ?_)|refine .alloc ?_ ?_ _|refine .setCell ?_ ?_ _|refine .drew ?_|refine aL ?_ _|omega|(simp<;>omega))⟩
 have hb:(C !=P)=true:=by simpa using K
 have A:Ao D E=false:=by
  unfold Ao;rw[decide_eq_false (by rw[I,J];exact K),Bool.false_and]
 have N:=kH A;have Z:((C:Int) !=(P:Int))=true:=by simp;omega
 clear A U V I J;go_in
 go_wp2_with fail
 go_ret
 rw[N.out];exact⟨rfl,by(repeat first|exact .refl _ _|assumption|refine .trans ?_ (.mono (by assumption) ?_)|refine .alloc ?_ ?_ _|refine .setCell ?_ ?_ _|refine .drew ?_|refine aL ?_ _|omega|(simp<;>omega))⟩
theorem lZ.below{w w':World}{B C:Nat}{A:Option Addr}{H:List (List Int)}(h:lZ w B A H)(G:Below C w w')(K:B<=C):lZ w' B A H:=by
 intro k ch M;obtain⟨b,F,I,c,J,E,L,D,N⟩:=h k ch M;exact⟨b,F,I,c,J,E,(G.cell (p:=⟨b,_,none⟩) (by show b<C;omega)).trans L,D,N.below G K⟩
theorem lZ.mono{w:World}{B E:Nat}{A:Option Addr}{F:List (List Int)}(h:lZ w B A F)(I:B<=E):lZ w E A F:=by
 intro k ch K;obtain⟨b,D,G,c,H,L,J,C,M⟩:=h k ch K;exact⟨b,D,G,c,H,by omega,J,C,M.mono I⟩
theorem lZ.later{w w':World}{A:Option Addr}{C:List (List Int)}(h:lZ w w.heap.size A C)(B:Below w.heap.size w w'):lZ w' w'.heap.size A C:=(h.below B (ab9 _)).mono B.size
theorem Zt(A1 A2:Option Addr)(C z c1 c2:Nat)(B D:List (List Int))(w:World)(q:lZ w w.heap.size A1 B)(n:lZ w w.heap.size A2 D)(E:B.length=C)(F:D.length=z)(hn:C<=1000000)(hm:∀ch∈B,ch.length<=1000000):
 Calls Tryz.prog 59 #[.slice A1 C c1,.slice A2 z c2] w fun e w'=>e= .returned (.bool (decide (B=D)))/\Below w.heap.size w w':=by
 by_cases J:C=z
 ·subst J
  have H1:=kH q;have H2:=kH n;have b:=kH E;have H:=kH F;have HM:=kH hm;clear q n E F hm;go_in
  go_wp2_with fail
  go_loopg [5] C (fun gk s wr=> ∃k:Nat,k+gk=C/\s= .int .i64 k/\Below w.heap.size w wr/\B.take k=D.take k)
  case atStart=>exact⟨0,by omega,rfl,Below.refl _ _,rfl⟩
  obtain⟨k,hk,rfl,I,ht⟩:=hrel;have a7:k<=C:=by omega
  have HK:=kH hk;have HT:=kH ht;clear hk ht;by_cases G:k<C
  ·have S:B[k]? =some (B[k]'(by rw[b.out];exact G)):=ace _
   have v:D[k]? =some (D[k]'(by rw[H.out];exact G)):=ace _;generalize B[k]'(by rw[b.out];exact G)=x at S
   generalize D[k]'(by rw[H.out];exact G)=y at v
   have Y:=HM.out x (acn S);obtain⟨b1,o1,M,Q,m,a6,g,-,V⟩:=(H1.out.below I (ab9 _)) k _ S;obtain⟨b2,o2,N,R,l,j,f,-,X⟩:=(H2.out.below I (ab9 _)) k _ v;subst m;subst l;have E1:=kH S;have E2:=kH v;have t:=kH (V.mono I.size);have r:=kH (X.mono I.size);have a8:(k:Int)<(C:Int):=by omega
   have d:b1<wr.heap.size:=by have:=I.size;omega
   have c:b2<wr.heap.size:=by have:=I.size;omega
   obtain⟨nx, K⟩:=ag x.length;obtain⟨ny, L⟩:=ag y.length;rw[K]at g Y;rw[L]at f;have bN:=kH K;have u:=kH L;clear S v V X K L;go_wp2_with fail
   go_region_held3 (fun w'=>w'.cell? ⟨b1,o1+k,none⟩=some (.slice M nx Q)/\w'.cell? ⟨b2,o2+k,none⟩=some (.slice N ny R)) (first|go_keep|(refine⟨?_,?_⟩ <;>(rw[T.cell (by first|exact d|exact c)];assumption))) ((go_at_call 16;refine(Zu M N nx ny Q R x y _ (by exact t.out) (by exact r.out) bN.out u.out Y).mono ?_;rintro e w1 ⟨rfl,T⟩))
   have a1:=I.size;generalize U:decide (x=y)=bq
   have O:=kH U;clear U;cases bq
   rotate_left
   ·go_wp2_with fail
    go_roundg (gk - 1)
    case measure=>have:=HK.out;omega
    exact⟨k+1,by have:=HK.out;omega,by go_num,by(repeat first|exact .refl _ _|assumption|refine .trans ?_ (.mono (by assumption) ?_)|refine .alloc ?_ ?_ _|refine .setCell ?_ ?_ _|refine .drew ?_|refine aL ?_ _|omega|(simp<;>omega)),Pz HT.out E1.out E2.out (of_decide_eq_true O.out)⟩
   have Z:=of_decide_eq_false O.out
   have A:decide (B=D)=false:=by
    refine decide_eq_false fun e=>?_
    have:=E1.out;rw[e,E2.out]at this;cases this
    exact Z rfl
   have P:=kH A;clear A Z;go_wp2_with fail
   go_ret
   rw[P.out];exact⟨rfl,by(repeat first|exact .refl _ _|assumption|refine .trans ?_ (.mono (by assumption) ?_)|refine .alloc ?_ ?_ _|refine .setCell ?_ ?_ _|refine .drew ?_|refine aL ?_ _|omega|(simp<;>omega))⟩
  have A:decide (B=D)=true:=by
   have h:=HT.out;rw[List.take_of_length_le (by rw[b.out];omega),List.take_of_length_le (by rw[H.out];omega)]at h;exact decide_eq_true h
  have P:=kH A;clear A;go_wp2_with fail
  go_ret
  rw[P.out];exact⟨rfl,by(repeat first|exact .refl _ _|assumption|refine .trans ?_ (.mono (by assumption) ?_)|refine .alloc ?_ ?_ _|refine .setCell ?_ ?_ _|refine .drew ?_|refine aL ?_ _|omega|(simp<;>omega))⟩
 have hb:(C !=z)=true:=by simpa using J
 have A:decide (B=D)=false:=decide_eq_false (fun e=>J (by rw[<- E,<- F,e]));have P:=kH A;have j:((C:Int) !=(z:Int))=true:=by simp;omega
 clear A q n E F;go_in
 go_wp2_with fail
 go_ret
 rw[P.out];exact⟨rfl,by(repeat first|exact .refl _ _|assumption|refine .trans ?_ (.mono (by assumption) ?_)|refine .alloc ?_ ?_ _|refine .setCell ?_ ?_ _|refine .drew ?_|refine aL ?_ _|omega|(simp<;>omega))⟩
end Go.Proofs.YtoepemlnlpamlaaGreat
