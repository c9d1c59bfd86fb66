/- The law NamesVisibleAt holds where what it reads is of bulk at most 1048576: it returns true, and its arguments read as before. Part 24: Nam2 Nam3 Nam4 Nam5. -/
import Derived.Test.YtoepemlnlpamlaaGreatVisa06
import Derived.Test.YtoepemlnlpamlaaGreatVisa17
import Derived.Test.YtoepemlnlpamlaaGreatVisa23
set_option maxRecDepth 100000
set_option maxHeartbeats 4000000
namespace Go.Proofs.YtoepemlnlpamlaaGreat
open Go.RowKit
theorem yJ:(Tryz.prog.info? 3).map (fun i=>(i.zero,i.size,i.bytes))=some (some (.int .i64 0),1,8):=by kernel_rfl
def unInt:Value->Int
 | .int _ z=>z
 | _=>0
theorem ivs_perm{a b:List Int}(h:(iB a).Perm (iB b)):a.Perm b:=by
 have:=h.map unInt;simpa [iB,List.map_map,Function.comp_def,unInt] using this
theorem Ov{a b:List Int}(h:a.Perm b):(a.mergeSort fun x y=>decide (x<=y))=ak b:=by
 unfold ak;have B:∀x y z:Int,(decide (x<=y))=true->(decide (y<=z))=true->(decide (x<=z))=true:=by intro x y z C D;simp at*;omega
 have A:∀x y:Int,(decide (x<=y) || decide (y<=x))=true:=by intro x y;simp;omega
 refine List.Perm.eq_of_pairwise (le:=fun x y=>x<=y) ?_ ?_ ?_ ?_
 ·intro x y _ _ C D;omega
 ·exact(List.pairwise_mergeSort B A a).imp (by simp)
 ·exact(List.pairwise_mergeSort B A b).imp (by simp)
 ·exact(List.mergeSort_perm a _).trans (h.trans (List.mergeSort_perm b _).symm)
theorem bL.below{w w':World}{base:Nat}(A:Below w.heap.size w w'):∀{s:aS}{p:Option Addr}{B:List Nat},bL w base p s B->bL w' base p s B
 | [],_,_,hs=>hs
 | _::_,_,_,⟨b,m,p',ms',h1,h2,h3,h4,h5,h6,h7⟩=>⟨b,m,p',ms',h1,h2,h3,h4,h5.below A h5.lt,h6.below A h6.lt,bL.below A h7⟩
theorem nz.jl{K:Type}[DecidableEq K]{KK:oW K}{w:World}{r b:Nat}{m:List (K×Value)}{left:List (Value×Value)}{base:Nat}{e:TypeId}{size:Nat}{v:Value}{n:Nat}{G:List Value}(h:nz KK w r b m left)(E:aK w base e size v n G):v.ownBlock≠some b:=by
 intro F;obtain⟨cur,B⟩:=E.obj b F;obtain⟨I,A,C,H,J,L,M,N,D,_⟩:=h;rw[D]at B;cases B
theorem nz.grown{K:Type}[DecidableEq K]{KK:oW K}{w w':World}{r b:Nat}{m:List (K×Value)}{left:List (Value×Value)}(h:nz KK w r b m left){A:Option Nat}(C:w.grownBy w' A)(E:A≠some r)(F:A≠some b):nz KK w' r b m left:=by
 have I:=h.oP.lt
 have H:b<w.heap.size:=by
  obtain⟨L,B,D,J,_,_,_,_,G,_⟩:=h;exact(aae.1 G).1
 exact h.keep (C.block r I (Ne.symm E)) (C.block b H (Ne.symm F))
theorem nz.alloc{K:Type}[DecidableEq K]{KK:oW K}{w:World}{r b:Nat}{m:List (K×Value)}{left:List (Value×Value)}(h:nz KK w r b m left)(o:Obj):nz KK (w.alloc o) r b m left:=
 h.grown (World.grownBy_alloc w o none) (by simp) (by simp)
theorem VG(base:Nat)(s:aS)(p:Option Addr)(ms:List Nat)(w:World)(hs:bL w base p s ms)(hn:(ay s).length<=1000000):
 Calls Tryz.prog 145 #[.pointer p] w fun e w'=> ∃v,e= .returned v/\aK w' w.heap.size 3 1 v (ay s).length (iB (ak (ay s)))/\Below w.heap.size w w':=by
 obtain⟨i0,hi0,hz0,hz1,hz2⟩:=info_parts yJ;have HN:=kH hn;have HS:=kH hs;clear hn hs;go_in
 go_wp2_with fail
 go_loopg [3,4] s.length (fun gk s3 s4 wr=> ∃(s1 X:aS) (p2:Option Addr) (xC:List Nat) (A:Option Addr) (n c:Nat) (K:List Int),gk=X.length/\s=s1++X/\s4= .pointer p2/\s3= .slice A n c/\Hid (bL w base p2 X xC)/\Hid (aK wr w.heap.size 3 1 (.slice A n c) n (iB K))/\Hid (K.Perm (ay s1))/\Hid (Below w.heap.size w wr))
 case atStart=>exact⟨[],s,p,ms,none,0,0,[],rfl,rfl,rfl,rfl,HS,kH (aK.nil _ _ _ _),kH List.Perm.nil,kH (Below.refl _ _)⟩
 case round=>
  obtain⟨s1,X,p2,xC,A,n,c,K,d,Q,rfl,rfl,T,R,HP,HB⟩:=hrel
  cases X with
  | nil=>
   obtain⟨rfl,rfl⟩:=T.out;have W:s=s1:=by simpa using Q
   have hnz:K.length=n:=by simpa using R.out.1
   have hnl:n=(ay s).length:=by rw[<- hnz,W];exact HP.out.length_eq
   have HNL:=kH hnl;have G:=Sort_any (.slice A n c) w.heap.size n K wr R.out (by have:=HN.out;omega);have HC:=kH G;have HSE:=kH W;clear G hnl hnz W Q;go_wp2_with fail
   refine HC.out.mono ?_;rintro e w5 ⟨rfl,jI,f⟩;have j:Below w.heap.size w w5:=HB.out.trans (((aF.refl (fun g=>w.heap.size<=g) wr).grown f (fun g D=>.inl (R.out.lt g D).1)).toBelow HB.out.size (fun g D=>D));rw[Ov HP.out,<- HSE.out]at jI;have Em:=kH jI;have gG:=kH j;clear jI j f;go_wp2_with fail
   go_ret
   exact⟨_,rfl,by have:=Em.out;rw[HNL.out]at this⊢;exact this,gG.out⟩
  | cons l X=>
   obtain⟨b,m,p',ms',rfl,rfl,h1,h2,F,O,hs3⟩:=T.out;have Y:=HB.out;have hb:=F.below Y F.lt;have hm:=O.below Y O.lt;have c0:=hb.cell 0;have c1:=hb.cell 1;have hlt:=hb.lt;obtain⟨w1,hr1,hit,U,hsz1⟩:=Bq (P:=Tryz.prog) (t:=70) (kt:=9) (et:=3) Tryz.underlying70 hm;have hbw:=F.lt;have hmw:=O.lt;have z:=kH hit;have vo:=R.out.below U (fun g D=>(R.out.lt g D).2);have vP:=kH vo;have HB1:=kH (Y.trans (U.mono Y.size));have wX:=kH F;have iW:=kH hs3;have VL:Hid (w.heap.size<=wr.heap.size):=kH Y.size
   have u:Hid (n+l.length<=1000000):=kH (by
    have C:=HN.out;rw[Q]at C;unfold ay at C;simp only[List.flatMap_append,List.flatMap_cons,aam,List.length_map]at C;have h6:=HP.out.length_eq;unfold ay at h6;have h7:K.length=n:=by simpa using R.out.1
    omega)
   clear hit U Y hb hs3 hm T vo F O;go_wp2_with fail
   obtain⟨wo,hwo⟩:∃wo:World,wo=wr:=⟨_,rfl⟩
   subst hwo;obtain⟨go,hgo⟩:∃go:Nat,go=gk:=⟨_,rfl⟩
   subst hgo;obtain⟨it,zP⟩:∃it,wo.heap.size=it:=⟨_,rfl⟩
   rw[zP]at z VL⊢;go_loopg [3] l.length (fun gk s3 wr=> ∃(Z:Option Addr) (J r:Nat) (B:List Int) (left:List (Value×Value)),gk=left.length/\s3= .slice Z J r/\Hid (nz jo wr m it (jS l) left)/\Hid (aK wr w.heap.size 3 1 (.slice Z J r) J (iB B))/\Hid ((iB B++left.map (·.2)).Perm (iB K++(jS l).map (·.2)))/\Hid (Below w.heap.size w wr))
   case atStart=>exact⟨A,n,c,K,_,by simp[jS],rfl,z,vP,kH (by simp[jS,List.map_map,Function.comp_def]),HB1⟩
   case round=>
    obtain⟨Z,J,r,B,left,hgk',rfl,HI,N,S,L⟩:=hrel;rcases Da (P:=Tryz.prog) 0 HI.out (by have:=VL.out;omega) with⟨hl0,hnx⟩| ⟨kv,vv,left',w2,hperm,hmem,hnx,hit2,GH,hsz2,hent⟩
    ·subst hl0
     have V:=wX.out.below L.out wX.out.lt;have c0:=V.cell 0;have hltr:=V.lt
     have zH:Hid (B.Perm (ay (s1++[l]))):=kH (by
      have C:=S.out;simp only[List.map_nil,List.append_nil]at C;have h6:(jS l).map (·.2)=iB (l.map (·.2)):=by simp[jS,List.map_map,Function.comp_def]
      rw[h6]at C;have h7:=ivs_perm (b:=K++l.map (·.2)) (by simpa [iB] using C);unfold ay;simp only[List.flatMap_append,List.flatMap_cons,List.flatMap_nil,List.append_nil]
      exact h7.trans (HP.out.append_right _))
     clear V;go_wp2_with fail
     go_roundg (go - 1)
     case measure=>simp at d;omega
     case rel=>exact⟨s1++[l],X,p',ms',Z,J,r,B,by simp at d;omega,by simp[Q],rfl,rfl,iW,N,zH,L⟩
    ·obtain⟨y,hy⟩:∃y:Int,vv= .int .i64 y:=by
      simp only[jS,List.map_map,List.mem_map,Function.comp_def,Prod.mk.injEq]at hmem;obtain⟨q,_,_,C⟩:=hmem;exact⟨q.2,C.symm⟩
     subst hy;have k:=N.out.since GH (fun g D C=>HI.out.jl N.out (by rw[D,C]));have r9:=kH k;have E:=kH hit2;have M:Hid (Below w.heap.size w w2):=kH (L.out.trans (GH.toBelow (by have:=L.out.size;omega) (fun g D=>by have:=VL.out;omega)));have Nn:=kH hperm
     have hn':J<=1000000:=by
      have C:=S.out.length_eq;have h6:B.length=J:=by simpa using N.out.1
      have h7:K.length=n:=by simpa using R.out.1
      have h8:=u.out;simp[jS]at C;omega
     clear hmem hperm hit2 GH k hsz2;go_wp2_with (at_builtin;go_must (refine di _ rfl (.tmp 23) (.tmp 25) _ rfl w.heap.size 3 i0 _ 1 8 Tryz.underlying28 hi0 hz0 hz1 hz2 rfl (.slice Z J r) J (iB B) rfl (r9.out.alloc _) ⟨w2.heap.size,0,none⟩ 1 1 [.int .i64 y] rfl rfl (wF _ _ _ (by go_simp)) (by simp[Value.oneCell']) (by simp only[maxLen];omega) (by omega) (by have:=M.out.size;simp;omega) ?_);intro vn w6 I H hat;obtain⟨A6,c6,nC,-,-⟩:=I.shape;subst nC;have x:=kH I;have qy:=kH H;clear I H hat)
     have hrow:=r9.out.lt;have hI6:nz jo w6 m it (jS l) left':=(E.out.alloc _).grown qy.out (E.out.oP.jl r9.out) (E.out.jl r9.out);have zz:Below w.heap.size w w6:=(M.out.trans ((ag _ _).mono M.out.size)).trans (((aF.refl (fun g=>w.heap.size<=g) _).grown qy.out (fun g D=>.inl (hrow g D).1)).toBelow (by have:=M.out.size;simp;omega) (fun g D=>D));go_roundg (gk - 1)
     case measure=>have:=Nn.out.length_eq;simp at this;omega
     case rel=>
      refine⟨A6,J+1,c6,B++[y],left',by have:=Nn.out.length_eq;simp at this;omega,rfl,kH hI6,kH (by simpa [iB] using x.out),kH ?_,kH zz⟩;refine List.Perm.trans ?_ S.out;have C:=Nn.out.map (·.2);simp only[List.map_cons]at C;simp only[iB,List.map_append,List.map_cons,List.map_nil,List.append_assoc,List.singleton_append];exact C.symm.append_left _
theorem Ze:(Tryz.prog.info? 80).map (fun i=>(i.zero,i.size,i.bytes))=some (some (.agg #[.int .i64 0,.int .i64 0,.int .i64 0,.int .i64 0,.string ⟨#[]⟩,.slice none 0 0]),6,72):=by kernel_rfl
theorem bA.JC{K:Type}[DecidableEq K]{KK:oW K}{w w':World}{r:Nat}{m:List (K×Value)}(h:bA KK w r m)(A:Below w.heap.size w w'):bA KK w' r m:=h.below A h.lt
theorem aX.below{E:RC}{G:bC}{r:RS}{V:RV}{w w':World}(h:aX E G r V w)(A:Below w.heap.size w w'):aX E G r V w' where
 blk:=h.blk.below A h.blk.lt
 gl:=h.gl.JC A
 fl:=h.fl.JC A
 kn:=h.kn.JC A
 vi:=h.vi.JC A
 aR:=fG.of_block h.aR fun g _ B _=>A.block g (aae.1 B).1
 ds:=h.ds.below A fun g B=>(h.ds.lt g B).2
 us:=h.us.below A fun g B=>(h.us.lt g B).2
 ps:=h.ps.below A fun g B=>(h.ps.lt g B).2
 low:=h.low
 apart:=h.apart
theorem aX.pushP{E:RC}{G:bC}{r:RS}{V:RV}{w C:World}(h:aX E G r V w)(p:Int×Dg){A3:Option Addr}{c3:Nat}
 (Q:aK C E.base 80 6 (.slice A3 (r.aY.length+1) c3) (r.aY.length+1) (r.aY.flatMap iM++iM p)) (B:w.grownBy C (Value.slice V.pA r.aY.length V.pc).ownBlock) (M:Nat->Prop):
 aX E G { r with aY:=r.aY++[p] } { V with pA:=A3,pc:=c3 } (C.setCell ⟨E.rp,6,none⟩ (.slice A3 (r.aY.length+1) c3))/\KX E M w (C.setCell ⟨E.rp,6,none⟩ (.slice A3 (r.aY.length+1) c3)):=by
 have J:aF (fun g=>g=E.rp\/(Value.slice V.pA r.aY.length V.pc).ownBlock=some g) w (C.setCell ⟨E.rp,6,none⟩ (.slice A3 (r.aY.length+1) c3)):=
  ((aF.refl _ w).grown B (fun g B=>.inl (.inr B))).setCell (.inl (.inl rfl)) _
 have O:(Value.slice V.pA r.aY.length V.pc).ownBlock≠some E.rp:=h.ps.cB h.blk (by decide);have H:aj C E.rp 75 _:=h.blk.grown B (Ne.symm O)
 have L:∀{K:Type} [DecidableEq K] {KK:oW K}{q:Nat}{m:List (K×Value)},bA KK w q m->bA KK (C.setCell ⟨E.rp,6,none⟩ (.slice A3 (r.aY.length+1) c3)) q m:=fun D=>D.since J (fun A=>by
  rcases A with A|A
  ·exact D.rJ h.blk A
  ·exact D.jl h.ps A)
 have I:∀{e size v n xs},aK w E.base e size v n xs->e≠75->e≠80->aK (C.setCell ⟨E.rp,6,none⟩ (.slice A3 (r.aY.length+1) c3)) E.base e size v n xs:=fun D A S=>D.since J (fun g B F=>by
  rcases F with F|F
  ·exact D.cB h.blk A (by rw[B,F])
  ·exact D.apart h.ps S g B F)
 refine⟨⟨?_,L h.gl,L h.fl,L h.kn,L h.vi,?_,I h.ds (by decide) (by decide),I h.us (by decide) (by decide),?_,h.low,h.apart⟩,?_⟩
 ·have:=H.gu 6 (.slice A3 (r.aY.length+1) c3)
  simpa using this
 ·refine fG.of_block h.aR fun g cur B _=>J.block g (aae.1 B).1 fun A=>?_
  rcases A with A|A
  ·subst A
   have T:w.heap[E.rp]? =some (.cells _ 75 (0,0)):=h.blk;rw[T]at B;simp at B
  ·obtain⟨P,N⟩:=h.ps.obj g A
   rw[N]at B;simp at B
 ·have R:(Value.slice A3 (r.aY.length+1) c3).ownBlock≠some E.rp:=Q.cB H (by decide)
  have:=Q.setCell (p:=⟨E.rp,6,none⟩) R (.slice A3 (r.aY.length+1) c3);simpa using this
 ·refine aF.mono J fun g A=>?_
  rcases A with rfl|A
  ·exact⟨h.low.1,.inl ⟨_,_,_,h.blk,.inl rfl⟩⟩
  ·obtain⟨cur,U⟩:=h.ps.obj g A
   exact⟨(h.ps.lt g A).1,.inl ⟨_,_,_,U,.inr (.inl rfl)⟩⟩
theorem news_six(w:World)(g:Nat)(a b c d e f:Value)(B:w.cell? ⟨g,0,none⟩=some a)(C:w.cell? ⟨g,1,none⟩=some b)(D:w.cell? ⟨g,2,none⟩=some c)(E:w.cell? ⟨g,3,none⟩=some d)(F:w.cell? ⟨g,4,none⟩=some e)(G:w.cell? ⟨g,5,none⟩=some f):
 ∀j v,[a,b,c,d,e,f][j]? =some v->w.cell? ((⟨g,0,none⟩:Addr).add j)=some v:=by
 intro j v A
 match j,A with
 | 0,A=>simp at A;subst A;exact B
 | 1,A=>simp at A;subst A;exact C
 | 2,A=>simp at A;subst A;exact D
 | 3,A=>simp at A;subst A;exact E
 | 4,A=>simp at A;subst A;exact F
 | 5,A=>simp at A;subst A;exact G
 | j+6,A=>simp at A
theorem UZ(E:RC)(G:bC)(r:RS)(V:RV)(w:World)(h:aX E G r V w)(hN:r.aY.length<=1000000)(T:E.base<=w.heap.size)(C:Int)(n:Nat)(t:ae)(A:Option Addr)(c:Nat)(M:Nat->Prop):
 Calls Tryz.prog 201 #[.pointer (some ⟨E.rp,0,none⟩),.int .i64 C,.int .i64 (n:Int),aZ t A c] w fun e w'=>e= .returned (.tuple #[])/\∃l,aX E G (qF r C n t) l w'/\KX E M w w':=by
 obtain⟨i0,d,hz0,hz1,hz2⟩:=info_parts Ze;have u:Hid (qF r C n t= { r with aY:=r.aY++[((n:Int),⟨C,t.at_,t.end_,t.text⟩)] }):=kH rfl;unfold aZ;obtain⟨q,hq⟩:∃q,qF r C n t=q:=⟨_,rfl⟩
 rw[hq]at u⊢;obtain⟨k,Y⟩:∃q,t.kind=q:=⟨_,rfl⟩
 obtain⟨x,U⟩:∃q,t.text=q:=⟨_,rfl⟩
 obtain⟨a,S⟩:∃q,t.at_=q:=⟨_,rfl⟩
 obtain⟨z,J⟩:∃q,t.end_=q:=⟨_,rfl⟩
 obtain⟨m,Z⟩:∃q,t.kids.length=q:=⟨_,rfl⟩
 rw[Y,U,S,J,Z];rw[U,S,J]at u;obtain⟨K,o7⟩:∃q,r.aY.length=q:=⟨_,rfl⟩
 rw[o7]at hN;have H:=kH h;have v:=kH o7;clear hq Y U S J Z h o7;go_in
 go_wp2_with fail
 generalize R:w.alloc (.cells #[.int .i64 k,.string x,.int .i64 a,.int .i64 z,.slice A m c] 24)=W1
 have N:Below w.heap.size w W1:=by rw[<- R];exact ag _ _
 have D:aj W1 w.heap.size 24 #[.int .i64 k,.string x,.int .i64 a,.int .i64 z,.slice A m c]:=by rw[<- R];exact aj.new w _ _
 have Q:=H.out.below N;have c6:W1.cell? ⟨E.rp,6,none⟩=some (.slice V.pA K V.pc):=by have:=Q.blk.cell 6;rw[v.out]at this;exact this
 have f6:=Q.blk.frozen 6;have hlr:=Q.blk.lt;have hx1:=D.cell 1;have hx2:=D.cell 2;have hx3:=D.cell 3;have hlt:=D.lt;have I:=Q.ps;rw[v.out]at I;have vP:=kH I;have H1:=kH Q;have HT1:=kH D;have W:=kH N;have y:(Value.slice V.pA K V.pc).ownBlock≠some E.rp:=I.cB Q.blk (by decide);have O:(Value.slice V.pA K V.pc).ownBlock≠some w.heap.size:=I.cB D (by decide);have fH:=kH y;have vJ:=kH O;have hbs:E.base<=W1.heap.size:=aac T N.size;clear R I Q D N y O;refine eQ (fun w'=>w'.cell? ⟨E.rp,6,none⟩=some (.slice V.pA K V.pc)/\w'.cell? ⟨w.heap.size,1,none⟩=some (.string x)/\w'.cell? ⟨w.heap.size,2,none⟩=some (.int .i64 a)/\w'.cell? ⟨w.heap.size,3,none⟩=some (.int .i64 z)) [19] [true,true,true,true,true,true,true,true,true,true,true,true,true,true,true,false,false,false,false,false] (by kernel_rfl) (by kernel_rfl) rfl (by kernel_rfl) ?_;have j:W1.drew.cell? ⟨E.rp,6,none⟩=some (.slice V.pA K V.pc)/\W1.drew.cell? ⟨w.heap.size,1,none⟩=some (.string x)/\W1.drew.cell? ⟨w.heap.size,2,none⟩=some (.int .i64 a)/\W1.drew.cell? ⟨w.heap.size,3,none⟩=some (.int .i64 z):=⟨c6,hx1,hx2,hx3⟩
 iterate 15(refine ic rfl j (by intro w' f;obtain⟨hs1,hs2,hs3,hs4⟩:=f;go_simp;rfl) ?_;simp only[Act.put,sA,sZ,sC])
 refine ib (w':=W1.drew.alloc (.cells #[.int .i64 (n:Int),.int .i64 C,.int .i64 a,.int .i64 z,.string x,.slice none 0 0] 80)) rfl (by go_simp;rfl) ?_ ?_
 ·exact fun _=>⟨by go_simp,by go_simp,by go_simp,by go_simp⟩
 simp only[Act.put,sA,sZ,sC];refine sP rfl (iG _ (.tmp 12) (.tmp 23) _ rfl E.base 80 i0 _ 6 72 Tryz.underlying73 d hz0 hz1 hz2 rfl (.slice V.pA K V.pc) K (r.aY.flatMap iM) rfl (vP.out.drew.alloc _) ⟨W1.heap.size,0,none⟩ 1 1 (iM ((n:Int),⟨C,a,z,x⟩)) rfl rfl (news_six _ _ _ _ _ _ _ _ (by go_simp) (by go_simp) (by go_simp) (by go_simp) (by go_simp) (by go_simp)) (by simp[iM,Value.oneCell']) (by simp only[maxLen];omega) (by omega) (by simp;omega) ?_);intro v3 P F B vG;obtain⟨A3,c3,hv3,-,-⟩:=F.shape;subst hv3;have hz3:=B.size;simp at hz3
 have q1:P.cell? ⟨E.rp,6,none⟩=some (.slice V.pA K V.pc):=by
  rw[B.cell_far _ (by simp;omega) (fun L=>fH.out L.symm)];go_simp
 have q2:P.cell? ⟨w.heap.size,1,none⟩=some (.string x):=by
  rw[B.cell_far _ (by simp;omega) (fun L=>vJ.out L.symm)];go_simp
 have q3:P.cell? ⟨w.heap.size,2,none⟩=some (.int .i64 a):=by
  rw[B.cell_far _ (by simp;omega) (fun L=>vJ.out L.symm)];go_simp
 have q4:P.cell? ⟨w.heap.size,3,none⟩=some (.int .i64 z):=by
  rw[B.cell_far _ (by simp;omega) (fun L=>vJ.out L.symm)];go_simp
 have X:=aj.grown (aj.alloc (aj.drew H1.out.blk) (.cells #[.int .i64 (n:Int),.int .i64 C,.int .i64 a,.int .i64 z,.string x,.slice none 0 0] 80)) B (fun L=>fH.out L.symm);have q5:=X.frozen 6
 have HR:Hid (∃l,aX E G q l (P.setCell ⟨E.rp,6,none⟩ (.slice A3 (K+1) c3))/\KX E M w (P.setCell ⟨E.rp,6,none⟩ (.slice A3 (K+1) c3))):=kH (by
  have zy:Below W1.heap.size W1 (W1.drew.alloc (.cells #[.int .i64 (n:Int),.int .i64 C,.int .i64 a,.int .i64 z,.string x,.slice none 0 0] 80)):=((Below.refl _ _).drew).alloc (aab _) _;have h2:=H1.out.below zy;have b:=h2.pushP ((n:Int),⟨C,a,z,x⟩) (A3:=A3) (c3:=c3) (by rw[v.out];exact F) (by rw[v.out];exact B) M;rw[v.out]at b;rw[u.out]
  exact⟨_,b.1,(KX.of_below (W.out.trans (zy.mono W.out.size))).trans b.2 (fun g hg=>.inl hg)⟩)
 clear X F B vG;refine⟨fun _=>⟨q1,q2,q3,q4⟩,?_⟩;iterate 2(simp only[Act.put,sA,sZ,sC];refine ib (w':=P) rfl (by go_simp;rfl) (fun _=>⟨q1,q2,q3,q4⟩) ?_)
 simp only[Act.put,sA,sZ,sC];refine iU (w':=P.setCell ⟨E.rp,6,none⟩ (.slice A3 (K+1) c3)) rfl (by go_simp) (by simp) ?_;refine jm ?_;simp only[Act.put];go_wp2_with fail
 go_end0
 exact⟨rfl,HR.out⟩
theorem Ha:(Tryz.prog.info? 49).map (fun i=>(i.zero,i.size,i.bytes))=some (some (.agg #[.int .i64 0,.string ⟨#[]⟩,.int .i64 0,.int .i64 0]),4,40):=by kernel_rfl
theorem aX.Xm{E:RC}{G:bC}{r:RS}{V:RV}{w C:World}(h:aX E G r V w)(p:Dc){A3:Option Addr}{c3:Nat}
 (Q:aK C E.base 49 4 (.slice A3 (r.ds.length+1) c3) (r.ds.length+1) (r.ds.flatMap dL++dL p)) (B:w.grownBy C (Value.slice V.dA r.ds.length V.dc).ownBlock) (M:Nat->Prop):
 aX E G { r with ds:=r.ds++[p] } { V with dA:=A3,dc:=c3 } (C.setCell ⟨E.rp,3,none⟩ (.slice A3 (r.ds.length+1) c3))/\KX E M w (C.setCell ⟨E.rp,3,none⟩ (.slice A3 (r.ds.length+1) c3)):=by
 have J:aF (fun g=>g=E.rp\/(Value.slice V.dA r.ds.length V.dc).ownBlock=some g) w (C.setCell ⟨E.rp,3,none⟩ (.slice A3 (r.ds.length+1) c3)):=
  ((aF.refl _ w).grown B (fun g B=>.inl (.inr B))).setCell (.inl (.inl rfl)) _
 have O:(Value.slice V.dA r.ds.length V.dc).ownBlock≠some E.rp:=h.ds.cB h.blk (by decide);have H:aj C E.rp 75 _:=h.blk.grown B (Ne.symm O)
 have L:∀{K:Type} [DecidableEq K] {KK:oW K}{q:Nat}{m:List (K×Value)},bA KK w q m->bA KK (C.setCell ⟨E.rp,3,none⟩ (.slice A3 (r.ds.length+1) c3)) q m:=fun D=>D.since J (fun A=>by
  rcases A with A|A
  ·exact D.rJ h.blk A
  ·exact D.jl h.ds A)
 have I:∀{e size v n xs},aK w E.base e size v n xs->e≠75->e≠49->aK (C.setCell ⟨E.rp,3,none⟩ (.slice A3 (r.ds.length+1) c3)) E.base e size v n xs:=fun D A S=>D.since J (fun g B F=>by
  rcases F with F|F
  ·exact D.cB h.blk A (by rw[B,F])
  ·exact D.apart h.ds S g B F)
 refine⟨⟨?_,L h.gl,L h.fl,L h.kn,L h.vi,?_,?_,I h.us (by decide) (by decide),I h.ps (by decide) (by decide),h.low,h.apart⟩,?_⟩
 ·have:=H.gu 3 (.slice A3 (r.ds.length+1) c3)
  simpa using this
 ·refine fG.of_block h.aR fun g cur B _=>J.block g (aae.1 B).1 fun A=>?_
  rcases A with A|A
  ·subst A
   have T:w.heap[E.rp]? =some (.cells _ 75 (0,0)):=h.blk;rw[T]at B;simp at B
  ·obtain⟨P,N⟩:=h.ds.obj g A
   rw[N]at B;simp at B
 ·have R:(Value.slice A3 (r.ds.length+1) c3).ownBlock≠some E.rp:=Q.cB H (by decide)
  have:=Q.setCell (p:=⟨E.rp,3,none⟩) R (.slice A3 (r.ds.length+1) c3);simpa using this
 ·refine aF.mono J fun g A=>?_
  rcases A with rfl|A
  ·exact⟨h.low.1,.inl ⟨_,_,_,h.blk,.inl rfl⟩⟩
  ·obtain⟨cur,U⟩:=h.ds.obj g A
   exact⟨(h.ds.lt g A).1,.inl ⟨_,_,_,U,.inr (.inr (.inl rfl))⟩⟩
theorem aX.yV{E:RC}{G:bC}{r:RS}{V:RV}{w:World}(h:aX E G r V w)(i:Nat)(Y:i<r.uses.length)(M:Nat->Prop):
 ∃b A,E.uA=some ⟨b,A,none⟩/\b<w.heap.size/\(∃u,w.cell? ⟨b,A+i,none⟩=some (.int .i64 u))/\w.frozen? ⟨b,A+i,none⟩=false /\
  ∀y:Int,aX E G { r with uses:=r.uses.set i y } V (w.setCell ⟨b,A+i,none⟩ (.int .i64 y))/\KX E M w (w.setCell ⟨b,A+i,none⟩ (.int .i64 y)):=by
 obtain⟨b,A,x,v,-,-,Q,R,O⟩:=h.us.form (by omega);have C:E.uA=some ⟨b,A,none⟩:=by injection v
 have Z:=h.us.1;refine⟨b,A,C,R,⟨_,O i (.int .i64 r.uses[i]) (by simp[iB,Y])⟩,?_,fun y=>?_⟩
 ·obtain⟨cur,N⟩:=h.us.obj b (by rw[C];rfl)
  simp[World.frozen?,N]
 have B:(Value.slice E.uA r.uses.length E.uc).ownBlock=some b:=by rw[C];rfl
 have H:aF (fun g=>g=b) w (w.setCell ⟨b,A+i,none⟩ (.int .i64 y)):=aF.setCell (S:=fun g=>g=b) (aF.refl _ w) (p:=⟨b,A+i,none⟩) (.inl rfl) _;have L:b≠E.rp:=fun e=>h.us.cB h.blk (by decide) (by rw[B,e])
 have I:∀{K:Type} [DecidableEq K] {KK:oW K}{q:Nat}{m:List (K×Value)},bA KK w q m->bA KK (w.setCell ⟨b,A+i,none⟩ (.int .i64 y)) q m:=fun X=>X.since H (fun D=>X.jl h.us (by rw[B,D]))
 have P:(r.uses.set i y).length=r.uses.length:=List.length_set;refine⟨⟨?_,I h.gl,I h.fl,I h.kn,I h.vi,?_,h.ds.since H (fun g F J=>h.ds.apart h.us (by decide) g F (by rw[B,J])),?_,h.ps.since H (fun g F J=>h.ps.apart h.us (by decide) g F (by rw[B,J])),h.low,h.apart⟩,?_⟩
 ·have:=h.blk.far (p:=⟨b,A+i,none⟩) (Ne.symm L) (.int .i64 y)
  simpa [P] using this
 ·have U:=h.aR
  simp only[P];refine fG.of_block U fun g cur F T=>H.block g (aae.1 F).1 fun D=>T (by rw[B,D])
 ·have W:=h.us
  rw[C]at W;have:=W.set1 i Y (.int .i64 y);simp only[P,C];have z:iB (r.uses.set i y)=(iB r.uses).set i (.int .i64 y):=by simp[iB,List.map_set]
  rw[z];exact this
 ·refine aF.mono H fun g D=>?_
  subst D;obtain⟨cur,N⟩:=h.us.obj g B;exact⟨Q,.inl ⟨_,_,_,N,.inr (.inr (.inr (by rw[C];rfl)))⟩⟩
theorem UC(E:RC)(G:bC)(r:RS)(V:RV)(w:World)(h:aX E G r V w)(hN:r.ds.length<=1000000)(hbase:E.base<=w.heap.size)(kind:Int)(n:Nat)(hn:n<r.uses.length)(t:ae)(A:Option Addr)(c:Nat)(M:Nat->Prop):
 Calls Tryz.prog 147 #[.pointer (some ⟨E.rp,0,none⟩),.int .i64 kind,.int .i64 (n:Int),aZ t A c,.bool false] w fun e w'=>e= .returned (.bool true)/\∃V',aX E G (lM r kind n t) V' w'/\KX E M w w':=by
 obtain⟨i0,hi0,hz0,hz1,hz2⟩:=info_parts Ha;obtain⟨T,Q⟩:∃T,(if kind=0\/kind=2 then(-1:Int) else r.owner)=T:=⟨_,rfl⟩
 have HP:Hid (lM r kind n t= { r with ds:=r.ds++[⟨kind,t.text,n,T⟩],uses:=r.uses.set n (n:Int) }):=kH (by rw[<- Q];rfl);unfold aZ;obtain⟨q,hq⟩:∃q,lM r kind n t=q:=⟨_,rfl⟩
 rw[hq]at HP⊢;obtain⟨k,d⟩:∃q,t.kind=q:=⟨_,rfl⟩
 obtain⟨x,hx0⟩:∃q,t.text=q:=⟨_,rfl⟩
 obtain⟨a,ha0⟩:∃q,t.at_=q:=⟨_,rfl⟩
 obtain⟨z,hz0'⟩:∃q,t.end_=q:=⟨_,rfl⟩
 obtain⟨m,hm0⟩:∃q,t.kids.length=q:=⟨_,rfl⟩
 rw[d,hx0,ha0,hz0',hm0];rw[hx0]at HP;obtain⟨K,o7⟩:∃q,r.ds.length=q:=⟨_,rfl⟩
 obtain⟨nu,hnu⟩:∃q,r.uses.length=q:=⟨_,rfl⟩
 obtain⟨ro,hro⟩:∃q,r.owner=q:=⟨_,rfl⟩
 rw[o7]at hN;rw[hnu]at hn;rw[hro]at Q;have H:=kH h;have l:=kH o7;have Cf:=kH hnu;have HRO:=kH hro;clear hq d hx0 ha0 hz0' hm0 h o7 hnu hro;have N:∃I,I=w.alloc (.cells #[.int .i64 k,.string x,.int .i64 a,.int .i64 z,.slice A m c] 24):=⟨_,rfl⟩
 obtain⟨I,N⟩:=N;have f:Below w.heap.size w I:=by rw[N];exact ag _ _
 have j:aj I w.heap.size 24 #[.int .i64 k,.string x,.int .i64 a,.int .i64 z,.slice A m c]:=by rw[N];exact aj.new w _ _
 have h1:=H.out.below f;have c3:I.cell? ⟨E.rp,3,none⟩=some (.slice V.dA K V.dc):=by have:=h1.blk.cell 3;rw[l.out]at this;exact this
 have c8:I.cell? ⟨E.rp,8,none⟩=some (.int .i64 ro):=by have:=h1.blk.cell 8;rw[HRO.out]at this;exact this
 have hlr:=h1.blk.lt;have hx1:=j.cell 1;have hlt:=j.lt;have Y:=h1.ds;rw[l.out]at Y;have vP:=kH Y;have H1:=kH h1;have S:=kH f;have hne:(Value.slice V.dA K V.dc).ownBlock≠some E.rp:=Y.cB h1.blk (by decide);have hne2:(Value.slice V.dA K V.dc).ownBlock≠some w.heap.size:=Y.cB j (by decide);have fH:=kH hne;have vJ:=kH hne2;have hbs:E.base<=I.heap.size:=aac hbase f.size;have hrw:=H.out.blk.lt;have c8w:w.cell? ⟨E.rp,8,none⟩=some (.int .i64 ro):=by have:=H.out.blk.cell 8;rw[HRO.out]at this;exact this
 clear Y h1 j f hne hne2;rcases(show kind=0\/kind=2\/(kind≠0/\kind≠2) by omega) with rfl|rfl| ⟨d,hk2⟩
 ·have R8:T= -1:=by exact Q.symm.trans (by simp)
  subst R8;clear Q;go_in
  go_wp2_with fail
  rw[<- N];clear N;refine eQ (fun w'=>w'.cell? ⟨E.rp,3,none⟩=some (.slice V.dA K V.dc)/\w'.cell? ⟨w.heap.size,1,none⟩=some (.string x)) [15] [true,true,true,true,true,true,true,true,true,true,true,false,false,false,false,false] (by kernel_rfl) (by kernel_rfl) rfl (by kernel_rfl) ?_;have U:I.drew.cell? ⟨E.rp,3,none⟩=some (.slice V.dA K V.dc)/\I.drew.cell? ⟨w.heap.size,1,none⟩=some (.string x):=⟨c3,hx1⟩
  iterate 11(refine ic rfl U (by intro w' W;obtain⟨hs1,hs2⟩:=W;go_simp;rfl) ?_;simp only[Act.put,sA,sZ,sC])
  refine ib (w':=I.drew.alloc (.cells #[.int .i64 (0:Int),.string x,.int .i64 (n:Int),.int .i64 (-1)] 49)) rfl (by go_simp;rfl) ?_ ?_
  ·exact fun _=>⟨by go_simp,by go_simp⟩
  simp only[Act.put,sA,sZ,sC];refine sP rfl (iG _ (.tmp 31) (.tmp 38) _ rfl E.base 49 i0 _ 4 40 Tryz.underlying27 hi0 hz0 hz1 hz2 rfl (.slice V.dA K V.dc) K (r.ds.flatMap dL) rfl (vP.out.drew.alloc _) ⟨I.heap.size,0,none⟩ 1 1 (dL ⟨(0:Int),x,(n:Int),(-1)⟩) rfl rfl (sG _ _ _ _ _ _ (by go_simp) (by go_simp) (by go_simp) (by go_simp)) (by simp[dL,Value.oneCell']) (by simp only[maxLen];omega) (by omega) (by simp;omega) ?_);intro v3 R C B vG;obtain⟨A3,F,y,-,-⟩:=C.shape;subst y;have v:=B.size;simp at v
  have q1:R.cell? ⟨E.rp,3,none⟩=some (.slice V.dA K V.dc):=by
   rw[B.cell_far _ (by simp;omega) (fun O=>fH.out O.symm)];go_simp
  have q2:R.cell? ⟨w.heap.size,1,none⟩=some (.string x):=by
   rw[B.cell_far _ (by simp;omega) (fun O=>vJ.out O.symm)];go_simp
  have P:=aj.grown (aj.alloc (aj.drew H1.out.blk) (.cells #[.int .i64 (0:Int),.string x,.int .i64 (n:Int),.int .i64 (-1)] 49)) B (fun O=>fH.out O.symm);have q5:=P.frozen 3;obtain⟨L,u⟩:∃L,R.setCell ⟨E.rp,3,none⟩ (.slice A3 (K+1) F)=L:=⟨_,rfl⟩
  have D:Hid (aX E G { r with ds:=r.ds++[⟨(0:Int),x,(n:Int),(-1)⟩] } { V with dA:=A3,dc:=F } L/\KX E M w L):=kH (by
   have zy:Below I.heap.size I (I.drew.alloc (.cells #[.int .i64 (0:Int),.string x,.int .i64 (n:Int),.int .i64 (-1)] 49)):=((Below.refl _ _).drew).alloc (aab _) _;have h2:=H1.out.below zy;have Z:=h2.Xm ⟨(0:Int),x,(n:Int),(-1)⟩ (A3:=A3) (c3:=F) (by rw[l.out];exact C) (by rw[l.out];exact B) M;rw[l.out,u]at Z
   exact⟨Z.1,(KX.of_below (S.out.trans (zy.mono S.out.size))).trans Z.2 (fun g X=>.inl X)⟩)
  clear P C B vG;refine⟨fun _=>⟨q1,q2⟩,?_⟩;iterate 2(simp only[Act.put,sA,sZ,sC];refine ib (w':=R) rfl (by go_simp;rfl) (fun _=>⟨q1,q2⟩) ?_)
  simp only[Act.put,sA,sZ,sC];refine iU (w':=R.setCell ⟨E.rp,3,none⟩ (.slice A3 (K+1) F)) rfl (by go_simp) (by simp) ?_;refine jm ?_;simp only[Act.put];rw[u];obtain⟨b,ou,hA,hbu,mi,hfu,J⟩:=D.out.1.yV n (by rw[Cf.out];exact hn) M;obtain⟨u0,mi⟩:=mi;have c4:L.cell? ⟨E.rp,4,none⟩=some (.slice E.uA nu E.uc):=by have:=D.out.1.blk.cell 4;rw[Cf.out]at this;exact this
  rw[hA]at c4;have hl4:=D.out.1.blk.lt
  have HR:Hid (∃V',aX E G q V' (L.setCell ⟨b,ou+n,none⟩ (.int .i64 (n:Int)))/\KX E M w (L.setCell ⟨b,ou+n,none⟩ (.int .i64 (n:Int)))):=kH (by
   obtain⟨h5,h6⟩:=J (n:Int);rw[HP.out]
   exact⟨_,h5,D.out.2.trans h6 (fun g X=>.inl X)⟩)
  clear J u;go_wp2_with fail
  go_ret
  exact⟨rfl,HR.out⟩
 ·have R8:T= -1:=by exact Q.symm.trans (by simp)
  subst R8;clear Q;go_in
  go_wp2_with fail
  rw[<- N];clear N;refine eQ (fun w'=>w'.cell? ⟨E.rp,3,none⟩=some (.slice V.dA K V.dc)/\w'.cell? ⟨w.heap.size,1,none⟩=some (.string x)) [15] [true,true,true,true,true,true,true,true,true,true,true,false,false,false,false,false] (by kernel_rfl) (by kernel_rfl) rfl (by kernel_rfl) ?_;have U:I.drew.cell? ⟨E.rp,3,none⟩=some (.slice V.dA K V.dc)/\I.drew.cell? ⟨w.heap.size,1,none⟩=some (.string x):=⟨c3,hx1⟩
  iterate 11(refine ic rfl U (by intro w' W;obtain⟨hs1,hs2⟩:=W;go_simp;rfl) ?_;simp only[Act.put,sA,sZ,sC])
  refine ib (w':=I.drew.alloc (.cells #[.int .i64 (2:Int),.string x,.int .i64 (n:Int),.int .i64 (-1)] 49)) rfl (by go_simp;rfl) ?_ ?_
  ·exact fun _=>⟨by go_simp,by go_simp⟩
  simp only[Act.put,sA,sZ,sC];refine sP rfl (iG _ (.tmp 31) (.tmp 38) _ rfl E.base 49 i0 _ 4 40 Tryz.underlying27 hi0 hz0 hz1 hz2 rfl (.slice V.dA K V.dc) K (r.ds.flatMap dL) rfl (vP.out.drew.alloc _) ⟨I.heap.size,0,none⟩ 1 1 (dL ⟨(2:Int),x,(n:Int),(-1)⟩) rfl rfl (sG _ _ _ _ _ _ (by go_simp) (by go_simp) (by go_simp) (by go_simp)) (by simp[dL,Value.oneCell']) (by simp only[maxLen];omega) (by omega) (by simp;omega) ?_);intro v3 R C B vG;obtain⟨A3,F,y,-,-⟩:=C.shape;subst y;have v:=B.size;simp at v
  have q1:R.cell? ⟨E.rp,3,none⟩=some (.slice V.dA K V.dc):=by
   rw[B.cell_far _ (by simp;omega) (fun O=>fH.out O.symm)];go_simp
  have q2:R.cell? ⟨w.heap.size,1,none⟩=some (.string x):=by
   rw[B.cell_far _ (by simp;omega) (fun O=>vJ.out O.symm)];go_simp
  have P:=aj.grown (aj.alloc (aj.drew H1.out.blk) (.cells #[.int .i64 (2:Int),.string x,.int .i64 (n:Int),.int .i64 (-1)] 49)) B (fun O=>fH.out O.symm);have q5:=P.frozen 3;obtain⟨L,u⟩:∃L,R.setCell ⟨E.rp,3,none⟩ (.slice A3 (K+1) F)=L:=⟨_,rfl⟩
  have D:Hid (aX E G { r with ds:=r.ds++[⟨(2:Int),x,(n:Int),(-1)⟩] } { V with dA:=A3,dc:=F } L/\KX E M w L):=kH (by
   have zy:Below I.heap.size I (I.drew.alloc (.cells #[.int .i64 (2:Int),.string x,.int .i64 (n:Int),.int .i64 (-1)] 49)):=((Below.refl _ _).drew).alloc (aab _) _;have h2:=H1.out.below zy;have Z:=h2.Xm ⟨(2:Int),x,(n:Int),(-1)⟩ (A3:=A3) (c3:=F) (by rw[l.out];exact C) (by rw[l.out];exact B) M;rw[l.out,u]at Z
   exact⟨Z.1,(KX.of_below (S.out.trans (zy.mono S.out.size))).trans Z.2 (fun g X=>.inl X)⟩)
  clear P C B vG;refine⟨fun _=>⟨q1,q2⟩,?_⟩;iterate 2(simp only[Act.put,sA,sZ,sC];refine ib (w':=R) rfl (by go_simp;rfl) (fun _=>⟨q1,q2⟩) ?_)
  simp only[Act.put,sA,sZ,sC];refine iU (w':=R.setCell ⟨E.rp,3,none⟩ (.slice A3 (K+1) F)) rfl (by go_simp) (by simp) ?_;refine jm ?_;simp only[Act.put];rw[u];obtain⟨b,ou,hA,hbu,mi,hfu,J⟩:=D.out.1.yV n (by rw[Cf.out];exact hn) M;obtain⟨u0,mi⟩:=mi;have c4:L.cell? ⟨E.rp,4,none⟩=some (.slice E.uA nu E.uc):=by have:=D.out.1.blk.cell 4;rw[Cf.out]at this;exact this
  rw[hA]at c4;have hl4:=D.out.1.blk.lt
  have HR:Hid (∃V',aX E G q V' (L.setCell ⟨b,ou+n,none⟩ (.int .i64 (n:Int)))/\KX E M w (L.setCell ⟨b,ou+n,none⟩ (.int .i64 (n:Int)))):=kH (by
   obtain⟨h5,h6⟩:=J (n:Int);rw[HP.out]
   exact⟨_,h5,D.out.2.trans h6 (fun g X=>.inl X)⟩)
  clear J u;go_wp2_with fail
  go_ret
  exact⟨rfl,HR.out⟩
 ·have R8:T=ro:=by rw[<- Q,if_neg (by omega)]
  subst R8;clear Q;go_in
  go_wp2_with fail
  ·have hor:(kind==0)=true\/(kind==2)=true:=by assumption
   exfalso
   rcases hor with e|e
   ·exact d (by simpa using e)
   ·exact hk2 (by simpa using e)
  rw[<- N];clear N;refine eQ (fun w'=>w'.cell? ⟨E.rp,3,none⟩=some (.slice V.dA K V.dc)/\w'.cell? ⟨w.heap.size,1,none⟩=some (.string x)) [15] [true,true,true,true,true,true,true,true,true,true,true,false,false,false,false,false] (by kernel_rfl) (by kernel_rfl) rfl (by kernel_rfl) ?_;have U:I.drew.cell? ⟨E.rp,3,none⟩=some (.slice V.dA K V.dc)/\I.drew.cell? ⟨w.heap.size,1,none⟩=some (.string x):=⟨c3,hx1⟩
  iterate 11(refine ic rfl U (by intro w' W;obtain⟨hs1,hs2⟩:=W;go_simp;rfl) ?_;simp only[Act.put,sA,sZ,sC])
  refine ib (w':=I.drew.alloc (.cells #[.int .i64 kind,.string x,.int .i64 (n:Int),.int .i64 T] 49)) rfl (by go_simp;rfl) ?_ ?_
  ·exact fun _=>⟨by go_simp,by go_simp⟩
  simp only[Act.put,sA,sZ,sC];refine sP rfl (iG _ (.tmp 31) (.tmp 38) _ rfl E.base 49 i0 _ 4 40 Tryz.underlying27 hi0 hz0 hz1 hz2 rfl (.slice V.dA K V.dc) K (r.ds.flatMap dL) rfl (vP.out.drew.alloc _) ⟨I.heap.size,0,none⟩ 1 1 (dL ⟨kind,x,(n:Int),T⟩) rfl rfl (sG _ _ _ _ _ _ (by go_simp) (by go_simp) (by go_simp) (by go_simp)) (by simp[dL,Value.oneCell']) (by simp only[maxLen];omega) (by omega) (by simp;omega) ?_);intro v3 R C B vG;obtain⟨A3,F,y,-,-⟩:=C.shape;subst y;have v:=B.size;simp at v
  have q1:R.cell? ⟨E.rp,3,none⟩=some (.slice V.dA K V.dc):=by
   rw[B.cell_far _ (by simp;omega) (fun O=>fH.out O.symm)];go_simp
  have q2:R.cell? ⟨w.heap.size,1,none⟩=some (.string x):=by
   rw[B.cell_far _ (by simp;omega) (fun O=>vJ.out O.symm)];go_simp
  have P:=aj.grown (aj.alloc (aj.drew H1.out.blk) (.cells #[.int .i64 kind,.string x,.int .i64 (n:Int),.int .i64 T] 49)) B (fun O=>fH.out O.symm);have q5:=P.frozen 3;obtain⟨L,u⟩:∃L,R.setCell ⟨E.rp,3,none⟩ (.slice A3 (K+1) F)=L:=⟨_,rfl⟩
  have D:Hid (aX E G { r with ds:=r.ds++[⟨kind,x,(n:Int),T⟩] } { V with dA:=A3,dc:=F } L/\KX E M w L):=kH (by
   have zy:Below I.heap.size I (I.drew.alloc (.cells #[.int .i64 kind,.string x,.int .i64 (n:Int),.int .i64 T] 49)):=((Below.refl _ _).drew).alloc (aab _) _;have h2:=H1.out.below zy;have Z:=h2.Xm ⟨kind,x,(n:Int),T⟩ (A3:=A3) (c3:=F) (by rw[l.out];exact C) (by rw[l.out];exact B) M;rw[l.out,u]at Z
   exact⟨Z.1,(KX.of_below (S.out.trans (zy.mono S.out.size))).trans Z.2 (fun g X=>.inl X)⟩)
  clear P C B vG;refine⟨fun _=>⟨q1,q2⟩,?_⟩;iterate 2(simp only[Act.put,sA,sZ,sC];refine ib (w':=R) rfl (by go_simp;rfl) (fun _=>⟨q1,q2⟩) ?_)
  simp only[Act.put,sA,sZ,sC];refine iU (w':=R.setCell ⟨E.rp,3,none⟩ (.slice A3 (K+1) F)) rfl (by go_simp) (by simp) ?_;refine jm ?_;simp only[Act.put];rw[u];obtain⟨b,ou,hA,hbu,mi,hfu,J⟩:=D.out.1.yV n (by rw[Cf.out];exact hn) M;obtain⟨u0,mi⟩:=mi;have c4:L.cell? ⟨E.rp,4,none⟩=some (.slice E.uA nu E.uc):=by have:=D.out.1.blk.cell 4;rw[Cf.out]at this;exact this
  rw[hA]at c4;have hl4:=D.out.1.blk.lt
  have HR:Hid (∃V',aX E G q V' (L.setCell ⟨b,ou+n,none⟩ (.int .i64 (n:Int)))/\KX E M w (L.setCell ⟨b,ou+n,none⟩ (.int .i64 (n:Int)))):=kH (by
   obtain⟨h5,h6⟩:=J (n:Int);rw[HP.out]
   exact⟨_,h5,D.out.2.trans h6 (fun g X=>.inl X)⟩)
  clear J u;go_wp2_with fail
  go_ret
  exact⟨rfl,HR.out⟩
theorem dR(t:ae)(A:Option Addr)(c:Nat):∃(k:Int) (x:ByteArray) (a z:Int) (m:Nat),t.kind=k/\t.text=x/\t.at_=a/\t.end_=z/\t.kids.length=m/\aZ t A c= .agg #[.int .i64 k,.string x,.int .i64 a,.int .i64 z,.slice A m c]:=⟨_,_,_,_,_,rfl,rfl,rfl,rfl,rfl,rfl⟩
theorem BP(E:RC)(G:bC)(r:RS)(V:RV)(w:World)(h:aX E G r V w)(R:r.ds.length<=1000000)(S:r.aY.length<=1000000)(B:E.base<=w.heap.size)(kind:Int)(n:Nat)(U:n<r.uses.length)(t:ae)(A:Option Addr)(c:Nat)(F:Bool)(M:Nat->Prop):
 Calls Tryz.prog 147 #[.pointer (some ⟨E.rp,0,none⟩),.int .i64 kind,.int .i64 (n:Int),aZ t A c,.bool F] w fun e w'=>e= .returned (.bool (!F))/\∃H,aX E G (aW r kind n t F) H w'/\KX E M w w':=by
 cases F
 ·exact UC E G r V w h R B kind n U t A c M
 ·obtain⟨k,x,a,z,m,-,-,-,-,-,J⟩:=dR t A c
  rw[J];have C:Below w.heap.size w (w.alloc (.cells #[.int .i64 k,.string x,.int .i64 a,.int .i64 z,.slice A m c] 24)):=ag _ _;have I:=UZ E G r V (w.alloc (.cells #[.int .i64 k,.string x,.int .i64 a,.int .i64 z,.slice A m c] 24)) (h.below C) S (aac B C.size) 9 n t A c M;rw[J]at I;have D:=kH C;have K:=kH I;clear I C J h;go_in
  go_wp2_with fail
  refine K.out.mono ?_;rintro e O ⟨rfl,Q,L,N⟩;have P:Hid (∃H,aX E G (aW r kind n t true) H O/\KX E M w O):=kH ⟨Q,L,(KX.of_below D.out).trans N (fun g T=>.inl T)⟩;clear L N K D;go_wp2_with fail
  go_ret
  exact⟨rfl,P.out⟩
theorem use_any(E:RC)(G:bC)(r:RS)(V:RV)(w:World)(h:aX E G r V w)(hP:r.aY.length<=1000000)(D:E.base<=w.heap.size)(n:Nat)(U:n<r.uses.length)(t:ae)(A:Option Addr)(c:Nat)(O:Option Int)(y:Int)(hy:∀k,O=some k->k=y)(M:Nat->Prop):
 Calls Tryz.prog 149 #[.pointer (some ⟨E.rp,0,none⟩),.int .i64 (n:Int),aZ t A c,.int .i64 y,.bool O.isSome] w fun e w'=>e= .returned (.tuple #[])/\∃I,aX E G (gV r n t O) I w'/\KX E M w w':=by
 obtain⟨k,x,a,z,m,-,-,-,-,-,N⟩:=dR t A c;have B:Below w.heap.size w (w.alloc (.cells #[.int .i64 k,.string x,.int .i64 a,.int .i64 z,.slice A m c] 24)):=ag _ _
 cases O with
 | none=>
  have Q:=UZ E G r V (w.alloc (.cells #[.int .i64 k,.string x,.int .i64 a,.int .i64 z,.slice A m c] 24)) (h.below B) hP (aac D B.size) 8 n t A c M;rw[N]at Q⊢;have H:=kH B;have R:=kH Q;clear Q B N h;go_in
  go_wp2_with fail
  refine R.out.mono ?_;rintro e Z ⟨rfl,l,T,W⟩;have v:Hid (∃I,aX E G (gV r n t none) I Z/\KX E M w Z):=kH ⟨l,T,(KX.of_below H.out).trans W (fun g P=>.inl P)⟩;clear T W R H;go_wp2_with fail
  try simp only[Exit.inBlock,Exit.then]
  refine bodyPost_ret (results_none rfl _ _ _) rfl ?_;exact⟨rfl,v.out⟩
 | some y'=>
  obtain rfl:y'=y:=hy y' rfl;rw[N];show Calls Tryz.prog 149 #[.pointer (some ⟨E.rp,0,none⟩),.int .i64 (n:Int),.agg #[.int .i64 k,.string x,.int .i64 a,.int .i64 z,.slice A m c],.int .i64 y',.bool true] w _;obtain⟨J,K⟩:∃J,w.alloc (.cells #[.int .i64 k,.string x,.int .i64 a,.int .i64 z,.slice A m c] 24)=J:=⟨_,rfl⟩
  rw[K]at B;have L:=h.below B;obtain⟨S,Y,b,hbu,X,hfu,C⟩:=L.yV n U M;obtain⟨u0,X⟩:=X;obtain⟨nu,F⟩:∃q,r.uses.length=q:=⟨_,rfl⟩
  rw[F]at U;have j:J.cell? ⟨E.rp,4,none⟩=some (.slice E.uA nu E.uc):=by have:=L.blk.cell 4;rw[F]at this;exact this
  rw[b]at j;have hl4:=L.blk.lt
  have u:Hid (∃I,aX E G (gV r n t (some y')) I (J.setCell ⟨S,Y+n,none⟩ (.int .i64 y'))/\KX E M w (J.setCell ⟨S,Y+n,none⟩ (.int .i64 y'))):=kH (by
   obtain⟨f,d⟩:=C y'
   exact⟨_,f,(KX.of_below B).trans d (fun g P=>.inl P)⟩)
  clear C N h L F B;go_in
  go_wp2_with (rw[K])
  go_end0
  exact⟨rfl,u.out⟩
end Go.Proofs.YtoepemlnlpamlaaGreat
