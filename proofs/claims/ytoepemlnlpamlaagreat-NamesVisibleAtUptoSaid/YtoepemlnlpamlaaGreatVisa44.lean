/- The law NamesVisibleAt holds where what it reads is of bulk at most 1048576: it returns true, and its arguments read as before. Part 44: LawF VisR HeldF Cpy. -/
import Derived.Test.YtoepemlnlpamlaaGreatVisa12
import Derived.Test.YtoepemlnlpamlaaGreatVisa13
import Derived.Test.YtoepemlnlpamlaaGreatVisa14
import Derived.Test.YtoepemlnlpamlaaGreatVisa15
import Derived.Test.YtoepemlnlpamlaaGreatVisa22
import Derived.Test.YtoepemlnlpamlaaGreatVisa32
import Derived.Test.YtoepemlnlpamlaaGreatVisa33
import Derived.Test.YtoepemlnlpamlaaGreatVisa38
import Derived.Test.YtoepemlnlpamlaaGreatVisa41
import Derived.Test.YtoepemlnlpamlaaGreatVisa42
import Derived.Test.YtoepemlnlpamlaaGreatVisa43
set_option maxRecDepth 100000
set_option maxHeartbeats 4000000
namespace Go.Proofs.YtoepemlnlpamlaaGreat
open Go.RowKit
theorem Mi:∀(p:List Nat),yX p=p.flatMap jr
 | []=>rfl
 | i::p=>by
  rw[List.flatMap_cons,<- Mi p];rfl
theorem OI{k:Int}:∀{l:List (Int×List Int)},(∀x∈l,x.1≠k)->bE l k=none
 | [],_=>rfl
 | x::l,h=>by
  rw[bE,if_neg (fun e=>h x (List.mem_cons_self ..) e.symm)];exact OI fun y A=>h y (List.mem_cons_of_mem _ A)
theorem vis_off{t y:ae}{p:List Nat}{m:Nat}(A:jC t=true)(B:j6 t p=some y)(F:pE t p=m)(D:IC t p=false):eD t (m:Int)=[]:=by
 have E:=AY B;obtain⟨-,-,-,C⟩:=VD A (m:Int);unfold eD;rw[if_pos A,C m rfl (by omega),<- F,Na A B,D];rfl
theorem vis_in{t y:ae}{p:List Nat}{m:Nat}(A:jC t=true)(B:j6 t p=some y)(F:pE t p=m)(D:IC t p=true):eD t (m:Int)=(yO t (m:Int)).at_.map fun(i:Nat)=>(i:Int):=by
 have E:=AY B;obtain⟨-,-,-,C⟩:=VD A (m:Int);unfold eD;rw[if_pos A,C m rfl (by omega),<- F,Na A B,D];rfl
theorem vis_bad{t:ae}{k:Int}(h:jC t=false):eD t k=[]:=by
 unfold eD;rw[h];rfl
def Ho(t:ae)(num:Int)(w:World)(e:Ending)(w':World):Prop:=
 ∃VA n c,e= .returned (.slice VA n c)/\(eD t num).length=n/\bU 1 gN w' w'.heap.size VA (eD t num)/\Below w.heap.size w w'
theorem vis_nil{t:ae}{num:Int}{w w':World}(h:eD t num=[])(A:Below w.heap.size w w'):Ho t num w (.returned (.slice none 0 0)) w':=by
 unfold Ho;rw[h];exact⟨none,0,0,rfl,rfl,fun k c B=>by simp at B,A⟩
theorem IP(r:RS)(i:Bool)(v:List Int)(h:∀x∈r.aR,(0:Int)<=x.1):∀x∈(aG r i v).aR,(0:Int)<=x.1:=by
 intro x A;unfold aG at A;cases i
 ·exact h x A
 ·rcases JW _ _ _ x A with A|rfl
  ·exact h x A
  ·exact Int.natCast_nonneg _
theorem Zf:CQ fun a b=>(∀x∈a.aR,(0:Int)<=x.1)->∀x∈b.aR,(0:Int)<=x.1 where
 refl:=fun _ h=>h
 trans:=fun h k A=>k (h A)
 none_:=fun r i v=>IP r i v
 say:=fun r i v _ _=>IP r i v
 decl:=fun r i v _ _=>IP r i v
 use:=fun r i v _=>IP r i v
 owner:=fun _ _ h=>h
theorem vis_out{t:ae}{k:Int}(h:k<0\/(ai t:Int)<=k):eD t k=[]:=by
 have C:=Ai (dO t) t false [] ⟨[],List.replicate (ai t) (-1),[],[],0,0⟩;have D:=Iz (dO t) t false [] ⟨[],List.replicate (ai t) (-1),[],[],0,0⟩;have E:=C.aR (fun x A=>by cases A);have F:=zg Zf (dO t) t false [] ⟨[],List.replicate (ai t) (-1),[],[],0,0⟩ (fun x A=>by cases A)
 have G:bE (dZ t).aR k=none:=OI fun x A e=>by
  obtain⟨z,B,rfl⟩:=List.mem_map.1 (show x∈List.map _ (aM (dO t) false t [] ⟨[],List.replicate (ai t) (-1),[],[],0,0⟩).1.aR from A);have H:=E z B;have I:=F z B;have e:z.1=k:=e;have J:(aM (dO t) false t [] ⟨[],List.replicate (ai t) (-1),[],[],0,0⟩).1.next<=0+ai t:=D;omega
 unfold eD;rw[G];split<;>rfl
theorem Q0(t:ae)(A:Option Addr)(c:Nat)(num:Int)(w:World)(hN:ai t<=4096)(Y:t.kids.length<=c)(hk:aJ w w.heap.size A 0 t.kids):
 Calls Tryz.prog 18 #[aZ t A c,.int .i64 num] w (Ho t num w):=by
 have Z:∀W,Below w.heap.size w W->aJ W W.heap.size A 0 t.kids:=fun W D=>aJ.mono D.size _ _ _ (aJ.below D (aab _) _ _ _ hk)
 have hpa:=fun W D=>Path_any t A c num W (by omega) Y (Z W D)
 have g:=fun W D=>WN t A c W hN (Z W D)
 have hre:=fun W D=>QV t A c num W (by omega) Y (Z W D)
 obtain⟨k0,x0,a0,z0,z,-,-,-,-,hn0,jw⟩:=dR t A c;rw[jw]at hpa g hre⊢;obtain⟨d,hvb⟩:∃b,jC t=b:=⟨_,rfl⟩
 rw[hvb]at g;obtain⟨W1,u⟩:∃W1,w.alloc (.cells #[.int .i64 k0,.string x0,.int .i64 a0,.int .i64 z0,.slice A z c] 24)=W1:=⟨_,rfl⟩
 have hbW:Below w.heap.size w W1:=by rw[<- u];exact ag _ _
 have FH:aj W1 w.heap.size 24 #[.int .i64 k0,.string x0,.int .i64 a0,.int .i64 z0,.slice A z c]:=by rw[<- u];exact aj.new _ _ _
 have HPA:=kH (hpa W1 hbW);have HVA:=kH g;have HRE:=kH hre;have wV:=kH hvb;have mJ:=kH hbW;have En:=kH FH;have Cg:=kH Z;have HN0:=kH hn0;obtain⟨⟨m0,m1,m2,m3,m4⟩,-⟩:=FH.five;have lm:=FH.lt;clear hpa g hre hvb hbW FH Z hk Y hN hn0;go_in
 go_wp2_with (rw[u])
 clear m0 m1 m2 m3 m4 lm u;refine HPA.out.mono ?_;rintro e2 G hpr
 have hb2:Below W1.heap.size W1 G:=by
  rcases hpr with⟨-,h,-⟩| ⟨_,_,_,_,_,-,-,-,-,-,-,h,-⟩ <;>exact h
 have R:Hid (Below w.heap.size w G):=kH (mJ.out.trans (hb2.mono mJ.out.size));have tY:=En.out.below hb2 En.out.lt
 have hKN:∀W,Below G.heap.size G W->W.cell? ⟨w.heap.size,0,none⟩=some (.int .i64 k0)/\W.cell? ⟨w.heap.size,1,none⟩=some (.string x0)/\W.cell? ⟨w.heap.size,2,none⟩=some (.int .i64 a0)/\W.cell? ⟨w.heap.size,3,none⟩=some (.int .i64 z0)/\W.cell? ⟨w.heap.size,4,none⟩=some (.slice A z c):=fun W D=>by
  obtain⟨⟨v0,v1,v2,v3,v4⟩,-⟩:=(tY.below D tY.lt).five;exact⟨v0,v1,v2,v3,v4⟩
 have vB:=kH tY;have U:=kH hKN;have fU:=kH (HVA.out G.drew (R.out.drew));have F:Below G.heap.size G G.drew:=(Below.refl _ _).drew;have X:=U.out _ F;clear hb2 tY hKN En HPA HVA;have YF:Hid (∀W,eD t num=[]->Below G.heap.size G W->Ho t num w (.returned (.slice none 0 0)) W):=kH fun W h D=>vis_nil h (R.out.trans (D.mono R.out.size))
 rcases hpr with⟨rfl,-,ho⟩| ⟨m,p,y,PA,pc,hm,rfl,hy,r,hpl,hO,-,o7⟩
 ·have RN:=vis_out (t:=t) ho
  go_wp2_with fail
  refine dD (fun W=>W.cell? ⟨w.heap.size,0,none⟩=some (.int .i64 k0)/\W.cell? ⟨w.heap.size,1,none⟩=some (.string x0)/\W.cell? ⟨w.heap.size,2,none⟩=some (.int .i64 a0)/\W.cell? ⟨w.heap.size,3,none⟩=some (.int .i64 z0)/\W.cell? ⟨w.heap.size,4,none⟩=some (.slice A z c)) [] [true,false,true,true,true,true,true,true,true,true,true,true,true,true,true,true,true,true,true,true,true,true,true,true,true,true,true,true,true] (by kernel_rfl) (by kernel_rfl) rfl (by kernel_rfl) ?_;first|(refine dB (by rfl) X ?_)|(refine bV (by rfl) X (by intro w' B;obtain⟨K,L,M,N,O⟩:=B;go_simp;rfl) ?_)
  simp only[Act.put,sA,sZ,sC];refine eH (by rfl) (by go_simp) (fU.out.mono ?_);rintro e4 w4 ⟨rfl,H⟩;have T:Below G.heap.size G w4:=F.trans (H.mono F.size);have I:=U.out _ T;refine⟨_,rfl,fun _=>I,?_⟩;simp only[Act.put,sA,sZ,sC];cases d
  all_goals
   iterate 27((first|(refine dB (by rfl) I ?_)|(refine bV (by rfl) I (by intro w' B;obtain⟨K,L,M,N,O⟩:=B;go_simp;rfl) ?_));simp only[Act.put,sA,sZ,sC])
   refine gJ ?_;go_wp2_with fail
   go_ret
   exact YF.out _ RN T
 ·subst hm
  have KE:d=false\/IC t p=false->eD t (m:Int)=[]:=fun h=>by
   cases D:d with
   | false=>exact vis_bad (wV.out.trans D)
   | true=>
    rcases h with h|h
    ·rw[D]at h;cases h
    ·exact vis_off (wV.out.trans D) r o7 h
  have C:=hO.rowAt (cells:=jr) (l:=p) rfl (Mi p) (fun _ _=>rfl) rfl;rcases p with _| ⟨i,_| ⟨j,rest⟩⟩
  rotate_right
  ·obtain⟨kd,n,-⟩:∃kd,t.kids[i]? =some kd/\j6 kd (j::rest)=some y:=by
    rw[j6]at r
    cases hk:t.kids[i]? with
    | none=>rw[hk]at r;cases r
    | some kd=>rw[hk]at r;exact⟨kd,rfl,r⟩
   obtain⟨pb,po,hPA,hpb,hp0⟩:=C 0 i rfl;obtain⟨pb',po',hPA',-,hp1⟩:=C 1 j rfl;subst hPA;simp only[aag,Addr.mk.injEq,and_true]at hPA';obtain⟨rfl,rfl⟩:=hPA';obtain⟨vals,⟨kb,ko,hA,hkb,hkc⟩,hT⟩:=(Cg.out G R.out).get i kd n;obtain⟨A',c',jF,-⟩:=hT.five;subst hA;subst jF;obtain⟨f,hkk⟩:∃q,kd.kind=q:=⟨_,rfl⟩
   have hin:i<z:=by rw[<- HN0.out];exact(aah.1 n).1
   have J:∀W,Below G.heap.size G W->W.cell? ⟨w.heap.size,0,none⟩=some (.int .i64 k0)/\W.cell? ⟨w.heap.size,1,none⟩=some (.string x0)/\W.cell? ⟨w.heap.size,2,none⟩=some (.int .i64 a0)/\W.cell? ⟨w.heap.size,3,none⟩=some (.int .i64 z0)/\W.cell? ⟨w.heap.size,4,none⟩=some (.slice (some ⟨kb,ko,none⟩) z c)/\W.cell? ⟨pb,po,none⟩=some (.int .i64 (i:Int))/\W.cell? ⟨pb,po+1,none⟩=some (.int .i64 (j:Int))/\W.cell? ⟨kb,ko+i*5,none⟩=some (.int .i64 f):=fun W D=>by
    obtain⟨h0,h1,h2,h3,h4⟩:=U.out W D;exact⟨h0,h1,h2,h3,h4,(D.cell (p:=⟨pb,_,none⟩) hpb).trans (by simpa using hp0 0 _ rfl),(D.cell (p:=⟨pb,_,none⟩) hpb).trans (by simpa using hp1 0 _ rfl),by rw[<- hkk];exact(D.cell (p:=⟨kb,_,none⟩) hkb).trans (by simpa using hkc 0 _ rfl)⟩
   have HC:=kH J;have ZZ:=J _ F;have hil:(i:Int)<(z:Int):=by omega
   have hi0:¬((i:Int)<0):=by omega
   obtain⟨pn,hpn⟩:∃q,(i::j::rest).length=q:=⟨_,rfl⟩
   have hpn2:¬((pn:Int)<2):=by rw[<- hpn];simp;omega
   have hp0l:(0:Int)<(pn:Int):=by omega
   have hpn2n:¬pn<2:=by omega
   have hdl:decide ((pn:Int)<2)=false:=decide_eq_false hpn2;have hdl2:decide (pn<2)=false:=decide_eq_false hpn2n;have hp0n:0<pn:=by omega
   have hp1n:1<pn:=by omega
   have hp1l:(1:Int)<(pn:Int):=by omega
   rw[hpn]
   have hbk:IC t (i::j::rest)=(decide (f=5)&&decide (j=2)):=by
    show(match t.kids[i]? with|some k=>decide (k.kind=5)&&decide (j=2)|none=>false)=_;rw[n];show(decide (kd.kind=5)&&decide (j=2))=_;rw[hkk]
   rw[hbk]at KE
   have key:(eD t (m:Int)=[]/\d=false)\/(eD t (m:Int)=[]/\d=true/\(f !=5)=true)\/(eD t (m:Int)=[]/\d=true/\(f !=5)=false/\((j:Int) !=2)=true)\/(d=true/\(f !=5)=false/\((j:Int) !=2)=false/\f=5/\j=2):=by
    rcases bq d with h|h
    ·by_cases h5:f=5
     ·by_cases h2:j=2
      ·exact .inr (.inr (.inr ⟨h,by rw[h5];rfl,by rw[h2];rfl,h5,h2⟩))
      ·exact .inr (.inr (.inl ⟨KE (.inr (by rw[decide_eq_false h2,Bool.and_false])),h,by rw[h5];rfl,by rw[bne_iff_ne];omega⟩))
     ·exact .inr (.inl ⟨KE (.inr (by rw[decide_eq_false h5,Bool.false_and])),h,by rw[bne_iff_ne];exact h5⟩)
    ·exact .inl ⟨KE (.inl h),h⟩
   have HBK:=kH hbk;have HF:=kH r;have mE:=kH o7;clear C KE hO r hy o7 hpl hp0 hp1 hkc hT J hbk hpn n hkk X;rcases key with⟨RN,rfl⟩| ⟨RN,rfl,h5b⟩| ⟨RN,rfl,h5b,h2b⟩| ⟨rfl,h5b,h2b,h5,h2⟩
   rotate_right
   ·have HBK':Hid (IC t (i::j::rest)=true):=kH (by rw[HBK.out,h5,h2];rfl)
    clear h5 h2 HBK;go_wp2_with fail
    refine dD (fun W=>W.cell? ⟨w.heap.size,0,none⟩=some (.int .i64 k0)/\W.cell? ⟨w.heap.size,1,none⟩=some (.string x0)/\W.cell? ⟨w.heap.size,2,none⟩=some (.int .i64 a0)/\W.cell? ⟨w.heap.size,3,none⟩=some (.int .i64 z0)/\W.cell? ⟨w.heap.size,4,none⟩=some (.slice (some ⟨kb,ko,none⟩) z c)/\W.cell? ⟨pb,po,none⟩=some (.int .i64 (i:Int))/\W.cell? ⟨pb,po+1,none⟩=some (.int .i64 (j:Int))/\W.cell? ⟨kb,ko+i*5,none⟩=some (.int .i64 f)) [] [true,false,true,true,true,true,true,true,true,true,true,true,true,true,true,true,true,true,true,true,true,true,true,true,true,true,true,true,true] (by kernel_rfl) (by kernel_rfl) rfl (by kernel_rfl) ?_;first|(refine dB (by rfl) ZZ ?_)|(refine bV (by rfl) ZZ (by intro w' B;obtain⟨K,L,M,N,O,hs6,hs7,jH⟩:=B;go_simp;rfl) ?_)
    simp only[Act.put,sA,sZ,sC];refine eH (by rfl) (by go_simp) (fU.out.mono ?_);rintro e4 w4 ⟨rfl,H⟩;have T:Below G.heap.size G w4:=F.trans (H.mono F.size);have I:=HC.out _ T;refine⟨_,rfl,fun _=>I,?_⟩;iterate 27(simp only[Act.put,sA,sZ,sC];(first|(refine dB (by rfl) I ?_)|(refine bV (by rfl) I (by intro w' B;obtain⟨K,L,M,N,O,hs6,hs7,jH⟩:=B;go_simp;rfl) ?_)))
    simp only[Act.put,sA,sZ,sC];refine gJ ?_;have oN:=kH (R.out.trans (T.mono R.out.size));obtain⟨m0,m1,m2,m3,m4,-⟩:=I;have lm:=(vB.out.below T vB.out.lt).lt;have D8:=vis_in wV.out HF.out mE.out HBK'.out;clear H T ZZ YF HC U fU;go_wp2_with fail
    clear m0 m1 m2 m3 m4 lm;refine(HRE.out _ oN.out).mono ?_;rintro e6 w6 ⟨E,V,rfl,hE,hR,hb6⟩;have a6:=hR.blk.cell 6;have lr:=hR.blk.lt
    have C:bU 1 gN w6 w6.heap.size V.aA (eD t (m:Int)):=by
     rw[D8];intro q v hq;rw[List.getElem?_map]at hq
     cases hx:(yO t (m:Int)).at_[q]? with
     | none=>rw[hx]at hq;cases hq
     | some x=>
      rw[hx]at hq;cases hq
      obtain⟨b,off,cs,h1,-,h3,h4⟩:=hR.at_ q x hx;refine⟨b,off,h1,(aae.1 h3).1,fun jj v hj=>?_⟩
      match jj,hj with
      | 0,hj=>cases hj;simpa using h4
      | jj+1,hj=>simp[gN]at hj
    have hlen:(yO t (m:Int)).at_.length=(eD t (m:Int)).length:=by rw[D8,List.length_map]
    have aO:Hid (Ho t (m:Int) w (.returned (.slice V.aA (yO t (m:Int)).at_.length V.ac)) w6):=kH ⟨V.aA,_,V.ac,rfl,hlen.symm,C,oN.out.trans (hb6.mono oN.out.size)⟩;obtain⟨na,hna⟩:∃q,(yO t (m:Int)).at_.length=q:=⟨_,rfl⟩
    have a6':w6.cell? ⟨E.rp,6,none⟩=some (.slice V.aA na V.ac):=by rw[<- hna];exact a6
    rw[hna]at aO;clear a6 hR C hlen D8 hna hb6;go_wp2_with fail
    go_ret
    exact aO.out
   all_goals
    go_wp2_with fail
    refine dD (fun W=>W.cell? ⟨w.heap.size,0,none⟩=some (.int .i64 k0)/\W.cell? ⟨w.heap.size,1,none⟩=some (.string x0)/\W.cell? ⟨w.heap.size,2,none⟩=some (.int .i64 a0)/\W.cell? ⟨w.heap.size,3,none⟩=some (.int .i64 z0)/\W.cell? ⟨w.heap.size,4,none⟩=some (.slice (some ⟨kb,ko,none⟩) z c)/\W.cell? ⟨pb,po,none⟩=some (.int .i64 (i:Int))/\W.cell? ⟨pb,po+1,none⟩=some (.int .i64 (j:Int))/\W.cell? ⟨kb,ko+i*5,none⟩=some (.int .i64 f)) [] [true,false,true,true,true,true,true,true,true,true,true,true,true,true,true,true,true,true,true,true,true,true,true,true,true,true,true,true,true] (by kernel_rfl) (by kernel_rfl) rfl (by kernel_rfl) ?_;first|(refine dB (by rfl) ZZ ?_)|(refine bV (by rfl) ZZ (by intro w' B;obtain⟨K,L,M,N,O,hs6,hs7,jH⟩:=B;go_simp;rfl) ?_)
    simp only[Act.put,sA,sZ,sC];refine eH (by rfl) (by go_simp) (fU.out.mono ?_);rintro e4 w4 ⟨rfl,H⟩;have T:Below G.heap.size G w4:=F.trans (H.mono F.size);have I:=HC.out _ T;refine⟨_,rfl,fun _=>I,?_⟩;iterate 27(simp only[Act.put,sA,sZ,sC];(first|(refine dB (by rfl) I ?_)|(refine bV (by rfl) I (by intro w' B;obtain⟨K,L,M,N,O,hs6,hs7,jH⟩:=B;go_simp;rfl) ?_)))
    simp only[Act.put,sA,sZ,sC];refine gJ ?_;go_wp2_with fail
    go_ret
    exact YF.out _ RN T
  all_goals
   have RN:=KE (.inr rfl);clear C KE hO r hy o7 hpl;go_wp2_with fail
   refine dD (fun W=>W.cell? ⟨w.heap.size,0,none⟩=some (.int .i64 k0)/\W.cell? ⟨w.heap.size,1,none⟩=some (.string x0)/\W.cell? ⟨w.heap.size,2,none⟩=some (.int .i64 a0)/\W.cell? ⟨w.heap.size,3,none⟩=some (.int .i64 z0)/\W.cell? ⟨w.heap.size,4,none⟩=some (.slice A z c)) [] [true,false,true,true,true,true,true,true,true,true,true,true,true,true,true,true,true,true,true,true,true,true,true,true,true,true,true,true,true] (by kernel_rfl) (by kernel_rfl) rfl (by kernel_rfl) ?_;first|(refine dB (by rfl) X ?_)|(refine bV (by rfl) X (by intro w' B;obtain⟨K,L,M,N,O⟩:=B;go_simp;rfl) ?_)
   simp only[Act.put,sA,sZ,sC];refine eH (by rfl) (by go_simp) (fU.out.mono ?_);rintro e4 w4 ⟨rfl,H⟩;have T:Below G.heap.size G w4:=F.trans (H.mono F.size);have I:=U.out _ T;refine⟨_,rfl,fun _=>I,?_⟩;simp only[Act.put,sA,sZ,sC];cases d
   all_goals
    iterate 27((first|(refine dB (by rfl) I ?_)|(refine bV (by rfl) I (by intro w' B;obtain⟨K,L,M,N,O⟩:=B;go_simp;rfl) ?_));simp only[Act.put,sA,sZ,sC])
    refine gJ ?_;go_wp2_with fail
    go_ret
    exact YF.out _ RN T
inductive vO where
 | done
 | soft (k:Nat) (t:vO)
 | hard (k:Nat) (t:vO)
 | fork (i:Nat) (s:vO) (j:Nat) (t:vO)
def vO.len:vO->Nat
 | .done=>0
 | .soft _ t=>t.len+1
 | .hard _ t=>t.len+1
 | .fork _ s _ _=>s.len+1
section
variable {P:Program}{ops:Array Oper}{Q:Exit->Act->World->Prop}{md:Region.Mode}{S:World->Prop}{ex:List Nat}
def qZ(P:Program)(ops:Array Oper)(Q:Exit->Act->World->Prop)(S:World->Prop)(ex:List Nat):vO->Act->World->Prop
 | .done,a,w=>Q .normal a w
 | .soft k t,a,w=> ∃o,ops[k]? =some o/\∃v,YieldsIf P ops S o v a/\S w/\qZ P ops Q S ex t (a.put o.dst v) w
 | .hard k t,a,w=> ∃o,ops[k]? =some o/\Region.wanted o (yielded ops a.tmps)=true/\o.wp P a w (fun a' w'=>(ex.contains k=false->S w')/\qZ P ops Q S ex t a' w') Q
 | .fork i s j t,a,w=>(∃o,ops[i]? =some o/\Region.wanted o (yielded ops a.tmps)=true/\o.wp P a w (fun a' w'=>(ex.contains i=false->S w')/\qZ P ops Q S ex s a' w') Q) /\
  (∃o,ops[j]? =some o/\Region.wanted o (yielded ops a.tmps)=true/\o.wp P a w (fun a' w'=>(ex.contains j=false->S w')/\qZ P ops Q S ex t a' w') Q)
def y9(md:Region.Mode)(ops:Array Oper)(ex:List Nat):vO->Array Bool->Bool
 | .done,listed=>(Region.ready md ops listed).isEmpty
 | .soft k t,listed=>Region.free md ops listed k&&(Region.ready md ops listed).contains k&&ex.all (fun j=>Region.waitsFor md ops j k)&&y9 md ops ex t (listed.setIfInBounds k true)
 | .hard k t,listed=>(Region.ready md ops listed==[k])&&y9 md ops ex t (listed.setIfInBounds k true)
 | .fork i s j t,listed=>(Region.ready md ops listed==[i,j])&&(s.len==t.len)&&y9 md ops ex s (listed.setIfInBounds i true)&&y9 md ops ex t (listed.setIfInBounds j true)
theorem Qr(Y:Region.noSelect ops=true)(V:∀c a b w,Q (.panic c) a w->Q (.panic c) b w):∀(t:vO) (A:Array Bool) (a:Act) (w:World),
 y9 md ops ex t A=true->qZ P ops Q S ex t a w->zf P md ops Q S ex t.len A a w:=by
 intro t
 induction t with
 | done=>
  intro A a w C h;exact⟨by simpa [y9] using C,by simpa [qZ] using h⟩
 | soft k t ih=>
  intro A a w C h;simp only[y9,aad]at C;obtain⟨⟨⟨D,H⟩,M⟩,U⟩:=C;obtain⟨o,B,v,Z,W,I⟩:=h;refine xh B (Region.noSelect_spec Y) (fun j X=>?_) (fun c a w L=>V c _ _ w L) t.len A a w (Region.free_spec B D) (by simpa using H) Z W (ih _ _ w U I);exact List.all_eq_true.1 M j X
 | hard k t ih=>
  intro A a w C h;simp only[y9,aad,beq_iff_eq]at C;obtain⟨D,H⟩:=C;obtain⟨o,B,O,I⟩:=h;refine⟨fun G=>(by rw[G]at D;cases D),fun i T=>?_⟩;rw[D]at T;simp at T;subst T;unfold wpOp;simp only[B,O,if_true];refine .inl (Oper.wp_mono (fun F w' E=>⟨fun J=>E.1 (by simpa using J),ih (A.setIfInBounds i true) F w' H E.2⟩) I)
 | fork i s j t ihs iht=>
  intro A a w C h;simp only[y9,aad,beq_iff_eq]at C;obtain⟨⟨⟨D,G⟩,H⟩,M⟩:=C;obtain⟨⟨o,B,O,I⟩,⟨z,K,R,N⟩⟩:=h;refine⟨fun G=>(by rw[G]at D;cases D),fun q L=>?_⟩;rw[D]at L;simp at L;rcases L with rfl|rfl
  ·unfold wpOp
   simp only[B,O,if_true];exact .inl (Oper.wp_mono (fun F w' E=>⟨fun J=>E.1 (by simpa using J),ihs (A.setIfInBounds q true) F w' H E.2⟩) I)
  ·unfold wpOp
   simp only[K,R,if_true];refine .inl (Oper.wp_mono (fun F w' E=>⟨fun J=>E.1 (by simpa using J),?_⟩) N);have:=iht (A.setIfInBounds q true) F w' M E.2;rw[G];exact this
theorem FZ{F:Nat}{a:Act}{w:World}{l:List Oper}(S:World->Prop)(ex:List Nat)(t:vO)(C:P.follows .mixedOrders=true)(E:Region.noSelect l.toArray=true)
 (B:t.len=l.length) (A:y9 .any l.toArray ex t (Array.replicate l.length false)=true) (h:qZ P l.toArray (NoPanic Q) S ex t a w.drew):(Code.region F l.toArray true).wp P Q a w:=by
 refine wp_region_noPanic (wp_region_any C (xg (S:=S) (ex:=ex) _ _ _ _ ?_));have:=Qr (P:=P) (S:=S) (md:=.any) E (Q:=NoPanic Q) (fun c a b w D=>(D:False).elim) t (Array.replicate l.length false) a w.drew A h;simpa [B] using this
theorem Qn{a:Act}{w:World}(h:Q .normal a w):qZ P ops (NoPanic Q) S ex .done a w:=h
theorem Co{k:Nat}{t:vO}{o:Oper}{a:Act}{w:World}{v:Value}(C:ops[k]? =some o)(B:Region.wanted o (yielded ops a.tmps)=true)(A:S w)(D:∀w',S w'->(execOp a.eval o).run P w'= .ok (.value v) w')
 (h:qZ P ops Q S ex t (a.put o.dst v) w):qZ P ops Q S ex (.soft k t) a w:=
 ⟨o,C,v,.inl ⟨B,D⟩,A,h⟩
def AB(P:Program)(ops:Array Oper)(Q:Exit->Act->World->Prop)(S:World->Prop)(ex:List Nat)(k:Nat)(t:vO)(a:Act)(w:World):Prop:=
 ∃o,ops[k]? =some o/\Region.wanted o (yielded ops a.tmps)=true/\o.wp P a w (fun a' w'=>(ex.contains k=false->S w')/\qZ P ops Q S ex t a' w') Q
theorem GL{k:Nat}{t:vO}{o:Oper}{a:Act}{w w':World}{v:Value}(C:ops[k]? =some o)(B:Region.wanted o (yielded ops a.tmps)=true)(D:(execOp a.eval o).run P w= .ok (.value v) w')(A:ex.contains k=false->S w')
 (h:qZ P ops Q S ex t (a.put o.dst v) w'):AB P ops Q S ex k t a w:=
 ⟨o,C,B,by unfold Oper.wp;rw[D];exact⟨A,h⟩⟩
theorem uB{k:Nat}{t:vO}{a:Act}{w:World}(h:AB P ops Q S ex k t a w):qZ P ops Q S ex (.hard k t) a w:=h
theorem Oe{i j:Nat}{s t:vO}{a:Act}{w:World}(h:AB P ops Q S ex i s a w)(k:AB P ops Q S ex j t a w):qZ P ops Q S ex (.fork i s j t) a w:=⟨h,k⟩
end
theorem Ko{a:Act}{i j:Nat}{u v:Value}(h:i≠j):(a.put (some i) u).put (some j) v=(a.put (some j) v).put (some i) u:=by
 show({ a with tmps:=(a.tmps.setIfInBounds i u).setIfInBounds j v }:Act)= { a with tmps:=(a.tmps.setIfInBounds j v).setIfInBounds i u };rw[Array.setIfInBounds_comm u v h]
theorem tC{a:Act}{i:Nat}{v:Value}(h:i<a.tmps.size):(a.put (some i) v).eval (.tmp i)=v:=by
 simp[Act.eval,Act.put,h]
theorem mg{a:Act}{i j:Nat}{v:Value}(h:i≠j):(a.put (some i) v).eval (.tmp j)=a.eval (.tmp j):=by
 simp[Act.eval,Act.put,Array.getElem?_setIfInBounds_ne h]
theorem QH{s:List ByteArray}:∀u∈s.flatMap bN,u.oneCell'=true:=fun u A=>by
 rw[List.mem_flatMap]at A;obtain⟨x,-,h⟩:=A;simp[bN]at h;rw[h];rfl
section
variable {ops:Array Oper}{Q:Exit->Act->World->Prop}{S:World->Prop}{ex:List Nat}
theorem Wh{i0 i2 i5 i6 K d1 M d4 N d6:Nat}{o0 o2 o5 o6:Oper}{rest:vO}{a:Act}{w:World}
 (h0:ops[i0]? =some o0) (e0:o0.op= .buildSlice 41 0 #[]/\o0.dst=some K/\o0.guard=none)
 (h2:ops[i2]? =some o2) (e2:o2.op= .call { callee:=.builtin .append,args:=#[.tmp K,.tmp d1],argTypes:=#[41,41] } /\ o2.dst=some M/\o2.guard=none)
 (h5:ops[i5]? =some o5) (e5:o5.op= .buildSlice 41 1 #[(0,.tmp d4)]/\o5.dst=some N/\o5.guard=none)
 (h6:ops[i6]? =some o6) (e6:o6.op= .call { callee:=.builtin .append,args:=#[.tmp M,.tmp N],argTypes:=#[41,41] } /\ o6.dst=some d6/\o6.guard=none)
 (hd:K≠d1/\K≠M/\K≠d4/\K≠N/\M≠N/\N≠d1/\M≠d4/\N≠K) (hl:K<a.tmps.size/\M<a.tmps.size/\N<a.tmps.size)
 (kn:List ByteArray) (n:Nat) (hn:kn.length=n) (hm:n<=1000000) (A:Option Addr) (c:Nat) (x:ByteArray) (l:a.eval (.tmp d1)= .slice A n c) (f:a.eval (.tmp d4)= .string x)
 (hrow:∀W,Below w.heap.size w W->∀j u,(kn.flatMap bN)[j]? =some u->∃p,A=some p/\W.cell? (p.add j)=some u) (hS:∀W,Below w.heap.size w W->S W)
 (h:∀H I v5 m W,aK W w.heap.size 9 1 m (n+1) ((kn++[x]).flatMap bN)->Below w.heap.size w W->qZ Tryz.prog ops Q S ex rest ((((a.put (some K) H).put (some M) I).put (some N) v5).put (some d6) m) W):
 qZ Tryz.prog ops Q S ex (.fork i0 (.fork i2 (.hard i5 (.hard i6 rest)) i5 (.hard i2 (.hard i6 rest))) i5 (.hard i0 (.hard i2 (.hard i6 rest)))) a w:=by
 obtain⟨z0,hi0,hz0,hz1,hz2⟩:=info_parts Ga;have G:∀(o:Oper) y,o.guard=none->Region.wanted o y=true:=fun o y Z=>by unfold Region.wanted;rw[Z]
 have s0:∀(t:vO) (C:Act) (u:World),Below w.heap.size w u->(∀D v,aK D w.heap.size 9 1 v 0 []->Below w.heap.size w D->Below u.heap.size u D/\(∀g,v.ownBlock=some g->u.heap.size<=g)->qZ Tryz.prog ops Q S ex t (C.put (some K) v) D)->AB Tryz.prog ops Q S ex i0 t C u:=fun t C u F k=>by
  have V:=ag u (.cells #[] 9);have z:Below w.heap.size w (u.alloc (.cells #[] 9)):=F.trans (V.mono F.size);refine GL (v:=.slice (some ⟨u.heap.size,0,none⟩) 0 0) (w':=u.alloc (.cells #[] 9)) h0 (G _ _ e0.2.2) (by simp only[execOp,e0.1];go_simp) (fun _=>hS _ z) ?_;rw[e0.2.1];exact k _ _ (aK.block F.size (aj.new u _ _) (Nat.zero_le _) rfl) z ⟨V,fun g Z=>by cases Z;exact aab _⟩
 have s5:∀(t:vO) (C:Act) (u:World),Below w.heap.size w u->C.eval (.tmp d4)= .string x->(∀D b,w.heap.size<=b->u.heap.size<=b->aj D b 9 #[.string x]->Below w.heap.size w D->Below u.heap.size u D->qZ Tryz.prog ops Q S ex t (C.put (some N) (.slice (some ⟨b,0,none⟩) 1 1)) D)->AB Tryz.prog ops Q S ex i5 t C u:=fun t C u F h4 k=>by
  have V:=ag u (.cells #[.string x] 9);have z:Below w.heap.size w (u.alloc (.cells #[.string x] 9)):=F.trans (V.mono F.size);refine GL (v:=.slice (some ⟨u.heap.size,0,none⟩) 1 1) (w':=u.alloc (.cells #[.string x] 9)) h5 (G _ _ e5.2.2) (by simp only[execOp,e5.1,List.map_toArray,List.map_cons,List.map_nil,h4];go_simp) (fun _=>hS _ z) ?_;rw[e5.2.1];exact k _ _ F.size (aab _) (aj.new u _ _) z V
 have sA:∀(i:Nat) (o:Oper) (p q r:Nat) (t:vO) (C:Act) (u:World) (v:Value) (m1:Nat) (xs:List Value) (B:Option Addr) (m2 c2:Nat) (ys:List Value),ops[i]? =some o->(o.op= .call { callee:=.builtin .append,args:=#[.tmp p,.tmp q],argTypes:=#[41,41] } /\ o.dst=some r/\o.guard=none)->Below w.heap.size w u->C.eval (.tmp p)=v->aK u w.heap.size 9 1 v m1 xs->C.eval (.tmp q)= .slice B m2 c2->ys.length=m2->(∀j y,ys[j]? =some y->∃p,B=some p/\u.cell? (p.add j)=some y)->(∀y∈ys,y.oneCell'=true)->m1+m2<=1000001 ->
  (∀D J,aK D w.heap.size 9 1 J (m1+m2) (xs++ys)->u.grownBy D v.ownBlock->Below w.heap.size w D->qZ Tryz.prog ops Q S ex t (C.put (some r) J) D)->AB Tryz.prog ops Q S ex i t C u:=fun i o p q r t C u v m1 xs B m2 c2 ys hi he F hp hv hq hys d hone hmm k=>by
  obtain⟨J,D,hr,L,X,Y⟩:=Br (P:=Tryz.prog) u w.heap.size 41 o.type 9 z0 _ 1 16 Tryz.underlying41 hi0 hz0 hz1 hz2 rfl (by omega) v m1 xs hv B m2 c2 ys (by omega) d hone (by simp only[maxLen];omega) (by omega) F.size;have z:Below w.heap.size w D:=F.trans (rR X F.size (fun g Z=>(hv.lt g Z).1))
  refine GL (v:=J) (w':=D) hi (G _ _ he.2.2) (by
   unfold execOp
   simp only[he.1,resolve,invoke,builtin,Sem.run_bind,Sem.run_pure,Result.andThen_ok,List.map_toArray,List.map_cons,List.map_nil,hp,hq,hr]) (fun _=>hS _ z) ?_
  rw[he.2.1];exact k _ _ L X z
 have s2:∀(t:vO) (C:Act) (u:World) (H:Value),Below w.heap.size w u->C.eval (.tmp K)=H->aK u w.heap.size 9 1 H 0 []->C.eval (.tmp d1)= .slice A n c->(∀D J,aK D w.heap.size 9 1 J n (kn.flatMap bN)->u.grownBy D H.ownBlock->Below w.heap.size w D->qZ Tryz.prog ops Q S ex t (C.put (some M) J) D)->AB Tryz.prog ops Q S ex i2 t C u:=fun t C u H F hp hv hq k=>
  sA i2 o2 K d1 M t C u H 0 [] A n c _ h2 e2 F hp hv hq (by rw[Bo];exact hn) (hrow u F) QH (by omega) (fun D J L X Y=>k D J (by rw[Nat.zero_add,List.nil_append]at L;exact L) X Y)
 have s6:∀(t:vO) (C:Act) (u:World) (I:Value) (b:Nat),Below w.heap.size w u->C.eval (.tmp M)=I->aK u w.heap.size 9 1 I n (kn.flatMap bN)->C.eval (.tmp N)= .slice (some ⟨b,0,none⟩) 1 1->aj u b 9 #[.string x]->(∀D J,aK D w.heap.size 9 1 J (n+1) ((kn++[x]).flatMap bN)->Below w.heap.size w D->qZ Tryz.prog ops Q S ex t (C.put (some d6) J) D)->AB Tryz.prog ops Q S ex i6 t C u:=fun t C u I b F hp hv hq hbl k=>
  sA i6 o6 M N d6 t C u I n _ _ 1 1 [.string x] h6 e6 F hp hv hq rfl (fun j y hy=>⟨_,rfl,wF _ _ _ (hbl.cell 0) j y hy⟩) (by simp[Value.oneCell']) (by omega) (fun D J L X Y=>k D J (by rw[List.flatMap_append];exact L) Y)
 obtain⟨n1,n2,n3,n4,n5,n6,n7,n8⟩:=hd;obtain⟨l0,l2,l5⟩:=hl;have E:∀(C:Act) (j:Nat) (v:Value),(C.put (some j) v).tmps.size=C.tmps.size:=fun C j v=>Array.size_setIfInBounds
 refine Oe (s0 _ _ _ (Below.refl _ _) fun u1 H L X Y=>Oe (s2 _ _ _ H X (tC l0) L (by rw[mg n1,l]) fun u2 I g4 g5 g6=>uB (s5 _ _ _ g6 (by rw[mg n7,mg n3,f]) fun u3 b g7 g8 g9 O R=>uB (s6 _ _ _ I b O (by rw[mg n5.symm,tC (by rw[E];exact l2)]) (g4.below R fun g Z=>(g4.lt g Z).2) (tC (by rw[E,E];exact l5)) g9 fun u4 m T U=>h H I _ m u4 T U)))
  (s5 _ _ _ X (by rw[mg n3,f]) fun u2 b g4 g5 g6 g7 g8=>uB (s2 _ _ _ H g7 (by rw[mg n8,tC l0]) (L.below g8 fun g Z=>(L.lt g Z).2) (by rw[mg n6,mg n1,l]) fun u3 I g9 O R=>uB (s6 _ _ _ I b R (tC (by rw[E,E];exact l2)) g9 (by rw[mg n5,tC (by rw[E];exact l5)]) (g6.grown O fun e=>by have:=(L.lt b e.symm).2;omega) fun u4 m T U=>by rw[Ko n5.symm];exact h H I _ m u4 T U))))
  (s5 _ _ _ (Below.refl _ _) f fun u1 b L X Y g4 g5=>uB (s0 _ _ _ g4 fun u2 H g6 g7 g8=>uB (s2 _ _ _ H g7 (tC (by rw[E];exact l0)) g6 (by rw[mg n1,mg n6,l]) fun u3 I g9 O R=>uB (s6 _ _ _ I b R (tC (by rw[E,E];exact l2)) g9 (by rw[mg n5,mg n4,tC l5]) ((Y.below g8.1 Y.lt).grown O fun e=>by have:=g8.2 b e.symm;have:=Y.lt;omega) fun u4 m T U=>by rw[Ko n8,Ko n5.symm];exact h H I _ m u4 T U))))
end
end Go.Proofs.YtoepemlnlpamlaaGreat
