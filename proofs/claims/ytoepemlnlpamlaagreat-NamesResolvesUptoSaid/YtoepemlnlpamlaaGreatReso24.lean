/- The law NamesResolves holds where what it reads is of bulk at most 1048576: it returns true, and its argument reads as before. Part 24: Nam2 Nam3 Nam4 Nam5. -/
import Derived.Test.YtoepemlnlpamlaaGreatReso06
import Derived.Test.YtoepemlnlpamlaaGreatReso17
import Derived.Test.YtoepemlnlpamlaaGreatReso23
set_option maxRecDepth 100000
set_option maxHeartbeats 4000000
namespace Go.Proofs.YtoepemlnlpamlaaGreat
open Go.RowKit
theorem Au:(Tryz.prog.info? 3).map (fun i=>(i.zero,i.size,i.bytes))=some (some (.int .i64 0),1,8):=by kernel_rfl
def unInt:Value->Int
 | .int _ z=>z
 | _=>0
theorem aan{a b:List Int}(h:(gY a).Perm (gY b)):a.Perm b:=by
 have:=h.map unInt;simpa [gY,List.map_map,Function.comp_def,unInt] using this
theorem Nt{a b:List Int}(h:a.Perm b):(a.mergeSort fun x y=>decide (x<=y))=aj b:=by
 unfold aj;have ht:∀x y z:Int,(decide (x<=y))=true->(decide (y<=z))=true->(decide (x<=z))=true:=by intro x y z h1 h2;simp at*;omega
 have NN:∀x y:Int,(decide (x<=y) || decide (y<=x))=true:=by intro x y;simp;omega
 refine List.Perm.eq_of_pairwise (le:=fun x y=>x<=y) ?_ ?_ ?_ ?_
 ·intro x y _ _ h1 h2;omega
 ·exact(List.pairwise_mergeSort ht NN a).imp (by simp)
 ·exact(List.pairwise_mergeSort ht NN b).imp (by simp)
 ·exact(List.mergeSort_perm a _).trans (h.trans (List.mergeSort_perm b _).symm)
theorem bL.below{w w':World}{base:Nat}(hb:Below w.heap.size w w'):∀{s:aQ}{p:Option Addr}{ms:List Nat},bL w base p s ms->bL w' base p s ms
 | [],_,_,hs=>hs
 | _::_,_,_,⟨b,m,p',ms',h1,h2,h3,h4,h5,h6,h7⟩=>⟨b,m,p',ms',h1,h2,h3,h4,h5.below hb h5.lt,h6.below hb h6.lt,bL.below hb h7⟩
theorem mI.jf{K:Type}[DecidableEq K]{KK:oD K}{w:World}{r b:Nat}{m:List (K×Value)}{left:List (Value×Value)}{base:Nat}{e:TypeId}{size:Nat}{v:Value}{n:Nat}{xs:List Value}(h:mI KK w r b m left)(ho:aL w base e size v n xs):v.ownBlock≠some b:=by
 intro hv;obtain⟨cur,hg⟩:=ho.obj b hv;obtain⟨es,clock,seen,c0,h1,h2,h3,h4,h5,_⟩:=h;rw[h5]at hg;cases hg
theorem mI.grown{K:Type}[DecidableEq K]{KK:oD K}{w w':World}{r b:Nat}{m:List (K×Value)}{left:List (Value×Value)}(h:mI KK w r b m left){row:Option Nat}(hg:w.grownBy w' row)(h1:row≠some r)(h2:row≠some b):mI KK w' r b m left:=by
 have hr:=h.oo.lt
 have hb:b<w.heap.size:=by
  obtain⟨es,clock,seen,c0,_,_,_,_,h5,_⟩:=h;exact(abH.1 h5).1
 exact h.keep (hg.block r hr (Ne.symm h1)) (hg.block b hb (Ne.symm h2))
theorem mI.alloc{K:Type}[DecidableEq K]{KK:oD K}{w:World}{r b:Nat}{m:List (K×Value)}{left:List (Value×Value)}(h:mI KK w r b m left)(o:Obj):mI KK (w.alloc o) r b m left:=
 h.grown (World.grownBy_alloc w o none) (by simp) (by simp)
theorem Uq(base:Nat)(s:aQ)(p:Option Addr)(ms:List Nat)(w:World)(hs:bL w base p s ms)(hn:(ak s).length<=1000000):
 Calls Tryz.prog 145 #[.pointer p] w fun e w'=> ∃v,e= .returned v/\aL w' w.heap.size 3 1 v (ak s).length (gY (aj (ak s)))/\Below w.heap.size w w':=by
 obtain⟨i0,hi0,hz0,hz1,hz2⟩:=info_parts Au;have HN:=kH hn;have HS:=kH hs;clear hn hs;go_enter Tryz.func145,Tryz.ntmps145
 go_wp2_with fail
 go_loopg [3,4] s.length (fun gk s3 s4 wr=> ∃(s1 s2:aQ) (p2:Option Addr) (wL:List Nat) (A:Option Addr) (n c:Nat) (zs:List Int),gk=s2.length/\s=s1++s2/\s4= .pointer p2/\s3= .slice A n c/\Hid (bL w base p2 s2 wL)/\Hid (aL wr w.heap.size 3 1 (.slice A n c) n (gY zs))/\Hid (zs.Perm (ak s1))/\Hid (Below w.heap.size w wr))
 case atStart=>exact⟨[],s,p,ms,none,0,0,[],rfl,rfl,rfl,rfl,HS,kH (aL.nil _ _ _ _),kH List.Perm.nil,kH (Below.refl _ _)⟩
 case round=>
  obtain⟨s1,s2,p2,wL,A,n,c,zs,hgk,hss,rfl,rfl,HS2,HO,HP,HB⟩:=hrel
  cases s2 with
  | nil=>
   obtain⟨rfl,rfl⟩:=HS2.out;have hse:s=s1:=by simpa using hss
   have hnz:zs.length=n:=by simpa using HO.out.1
   have hnl:n=(ak s).length:=by rw[<- hnz,hse];exact HP.out.length_eq
   have HNL:=kH hnl;have hcall:=abk (.slice A n c) w.heap.size n zs wr HO.out (by have:=HN.out;omega);have HC:=kH hcall;have HSE:=kH hse;clear hcall hnl hnz hse hss;go_wp2_with fail
   refine HC.out.mono ?_;rintro e w5 ⟨rfl,jR,hg5⟩;have hb5:Below w.heap.size w w5:=HB.out.trans (((aF.refl (fun g=>w.heap.size<=g) wr).grown hg5 (fun g hg=>.inl (HO.out.lt g hg).1)).toBelow HB.out.size (fun g hg=>hg));rw[Nt HP.out,<- HSE.out]at jR;have Sg:=kH jR;have jb:=kH hb5;clear jR hb5 hg5;go_wp2_with fail
   go_ret
   exact⟨_,rfl,by have:=Sg.out;rw[HNL.out]at this⊢;exact this,jb.out⟩
  | cons l s2=>
   obtain⟨b,m,p',ms',rfl,rfl,h1,h2,hb0,hm0,hs3⟩:=HS2.out;have hB:=HB.out;have hb:=hb0.below hB hb0.lt;have hm:=hm0.below hB hm0.lt;have c0:=hb.cell 0;have c1:=hb.cell 1;have hlt:=hb.lt;obtain⟨w1,hr1,hit,hb1,hsz1⟩:=Ag (P:=Tryz.prog) (t:=70) (kt:=9) (et:=3) Tryz.underlying70 hm;have hbw:=hb0.lt;have hmw:=hm0.lt;have HIT:=kH hit;have yP:=HO.out.below hb1 (fun g hg=>(HO.out.lt g hg).2);have zw:=kH yP;have HB1:=kH (hB.trans (hb1.mono hB.size));have vX:=kH hb0;have iQ:=kH hs3;have Uv:Hid (w.heap.size<=wr.heap.size):=kH hB.size
   have HTOT:Hid (n+l.length<=1000000):=kH (by
    have h5:=HN.out;rw[hss]at h5;unfold ak at h5;simp only[List.flatMap_append,List.flatMap_cons,abP,List.length_map]at h5;have h6:=HP.out.length_eq;unfold ak at h6;have h7:zs.length=n:=by simpa using HO.out.1
    omega)
   clear hit hb1 hB hb hs3 hm HS2 yP hb0 hm0;go_wp2_with fail
   obtain⟨wo,hwo⟩:∃wo:World,wo=wr:=⟨_,rfl⟩
   subst hwo;obtain⟨go,hgo⟩:∃go:Nat,go=gk:=⟨_,rfl⟩
   subst hgo;obtain⟨it,zb⟩:∃it,wo.heap.size=it:=⟨_,rfl⟩
   rw[zb]at HIT Uv⊢;go_loopg [3] l.length (fun gk s3 wr=> ∃(A':Option Addr) (n' c':Nat) (zs':List Int) (left:List (Value×Value)),gk=left.length/\s3= .slice A' n' c'/\Hid (mI jg wr m it (jC l) left)/\Hid (aL wr w.heap.size 3 1 (.slice A' n' c') n' (gY zs'))/\Hid ((gY zs'++left.map (·.2)).Perm (gY zs++(jC l).map (·.2)))/\Hid (Below w.heap.size w wr))
   case atStart=>exact⟨A,n,c,zs,_,by simp[jC],rfl,HIT,zw,kH (by simp[jC,List.map_map,Function.comp_def]),HB1⟩
   case round=>
    obtain⟨A',n',c',zs',left,hgk',rfl,HI,HO',HP',HB'⟩:=hrel;rcases Cg (P:=Tryz.prog) 0 HI.out (by have:=Uv.out;omega) with⟨hl0,hnx⟩| ⟨kv,vv,left',w2,hperm,hmem,hnx,hit2,FN,hsz2,hent⟩
    ·subst hl0
     have hbr:=vX.out.below HB'.out vX.out.lt;have c0:=hbr.cell 0;have hltr:=hbr.lt
     have yX:Hid (zs'.Perm (ak (s1++[l]))):=kH (by
      have h5:=HP'.out;simp only[List.map_nil,List.append_nil]at h5;have h6:(jC l).map (·.2)=gY (l.map (·.2)):=by simp[jC,List.map_map,Function.comp_def]
      rw[h6]at h5;have h7:=aan (b:=zs++l.map (·.2)) (by simpa [gY] using h5);unfold ak;simp only[List.flatMap_append,List.flatMap_cons,List.flatMap_nil,List.append_nil]
      exact h7.trans (HP.out.append_right _))
     clear hbr;go_wp2_with fail
     go_roundg (go - 1)
     case measure=>simp at hgk;omega
     case rel=>exact⟨s1++[l],s2,p',ms',A',n',c',zs',by simp at hgk;omega,by simp[hss],rfl,rfl,iQ,HO',yX,HB'⟩
    ·obtain⟨y,hy⟩:∃y:Int,vv= .int .i64 y:=by
      simp only[jC,List.map_map,List.mem_map,Function.comp_def,Prod.mk.injEq]at hmem;obtain⟨q,_,_,h5⟩:=hmem;exact⟨q.2,h5.symm⟩
     subst hy;have hO2:=HO'.out.since FN (fun g hg h5=>HI.out.jf HO'.out (by rw[hg,h5]));have uy:=kH hO2;have abx:=kH hit2;have HB2:Hid (Below w.heap.size w w2):=kH (HB'.out.trans (FN.toBelow (by have:=HB'.out.size;omega) (fun g hg=>by have:=Uv.out;omega)));have Mr:=kH hperm
     have hn':n'<=1000000:=by
      have h5:=HP'.out.length_eq;have h6:zs'.length=n':=by simpa using HO'.out.1
      have h7:zs.length=n:=by simpa using HO.out.1
      have h8:=HTOT.out;simp[jC]at h5;omega
     clear hmem hperm hit2 FN hO2 hsz2;go_wp2_with (at_builtin;go_must (refine dm _ rfl (.tmp 23) (.tmp 25) _ rfl w.heap.size 3 i0 _ 1 8 Tryz.underlying28 hi0 hz0 hz1 hz2 rfl (.slice A' n' c') n' (gY zs') rfl (uy.out.alloc _) ⟨w2.heap.size,0,none⟩ 1 1 [.int .i64 y] rfl rfl (DT _ _ _ (by go_simp)) (by simp[Value.oneCell']) (by simp only[maxLen];omega) (by omega) (by have:=HB2.out.size;simp;omega) ?_);intro vn w6 hown hgrow hat;obtain⟨A6,c6,nC,-,-⟩:=hown.shape;subst nC;have HOWN:=kH hown;have qV:=kH hgrow;clear hown hgrow hat)
     have hrow:=uy.out.lt;have hI6:mI jg w6 m it (jC l) left':=(abx.out.alloc _).grown qV.out (abx.out.oo.jf uy.out) (abx.out.jf uy.out);have yQ:Below w.heap.size w w6:=(HB2.out.trans ((ag _ _).mono HB2.out.size)).trans (((aF.refl (fun g=>w.heap.size<=g) _).grown qV.out (fun g hg=>.inl (hrow g hg).1)).toBelow (by have:=HB2.out.size;simp;omega) (fun g hg=>hg));go_roundg (gk - 1)
     case measure=>have:=Mr.out.length_eq;simp at this;omega
     case rel=>
      refine⟨A6,n'+1,c6,zs'++[y],left',by have:=Mr.out.length_eq;simp at this;omega,rfl,kH hI6,kH (by simpa [gY] using HOWN.out),kH ?_,kH yQ⟩;refine List.Perm.trans ?_ HP'.out;have h5:=Mr.out.map (·.2);simp only[List.map_cons]at h5;simp only[gY,List.map_append,List.map_cons,List.map_nil,List.append_assoc,List.singleton_append];exact h5.symm.append_left _
theorem XU:(Tryz.prog.info? 80).map (fun i=>(i.zero,i.size,i.bytes))=some (some (.agg #[.int .i64 0,.int .i64 0,.int .i64 0,.int .i64 0,.string ⟨#[]⟩,.slice none 0 0]),6,72):=by kernel_rfl
theorem aY.IL{K:Type}[DecidableEq K]{KK:oD K}{w w':World}{r:Nat}{m:List (K×Value)}(h:aY KK w r m)(hb:Below w.heap.size w w'):aY KK w' r m:=h.below hb h.lt
theorem aV.below{E:RC}{G:bf}{r:RS}{V:RV}{w w':World}(h:aV E G r V w)(hb:Below w.heap.size w w'):aV E G r V w' where
 blk:=h.blk.below hb h.blk.lt
 gl:=h.gl.IL hb
 fl:=h.fl.IL hb
 kn:=h.kn.IL hb
 vi:=h.vi.IL hb
 aS:=fB.of_block h.aS fun g _ hg _=>hb.block g (abH.1 hg).1
 ds:=h.ds.below hb fun g hg=>(h.ds.lt g hg).2
 us:=h.us.below hb fun g hg=>(h.us.lt g hg).2
 ps:=h.ps.below hb fun g hg=>(h.ps.lt g hg).2
 low:=h.low
 apart:=h.apart
theorem aV.pushP{E:RC}{G:bf}{r:RS}{V:RV}{w w3:World}(h:aV E G r V w)(p:Int×Dg){A3:Option Addr}{c3:Nat}
 (ho:aL w3 E.base 80 6 (.slice A3 (r.aW.length+1) c3) (r.aW.length+1) (r.aW.flatMap iI++iI p)) (hg:w.grownBy w3 (Value.slice V.pA r.aW.length V.pc).ownBlock) (M:Nat->Prop):
 aV E G { r with aW:=r.aW++[p] } { V with pA:=A3,pc:=c3 } (w3.setCell ⟨E.rp,6,none⟩ (.slice A3 (r.aW.length+1) c3))/\KX E M w (w3.setCell ⟨E.rp,6,none⟩ (.slice A3 (r.aW.length+1) c3)):=by
 have hs:aF (fun g=>g=E.rp\/(Value.slice V.pA r.aW.length V.pc).ownBlock=some g) w (w3.setCell ⟨E.rp,6,none⟩ (.slice A3 (r.aW.length+1) c3)):=
  ((aF.refl _ w).grown hg (fun g hg=>.inl (.inr hg))).setCell (.inl (.inl rfl)) _
 have hpr:(Value.slice V.pA r.aW.length V.pc).ownBlock≠some E.rp:=h.ps.bZ h.blk (by decide);have hb3:ai w3 E.rp 75 _:=h.blk.grown hg (Ne.symm hpr)
 have ik:∀{K:Type} [DecidableEq K] {KK:oD K}{q:Nat}{m:List (K×Value)},aY KK w q m->aY KK (w3.setCell ⟨E.rp,6,none⟩ (.slice A3 (r.aW.length+1) c3)) q m:=fun ha=>ha.since hs (fun h1=>by
  rcases h1 with h1|h1
  ·exact ha.qZ h.blk h1
  ·exact ha.jf h.ps h1)
 have how:∀{e size v n xs},aL w E.base e size v n xs->e≠75->e≠80->aL (w3.setCell ⟨E.rp,6,none⟩ (.slice A3 (r.aW.length+1) c3)) E.base e size v n xs:=fun ha h1 h2=>ha.since hs (fun g hg h3=>by
  rcases h3 with h3|h3
  ·exact ha.bZ h.blk h1 (by rw[hg,h3])
  ·exact ha.apart h.ps h2 g hg h3)
 refine⟨⟨?_,ik h.gl,ik h.fl,ik h.kn,ik h.vi,?_,how h.ds (by decide) (by decide),how h.us (by decide) (by decide),?_,h.low,h.apart⟩,?_⟩
 ·have:=hb3.fM 6 (.slice A3 (r.aW.length+1) c3)
  simpa using this
 ·refine fB.of_block h.aS fun g cur hg _=>hs.block g (abH.1 hg).1 fun h1=>?_
  rcases h1 with h1|h1
  ·subst h1
   have hb:w.heap[E.rp]? =some (.cells _ 75 (0,0)):=h.blk;rw[hb]at hg;simp at hg
  ·obtain⟨cur',hg'⟩:=h.ps.obj g h1
   rw[hg']at hg;simp at hg
 ·have D6:(Value.slice A3 (r.aW.length+1) c3).ownBlock≠some E.rp:=ho.bZ hb3 (by decide)
  have:=ho.setCell (p:=⟨E.rp,6,none⟩) D6 (.slice A3 (r.aW.length+1) c3);simpa using this
 ·refine aF.mono hs fun g h1=>?_
  rcases h1 with rfl|h1
  ·exact⟨h.low.1,.inl ⟨_,_,_,h.blk,.inl rfl⟩⟩
  ·obtain⟨cur,hc⟩:=h.ps.obj g h1
   exact⟨(h.ps.lt g h1).1,.inl ⟨_,_,_,hc,.inr (.inl rfl)⟩⟩
theorem aaf(w:World)(g:Nat)(a b c d e f:Value)(h0:w.cell? ⟨g,0,none⟩=some a)(h1:w.cell? ⟨g,1,none⟩=some b)(h2:w.cell? ⟨g,2,none⟩=some c)(h3:w.cell? ⟨g,3,none⟩=some d)(h4:w.cell? ⟨g,4,none⟩=some e)(h5:w.cell? ⟨g,5,none⟩=some f):
 ∀j v,[a,b,c,d,e,f][j]? =some v->w.cell? ((⟨g,0,none⟩:Addr).add j)=some v:=by
 intro j v hj
 match j,hj with
 | 0,hj=>simp at hj;subst hj;exact h0
 | 1,hj=>simp at hj;subst hj;exact h1
 | 2,hj=>simp at hj;subst hj;exact h2
 | 3,hj=>simp at hj;subst hj;exact h3
 | 4,hj=>simp at hj;subst hj;exact h4
 | 5,hj=>simp at hj;subst hj;exact h5
 | j+6,hj=>simp at hj
theorem TG(E:RC)(G:bf)(r:RS)(V:RV)(w:World)(h:aV E G r V w)(hN:r.aW.length<=1000000)(hbase:E.base<=w.heap.size)(code:Int)(n:Nat)(t:ae)(A:Option Addr)(c:Nat)(M:Nat->Prop):
 Calls Tryz.prog 201 #[.pointer (some ⟨E.rp,0,none⟩),.int .i64 code,.int .i64 (n:Int),bD t A c] w fun e w'=>e= .returned (.tuple #[])/\∃V',aV E G (qg r code n t) V' w'/\KX E M w w':=by
 obtain⟨i0,hi0,hz0,hz1,hz2⟩:=info_parts XU;have HP:Hid (qg r code n t= { r with aW:=r.aW++[((n:Int),⟨code,t.at_,t.end_,t.text⟩)] }):=kH rfl;unfold bD;obtain⟨q,hq⟩:∃q,qg r code n t=q:=⟨_,rfl⟩
 rw[hq]at HP⊢;obtain⟨k,hk0⟩:∃q,t.kind=q:=⟨_,rfl⟩
 obtain⟨x,hx0⟩:∃q,t.text=q:=⟨_,rfl⟩
 obtain⟨a,ha0⟩:∃q,t.at_=q:=⟨_,rfl⟩
 obtain⟨z,hz0'⟩:∃q,t.end_=q:=⟨_,rfl⟩
 obtain⟨m,hm0⟩:∃q,t.kids.length=q:=⟨_,rfl⟩
 rw[hk0,hx0,ha0,hz0',hm0];rw[hx0,ha0,hz0']at HP;obtain⟨np,qM⟩:∃q,r.aW.length=q:=⟨_,rfl⟩
 rw[qM]at hN;have H:=kH h;have mG:=kH qM;clear hq hk0 hx0 ha0 hz0' hm0 h qM;go_enter Tryz.func201,Tryz.ntmps201
 go_wp2_with fail
 generalize hW1:w.alloc (.cells #[.int .i64 k,.string x,.int .i64 a,.int .i64 z,.slice A m c] 24)=W1
 have hb1:Below w.heap.size w W1:=by rw[<- hW1];exact ag _ _
 have hT1:ai W1 w.heap.size 24 #[.int .i64 k,.string x,.int .i64 a,.int .i64 z,.slice A m c]:=by rw[<- hW1];exact ai.new w _ _
 have h1:=H.out.below hb1;have c6:W1.cell? ⟨E.rp,6,none⟩=some (.slice V.pA np V.pc):=by have:=h1.blk.cell 6;rw[mG.out]at this;exact this
 have f6:=h1.blk.frozen 6;have hlr:=h1.blk.lt;have hx1:=hT1.cell 1;have hx2:=hT1.cell 2;have hx3:=hT1.cell 3;have hlt:=hT1.lt;have ho1:=h1.ps;rw[mG.out]at ho1;have zw:=kH ho1;have H1:=kH h1;have HT1:=kH hT1;have HB1:=kH hb1;have hne:(Value.slice V.pA np V.pc).ownBlock≠some E.rp:=ho1.bZ h1.blk (by decide);have hne2:(Value.slice V.pA np V.pc).ownBlock≠some w.heap.size:=ho1.bZ hT1 (by decide);have fC:=kH hne;have uU:=kH hne2;have hbs:E.base<=W1.heap.size:=abF hbase hb1.size;clear hW1 ho1 h1 hT1 hb1 hne hne2;refine dY (fun w'=>w'.cell? ⟨E.rp,6,none⟩=some (.slice V.pA np V.pc)/\w'.cell? ⟨w.heap.size,1,none⟩=some (.string x)/\w'.cell? ⟨w.heap.size,2,none⟩=some (.int .i64 a)/\w'.cell? ⟨w.heap.size,3,none⟩=some (.int .i64 z)) [19] [true,true,true,true,true,true,true,true,true,true,true,true,true,true,true,false,false,false,false,false] (by kernel_rfl) (by kernel_rfl) rfl (by kernel_rfl) ?_;have hS0:W1.drew.cell? ⟨E.rp,6,none⟩=some (.slice V.pA np V.pc)/\W1.drew.cell? ⟨w.heap.size,1,none⟩=some (.string x)/\W1.drew.cell? ⟨w.heap.size,2,none⟩=some (.int .i64 a)/\W1.drew.cell? ⟨w.heap.size,3,none⟩=some (.int .i64 z):=⟨c6,hx1,hx2,hx3⟩
 iterate 15(refine gP rfl hS0 (by intro w' hSw;obtain⟨hs1,hs2,hs3,hs4⟩:=hSw;go_simp;rfl) ?_;simp only[Act.put,sA,sZ,sC])
 refine gH (w':=W1.drew.alloc (.cells #[.int .i64 (n:Int),.int .i64 code,.int .i64 a,.int .i64 z,.string x,.slice none 0 0] 80)) rfl (by go_simp;rfl) ?_ ?_
 ·exact fun _=>⟨by go_simp,by go_simp,by go_simp,by go_simp⟩
 simp only[Act.put,sA,sZ,sC];refine r9 rfl (iY _ (.tmp 12) (.tmp 23) _ rfl E.base 80 i0 _ 6 72 Tryz.underlying73 hi0 hz0 hz1 hz2 rfl (.slice V.pA np V.pc) np (r.aW.flatMap iI) rfl (zw.out.drew.alloc _) ⟨W1.heap.size,0,none⟩ 1 1 (iI ((n:Int),⟨code,a,z,x⟩)) rfl rfl (aaf _ _ _ _ _ _ _ _ (by go_simp) (by go_simp) (by go_simp) (by go_simp) (by go_simp) (by go_simp)) (by simp[iI,Value.oneCell']) (by simp only[maxLen];omega) (by omega) (by simp;omega) ?_);intro v3 w3 hown3 hgrow3 uR;obtain⟨A3,c3,hv3,-,-⟩:=hown3.shape;subst hv3;have hz3:=hgrow3.size;simp at hz3
 have q1:w3.cell? ⟨E.rp,6,none⟩=some (.slice V.pA np V.pc):=by
  rw[hgrow3.cell_far _ (by simp;omega) (fun e1=>fC.out e1.symm)];go_simp
 have q2:w3.cell? ⟨w.heap.size,1,none⟩=some (.string x):=by
  rw[hgrow3.cell_far _ (by simp;omega) (fun e1=>uU.out e1.symm)];go_simp
 have q3:w3.cell? ⟨w.heap.size,2,none⟩=some (.int .i64 a):=by
  rw[hgrow3.cell_far _ (by simp;omega) (fun e1=>uU.out e1.symm)];go_simp
 have q4:w3.cell? ⟨w.heap.size,3,none⟩=some (.int .i64 z):=by
  rw[hgrow3.cell_far _ (by simp;omega) (fun e1=>uU.out e1.symm)];go_simp
 have hB3:=ai.grown (ai.alloc (ai.drew H1.out.blk) (.cells #[.int .i64 (n:Int),.int .i64 code,.int .i64 a,.int .i64 z,.string x,.slice none 0 0] 80)) hgrow3 (fun e1=>fC.out e1.symm);have q5:=hB3.frozen 6
 have HR:Hid (∃V',aV E G q V' (w3.setCell ⟨E.rp,6,none⟩ (.slice A3 (np+1) c3))/\KX E M w (w3.setCell ⟨E.rp,6,none⟩ (.slice A3 (np+1) c3))):=kH (by
  have yO:Below W1.heap.size W1 (W1.drew.alloc (.cells #[.int .i64 (n:Int),.int .i64 code,.int .i64 a,.int .i64 z,.string x,.slice none 0 0] 80)):=((Below.refl _ _).drew).alloc (abE _) _;have h2:=H1.out.below yO;have hp:=h2.pushP ((n:Int),⟨code,a,z,x⟩) (A3:=A3) (c3:=c3) (by rw[mG.out];exact hown3) (by rw[mG.out];exact hgrow3) M;rw[mG.out]at hp;rw[HP.out]
  exact⟨_,hp.1,(KX.of_below (HB1.out.trans (yO.mono HB1.out.size))).trans hp.2 (fun g hg=>.inl hg)⟩)
 clear hB3 hown3 hgrow3 uR;refine⟨fun _=>⟨q1,q2,q3,q4⟩,?_⟩;iterate 2(simp only[Act.put,sA,sZ,sC];refine gH (w':=w3) rfl (by go_simp;rfl) (fun _=>⟨q1,q2,q3,q4⟩) ?_)
 simp only[Act.put,sA,sZ,sC];refine gZ (w':=w3.setCell ⟨E.rp,6,none⟩ (.slice A3 (np+1) c3)) rfl (by go_simp) (by simp) ?_;refine iT ?_;simp only[Act.put];go_wp2_with fail
 go_end0
 exact⟨rfl,HR.out⟩
theorem Gc:(Tryz.prog.info? 49).map (fun i=>(i.zero,i.size,i.bytes))=some (some (.agg #[.int .i64 0,.string ⟨#[]⟩,.int .i64 0,.int .i64 0]),4,40):=by kernel_rfl
theorem aV.VD{E:RC}{G:bf}{r:RS}{V:RV}{w w3:World}(h:aV E G r V w)(p:Dc){A3:Option Addr}{c3:Nat}
 (ho:aL w3 E.base 49 4 (.slice A3 (r.ds.length+1) c3) (r.ds.length+1) (r.ds.flatMap cB++cB p)) (hg:w.grownBy w3 (Value.slice V.dA r.ds.length V.dc).ownBlock) (M:Nat->Prop):
 aV E G { r with ds:=r.ds++[p] } { V with dA:=A3,dc:=c3 } (w3.setCell ⟨E.rp,3,none⟩ (.slice A3 (r.ds.length+1) c3))/\KX E M w (w3.setCell ⟨E.rp,3,none⟩ (.slice A3 (r.ds.length+1) c3)):=by
 have hs:aF (fun g=>g=E.rp\/(Value.slice V.dA r.ds.length V.dc).ownBlock=some g) w (w3.setCell ⟨E.rp,3,none⟩ (.slice A3 (r.ds.length+1) c3)):=
  ((aF.refl _ w).grown hg (fun g hg=>.inl (.inr hg))).setCell (.inl (.inl rfl)) _
 have hpr:(Value.slice V.dA r.ds.length V.dc).ownBlock≠some E.rp:=h.ds.bZ h.blk (by decide);have hb3:ai w3 E.rp 75 _:=h.blk.grown hg (Ne.symm hpr)
 have ik:∀{K:Type} [DecidableEq K] {KK:oD K}{q:Nat}{m:List (K×Value)},aY KK w q m->aY KK (w3.setCell ⟨E.rp,3,none⟩ (.slice A3 (r.ds.length+1) c3)) q m:=fun ha=>ha.since hs (fun h1=>by
  rcases h1 with h1|h1
  ·exact ha.qZ h.blk h1
  ·exact ha.jf h.ds h1)
 have how:∀{e size v n xs},aL w E.base e size v n xs->e≠75->e≠49->aL (w3.setCell ⟨E.rp,3,none⟩ (.slice A3 (r.ds.length+1) c3)) E.base e size v n xs:=fun ha h1 h2=>ha.since hs (fun g hg h3=>by
  rcases h3 with h3|h3
  ·exact ha.bZ h.blk h1 (by rw[hg,h3])
  ·exact ha.apart h.ds h2 g hg h3)
 refine⟨⟨?_,ik h.gl,ik h.fl,ik h.kn,ik h.vi,?_,?_,how h.us (by decide) (by decide),how h.ps (by decide) (by decide),h.low,h.apart⟩,?_⟩
 ·have:=hb3.fM 3 (.slice A3 (r.ds.length+1) c3)
  simpa using this
 ·refine fB.of_block h.aS fun g cur hg _=>hs.block g (abH.1 hg).1 fun h1=>?_
  rcases h1 with h1|h1
  ·subst h1
   have hb:w.heap[E.rp]? =some (.cells _ 75 (0,0)):=h.blk;rw[hb]at hg;simp at hg
  ·obtain⟨cur',hg'⟩:=h.ds.obj g h1
   rw[hg']at hg;simp at hg
 ·have D6:(Value.slice A3 (r.ds.length+1) c3).ownBlock≠some E.rp:=ho.bZ hb3 (by decide)
  have:=ho.setCell (p:=⟨E.rp,3,none⟩) D6 (.slice A3 (r.ds.length+1) c3);simpa using this
 ·refine aF.mono hs fun g h1=>?_
  rcases h1 with rfl|h1
  ·exact⟨h.low.1,.inl ⟨_,_,_,h.blk,.inl rfl⟩⟩
  ·obtain⟨cur,hc⟩:=h.ds.obj g h1
   exact⟨(h.ds.lt g h1).1,.inl ⟨_,_,_,hc,.inr (.inr (.inl rfl))⟩⟩
theorem aV.yo{E:RC}{G:bf}{r:RS}{V:RV}{w:World}(h:aV E G r V w)(i:Nat)(hi:i<r.uses.length)(M:Nat->Prop):
 ∃b off,E.uA=some ⟨b,off,none⟩/\b<w.heap.size/\(∃u,w.cell? ⟨b,off+i,none⟩=some (.int .i64 u))/\w.frozen? ⟨b,off+i,none⟩=false /\
  ∀y:Int,aV E G { r with uses:=r.uses.set i y } V (w.setCell ⟨b,off+i,none⟩ (.int .i64 y))/\KX E M w (w.setCell ⟨b,off+i,none⟩ (.int .i64 y)):=by
 obtain⟨b,off,cap,hv,-,-,hlo,hlt,hcs⟩:=h.us.form (by omega);have hA:E.uA=some ⟨b,off,none⟩:=by injection hv
 have hlen:=h.us.1;refine⟨b,off,hA,hlt,⟨_,hcs i (.int .i64 r.uses[i]) (by simp[gY,hi])⟩,?_,fun y=>?_⟩
 ·obtain⟨cur,hc⟩:=h.us.obj b (by rw[hA];rfl)
  simp[World.frozen?,hc]
 have hub:(Value.slice E.uA r.uses.length E.uc).ownBlock=some b:=by rw[hA];rfl
 have hs:aF (fun g=>g=b) w (w.setCell ⟨b,off+i,none⟩ (.int .i64 y)):=aF.setCell (S:=fun g=>g=b) (aF.refl _ w) (p:=⟨b,off+i,none⟩) (.inl rfl) _;have hbr:b≠E.rp:=fun e=>h.us.bZ h.blk (by decide) (by rw[hub,e])
 have ik:∀{K:Type} [DecidableEq K] {KK:oD K}{q:Nat}{m:List (K×Value)},aY KK w q m->aY KK (w.setCell ⟨b,off+i,none⟩ (.int .i64 y)) q m:=fun ha=>ha.since hs (fun h1=>ha.jf h.us (by rw[hub,h1]))
 have hl:(r.uses.set i y).length=r.uses.length:=List.length_set;refine⟨⟨?_,ik h.gl,ik h.fl,ik h.kn,ik h.vi,?_,h.ds.since hs (fun g hg h3=>h.ds.apart h.us (by decide) g hg (by rw[hub,h3])),?_,h.ps.since hs (fun g hg h3=>h.ps.apart h.us (by decide) g hg (by rw[hub,h3])),h.low,h.apart⟩,?_⟩
 ·have:=h.blk.far (p:=⟨b,off+i,none⟩) (Ne.symm hbr) (.int .i64 y)
  simpa [hl] using this
 ·have hv2:=h.aS
  simp only[hl];refine fB.of_block hv2 fun g cur hg hne=>hs.block g (abH.1 hg).1 fun h1=>hne (by rw[hub,h1])
 ·have h5:=h.us
  rw[hA]at h5;have:=h5.set1 i hi (.int .i64 y);simp only[hl,hA];have T9:gY (r.uses.set i y)=(gY r.uses).set i (.int .i64 y):=by simp[gY,List.map_set]
  rw[T9];exact this
 ·refine aF.mono hs fun g h1=>?_
  subst h1;obtain⟨cur,hc⟩:=h.us.obj g hub;exact⟨hlo,.inl ⟨_,_,_,hc,.inr (.inr (.inr (by rw[hA];rfl)))⟩⟩
theorem Te(E:RC)(G:bf)(r:RS)(V:RV)(w:World)(h:aV E G r V w)(hN:r.ds.length<=1000000)(hbase:E.base<=w.heap.size)(kind:Int)(n:Nat)(hn:n<r.uses.length)(t:ae)(A:Option Addr)(c:Nat)(M:Nat->Prop):
 Calls Tryz.prog 147 #[.pointer (some ⟨E.rp,0,none⟩),.int .i64 kind,.int .i64 (n:Int),bD t A c,.bool false] w fun e w'=>e= .returned (.bool true)/\∃V',aV E G (kU r kind n t) V' w'/\KX E M w w':=by
 obtain⟨i0,hi0,hz0,hz1,hz2⟩:=info_parts Gc;obtain⟨ow,how⟩:∃ow,(if kind=0\/kind=2 then(-1:Int) else r.owner)=ow:=⟨_,rfl⟩
 have HP:Hid (kU r kind n t= { r with ds:=r.ds++[⟨kind,t.text,n,ow⟩],uses:=r.uses.set n (n:Int) }):=kH (by rw[<- how];rfl);unfold bD;obtain⟨q,hq⟩:∃q,kU r kind n t=q:=⟨_,rfl⟩
 rw[hq]at HP⊢;obtain⟨k,hk0⟩:∃q,t.kind=q:=⟨_,rfl⟩
 obtain⟨x,hx0⟩:∃q,t.text=q:=⟨_,rfl⟩
 obtain⟨a,ha0⟩:∃q,t.at_=q:=⟨_,rfl⟩
 obtain⟨z,hz0'⟩:∃q,t.end_=q:=⟨_,rfl⟩
 obtain⟨m,hm0⟩:∃q,t.kids.length=q:=⟨_,rfl⟩
 rw[hk0,hx0,ha0,hz0',hm0];rw[hx0]at HP;obtain⟨np,qM⟩:∃q,r.ds.length=q:=⟨_,rfl⟩
 obtain⟨nu,hnu⟩:∃q,r.uses.length=q:=⟨_,rfl⟩
 obtain⟨ro,hro⟩:∃q,r.owner=q:=⟨_,rfl⟩
 rw[qM]at hN;rw[hnu]at hn;rw[hro]at how;have H:=kH h;have mG:=kH qM;have Bj:=kH hnu;have HRO:=kH hro;clear hq hk0 hx0 ha0 hz0' hm0 h qM hnu hro;have hW1:∃W1,W1=w.alloc (.cells #[.int .i64 k,.string x,.int .i64 a,.int .i64 z,.slice A m c] 24):=⟨_,rfl⟩
 obtain⟨W1,hW1⟩:=hW1;have hb1:Below w.heap.size w W1:=by rw[hW1];exact ag _ _
 have hT1:ai W1 w.heap.size 24 #[.int .i64 k,.string x,.int .i64 a,.int .i64 z,.slice A m c]:=by rw[hW1];exact ai.new w _ _
 have h1:=H.out.below hb1;have c3:W1.cell? ⟨E.rp,3,none⟩=some (.slice V.dA np V.dc):=by have:=h1.blk.cell 3;rw[mG.out]at this;exact this
 have c8:W1.cell? ⟨E.rp,8,none⟩=some (.int .i64 ro):=by have:=h1.blk.cell 8;rw[HRO.out]at this;exact this
 have hlr:=h1.blk.lt;have hx1:=hT1.cell 1;have hlt:=hT1.lt;have ho1:=h1.ds;rw[mG.out]at ho1;have zw:=kH ho1;have H1:=kH h1;have HB1:=kH hb1;have hne:(Value.slice V.dA np V.dc).ownBlock≠some E.rp:=ho1.bZ h1.blk (by decide);have hne2:(Value.slice V.dA np V.dc).ownBlock≠some w.heap.size:=ho1.bZ hT1 (by decide);have fC:=kH hne;have uU:=kH hne2;have hbs:E.base<=W1.heap.size:=abF hbase hb1.size;have hrw:=H.out.blk.lt;have c8w:w.cell? ⟨E.rp,8,none⟩=some (.int .i64 ro):=by have:=H.out.blk.cell 8;rw[HRO.out]at this;exact this
 clear ho1 h1 hT1 hb1 hne hne2;rcases(show kind=0\/kind=2\/(kind≠0/\kind≠2) by omega) with rfl|rfl| ⟨hk0,hk2⟩
 ·have QV:ow= -1:=by exact how.symm.trans (by simp)
  subst QV;clear how;go_enter Tryz.func147,Tryz.ntmps147
  go_wp2_with fail
  rw[<- hW1];clear hW1;refine dY (fun w'=>w'.cell? ⟨E.rp,3,none⟩=some (.slice V.dA np V.dc)/\w'.cell? ⟨w.heap.size,1,none⟩=some (.string x)) [15] [true,true,true,true,true,true,true,true,true,true,true,false,false,false,false,false] (by kernel_rfl) (by kernel_rfl) rfl (by kernel_rfl) ?_;have hS0:W1.drew.cell? ⟨E.rp,3,none⟩=some (.slice V.dA np V.dc)/\W1.drew.cell? ⟨w.heap.size,1,none⟩=some (.string x):=⟨c3,hx1⟩
  iterate 11(refine gP rfl hS0 (by intro w' hSw;obtain⟨hs1,hs2⟩:=hSw;go_simp;rfl) ?_;simp only[Act.put,sA,sZ,sC])
  refine gH (w':=W1.drew.alloc (.cells #[.int .i64 (0:Int),.string x,.int .i64 (n:Int),.int .i64 (-1)] 49)) rfl (by go_simp;rfl) ?_ ?_
  ·exact fun _=>⟨by go_simp,by go_simp⟩
  simp only[Act.put,sA,sZ,sC];refine r9 rfl (iY _ (.tmp 31) (.tmp 38) _ rfl E.base 49 i0 _ 4 40 Tryz.underlying27 hi0 hz0 hz1 hz2 rfl (.slice V.dA np V.dc) np (r.ds.flatMap cB) rfl (zw.out.drew.alloc _) ⟨W1.heap.size,0,none⟩ 1 1 (cB ⟨(0:Int),x,(n:Int),(-1)⟩) rfl rfl (rQ _ _ _ _ _ _ (by go_simp) (by go_simp) (by go_simp) (by go_simp)) (by simp[cB,Value.oneCell']) (by simp only[maxLen];omega) (by omega) (by simp;omega) ?_);intro v3 w3 hown3 hgrow3 uR;obtain⟨A3,c3',hv3,-,-⟩:=hown3.shape;subst hv3;have hz3:=hgrow3.size;simp at hz3
  have q1:w3.cell? ⟨E.rp,3,none⟩=some (.slice V.dA np V.dc):=by
   rw[hgrow3.cell_far _ (by simp;omega) (fun e1=>fC.out e1.symm)];go_simp
  have q2:w3.cell? ⟨w.heap.size,1,none⟩=some (.string x):=by
   rw[hgrow3.cell_far _ (by simp;omega) (fun e1=>uU.out e1.symm)];go_simp
  have hB3:=ai.grown (ai.alloc (ai.drew H1.out.blk) (.cells #[.int .i64 (0:Int),.string x,.int .i64 (n:Int),.int .i64 (-1)] 49)) hgrow3 (fun e1=>fC.out e1.symm);have q5:=hB3.frozen 3;obtain⟨W4,lW⟩:∃W4,w3.setCell ⟨E.rp,3,none⟩ (.slice A3 (np+1) c3')=W4:=⟨_,rfl⟩
  have HR4:Hid (aV E G { r with ds:=r.ds++[⟨(0:Int),x,(n:Int),(-1)⟩] } { V with dA:=A3,dc:=c3' } W4/\KX E M w W4):=kH (by
   have yO:Below W1.heap.size W1 (W1.drew.alloc (.cells #[.int .i64 (0:Int),.string x,.int .i64 (n:Int),.int .i64 (-1)] 49)):=((Below.refl _ _).drew).alloc (abE _) _;have h2:=H1.out.below yO;have hp:=h2.VD ⟨(0:Int),x,(n:Int),(-1)⟩ (A3:=A3) (c3:=c3') (by rw[mG.out];exact hown3) (by rw[mG.out];exact hgrow3) M;rw[mG.out,lW]at hp
   exact⟨hp.1,(KX.of_below (HB1.out.trans (yO.mono HB1.out.size))).trans hp.2 (fun g hg=>.inl hg)⟩)
  clear hB3 hown3 hgrow3 uR;refine⟨fun _=>⟨q1,q2⟩,?_⟩;iterate 2(simp only[Act.put,sA,sZ,sC];refine gH (w':=w3) rfl (by go_simp;rfl) (fun _=>⟨q1,q2⟩) ?_)
  simp only[Act.put,sA,sZ,sC];refine gZ (w':=w3.setCell ⟨E.rp,3,none⟩ (.slice A3 (np+1) c3')) rfl (by go_simp) (by simp) ?_;refine iT ?_;simp only[Act.put];rw[lW];obtain⟨bu,ou,hA,hbu,mY,hfu,hput⟩:=HR4.out.1.yo n (by rw[Bj.out];exact hn) M;obtain⟨u0,mY⟩:=mY;have c4:W4.cell? ⟨E.rp,4,none⟩=some (.slice E.uA nu E.uc):=by have:=HR4.out.1.blk.cell 4;rw[Bj.out]at this;exact this
  rw[hA]at c4;have hl4:=HR4.out.1.blk.lt
  have HR:Hid (∃V',aV E G q V' (W4.setCell ⟨bu,ou+n,none⟩ (.int .i64 (n:Int)))/\KX E M w (W4.setCell ⟨bu,ou+n,none⟩ (.int .i64 (n:Int)))):=kH (by
   obtain⟨h5,h6⟩:=hput (n:Int);rw[HP.out]
   exact⟨_,h5,HR4.out.2.trans h6 (fun g hg=>.inl hg)⟩)
  clear hput lW;go_wp2_with fail
  go_ret
  exact⟨rfl,HR.out⟩
 ·have QV:ow= -1:=by exact how.symm.trans (by simp)
  subst QV;clear how;go_enter Tryz.func147,Tryz.ntmps147
  go_wp2_with fail
  rw[<- hW1];clear hW1;refine dY (fun w'=>w'.cell? ⟨E.rp,3,none⟩=some (.slice V.dA np V.dc)/\w'.cell? ⟨w.heap.size,1,none⟩=some (.string x)) [15] [true,true,true,true,true,true,true,true,true,true,true,false,false,false,false,false] (by kernel_rfl) (by kernel_rfl) rfl (by kernel_rfl) ?_;have hS0:W1.drew.cell? ⟨E.rp,3,none⟩=some (.slice V.dA np V.dc)/\W1.drew.cell? ⟨w.heap.size,1,none⟩=some (.string x):=⟨c3,hx1⟩
  iterate 11(refine gP rfl hS0 (by intro w' hSw;obtain⟨hs1,hs2⟩:=hSw;go_simp;rfl) ?_;simp only[Act.put,sA,sZ,sC])
  refine gH (w':=W1.drew.alloc (.cells #[.int .i64 (2:Int),.string x,.int .i64 (n:Int),.int .i64 (-1)] 49)) rfl (by go_simp;rfl) ?_ ?_
  ·exact fun _=>⟨by go_simp,by go_simp⟩
  simp only[Act.put,sA,sZ,sC];refine r9 rfl (iY _ (.tmp 31) (.tmp 38) _ rfl E.base 49 i0 _ 4 40 Tryz.underlying27 hi0 hz0 hz1 hz2 rfl (.slice V.dA np V.dc) np (r.ds.flatMap cB) rfl (zw.out.drew.alloc _) ⟨W1.heap.size,0,none⟩ 1 1 (cB ⟨(2:Int),x,(n:Int),(-1)⟩) rfl rfl (rQ _ _ _ _ _ _ (by go_simp) (by go_simp) (by go_simp) (by go_simp)) (by simp[cB,Value.oneCell']) (by simp only[maxLen];omega) (by omega) (by simp;omega) ?_);intro v3 w3 hown3 hgrow3 uR;obtain⟨A3,c3',hv3,-,-⟩:=hown3.shape;subst hv3;have hz3:=hgrow3.size;simp at hz3
  have q1:w3.cell? ⟨E.rp,3,none⟩=some (.slice V.dA np V.dc):=by
   rw[hgrow3.cell_far _ (by simp;omega) (fun e1=>fC.out e1.symm)];go_simp
  have q2:w3.cell? ⟨w.heap.size,1,none⟩=some (.string x):=by
   rw[hgrow3.cell_far _ (by simp;omega) (fun e1=>uU.out e1.symm)];go_simp
  have hB3:=ai.grown (ai.alloc (ai.drew H1.out.blk) (.cells #[.int .i64 (2:Int),.string x,.int .i64 (n:Int),.int .i64 (-1)] 49)) hgrow3 (fun e1=>fC.out e1.symm);have q5:=hB3.frozen 3;obtain⟨W4,lW⟩:∃W4,w3.setCell ⟨E.rp,3,none⟩ (.slice A3 (np+1) c3')=W4:=⟨_,rfl⟩
  have HR4:Hid (aV E G { r with ds:=r.ds++[⟨(2:Int),x,(n:Int),(-1)⟩] } { V with dA:=A3,dc:=c3' } W4/\KX E M w W4):=kH (by
   have yO:Below W1.heap.size W1 (W1.drew.alloc (.cells #[.int .i64 (2:Int),.string x,.int .i64 (n:Int),.int .i64 (-1)] 49)):=((Below.refl _ _).drew).alloc (abE _) _;have h2:=H1.out.below yO;have hp:=h2.VD ⟨(2:Int),x,(n:Int),(-1)⟩ (A3:=A3) (c3:=c3') (by rw[mG.out];exact hown3) (by rw[mG.out];exact hgrow3) M;rw[mG.out,lW]at hp
   exact⟨hp.1,(KX.of_below (HB1.out.trans (yO.mono HB1.out.size))).trans hp.2 (fun g hg=>.inl hg)⟩)
  clear hB3 hown3 hgrow3 uR;refine⟨fun _=>⟨q1,q2⟩,?_⟩;iterate 2(simp only[Act.put,sA,sZ,sC];refine gH (w':=w3) rfl (by go_simp;rfl) (fun _=>⟨q1,q2⟩) ?_)
  simp only[Act.put,sA,sZ,sC];refine gZ (w':=w3.setCell ⟨E.rp,3,none⟩ (.slice A3 (np+1) c3')) rfl (by go_simp) (by simp) ?_;refine iT ?_;simp only[Act.put];rw[lW];obtain⟨bu,ou,hA,hbu,mY,hfu,hput⟩:=HR4.out.1.yo n (by rw[Bj.out];exact hn) M;obtain⟨u0,mY⟩:=mY;have c4:W4.cell? ⟨E.rp,4,none⟩=some (.slice E.uA nu E.uc):=by have:=HR4.out.1.blk.cell 4;rw[Bj.out]at this;exact this
  rw[hA]at c4;have hl4:=HR4.out.1.blk.lt
  have HR:Hid (∃V',aV E G q V' (W4.setCell ⟨bu,ou+n,none⟩ (.int .i64 (n:Int)))/\KX E M w (W4.setCell ⟨bu,ou+n,none⟩ (.int .i64 (n:Int)))):=kH (by
   obtain⟨h5,h6⟩:=hput (n:Int);rw[HP.out]
   exact⟨_,h5,HR4.out.2.trans h6 (fun g hg=>.inl hg)⟩)
  clear hput lW;go_wp2_with fail
  go_ret
  exact⟨rfl,HR.out⟩
 ·have QV:ow=ro:=by rw[<- how,if_neg (by omega)]
  subst QV;clear how;go_enter Tryz.func147,Tryz.ntmps147
  go_wp2_with fail
  ·have hor:(kind==0)=true\/(kind==2)=true:=by assumption
   exfalso
   rcases hor with e|e
   ·exact hk0 (by simpa using e)
   ·exact hk2 (by simpa using e)
  rw[<- hW1];clear hW1;refine dY (fun w'=>w'.cell? ⟨E.rp,3,none⟩=some (.slice V.dA np V.dc)/\w'.cell? ⟨w.heap.size,1,none⟩=some (.string x)) [15] [true,true,true,true,true,true,true,true,true,true,true,false,false,false,false,false] (by kernel_rfl) (by kernel_rfl) rfl (by kernel_rfl) ?_;have hS0:W1.drew.cell? ⟨E.rp,3,none⟩=some (.slice V.dA np V.dc)/\W1.drew.cell? ⟨w.heap.size,1,none⟩=some (.string x):=⟨c3,hx1⟩
  iterate 11(refine gP rfl hS0 (by intro w' hSw;obtain⟨hs1,hs2⟩:=hSw;go_simp;rfl) ?_;simp only[Act.put,sA,sZ,sC])
  refine gH (w':=W1.drew.alloc (.cells #[.int .i64 kind,.string x,.int .i64 (n:Int),.int .i64 ow] 49)) rfl (by go_simp;rfl) ?_ ?_
  ·exact fun _=>⟨by go_simp,by go_simp⟩
  simp only[Act.put,sA,sZ,sC];refine r9 rfl (iY _ (.tmp 31) (.tmp 38) _ rfl E.base 49 i0 _ 4 40 Tryz.underlying27 hi0 hz0 hz1 hz2 rfl (.slice V.dA np V.dc) np (r.ds.flatMap cB) rfl (zw.out.drew.alloc _) ⟨W1.heap.size,0,none⟩ 1 1 (cB ⟨kind,x,(n:Int),ow⟩) rfl rfl (rQ _ _ _ _ _ _ (by go_simp) (by go_simp) (by go_simp) (by go_simp)) (by simp[cB,Value.oneCell']) (by simp only[maxLen];omega) (by omega) (by simp;omega) ?_);intro v3 w3 hown3 hgrow3 uR;obtain⟨A3,c3',hv3,-,-⟩:=hown3.shape;subst hv3;have hz3:=hgrow3.size;simp at hz3
  have q1:w3.cell? ⟨E.rp,3,none⟩=some (.slice V.dA np V.dc):=by
   rw[hgrow3.cell_far _ (by simp;omega) (fun e1=>fC.out e1.symm)];go_simp
  have q2:w3.cell? ⟨w.heap.size,1,none⟩=some (.string x):=by
   rw[hgrow3.cell_far _ (by simp;omega) (fun e1=>uU.out e1.symm)];go_simp
  have hB3:=ai.grown (ai.alloc (ai.drew H1.out.blk) (.cells #[.int .i64 kind,.string x,.int .i64 (n:Int),.int .i64 ow] 49)) hgrow3 (fun e1=>fC.out e1.symm);have q5:=hB3.frozen 3;obtain⟨W4,lW⟩:∃W4,w3.setCell ⟨E.rp,3,none⟩ (.slice A3 (np+1) c3')=W4:=⟨_,rfl⟩
  have HR4:Hid (aV E G { r with ds:=r.ds++[⟨kind,x,(n:Int),ow⟩] } { V with dA:=A3,dc:=c3' } W4/\KX E M w W4):=kH (by
   have yO:Below W1.heap.size W1 (W1.drew.alloc (.cells #[.int .i64 kind,.string x,.int .i64 (n:Int),.int .i64 ow] 49)):=((Below.refl _ _).drew).alloc (abE _) _;have h2:=H1.out.below yO;have hp:=h2.VD ⟨kind,x,(n:Int),ow⟩ (A3:=A3) (c3:=c3') (by rw[mG.out];exact hown3) (by rw[mG.out];exact hgrow3) M;rw[mG.out,lW]at hp
   exact⟨hp.1,(KX.of_below (HB1.out.trans (yO.mono HB1.out.size))).trans hp.2 (fun g hg=>.inl hg)⟩)
  clear hB3 hown3 hgrow3 uR;refine⟨fun _=>⟨q1,q2⟩,?_⟩;iterate 2(simp only[Act.put,sA,sZ,sC];refine gH (w':=w3) rfl (by go_simp;rfl) (fun _=>⟨q1,q2⟩) ?_)
  simp only[Act.put,sA,sZ,sC];refine gZ (w':=w3.setCell ⟨E.rp,3,none⟩ (.slice A3 (np+1) c3')) rfl (by go_simp) (by simp) ?_;refine iT ?_;simp only[Act.put];rw[lW];obtain⟨bu,ou,hA,hbu,mY,hfu,hput⟩:=HR4.out.1.yo n (by rw[Bj.out];exact hn) M;obtain⟨u0,mY⟩:=mY;have c4:W4.cell? ⟨E.rp,4,none⟩=some (.slice E.uA nu E.uc):=by have:=HR4.out.1.blk.cell 4;rw[Bj.out]at this;exact this
  rw[hA]at c4;have hl4:=HR4.out.1.blk.lt
  have HR:Hid (∃V',aV E G q V' (W4.setCell ⟨bu,ou+n,none⟩ (.int .i64 (n:Int)))/\KX E M w (W4.setCell ⟨bu,ou+n,none⟩ (.int .i64 (n:Int)))):=kH (by
   obtain⟨h5,h6⟩:=hput (n:Int);rw[HP.out]
   exact⟨_,h5,HR4.out.2.trans h6 (fun g hg=>.inl hg)⟩)
  clear hput lW;go_wp2_with fail
  go_ret
  exact⟨rfl,HR.out⟩
theorem fq(t:ae)(A:Option Addr)(c:Nat):∃(k:Int) (x:ByteArray) (a z:Int) (m:Nat),t.kind=k/\t.text=x/\t.at_=a/\t.end_=z/\t.kids.length=m/\bD t A c= .agg #[.int .i64 k,.string x,.int .i64 a,.int .i64 z,.slice A m c]:=⟨_,_,_,_,_,rfl,rfl,rfl,rfl,rfl,rfl⟩
theorem AY(E:RC)(G:bf)(r:RS)(V:RV)(w:World)(h:aV E G r V w)(hN:r.ds.length<=1000000)(hP:r.aW.length<=1000000)(hbase:E.base<=w.heap.size)(kind:Int)(n:Nat)(hn:n<r.uses.length)(t:ae)(A:Option Addr)(c:Nat)(al:Bool)(M:Nat->Prop):
 Calls Tryz.prog 147 #[.pointer (some ⟨E.rp,0,none⟩),.int .i64 kind,.int .i64 (n:Int),bD t A c,.bool al] w fun e w'=>e= .returned (.bool (!al))/\∃V',aV E G (aU r kind n t al) V' w'/\KX E M w w':=by
 cases al
 ·exact Te E G r V w h hN hbase kind n hn t A c M
 ·obtain⟨k,x,a,z,m,-,-,-,-,-,hv⟩:=fq t A c
  rw[hv];have hb1:Below w.heap.size w (w.alloc (.cells #[.int .i64 k,.string x,.int .i64 a,.int .i64 z,.slice A m c] 24)):=ag _ _;have hs:=TG E G r V (w.alloc (.cells #[.int .i64 k,.string x,.int .i64 a,.int .i64 z,.slice A m c] 24)) (h.below hb1) hP (abF hbase hb1.size) 9 n t A c M;rw[hv]at hs;have HB1:=kH hb1;have HS:=kH hs;clear hs hb1 hv h;go_enter Tryz.func147,Tryz.ntmps147
  go_wp2_with fail
  refine HS.out.mono ?_;rintro e w2 ⟨rfl,V2,h2,k2⟩;have HE:Hid (∃V',aV E G (aU r kind n t true) V' w2/\KX E M w w2):=kH ⟨V2,h2,(KX.of_below HB1.out).trans k2 (fun g hg=>.inl hg)⟩;clear h2 k2 HS HB1;go_wp2_with fail
  go_ret
  exact⟨rfl,HE.out⟩
theorem use_any(E:RC)(G:bf)(r:RS)(V:RV)(w:World)(h:aV E G r V w)(hP:r.aW.length<=1000000)(hbase:E.base<=w.heap.size)(n:Nat)(hn:n<r.uses.length)(t:ae)(A:Option Addr)(c:Nat)(tq:Option Int)(y:Int)(hy:∀k,tq=some k->k=y)(M:Nat->Prop):
 Calls Tryz.prog 149 #[.pointer (some ⟨E.rp,0,none⟩),.int .i64 (n:Int),bD t A c,.int .i64 y,.bool tq.isSome] w fun e w'=>e= .returned (.tuple #[])/\∃V',aV E G (gT r n t tq) V' w'/\KX E M w w':=by
 obtain⟨k,x,a,z,m,-,-,-,-,-,hv⟩:=fq t A c;have hb1:Below w.heap.size w (w.alloc (.cells #[.int .i64 k,.string x,.int .i64 a,.int .i64 z,.slice A m c] 24)):=ag _ _
 cases tq with
 | none=>
  have hs:=TG E G r V (w.alloc (.cells #[.int .i64 k,.string x,.int .i64 a,.int .i64 z,.slice A m c] 24)) (h.below hb1) hP (abF hbase hb1.size) 8 n t A c M;rw[hv]at hs⊢;have HB1:=kH hb1;have HS:=kH hs;clear hs hb1 hv h;go_enter Tryz.func149,Tryz.ntmps149
  go_wp2_with fail
  refine HS.out.mono ?_;rintro e w2 ⟨rfl,V2,h2,k2⟩;have HE:Hid (∃V',aV E G (gT r n t none) V' w2/\KX E M w w2):=kH ⟨V2,h2,(KX.of_below HB1.out).trans k2 (fun g hg=>.inl hg)⟩;clear h2 k2 HS HB1;go_wp2_with fail
  try simp only[Exit.inBlock,Exit.then]
  refine bodyPost_ret (results_none rfl _ _ _) rfl ?_;exact⟨rfl,HE.out⟩
 | some y'=>
  obtain rfl:y'=y:=hy y' rfl;rw[hv];show Calls Tryz.prog 149 #[.pointer (some ⟨E.rp,0,none⟩),.int .i64 (n:Int),.agg #[.int .i64 k,.string x,.int .i64 a,.int .i64 z,.slice A m c],.int .i64 y',.bool true] w _;obtain⟨W1,hW1⟩:∃W1,w.alloc (.cells #[.int .i64 k,.string x,.int .i64 a,.int .i64 z,.slice A m c] 24)=W1:=⟨_,rfl⟩
  rw[hW1]at hb1;have h1:=h.below hb1;obtain⟨bu,ou,hA,hbu,mY,hfu,hput⟩:=h1.yo n hn M;obtain⟨u0,mY⟩:=mY;obtain⟨nu,hnu⟩:∃q,r.uses.length=q:=⟨_,rfl⟩
  rw[hnu]at hn;have c4:W1.cell? ⟨E.rp,4,none⟩=some (.slice E.uA nu E.uc):=by have:=h1.blk.cell 4;rw[hnu]at this;exact this
  rw[hA]at c4;have hl4:=h1.blk.lt
  have HR:Hid (∃V',aV E G (gT r n t (some y')) V' (W1.setCell ⟨bu,ou+n,none⟩ (.int .i64 y'))/\KX E M w (W1.setCell ⟨bu,ou+n,none⟩ (.int .i64 y'))):=kH (by
   obtain⟨h5,h6⟩:=hput y'
   exact⟨_,h5,(KX.of_below hb1).trans h6 (fun g hg=>.inl hg)⟩)
  clear hput hv h h1 hnu hb1;go_enter Tryz.func149,Tryz.ntmps149
  go_wp2_with (rw[hW1])
  go_end0
  exact⟨rfl,HR.out⟩
end Go.Proofs.YtoepemlnlpamlaaGreat
