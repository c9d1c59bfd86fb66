/- The law NamesStand holds: for every text and every number the law returns true, and its arguments read as before. No condition. Part 17: Nam2 Shp2 TreeAt Tr3 Nam3. -/
import Derived.Test.YtoepemlnlpamlaaGreatStand01
import Derived.Test.YtoepemlnlpamlaaGreatStand03
import Derived.Test.YtoepemlnlpamlaaGreatStand05
import Derived.Test.YtoepemlnlpamlaaGreatStand16
set_option maxRecDepth 100000
set_option maxHeartbeats 4000000
namespace Go.Proofs.YtoepemlnlpamlaaGreat
open Go.RowKit
theorem Ag:(Tryz.prog.info? 3).map (fun i=>(i.zero,i.size,i.bytes))=some (some (.int .i64 0),1,8):=by kernel_rfl
def ZM:Value->Int
 | .int _ z=>z
 | _=>0
theorem Yr{a b:List Int}(h:(jN a).Perm (jN b)):a.Perm b:=by
 have:=h.map ZM;simpa [jN,List.map_map,Function.comp_def,ZM] using this
theorem Mc{a b:List Int}(h:a.Perm b):(a.mergeSort fun x y=>decide (x<=y))=ah b:=by
 unfold ah;have ht:∀x y z:Int,(decide (x<=y))=true->(decide (y<=z))=true->(decide (x<=z))=true:=by intro x y z h1 h2;simp at*;omega
 have RO:∀x y:Int,(decide (x<=y) || decide (y<=x))=true:=by intro x y;simp;omega
 refine List.Perm.eq_of_pairwise (le:=fun x y=>x<=y) ?_ ?_ ?_ ?_
 ·intro x y _ _ h1 h2;omega
 ·exact(List.pairwise_mergeSort ht RO a).imp (by simp)
 ·exact(List.pairwise_mergeSort ht RO b).imp (by simp)
 ·exact(List.mergeSort_perm a _).trans (h.trans (List.mergeSort_perm b _).symm)
theorem aW.below{w w':World}{base:Nat}(hb:Below w.heap.size w w'):∀{s:aT}{p:Option Addr}{ms:List Nat},aW w base p s ms->aW w' base p s ms
 | [],_,_,hs=>hs
 | _::_,_,_,⟨b,m,p',ms',h1,h2,h3,h4,h5,h6,h7⟩=>⟨b,m,p',ms',h1,h2,h3,h4,h5.below hb h5.lt,h6.below hb h6.lt,aW.below hb h7⟩
theorem mU.jy{K:Type}[DecidableEq K]{KK:oM K}{w:World}{r b:Nat}{m:List (K×Value)}{left:List (Value×Value)}{base:Nat}{e:TypeId}{size:Nat}{v:Value}{n:Nat}{xs:List Value}(h:mU KK w r b m left)(ho:aP w base e size v n xs):v.ownBlock≠some b:=by
 intro hv;obtain⟨cur,hg⟩:=ho.obj b hv;obtain⟨es,clock,seen,c0,h1,h2,h3,h4,h5,_⟩:=h;rw[h5]at hg;cases hg
theorem mU.grown{K:Type}[DecidableEq K]{KK:oM K}{w w':World}{r b:Nat}{m:List (K×Value)}{left:List (Value×Value)}(h:mU KK w r b m left){row:Option Nat}(hg:w.grownBy w' row)(h1:row≠some r)(h2:row≠some b):mU KK w' r b m left:=by
 have hr:=h.oH.lt
 have hb:b<w.heap.size:=by
  obtain⟨es,clock,seen,c0,_,_,_,_,h5,_⟩:=h;exact(aae.1 h5).1
 exact h.keep (hg.block r hr (Ne.symm h1)) (hg.block b hb (Ne.symm h2))
theorem mU.alloc{K:Type}[DecidableEq K]{KK:oM K}{w:World}{r b:Nat}{m:List (K×Value)}{left:List (Value×Value)}(h:mU KK w r b m left)(o:Obj):mU KK (w.alloc o) r b m left:=
 h.grown (World.grownBy_alloc w o none) (by simp) (by simp)
theorem oz(base:Nat)(s:aT)(p:Option Addr)(ms:List Nat)(w:World)(hs:aW w base p s ms)(hn:(aj s).length<=1000000):
 Calls Tryz.prog 145 #[.pointer p] w fun e w'=> ∃v,e= .returned v/\aP w' w.heap.size 3 1 v (aj s).length (jN (ah (aj s)))/\Below w.heap.size w w':=by
 obtain⟨i0,hi0,hz0,hz1,hz2⟩:=info_parts Ag;have HN:=kH hn;have HS:=kH hs;clear hn hs;go_enter Tryz.func145,Tryz.ntmps145
 go_wp2_with fail
 go_loopg [3,4] s.length (fun gk s3 s4 wr=> ∃(s1 s2:aT) (p2:Option Addr) (wG:List Nat) (A:Option Addr) (n c:Nat) (zs:List Int),gk=s2.length/\s=s1++s2/\s4= .pointer p2/\s3= .slice A n c/\Hid (aW w base p2 s2 wG)/\Hid (aP wr w.heap.size 3 1 (.slice A n c) n (jN zs))/\Hid (zs.Perm (aj s1))/\Hid (Below w.heap.size w wr))
 case atStart=>exact⟨[],s,p,ms,none,0,0,[],rfl,rfl,rfl,rfl,HS,kH (aP.nil _ _ _ _),kH List.Perm.nil,kH (Below.refl _ _)⟩
 case round=>
  obtain⟨s1,s2,p2,wG,A,n,c,zs,hgk,hss,rfl,rfl,HS2,HO,HP,HB⟩:=hrel
  cases s2 with
  | nil=>
   obtain⟨rfl,rfl⟩:=HS2.out;have hse:s=s1:=by simpa using hss
   have hnz:zs.length=n:=by simpa using HO.out.1
   have hnl:n=(aj s).length:=by rw[<- hnz,hse];exact HP.out.length_eq
   have HNL:=kH hnl;have hcall:=Zn (.slice A n c) w.heap.size n zs wr HO.out (by have:=HN.out;omega);have HC:=kH hcall;have HSE:=kH hse;clear hcall hnl hnz hse hss;go_wp2_with fail
   refine HC.out.mono ?_;rintro e w5 ⟨rfl,jY,hg5⟩;have hb5:Below w.heap.size w w5:=HB.out.trans (((aA.refl (fun g=>w.heap.size<=g) wr).grown hg5 (fun g hg=>.inl (HO.out.lt g hg).1)).toBelow HB.out.size (fun g hg=>hg));rw[Mc HP.out,<- HSE.out]at jY;have zm:=kH jY;have fT:=kH hb5;clear jY hb5 hg5;go_wp2_with fail
   go_ret
   exact⟨_,rfl,by have:=zm.out;rw[HNL.out]at this⊢;exact this,fT.out⟩
  | cons l s2=>
   obtain⟨b,m,p',ms',rfl,rfl,h1,h2,hb0,hm0,hs3⟩:=HS2.out;have hB:=HB.out;have hb:=hb0.below hB hb0.lt;have hm:=hm0.below hB hm0.lt;have c0:=hb.cell 0;have c1:=hb.cell 1;have hlt:=hb.lt;obtain⟨w1,hr1,hit,hb1,hsz1⟩:=zV (P:=Tryz.prog) (t:=70) (kt:=9) (et:=3) Tryz.underlying70 hm;have hbw:=hb0.lt;have hmw:=hm0.lt;have HIT:=kH hit;have xm:=HO.out.below hb1 (fun g hg=>(HO.out.lt g hg).2);have KW:=kH xm;have HB1:=kH (hB.trans (hb1.mono hB.size));have yK:=kH hb0;have jE:=kH hs3;have Sy:Hid (w.heap.size<=wr.heap.size):=kH hB.size
   have HTOT:Hid (n+l.length<=1000000):=kH (by
    have h5:=HN.out;rw[hss]at h5;unfold aj at h5;simp only[List.flatMap_append,List.flatMap_cons,aam,List.length_map]at h5;have h6:=HP.out.length_eq;unfold aj at h6;have h7:zs.length=n:=by simpa using HO.out.1
    omega)
   clear hit hb1 hB hb hs3 hm HS2 xm hb0 hm0;go_wp2_with fail
   obtain⟨wo,hwo⟩:∃wo:World,wo=wr:=⟨_,rfl⟩
   subst hwo;obtain⟨go,hgo⟩:∃go:Nat,go=gk:=⟨_,rfl⟩
   subst hgo;obtain⟨it,yU⟩:∃it,wo.heap.size=it:=⟨_,rfl⟩
   rw[yU]at HIT Sy⊢;go_loopg [3] l.length (fun gk s3 wr=> ∃(A':Option Addr) (n' c':Nat) (zs':List Int) (left:List (Value×Value)),gk=left.length/\s3= .slice A' n' c'/\Hid (mU jB wr m it (jV l) left)/\Hid (aP wr w.heap.size 3 1 (.slice A' n' c') n' (jN zs'))/\Hid ((jN zs'++left.map (·.2)).Perm (jN zs++(jV l).map (·.2)))/\Hid (Below w.heap.size w wr))
   case atStart=>exact⟨A,n,c,zs,_,by simp[jV],rfl,HIT,KW,kH (by simp[jV,List.map_map,Function.comp_def]),HB1⟩
   case round=>
    obtain⟨A',n',c',zs',left,hgk',rfl,HI,HO',HP',HB'⟩:=hrel;rcases BU (P:=Tryz.prog) 0 HI.out (by have:=Sy.out;omega) with⟨hl0,hnx⟩| ⟨kv,vv,left',w2,hperm,hmem,hnx,hit2,E5,hsz2,hent⟩
    ·subst hl0
     have hbr:=yK.out.below HB'.out yK.out.lt;have c0:=hbr.cell 0;have hltr:=hbr.lt
     have yJ:Hid (zs'.Perm (aj (s1++[l]))):=kH (by
      have h5:=HP'.out;simp only[List.map_nil,List.append_nil]at h5;have h6:(jV l).map (·.2)=jN (l.map (·.2)):=by simp[jV,List.map_map,Function.comp_def]
      rw[h6]at h5;have h7:=Yr (b:=zs++l.map (·.2)) (by simpa [jN] using h5);unfold aj;simp only[List.flatMap_append,List.flatMap_cons,List.flatMap_nil,List.append_nil]
      exact h7.trans (HP.out.append_right _))
     clear hbr;go_wp2_with fail
     go_roundg (go - 1)
     case measure=>simp at hgk;omega
     case rel=>exact⟨s1++[l],s2,p',ms',A',n',c',zs',by simp at hgk;omega,by simp[hss],rfl,rfl,jE,HO',yJ,HB'⟩
    ·obtain⟨y,hy⟩:∃y:Int,vv= .int .i64 y:=by
      simp only[jV,List.map_map,List.mem_map,Function.comp_def,Prod.mk.injEq]at hmem;obtain⟨q,_,_,h5⟩:=hmem;exact⟨q.2,h5.symm⟩
     subst hy;have hO2:=HO'.out.since E5 (fun g hg h5=>HI.out.jy HO'.out (by rw[hg,h5]));have xx:=kH hO2;have ZC:=kH hit2;have HB2:Hid (Below w.heap.size w w2):=kH (HB'.out.trans (E5.toBelow (by have:=HB'.out.size;omega) (fun g hg=>by have:=Sy.out;omega)));have KU:=kH hperm
     have hn':n'<=1000000:=by
      have h5:=HP'.out.length_eq;have h6:zs'.length=n':=by simpa using HO'.out.1
      have h7:zs.length=n:=by simpa using HO.out.1
      have h8:=HTOT.out;simp[jV]at h5;omega
     clear hmem hperm hit2 E5 hO2 hsz2;go_wp2_with (at_builtin;go_must (refine dP _ rfl (.tmp 23) (.tmp 25) _ rfl w.heap.size 3 i0 _ 1 8 Tryz.underlying28 hi0 hz0 hz1 hz2 rfl (.slice A' n' c') n' (jN zs') rfl (xx.out.alloc _) ⟨w2.heap.size,0,none⟩ 1 1 [.int .i64 y] rfl rfl (Db _ _ _ (by go_simp)) (by simp[Value.oneCell']) (by simp only[maxLen];omega) (by omega) (by have:=HB2.out.size;simp;omega) ?_);intro vn w6 hown hgrow hat;obtain⟨A6,c6,eG,-,-⟩:=hown.shape;subst eG;have HOWN:=kH hown;have pz:=kH hgrow;clear hown hgrow hat)
     have hrow:=xx.out.lt;have hI6:mU jB w6 m it (jV l) left':=(ZC.out.alloc _).grown pz.out (ZC.out.oH.jy xx.out) (ZC.out.jy xx.out);have BH:Below w.heap.size w w6:=(HB2.out.trans ((ae _ _).mono HB2.out.size)).trans (((aA.refl (fun g=>w.heap.size<=g) _).grown pz.out (fun g hg=>.inl (hrow g hg).1)).toBelow (by have:=HB2.out.size;simp;omega) (fun g hg=>hg));go_roundg (gk - 1)
     case measure=>have:=KU.out.length_eq;simp at this;omega
     case rel=>
      refine⟨A6,n'+1,c6,zs'++[y],left',by have:=KU.out.length_eq;simp at this;omega,rfl,kH hI6,kH (by simpa [jN] using HOWN.out),kH ?_,kH BH⟩;refine List.Perm.trans ?_ HP'.out;have h5:=KU.out.map (·.2);simp only[List.map_cons]at h5;simp only[jN,List.map_append,List.map_cons,List.map_nil,List.append_assoc,List.singleton_append];exact h5.symm.append_left _
theorem sH(A:Option Addr)(n c:Nat)(l:List Int)(w:World)(h1:df 1 iO w w.heap.size A l)(hl:l.length=n)(hn:n<=1000000):
 Calls Tryz.prog 189 #[.slice A n c] w fun e w'=> ∃v,e= .returned v/\jU w' v (fun k=>l.any fun y=>decide (k=y))/\Below w.heap.size w w':=by
 have H1:=kH h1;have HL:=kH hl;clear h1 hl;go_enter Tryz.func189,Tryz.ntmps189
 go_wp2_with fail
 refine bodyPost_ret (v:=.func (Fn.func 233) #[] #[.pointer (some ⟨w.heap.size,0,none⟩)]) (by simp[results,Tryz.results189,go_sem]) rfl ?_;refine⟨_,rfl,⟨_,_,rfl,fun args w=>by go_simp,fun k w' hb hsz=>?_⟩,ae _ _⟩;have hbn:=ak.new w 28 #[.slice A n c];have hbk:ak w' w.heap.size 28 #[.slice A n c]:=hb.blk hbn;have hc:w'.cell? ⟨w.heap.size,0,none⟩=some (.slice A n c):=hbk.cell 0;have hr:df 1 iO w' w'.heap.size A l:=((H1.out.below (ae w _) (aab _)).kc hb).mono (by simp at hsz;omega);have HR:=kH hr;have hl:=hbk.lt;clear hbn hbk hr hb hsz;show Calls Tryz.prog 233 #[.int .i64 k,.pointer (some ⟨w.heap.size,0,none⟩)] w' _;go_enter Tryz.func233,Tryz.ntmps233
 go_wp2_with fail
 refine(Nw A n c l k w' HR.out HL.out hn).mono ?_;rintro e w2 ⟨rfl,rfl⟩;go_wp2_with fail
 go_ret
 exact⟨rfl,Below.refl _ _⟩
theorem CP(A:Option Addr)(n c:Nat)(l:List ByteArray)(w:World)(h1:df 1 fP w w.heap.size A l)(hl:l.length=n)(hn:n<=1000000):
 Calls Tryz.prog 193 #[.slice A n c] w fun e w'=> ∃v,e= .returned v/\qj w' v (fun s=>nW l s)/\Below w.heap.size w w':=by
 have H1:=kH h1;have HL:=kH hl;clear h1 hl;go_enter Tryz.func193,Tryz.ntmps193
 go_wp2_with fail
 refine bodyPost_ret (v:=.func (Fn.func 235) #[] #[.pointer (some ⟨w.heap.size,0,none⟩)]) (by simp[results,Tryz.results193,go_sem]) rfl ?_;refine⟨_,rfl,⟨_,_,rfl,fun args w=>by go_simp,fun k w' hb hsz=>?_⟩,ae _ _⟩;have hbn:=ak.new w 41 #[.slice A n c];have hbk:ak w' w.heap.size 41 #[.slice A n c]:=hb.blk hbn;have hc:w'.cell? ⟨w.heap.size,0,none⟩=some (.slice A n c):=hbk.cell 0;have hr:df 1 fP w' w'.heap.size A l:=((H1.out.below (ae w _) (aab _)).kc hb).mono (by simp at hsz;omega);have HR:=kH hr;have hl:=hbk.lt;clear hbn hbk hr hb hsz;show Calls Tryz.prog 235 #[.string k,.pointer (some ⟨w.heap.size,0,none⟩)] w' _;go_enter Tryz.func235,Tryz.ntmps235
 go_wp2_with fail
 refine(Ed A n c l k w' HR.out HL.out hn).mono ?_;rintro e w2 ⟨rfl,rfl⟩;go_wp2_with fail
 go_ret
 exact⟨rfl,Below.refl _ _⟩
theorem yO(v:Value)(p:Int->Bool)(w:World)(hv:jU w v p):
 Calls Tryz.prog 191 #[v] w fun e w'=> ∃v',e= .returned v'/\jU w' v' (fun k=>decide (k=0) || p k)/\Below w.heap.size w w':=by
 obtain⟨fn,cap,rfl,hent,hcall⟩:=hv;have HENT:=kH hent;have jD:=kH hcall;clear hent hcall;go_enter Tryz.func191,Tryz.ntmps191
 go_wp2_with fail
 refine bodyPost_ret (v:=.func (Fn.func 234) #[] #[.pointer (some ⟨w.heap.size,0,none⟩)]) (by simp[results,Tryz.results191,go_sem]) rfl ?_;refine⟨_,rfl,⟨_,_,rfl,fun args w=>by go_simp,fun k w' hb hsz=>?_⟩,ae _ _⟩;have hbn:=ak.new w 54 #[.func (Fn.func fn) #[] cap];have hbk:ak w' w.heap.size 54 #[.func (Fn.func fn) #[] cap]:=hb.blk hbn;have hc:w'.cell? ⟨w.heap.size,0,none⟩=some (.func (Fn.func fn) #[] cap):=hbk.cell 0;have hb2:KC w w':=(KC.of_below (ae w _)).trans hb;have hcl:=jD.out k w' hb2 (by simp at hsz;omega);have XM:=kH hcl;have hent:=HENT.out;unfold QT at hent;have hl:=hbk.lt;clear hbn hbk hb hb2 hcl hsz;show Calls Tryz.prog 234 #[.int .i64 k,.pointer (some ⟨w.heap.size,0,none⟩)] w' fun e w''=>e= .returned (.bool (decide (k=0) || p k))/\Below w'.heap.size w' w''
 by_cases hk:k=0
 ·have hki:(k==0)=true:=by simp[hk]
  subst hk;go_enter Tryz.func234,Tryz.ntmps234
  go_wp2_with fail
  go_ret
  exact⟨rfl,Below.refl _ _⟩
 ·have hki:(k==0)=false:=by simp[hk]
  have hd:decide (k=0)=false:=decide_eq_false hk;rw[hd];clear hk hd;go_enter Tryz.func234,Tryz.ntmps234
  go_wp2_with fail
  refine XM.out.mono ?_;rintro e w2 ⟨rfl,hb2⟩;go_wp2_with fail
  go_ret
  exact⟨bQ (by simp),hb2⟩
def eQ(k:Int):Bool:=decide (k=9) || decide (k=10)
def uy(k:Int):Bool:=decide (12<=k)&&decide (k<=19)
def bA(k:Int):Bool:=decide (20<=k)&&decide (k<=29)
def nH(k:Int):Bool:=decide (k=20) || decide (k=21) || decide (k=22)
theorem Wo(w:World):jU w (.func (Fn.func 192) #[] #[]) eQ:=by
 refine⟨_,_,rfl,fun args w=>by go_simp,fun k w' _ _=>?_⟩;show Calls Tryz.prog 192 #[.int .i64 k] w' fun e w''=>e= .returned (.bool (eQ k))/\Below w'.heap.size w' w''
 go_enter Tryz.func192,Tryz.ntmps192
 go_wp2_with fail
 all_goals go_ret
 all_goals exact⟨bQ (by unfold eQ;rw[Bool.eq_iff_iff];simp<;>omega),Below.refl _ _⟩
theorem Wp(w:World):jU w (.func (Fn.func 197) #[] #[]) uy:=by
 refine⟨_,_,rfl,fun args w=>by go_simp,fun k w' _ _=>?_⟩;show Calls Tryz.prog 197 #[.int .i64 k] w' fun e w''=>e= .returned (.bool (uy k))/\Below w'.heap.size w' w''
 go_enter Tryz.func197,Tryz.ntmps197
 go_wp2_with fail
 all_goals go_ret
 all_goals exact⟨bQ (by unfold uy;rw[Bool.eq_iff_iff];simp<;>omega),Below.refl _ _⟩
theorem kF(w:World):jU w (.func (Fn.func 190) #[] #[]) bA:=by
 refine⟨_,_,rfl,fun args w=>by go_simp,fun k w' _ _=>?_⟩;show Calls Tryz.prog 190 #[.int .i64 k] w' fun e w''=>e= .returned (.bool (bA k))/\Below w'.heap.size w' w''
 go_enter Tryz.func190,Tryz.ntmps190
 go_wp2_with fail
 all_goals go_ret
 all_goals exact⟨bQ (by unfold bA;rw[Bool.eq_iff_iff];simp<;>omega),Below.refl _ _⟩
theorem Us(w:World):jU w (.func (Fn.func 198) #[] #[]) nH:=by
 refine⟨_,_,rfl,fun args w=>by go_simp,fun k w' _ _=>?_⟩;show Calls Tryz.prog 198 #[.int .i64 k] w' fun e w''=>e= .returned (.bool (nH k))/\Below w'.heap.size w' w''
 go_enter Tryz.func198,Tryz.ntmps198
 go_wp2_with fail
 all_goals go_ret
 all_goals exact⟨bQ (by unfold nH;rw[Bool.eq_iff_iff];simp<;>omega),Below.refl _ _⟩
theorem oL(w:World):qj w (.func (Fn.func 194) #[] #[]) (fun s=>decide (s.size=0)):=by
 refine⟨_,_,rfl,fun args w=>by go_simp,fun s w' _ _=>?_⟩;show Calls Tryz.prog 194 #[.string s] w' fun e w''=>e= .returned (.bool (decide (s.size=0)))/\Below w'.heap.size w' w''
 have he:=Af s;go_enter Tryz.func194,Tryz.ntmps194
 go_wp2_with fail
 go_ret
 exact⟨bQ (by first|rfl|simp),Below.refl _ _⟩
theorem qB(w:World):qj w (.func (Fn.func 53) #[] #[]) (fun s=>zB s.data.toList):=
 ⟨_,_,rfl,fun args w=>by go_simp,fun s w' _ _=>Wi s w'⟩
def qA(s:ByteArray):Bool:=(jw s.data.toList).isSome&&(decide (s=⟨#[48]⟩) || decide (bz s.data.toList 0≠48))
theorem Ml(w:World):qj w (.func (Fn.func 196) #[] #[]) qA:=by
 refine⟨_,_,rfl,fun args w=>by go_simp,fun s w' _ _=>?_⟩;show Calls Tryz.prog 196 #[.string s] w' fun e w''=>e= .returned (.bool (qA s))/\Below w'.heap.size w' w''
 have hn:=Ra s w';obtain⟨b1,hb1⟩:∃b,(jw s.data.toList).isSome=b:=⟨_,rfl⟩
 rw[hb1]at hn
 have hp:b1=true->0<s.size:=by
  intro h;rw[h]at hb1;unfold jw at hb1;split at hb1
  ·cases hb1
  ·rename_i h2
   rw[dm]at h2;omega
 have HN:=kH hn;have HB1:=kH hb1;have HP:=kH hp;clear hn hb1 hp;cases b1
 ·have hr:qA s=false:=by unfold qA;rw[HB1.out];rfl
  rw[hr];clear hr;go_enter Tryz.func196,Tryz.ntmps196
  go_wp2_with fail
  refine HN.out.mono ?_;rintro e w1 ⟨n,rfl,hb⟩;go_wp2_with fail
  go_ret
  exact⟨rfl,hb⟩
 ·have hp:=HP.out rfl
  have hp':(0:Int)<(s.size:Int):=by omega
  by_cases h48:s=⟨#[48]⟩
  ·have hr:qA s=true:=by unfold qA;rw[HB1.out,decide_eq_true h48];rfl
   rw[hr];have hs48:(s.toList==[48])=true:=by rw[h48,ByteArray.toList_eq];rfl
   have hs49:(s.data.toList==[48])=true:=by rw[h48];rfl
   clear hr h48;go_enter Tryz.func196,Tryz.ntmps196
   go_wp2_with fail
   refine HN.out.mono ?_;rintro e w1 ⟨n,rfl,hb⟩;go_wp2_with fail
   go_ret
   exact⟨rfl,hb⟩
  ·have hs49:(s.data.toList==[48])=false:=by
    rw[Bool.eq_false_iff];intro h;apply h48
    obtain⟨⟨l⟩⟩:=s;simp at h;rw[h]
   have hs48:(s.toList==[48])=false:=by rw[ByteArray.toList_eq];exact hs49
   have hr:qA s=decide (bz s.data.toList 0≠48):=by unfold qA;rw[HB1.out,decide_eq_false h48];simp
   rw[hr];have hbz:=qh s 0 hp;rw[<- hbz];clear hr h48 hbz;go_enter Tryz.func196,Tryz.ntmps196
   go_wp2_with fail
   refine HN.out.mono ?_;rintro e w1 ⟨n,rfl,hb⟩;go_wp2_with fail
   go_ret
   exact⟨bQ (by rw[Bool.eq_iff_iff];simp;omega),hb⟩
theorem Xc(w:World)(g1 g2:Nat)(v1 v2:Value)(p1 p2:ByteArray->Bool)(h1:qj w v1 p1)(h2:qj w v2 p2)(hb1:ak w g1 99 #[v1])(hb2:ak w g2 99 #[v2]):
 qj w (.func (Fn.func 195) #[] #[.pointer (some ⟨g1,0,none⟩),.pointer (some ⟨g2,0,none⟩)]) (fun s=>p1 s || p2 s):=by
 obtain⟨fn1,I7,rfl,he1,hc1⟩:=h1;obtain⟨fn2,cap2,rfl,he2,hc2⟩:=h2;refine⟨_,_,rfl,fun args w=>by go_simp,fun s w' hb hsz=>?_⟩;show Calls Tryz.prog 195 #[.string s,.pointer (some ⟨g1,0,none⟩),.pointer (some ⟨g2,0,none⟩)] w' fun e w''=>e= .returned (.bool (p1 s || p2 s))/\Below w'.heap.size w' w''
 have hx1:=hb.blk hb1;have hx2:=hb.blk hb2;have hl1:=hx1.lt;have hl2:=hx2.lt;have hq1:w'.cell? ⟨g1,0,none⟩=some (.func (Fn.func fn1) #[] I7):=hx1.cell 0;have hq2:w'.cell? ⟨g2,0,none⟩=some (.func (Fn.func fn2) #[] cap2):=hx2.cell 0;have H1:=kH (hc1 s w' hb hsz);have H2:=kH (fun w'' (h:Below w'.heap.size w' w'')=>hc2 s w'' (hb.trans (KC.of_below h)) (aac hsz h.size));have hX2:=kH hx2;unfold QT at he1 he2;obtain⟨b1,hp1⟩:∃b,p1 s=b:=⟨_,rfl⟩
 obtain⟨b2,hp2⟩:∃b,p2 s=b:=⟨_,rfl⟩
 rw[hp1,hp2];rw[hp1]at H1;rw[hp2]at H2;clear hb hc1 hc2 hb1 hb2 hx1 hx2 hp1 hp2 hsz;go_enter Tryz.func195,Tryz.ntmps195
 go_wp2_with fail
 refine H1.out.mono ?_;rintro e w1 ⟨rfl,hb1⟩;cases b1
 ·have hq2':w1.cell? ⟨g2,0,none⟩=some (.func (Fn.func fn2) #[] cap2):=(hb1.cell (p:=⟨g2,0,none⟩) hl2).trans hq2
  go_wp2_with fail
  refine(H2.out w1 hb1).mono ?_;rintro e w2 ⟨rfl,hb2⟩;go_wp2_with fail
  go_ret
  exact⟨bQ (by simp),hb1.trans (hb2.mono hb1.size)⟩
 ·go_wp2_with fail
  go_ret
  exact⟨bQ (by simp),hb1⟩
mutual
def mg(w:World)(B:Nat):aa->List Value->Prop
 | .node k t a e kids,cs=> ∃A c,cs=[.int .i64 k,.string t,.int .i64 a,.int .i64 e,.slice A kids.length c]/\kids.length<=c/\aK w B A 0 kids
def aK(w:World)(B:Nat)(A:Option Addr):Nat->List aa->Prop
 | _,[]=>True
 | i,t::ts=>(∃b off vals,A=some ⟨b,off,none⟩/\b<B/\(∀j v,vals[j]? =some v->w.cell? ⟨b,off+i*5+j,none⟩=some v)/\mg w B t vals)/\aK w B A (i+1) ts
end
mutual
theorem mg.below{w w':World}{B B':Nat}(hb:Below B' w w')(hB:B<=B'):∀(t:aa) (cs:List Value),mg w B t cs->mg w' B t cs
 | .node _ _ _ _ kids,_,h=>by
  obtain⟨A,c,h1,hc,h2⟩:=h;exact⟨A,c,h1,hc,aK.below hb hB kids A 0 h2⟩
theorem aK.below{w w':World}{B B':Nat}(hb:Below B' w w')(hB:B<=B'):∀(ts:List aa) (A:Option Addr) (i:Nat),aK w B A i ts->aK w' B A i ts
 | [],_,_,_=>trivial
 | t::ts,A,i,h=>by
  obtain⟨⟨b,off,vals,h1,h2,h3,h4⟩,h5⟩:=h;exact⟨⟨b,off,vals,h1,h2,fun j v hj=>(hb.cell (p:=⟨b,_,none⟩) (by show b<B';omega)).trans (h3 j v hj),mg.below hb hB t vals h4⟩,aK.below hb hB ts A (i+1) h5⟩
end
mutual
theorem mg.mono{w:World}{B B':Nat}(hB:B<=B'):∀(t:aa) (cs:List Value),mg w B t cs->mg w B' t cs
 | .node _ _ _ _ kids,_,h=>by
  obtain⟨A,c,h1,hc,h2⟩:=h;exact⟨A,c,h1,hc,aK.mono hB kids A 0 h2⟩
theorem aK.mono{w:World}{B B':Nat}(hB:B<=B'):∀(ts:List aa) (A:Option Addr) (i:Nat),aK w B A i ts->aK w B' A i ts
 | [],_,_,_=>trivial
 | t::ts,A,i,h=>by
  obtain⟨⟨b,off,vals,h1,h2,h3,h4⟩,h5⟩:=h;exact⟨⟨b,off,vals,h1,Nat.lt_of_lt_of_le h2 hB,h3,mg.mono hB t vals h4⟩,aK.mono hB ts A (i+1) h5⟩
end
theorem sM:∀(vals:List (List Value)),(∀v∈vals,v.length=5)->∀(i j:Nat) (v:List Value) (x:Value),vals[i]? =some v->v[j]? =some x->(List.flatten vals)[i*5+j]? =some x
 | [],_,i,j,v,x,h,_=>by simp at h
 | u::vals,hl,0,j,v,x,h,hx=>by
  simp at h;subst h;have hj:=(aah.1 hx).1;simp only[List.flatten_cons,Nat.zero_mul,Nat.zero_add];rw[List.getElem?_append_left hj];exact hx
 | u::vals,hl,i+1,j,v,x,h,hx=>by
  have hu:=hl u (by simp);have:=sM vals (fun v hv=>hl v (by simp[hv])) i j v x (by simpa using h) hx;simp only[List.flatten_cons];rw[aal (by rw[hu,Nat.add_mul];omega),hu];rw[show(i+1)*5+j - 5=i*5+j by rw[Nat.add_mul];omega];exact this
theorem bV.Z4{w:World}{P:Nat->Prop}:∀{ts:List aa}{vals:List (List Value)},bV w P ts vals->∀v∈vals,v.length=5
 | [],vals,h,v,hv=>by
  have:vals=[]:=h;subst this
  cases hv
 | t::ts,vals,h,v,hv=>by
  obtain⟨v1,vs,rfl,h1,h2⟩:=h;rcases List.mem_cons.1 hv with rfl|hv
  ·exact aF.len h1
  ·exact bV.Z4 h2 v hv
def Te(w:World)(B:Nat)(A:Option Addr)(i:Nat)(vals:List Value):Prop:=∃b off,A=some ⟨b,off,none⟩/\b<B/\∀j v,vals[j]? =some v->w.cell? ⟨b,off+i*5+j,none⟩=some v
mutual
theorem aF.at_{w:World}{P:Nat->Prop}:∀(t:aa) (cs:List Value),aF w P t cs->mg w w.heap.size t cs
 | .node _ _ _ _ kids,_,h=>by
  obtain⟨A,c,vals,h1,h2,h3,h4⟩:=h;refine⟨A,c,h1,(by obtain⟨A',c',h5,h6,_⟩:=h2.shape;cases h5;exact h6),bV.at_ kids vals A 0 h4 (fun j v hv=>?_)⟩;have hl:=bV.lens h4;have hj:=(aah.1 hv).1;obtain⟨g,off,cap,hv',_,_,_,hlt,hc⟩:=h2.form (by omega);cases hv'
  refine⟨g,off,rfl,hlt,fun q x hx=>?_⟩;rw[Nat.zero_add,Nat.add_assoc];exact hc _ _ (sM vals (bV.Z4 h4) j q v x hv hx)
theorem bV.at_{w:World}{P:Nat->Prop}:∀(ts:List aa) (vals:List (List Value)) (A:Option Addr) (i:Nat),bV w P ts vals->(∀j v,vals[j]? =some v->Te w w.heap.size A (i+j) v)->aK w w.heap.size A i ts
 | [],_,_,_,_,_=>trivial
 | t::ts,vals,A,i,h,hc=>by
  obtain⟨v1,vs,rfl,h1,h2⟩:=h;obtain⟨b,off,e1,e2,e3⟩:=hc 0 v1 rfl;refine⟨⟨b,off,v1,e1,e2,e3,aF.at_ t v1 h1⟩,bV.at_ ts vs A (i+1) h2 (fun j v hv=>?_)⟩;have:=hc (j+1) v (by simpa using hv);rw[show i+1+j=i+(j+1) by omega];exact this
end
theorem aK.get{w:World}{B:Nat}{A:Option Addr}:∀{ts:List aa}{i:Nat},aK w B A i ts->∀(j:Nat) (t:aa),ts[j]? =some t->∃vals,Te w B A (i+j) vals/\mg w B t vals
 | [],_,_,j,t,ht=>by simp at ht
 | u::ts,i,h,0,t,ht=>by
  simp at ht;subst ht;obtain⟨⟨b,off,vals,h1,h2,h3,h4⟩,-⟩:=h;exact⟨vals,⟨b,off,h1,h2,h3⟩,h4⟩
 | u::ts,i,h,j+1,t,ht=>by
  obtain⟨vals,h1,h2⟩:=aK.get h.2 j t (by simpa using ht);exact⟨vals,by rw[show i+(j+1)=i+1+j by omega];exact h1,h2⟩
theorem mg.five{w:World}{B:Nat}{t:aa}{cs:List Value}(h:mg w B t cs):∃A c,cs=[.int .i64 t.kind,.string t.text,.int .i64 t.at_,.int .i64 t.end_,.slice A t.kids.length c]/\aK w B A 0 t.kids:=by
 cases t
 obtain⟨A,c,h1,_,h2⟩:=h;exact⟨A,c,h1,h2⟩
theorem mg.cap{w:World}{B:Nat}{t:aa}{k:Int}{x:ByteArray}{a z:Int}{A:Option Addr}{n c:Nat}(h:mg w B t [.int .i64 k,.string x,.int .i64 a,.int .i64 z,.slice A n c]):t.kids.length<=c:=by
 cases t
 obtain⟨A',c',h1,h2,_⟩:=h;simp only[List.cons.injEq,Value.slice.injEq,and_true]at h1;obtain⟨_,_,_,_,_,_,rfl⟩:=h1;exact h2
theorem gP:∀(ts:List aa) (i:Nat) (t:aa),ts[i]? =some t->ag (ts.take (i+1))=ag (ts.take i)+ai t
 | [],i,t,h=>by simp at h
 | u::ts,0,t,h=>by
  simp at h;subst h;simp[ag]
 | u::ts,i+1,t,h=>by
  have:=gP ts i t (by simpa using h);simp only[List.take_succ_cons,ag];omega
theorem iZ:∀(ts:List aa) (i:Nat),ag (ts.take i)<=ag ts
 | [],i=>by simp[ag]
 | u::ts,0=>by simp[ag]
 | u::ts,i+1=>by
  have:=iZ ts i;simp only[List.take_succ_cons,ag];omega
theorem jO(t:aa):ai t=1+ag t.kids:=by
 cases t
 rfl
theorem sj(t:aa):1<=ai t:=by
 rw[jO];omega
theorem dU:∀(ts:List aa),ts.length<=ag ts
 | []=>by simp[ag]
 | t::ts=>by
  have:=dU ts;have:=sj t;simp only[aao,ag];omega
def bB(t:aa)(A:Option Addr)(c:Nat):Value:=.agg #[.int .i64 t.kind,.string t.text,.int .i64 t.at_,.int .i64 t.end_,.slice A t.kids.length c]
theorem Dy:∀(m:Nat) (t:aa) (A:Option Addr) (c:Nat) (w:World),ai t<=m->m<=1000000000000->aK w w.heap.size A 0 t.kids ->
 Calls Tryz.prog 39 #[bB t A c] w fun e w'=>e= .returned (.int .i64 (ai t:Int))/\Below w.heap.size w w':=by
 intro m
 induction m with
 | zero=>
  intro t A c w h;have:=sj t;omega
 | succ m ih=>
  intro t A c w hm hbig hk;have hce:=jO t;obtain⟨kids,mh⟩:∃x,t.kids=x:=⟨_,rfl⟩
  obtain⟨n,hn⟩:∃x,kids.length=x:=⟨_,rfl⟩
  unfold bB;rw[mh]at hk hce⊢;rw[hn];obtain⟨k,hk0⟩:∃x,t.kind=x:=⟨_,rfl⟩
  obtain⟨x,hx0⟩:∃x,t.text=x:=⟨_,rfl⟩
  obtain⟨a,ha0⟩:∃x,t.at_=x:=⟨_,rfl⟩
  obtain⟨z,hz0⟩:∃x,t.end_=x:=⟨_,rfl⟩
  rw[hk0,hx0,ha0,hz0];have hcl:=dU kids;have HK:=kH hk;have HN:=kH hn;have HCE:=kH hce;have fO:=kH ih;have HM:Hid (ag kids<=m/\m<=1000000000000):=kH ⟨by omega,by omega⟩;have hnb:n<=1000000000000:=by omega
  clear hk hce ih hm hbig hk0 hx0 ha0 hz0 mh hn hcl;go_enter Tryz.func39,Tryz.ntmps39
  go_wp2_with fail
  generalize hW1:w.alloc (.cells #[.int .i64 k,.string x,.int .i64 a,.int .i64 z,.slice A n c] 24)=W1
  have hb1:Below w.heap.size w W1:=by rw[<- hW1];exact ae _ _
  have eP:ak W1 w.heap.size 24 #[.int .i64 k,.string x,.int .i64 a,.int .i64 z,.slice A n c]:=by rw[<- hW1];exact ak.new w _ _
  have HR1:=kH eP;have HB1:=kH hb1;have hl1:=eP.lt;have HK1:=kH (aK.below hb1 (aab _) _ _ _ HK.out);clear hW1 hb1 eP;go_loopg [3,4] n (fun gk s3 s4 wr=> ∃i:Nat,i+gk=n/\s3= .int .i64 ((1+ag (kids.take i):Nat):Int)/\s4= .int .i64 (i:Int)/\Below W1.heap.size W1 wr)
  case atStart=>exact⟨0,by omega,by simp[ag],rfl,Below.refl _ _⟩
  case round=>
   obtain⟨i,hi,rfl,rfl,hB⟩:=hrel;have hRr:=HR1.out.below hB hl1;have hc4:wr.cell? ⟨w.heap.size,4,none⟩=some (.slice A n c):=hRr.cell 4;have hlr:=hRr.lt;have HB:=kH hB;have HI:=kH hi;have hin:i<=n:=by omega
   have hcl:=iZ kids i;have hcb:ag (kids.take i)<=1000000000000:=by have:=HM.out;omega
   clear hB hRr hi hcl;by_cases hlt:i<n
   ·have hlt':(i:Int)<(n:Int):=by omega
    obtain⟨u,hu⟩:∃u,kids[i]? =some u:=⟨_,aaf (by rw[HN.out];exact hlt)⟩
    obtain⟨vals,⟨b,off,hA,hbl,hcs⟩,hT⟩:=HK1.out.get i u hu;obtain⟨A',c',lh,hK'⟩:=hT.five;subst hA;subst lh;have hbb:b<wr.heap.size:=by omega
    have hbW:b<W1.heap.size:=by omega
    have t0:wr.cell? ⟨b,off+i*5,none⟩=some (.int .i64 u.kind):=(HB.out.cell (p:=⟨b,_,none⟩) hbW).trans (by simpa using hcs 0 _ rfl);have t1:wr.cell? ⟨b,off+i*5+1,none⟩=some (.string u.text):=(HB.out.cell (p:=⟨b,_,none⟩) hbW).trans (by simpa using hcs 1 _ rfl);have t2:wr.cell? ⟨b,off+i*5+2,none⟩=some (.int .i64 u.at_):=(HB.out.cell (p:=⟨b,_,none⟩) hbW).trans (by simpa using hcs 2 _ rfl);have t3:wr.cell? ⟨b,off+i*5+3,none⟩=some (.int .i64 u.end_):=(HB.out.cell (p:=⟨b,_,none⟩) hbW).trans (by simpa using hcs 3 _ rfl);have t4:wr.cell? ⟨b,off+i*5+4,none⟩=some (.slice A' u.kids.length c'):=(HB.out.cell (p:=⟨b,_,none⟩) hbW).trans (by simpa using hcs 4 _ rfl);have htk:=gP kids i u hu;have hle:=iZ kids (i+1);have hcall:=fO.out u A' c' wr (by have:=HM.out;omega) HM.out.2 (aK.mono (B:=w.heap.size) (by omega) _ _ _ (aK.below HB.out (by omega) _ _ _ hK'));unfold bB at hcall;have HC:=kH hcall;have uI:=kH htk;have hub:ai u<=1000000000000:=by have:=HM.out;omega
    have hwr:IntKind.i64.wrap ((i:Int)+1)=(i:Int)+1:=IntWalk.i64_in _ (by omega);have hws:IntKind.i64.wrap (((1+ag (kids.take i):Nat):Int)+(ai u:Int))=((1+ag (kids.take i):Nat):Int)+(ai u:Int):=IntWalk.i64_in _ (by omega);obtain⟨un,hun⟩:∃q,u.kids.length=q:=⟨_,rfl⟩
    rw[hun]at t4 HC;obtain⟨cs1,hcs1⟩:∃q,1+ag (kids.take i)=q:=⟨_,rfl⟩
    rw[hcs1]at hws⊢;have HCS1:=kH hcs1;obtain⟨cu,qa⟩:∃q,ai u=q:=⟨_,rfl⟩
    rw[qa]at hws HC;have XL:=kH qa;clear hcs hT hK' htk hle hcall hu hun hcs1 qa hcb hub;go_wp2_with fail
    refine HC.out.mono ?_;rintro e w2 ⟨rfl,hb2⟩;go_wp2_with fail
    go_roundg (gk - 1)
    case measure=>have:=HI.out;omega
    case rel=>exact⟨i+1,by have:=HI.out;omega,by rw[uI.out,<- HCS1.out,<- XL.out];simp;omega,by simp,HB.out.trans (hb2.mono HB.out.size)⟩
   ·have hie:i=n:=by omega
    have hres:1+ag (kids.take i)=ai t:=by rw[HCE.out,hie,<- HN.out,List.take_length]
    rw[hres];clear hres;go_wp2_with fail
    go_ret
    exact⟨rfl,HB1.out.trans (HB.out.mono HB1.out.size)⟩
theorem VU:(Tryz.prog.info? 80).map (fun i=>(i.zero,i.size,i.bytes))=some (some (.agg #[.int .i64 0,.int .i64 0,.int .i64 0,.int .i64 0,.string ⟨#[]⟩,.slice none 0 0]),6,72):=by kernel_rfl
theorem aY.uH{K:Type}[DecidableEq K]{KK:oM K}{w w':World}{r:Nat}{m:List (K×Value)}(h:aY KK w r m)(hb:Below w.heap.size w w'):aY KK w' r m:=h.below hb h.lt
theorem bf.below{E:RC}{G:bD}{r:RS}{V:RV}{w w':World}(h:bf E G r V w)(hb:Below w.heap.size w w'):bf E G r V w' where
 blk:=h.blk.below hb h.blk.lt
 gl:=h.gl.uH hb
 fl:=h.fl.uH hb
 kn:=h.kn.uH hb
 vi:=h.vi.uH hb
 bH:=fM.of_block h.bH fun g _ hg _=>hb.block g (aae.1 hg).1
 ds:=h.ds.below hb fun g hg=>(h.ds.lt g hg).2
 us:=h.us.below hb fun g hg=>(h.us.lt g hg).2
 ps:=h.ps.below hb fun g hg=>(h.ps.lt g hg).2
 low:=h.low
 apart:=h.apart
theorem bf.pushP{E:RC}{G:bD}{r:RS}{V:RV}{w w3:World}(h:bf E G r V w)(p:Int×Dg){A3:Option Addr}{c3:Nat}
 (ho:aP w3 E.base 80 6 (.slice A3 (r.aR.length+1) c3) (r.aR.length+1) (r.aR.flatMap iR++iR p)) (hg:w.grownBy w3 (Value.slice V.pA r.aR.length V.pc).ownBlock) (M:Nat->Prop):
 bf E G { r with aR:=r.aR++[p] } { V with pA:=A3,pc:=c3 } (w3.setCell ⟨E.rp,6,none⟩ (.slice A3 (r.aR.length+1) c3))/\KX E M w (w3.setCell ⟨E.rp,6,none⟩ (.slice A3 (r.aR.length+1) c3)):=by
 have hs:aA (fun g=>g=E.rp\/(Value.slice V.pA r.aR.length V.pc).ownBlock=some g) w (w3.setCell ⟨E.rp,6,none⟩ (.slice A3 (r.aR.length+1) c3)):=
  ((aA.refl _ w).grown hg (fun g hg=>.inl (.inr hg))).setCell (.inl (.inl rfl)) _
 have hpr:(Value.slice V.pA r.aR.length V.pc).ownBlock≠some E.rp:=h.ps.fe h.blk (by decide);have hb3:ak w3 E.rp 75 _:=h.blk.grown hg (Ne.symm hpr)
 have iF:∀{K:Type} [DecidableEq K] {KK:oM K}{q:Nat}{m:List (K×Value)},aY KK w q m->aY KK (w3.setCell ⟨E.rp,6,none⟩ (.slice A3 (r.aR.length+1) c3)) q m:=fun ha=>ha.since hs (fun h1=>by
  rcases h1 with h1|h1
  ·exact ha.qW h.blk h1
  ·exact ha.jy h.ps h1)
 have how:∀{e size v n xs},aP w E.base e size v n xs->e≠75->e≠80->aP (w3.setCell ⟨E.rp,6,none⟩ (.slice A3 (r.aR.length+1) c3)) E.base e size v n xs:=fun ha h1 h2=>ha.since hs (fun g hg h3=>by
  rcases h3 with h3|h3
  ·exact ha.fe h.blk h1 (by rw[hg,h3])
  ·exact ha.apart h.ps h2 g hg h3)
 refine⟨⟨?_,iF h.gl,iF h.fl,iF h.kn,iF h.vi,?_,how h.ds (by decide) (by decide),how h.us (by decide) (by decide),?_,h.low,h.apart⟩,?_⟩
 ·have:=hb3.gY 6 (.slice A3 (r.aR.length+1) c3)
  simpa using this
 ·refine fM.of_block h.bH fun g cur hg _=>hs.block g (aae.1 hg).1 fun h1=>?_
  rcases h1 with h1|h1
  ·subst h1
   have hb:w.heap[E.rp]? =some (.cells _ 75 (0,0)):=h.blk;rw[hb]at hg;simp at hg
  ·obtain⟨cur',hg'⟩:=h.ps.obj g h1
   rw[hg']at hg;simp at hg
 ·have Di:(Value.slice A3 (r.aR.length+1) c3).ownBlock≠some E.rp:=ho.fe hb3 (by decide)
  have:=ho.setCell (p:=⟨E.rp,6,none⟩) Di (.slice A3 (r.aR.length+1) c3);simpa using this
 ·refine aA.mono hs fun g h1=>?_
  rcases h1 with rfl|h1
  ·exact⟨h.low.1,.inl ⟨_,_,_,h.blk,.inl rfl⟩⟩
  ·obtain⟨cur,hc⟩:=h.ps.obj g h1
   exact⟨(h.ps.lt g h1).1,.inl ⟨_,_,_,hc,.inr (.inl rfl)⟩⟩
theorem Yo(w:World)(g:Nat)(a b c d e f:Value)(h0:w.cell? ⟨g,0,none⟩=some a)(h1:w.cell? ⟨g,1,none⟩=some b)(h2:w.cell? ⟨g,2,none⟩=some c)(h3:w.cell? ⟨g,3,none⟩=some d)(h4:w.cell? ⟨g,4,none⟩=some e)(h5:w.cell? ⟨g,5,none⟩=some f):
 ∀j v,[a,b,c,d,e,f][j]? =some v->w.cell? ((⟨g,0,none⟩:Addr).add j)=some v:=by
 intro j v hj
 match j,hj with
 | 0,hj=>simp at hj;subst hj;exact h0
 | 1,hj=>simp at hj;subst hj;exact h1
 | 2,hj=>simp at hj;subst hj;exact h2
 | 3,hj=>simp at hj;subst hj;exact h3
 | 4,hj=>simp at hj;subst hj;exact h4
 | 5,hj=>simp at hj;subst hj;exact h5
 | j+6,hj=>simp at hj
theorem RF(E:RC)(G:bD)(r:RS)(V:RV)(w:World)(h:bf E G r V w)(hN:r.aR.length<=1000000)(hbase:E.base<=w.heap.size)(code:Int)(n:Nat)(t:aa)(A:Option Addr)(c:Nat)(M:Nat->Prop):
 Calls Tryz.prog 201 #[.pointer (some ⟨E.rp,0,none⟩),.int .i64 code,.int .i64 (n:Int),bB t A c] w fun e w'=>e= .returned (.tuple #[])/\∃V',bf E G (pV r code n t) V' w'/\KX E M w w':=by
 obtain⟨i0,hi0,hz0,hz1,hz2⟩:=info_parts VU;have HP:Hid (pV r code n t= { r with aR:=r.aR++[((n:Int),⟨code,t.at_,t.end_,t.text⟩)] }):=kH rfl;unfold bB;obtain⟨q,hq⟩:∃q,pV r code n t=q:=⟨_,rfl⟩
 rw[hq]at HP⊢;obtain⟨k,hk0⟩:∃q,t.kind=q:=⟨_,rfl⟩
 obtain⟨x,hx0⟩:∃q,t.text=q:=⟨_,rfl⟩
 obtain⟨a,ha0⟩:∃q,t.at_=q:=⟨_,rfl⟩
 obtain⟨z,hz0'⟩:∃q,t.end_=q:=⟨_,rfl⟩
 obtain⟨m,hm0⟩:∃q,t.kids.length=q:=⟨_,rfl⟩
 rw[hk0,hx0,ha0,hz0',hm0];rw[hx0,ha0,hz0']at HP;obtain⟨np,vO⟩:∃q,r.aR.length=q:=⟨_,rfl⟩
 rw[vO]at hN;have H:=kH h;have uf:=kH vO;clear hq hk0 hx0 ha0 hz0' hm0 h vO;go_enter Tryz.func201,Tryz.ntmps201
 go_wp2_with fail
 generalize hW1:w.alloc (.cells #[.int .i64 k,.string x,.int .i64 a,.int .i64 z,.slice A m c] 24)=W1
 have hb1:Below w.heap.size w W1:=by rw[<- hW1];exact ae _ _
 have hT1:ak W1 w.heap.size 24 #[.int .i64 k,.string x,.int .i64 a,.int .i64 z,.slice A m c]:=by rw[<- hW1];exact ak.new w _ _
 have h1:=H.out.below hb1;have c6:W1.cell? ⟨E.rp,6,none⟩=some (.slice V.pA np V.pc):=by have:=h1.blk.cell 6;rw[uf.out]at this;exact this
 have f6:=h1.blk.frozen 6;have hlr:=h1.blk.lt;have hx1:=hT1.cell 1;have hx2:=hT1.cell 2;have hx3:=hT1.cell 3;have hlt:=hT1.lt;have ho1:=h1.ps;rw[uf.out]at ho1;have KW:=kH ho1;have H1:=kH h1;have HT1:=kH hT1;have HB1:=kH hb1;have hne:(Value.slice V.pA np V.pc).ownBlock≠some E.rp:=ho1.fe h1.blk (by decide);have hne2:(Value.slice V.pA np V.pc).ownBlock≠some w.heap.size:=ho1.fe hT1 (by decide);have jv:=kH hne;have Ci:=kH hne2;have hbs:E.base<=W1.heap.size:=aac hbase hb1.size;clear hW1 ho1 h1 hT1 hb1 hne hne2;refine gN (fun w'=>w'.cell? ⟨E.rp,6,none⟩=some (.slice V.pA np V.pc)/\w'.cell? ⟨w.heap.size,1,none⟩=some (.string x)/\w'.cell? ⟨w.heap.size,2,none⟩=some (.int .i64 a)/\w'.cell? ⟨w.heap.size,3,none⟩=some (.int .i64 z)) [19] [true,true,true,true,true,true,true,true,true,true,true,true,true,true,true,false,false,false,false,false] (by kernel_rfl) (by kernel_rfl) rfl (by kernel_rfl) ?_;have hS0:W1.drew.cell? ⟨E.rp,6,none⟩=some (.slice V.pA np V.pc)/\W1.drew.cell? ⟨w.heap.size,1,none⟩=some (.string x)/\W1.drew.cell? ⟨w.heap.size,2,none⟩=some (.int .i64 a)/\W1.drew.cell? ⟨w.heap.size,3,none⟩=some (.int .i64 z):=⟨c6,hx1,hx2,hx3⟩
 iterate 15(refine jL rfl hS0 (by intro w' hSw;obtain⟨hs1,hs2,hs3,hs4⟩:=hSw;go_simp;rfl) ?_;simp only[Act.put,sA,sZ,sC])
 refine kU (w':=W1.drew.alloc (.cells #[.int .i64 (n:Int),.int .i64 code,.int .i64 a,.int .i64 z,.string x,.slice none 0 0] 80)) rfl (by go_simp;rfl) ?_ ?_
 ·exact fun _=>⟨by go_simp,by go_simp,by go_simp,by go_simp⟩
 simp only[Act.put,sA,sZ,sC];refine uW rfl (jI _ (.tmp 12) (.tmp 23) _ rfl E.base 80 i0 _ 6 72 Tryz.underlying73 hi0 hz0 hz1 hz2 rfl (.slice V.pA np V.pc) np (r.aR.flatMap iR) rfl (KW.out.drew.alloc _) ⟨W1.heap.size,0,none⟩ 1 1 (iR ((n:Int),⟨code,a,z,x⟩)) rfl rfl (Yo _ _ _ _ _ _ _ _ (by go_simp) (by go_simp) (by go_simp) (by go_simp) (by go_simp) (by go_simp)) (by simp[iR,Value.oneCell']) (by simp only[maxLen];omega) (by omega) (by simp;omega) ?_);intro v3 w3 hown3 hgrow3 yV;obtain⟨A3,c3,hv3,-,-⟩:=hown3.shape;subst hv3;have hz3:=hgrow3.size;simp at hz3
 have q1:w3.cell? ⟨E.rp,6,none⟩=some (.slice V.pA np V.pc):=by
  rw[hgrow3.cell_far _ (by simp;omega) (fun e1=>jv.out e1.symm)];go_simp
 have q2:w3.cell? ⟨w.heap.size,1,none⟩=some (.string x):=by
  rw[hgrow3.cell_far _ (by simp;omega) (fun e1=>Ci.out e1.symm)];go_simp
 have q3:w3.cell? ⟨w.heap.size,2,none⟩=some (.int .i64 a):=by
  rw[hgrow3.cell_far _ (by simp;omega) (fun e1=>Ci.out e1.symm)];go_simp
 have q4:w3.cell? ⟨w.heap.size,3,none⟩=some (.int .i64 z):=by
  rw[hgrow3.cell_far _ (by simp;omega) (fun e1=>Ci.out e1.symm)];go_simp
 have hB3:=ak.grown (ak.alloc (ak.drew H1.out.blk) (.cells #[.int .i64 (n:Int),.int .i64 code,.int .i64 a,.int .i64 z,.string x,.slice none 0 0] 80)) hgrow3 (fun e1=>jv.out e1.symm);have q5:=hB3.frozen 6
 have HR:Hid (∃V',bf E G q V' (w3.setCell ⟨E.rp,6,none⟩ (.slice A3 (np+1) c3))/\KX E M w (w3.setCell ⟨E.rp,6,none⟩ (.slice A3 (np+1) c3))):=kH (by
  have Fa:Below W1.heap.size W1 (W1.drew.alloc (.cells #[.int .i64 (n:Int),.int .i64 code,.int .i64 a,.int .i64 z,.string x,.slice none 0 0] 80)):=((Below.refl _ _).drew).alloc (aab _) _;have h2:=H1.out.below Fa;have hp:=h2.pushP ((n:Int),⟨code,a,z,x⟩) (A3:=A3) (c3:=c3) (by rw[uf.out];exact hown3) (by rw[uf.out];exact hgrow3) M;rw[uf.out]at hp;rw[HP.out]
  exact⟨_,hp.1,(KX.of_below (HB1.out.trans (Fa.mono HB1.out.size))).trans hp.2 (fun g hg=>.inl hg)⟩)
 clear hB3 hown3 hgrow3 yV;refine⟨fun _=>⟨q1,q2,q3,q4⟩,?_⟩;iterate 2(simp only[Act.put,sA,sZ,sC];refine kU (w':=w3) rfl (by go_simp;rfl) (fun _=>⟨q1,q2,q3,q4⟩) ?_)
 simp only[Act.put,sA,sZ,sC];refine j4 (w':=w3.setCell ⟨E.rp,6,none⟩ (.slice A3 (np+1) c3)) rfl (by go_simp) (by simp) ?_;refine kV ?_;simp only[Act.put];go_wp2_with fail
 go_end0
 exact⟨rfl,HR.out⟩
end Go.Proofs.YtoepemlnlpamlaaGreat
