/- The law NamesStand holds: for every text and every number the law returns true, and its arguments read as before. No condition. Part 3: LexS LexT Tree ParT. -/
import Derived.Test.YtoepemlnlpamlaaGreatStand01
import Derived.Test.YtoepemlnlpamlaaGreatStand02
set_option maxRecDepth 100000
set_option maxHeartbeats 4000000
namespace Go.Proofs.YtoepemlnlpamlaaGreat
open Go.RowKit
theorem KJ(s:ByteArray)(a:Nat)(w:World)(ha:a<s.size)(hs:s.size<=4096):
 Calls Tryz.prog 230 #[.string s,.int .i64 (a:Int)] w fun e w'=>e= .returned (.bool (uB s.data.toList a))/\Below w.heap.size w w':=by
 have hc:=qh s a ha;have hai:(a:Int)<s.size:=by omega
 obtain⟨b1,hb1⟩:∃x,lH (bz s.data.toList a)=x:=⟨_,rfl⟩
 obtain⟨b2,hb2⟩:∃x,fZ (bz s.data.toList a)=x:=⟨_,rfl⟩
 have hres:uB s.data.toList a=(b1 || b2 || decide (0<xC s.data.toList a)):=by unfold uB;rw[hb1,hb2]
 rw[hres];have HB1:=kH hb1;have HB2:=kH hb2;clear hb1 hb2 hres;cases b1
 ·cases b2
  ·go_enter Tryz.func230,Tryz.ntmps230
   go_wp2_with fail
   refine(mK _ _).mono ?_;rintro e w' ⟨rfl,rfl⟩;rw[HB1.out];go_wp2_with fail
   refine(mX _ _).mono ?_;rintro e w' ⟨rfl,rfl⟩;rw[HB2.out];go_wp2_with fail
   refine(Jw s a _ ha hs).mono ?_;rintro e w' ⟨rfl,hb⟩;go_wp2_with fail
   go_ret
   exact⟨bQ (by simp),hb⟩
  ·go_enter Tryz.func230,Tryz.ntmps230
   go_wp2_with fail
   refine(mK _ _).mono ?_;rintro e w' ⟨rfl,rfl⟩;rw[HB1.out];go_wp2_with fail
   refine(mX _ _).mono ?_;rintro e w' ⟨rfl,rfl⟩;rw[HB2.out];go_wp2_with fail
   go_ret
   exact⟨rfl,Below.refl _ _⟩
 ·go_enter Tryz.func230,Tryz.ntmps230
  go_wp2_with fail
  refine(mK _ _).mono ?_;rintro e w' ⟨rfl,rfl⟩;rw[HB1.out];go_wp2_with fail
  go_ret
  exact⟨rfl,Below.refl _ _⟩
theorem Yc(s:ByteArray)(a:Nat)(w:World)(ha:a<=s.size)(hs:s.size<=4096):
 Calls Tryz.prog 179 #[.string s,.int .i64 (a:Int)] w fun e w'=>e= .returned (.int .i64 (kN s.data.toList (s.size+1) a:Int))/\w=w':=by
 go_enter Tryz.func179,Tryz.ntmps179
 go_wp2_with fail
 go_loopg [1] (s.size - a) (fun gk s1 wr=> ∃k f:Nat,k+gk=s.size/\s1= .int .i64 k/\kN s.data.toList (s.size+1) a=kN s.data.toList f k/\s.size<f+k/\w=wr)
 case atStart=>exact⟨a,s.size+1,by omega,rfl,rfl,by omega,rfl⟩
 case round=>
  obtain⟨k,f,hk,rfl,hsk,hf,rfl⟩:=hrel;have hk':k<=s.size:=by omega
  have HK:=kH hk;have SA:=kH hsk;clear hk hsk;obtain⟨f,rfl⟩:∃g,f=g+1:=⟨f - 1,by omega⟩
  by_cases hlt:k<s.size
  ·have hc:=qh s k hlt
   have hki:(k:Int)<s.size:=by omega
   obtain⟨c,hcb⟩:∃c,bz s.data.toList k=c:=⟨_,rfl⟩
   rw[hcb]at hc;obtain⟨bl,hbl⟩:∃x,ru c=x:=⟨_,rfl⟩
   have K9:=kH hcb;have yK:=kH hbl;clear hcb hbl;by_cases uG:c=35
   ·subst uG
    have hb0:bl=false:=by rw[<- yK.out];rfl
    subst hb0
    have hsn:kN s.data.toList (f+1) k=kN s.data.toList f (iJ (fun i=> !decide (bz s.data.toList i=10)) s.data.toList s.data.toList.length k):=by
     rw[kN,K9.out,dm,if_pos (by simp[hlt]),if_pos rfl]
    have KR:=kH hsn;clear hsn;go_wp2_with fail
    refine(tZ 35 _).mono ?_;rintro e w' ⟨rfl,rfl⟩;go_wp2_with fail
    obtain⟨wo,rfl⟩:∃wo:World,wo=w:=⟨_,rfl⟩
    obtain⟨gp,rfl⟩:∃gp:Nat,gp=gk:=⟨_,rfl⟩
    go_loopg [1] (s.size - k) (fun gk s1 wr=> ∃j:Nat,j+gk=s.size/\k<=j/\s1= .int .i64 j/\(∀i,k<=i->i<j->(fun i=> !decide (bz s.data.toList i=10)) i=true)/\wo=wr)
    case atStart=>exact⟨k,by omega,aab _,rfl,fun i h1 h2=>by omega,rfl⟩
    case round=>
     obtain⟨j,hj,hkj,rfl,hall,rfl⟩:=hrel;have hj':j<=s.size:=by omega
     have HJ:=kH hj;have iV:=kH hall;clear hj hall
     have fin:(j<s.size->bz s.data.toList j=10)->kN s.data.toList (s.size+1) a=kN s.data.toList f j:=fun h=>by
      rw[SA.out,KR.out,F6 _ k j hkj (by rw[dm];exact hj') iV.out (fun hl=>by rw[dm]at hl;simp[h hl]) (by omega)]
     by_cases hlt2:j<s.size
     ·have hc2:=qh s j hlt2
      have hji:(j:Int)<s.size:=by omega
      obtain⟨c2,YQ⟩:∃c,bz s.data.toList j=c:=⟨_,rfl⟩
      rw[YQ]at hc2;have ZE:=kH YQ;clear YQ;by_cases h10:c2=10
      ·have hfin:=fin (fun _=>by rw[ZE.out];exact h10)
       have hkj2:k<j:=by
        rcases Nat.lt_or_ge k j with h|h
        ·exact h
        ·have:j=k:=by omega
         subst this;have:=K9.out.symm.trans ZE.out;omega
       have jg:=kH hfin;subst h10;clear hfin fin;go_wp2_with fail
       go_roundg (s.size - j)
       case measure=>have:=HK.out;omega
       case rel=>exact⟨j,f,by omega,rfl,jg.out,by omega,rfl⟩
      ·have hne:((c2:Int) !=10)=true:=by simp;omega
       have jv:Hid (bz s.data.toList j≠10):=kH (by rw[ZE.out];exact h10);clear h10 fin;go_wp2_with fail
       go_roundg (gk - 1)
       case measure=>have:=HJ.out;omega
       case rel=>
        refine⟨j+1,by have:=HJ.out;omega,by omega,by go_num,fun i h1 h2=>?_,rfl⟩;by_cases hij:i=j
        ·subst hij;simpa using jv.out
        ·exact iV.out i h1 (by omega)
     ·have hjs:j=s.size:=by omega
      have hfin:=fin (fun h=>by omega);have jg:=kH hfin;clear hfin fin;subst hjs;go_wp2_with fail
      go_roundg 0
      case measure=>have:=HK.out;omega
      case rel=>exact⟨s.size,f,by omega,rfl,jg.out,by omega,rfl⟩
   ·have h35i:((c:Int)==35)=false:=by simp;omega
    cases bl
    ·have hsn:kN s.data.toList (f+1) k=k:=by
      rw[kN,K9.out,dm,if_neg];rw[yK.out];simp[uG]
     have hres:=SA.out.trans hsn;have aV:=kH hres;clear hres hsn uG;go_wp2_with fail
     refine(tZ c _).mono ?_;rintro e w' ⟨rfl,rfl⟩;rw[yK.out];go_wp2_with fail
     go_ret
     exact⟨RG (by rw[aV.out]),rfl⟩
    ·have hsn:kN s.data.toList (f+1) k=kN s.data.toList f (k+1):=by
      rw[kN,K9.out,dm,if_pos,if_neg uG];rw[yK.out];simp[hlt]
     have KR:=kH hsn;clear hsn uG;go_wp2_with fail
     refine(tZ c _).mono ?_;rintro e w' ⟨rfl,rfl⟩;rw[yK.out];go_wp2_with fail
     go_roundg (gk - 1)
     case measure=>have:=HK.out;omega
     case rel=>exact⟨k+1,f,by have:=HK.out;omega,by go_num,SA.out.trans KR.out,by omega,rfl⟩
  ·have hks:k=s.size:=by omega
   have hsn:kN s.data.toList (f+1) k=k:=by
    rw[kN,dm,if_neg (by simp[hlt])]
   have hres:=SA.out.trans hsn;have aV:=kH hres;clear hres hsn;go_wp2_with fail
   go_ret
   exact⟨RG (by rw[aV.out]),rfl⟩
theorem VK(s:ByteArray)(a:Nat)(w:World)(ha:a<s.size)(hs:s.size<=4096):
 Calls Tryz.prog 180 #[.string s,.int .i64 (a:Int)] w fun e w'=>e= .returned (.tuple #[.int .i64 ((il s.data.toList a).1:Int),.int .i64 ((il s.data.toList a).2:Int)])/\Below w.heap.size w w':=by
 have hc:=qh s a ha;have hai:(a:Int)<s.size:=by omega
 obtain⟨c,hcb⟩:∃c,bz s.data.toList a=c:=⟨_,rfl⟩
 rw[hcb]at hc;have K9:=kH hcb;clear hcb;obtain⟨bl,hbl⟩:∃x,lH c=x:=⟨_,rfl⟩
 have yK:=kH hbl;clear hbl;cases bl
 ·obtain⟨bd,hbd⟩:∃x,fZ c=x:=⟨_,rfl⟩
  have Hq:=kH hbd;clear hbd;cases bd
  ·obtain⟨sm,hsm⟩:∃x,xC s.data.toList a=x:=⟨_,rfl⟩
   have hsm2:sm<=2:=by rw[<- hsm];exact symM_le a
   have hsy:∀w:World,Calls Tryz.prog 229 #[.string s,.int .i64 (a:Int)] w fun e w'=>e= .returned (.int .i64 (sm:Int))/\Below w.heap.size w w':=fun w=>by rw[<- hsm];exact Jw s a w ha hs
   have KS:=kH hsm;have Sz:=kH hsy;clear hsm hsy;by_cases h0:0<sm
   ·have h0i:(0:Int)<(sm:Int):=by omega
    have hres:il s.data.toList a=(3,a+sm):=by
     unfold il;rw[K9.out,yK.out,Hq.out,KS.out,if_neg (by simp),if_neg (by simp),if_pos h0]
    have aV:=kH hres;clear hres h0;go_enter Tryz.func180,Tryz.ntmps180
    go_wp2_with fail
    refine(mK c _).mono ?_;rintro e w' ⟨rfl,rfl⟩;rw[yK.out];go_wp2_with fail
    refine(mX c _).mono ?_;rintro e w' ⟨rfl,rfl⟩;rw[Hq.out];go_wp2_with fail
    refine(Sz.out _).mono ?_;rintro e w1 ⟨rfl,hb1⟩;go_wp2_with fail
    refine(Sz.out _).mono ?_;rintro e w2 ⟨rfl,hb2⟩;go_wp2_with fail
    go_ret2
    refine⟨by rw[aV.out];rfl,hb1.trans (hb2.mono hb1.size)⟩
   ·have hs0:sm=0:=by omega
    subst hs0
    have hrun:il s.data.toList a=(4,iJ (fun i=> !ru (bz s.data.toList i)&& !decide (bz s.data.toList i=35)&& !uB s.data.toList i) s.data.toList s.data.toList.length a):=by
     unfold il;rw[K9.out,yK.out,Hq.out,KS.out,if_neg (by simp),if_neg (by simp),if_neg (by simp)]
    have xQ:=kH hrun;clear hrun h0;go_enter Tryz.func180,Tryz.ntmps180
    go_wp2_with fail
    refine(mK c _).mono ?_;rintro e w' ⟨rfl,rfl⟩;rw[yK.out];go_wp2_with fail
    refine(mX c _).mono ?_;rintro e w' ⟨rfl,rfl⟩;rw[Hq.out];go_wp2_with fail
    refine(Sz.out _).mono ?_;rintro e w1 ⟨rfl,hb1⟩;clear hc;go_wp2_with fail
    go_loopg [6] (s.size - a) (fun gk s6 wr=> ∃j:Nat,j+gk=s.size/\a<=j/\s6= .int .i64 j/\(∀i,a<=i->i<j->(fun i=> !ru (bz s.data.toList i)&& !decide (bz s.data.toList i=35)&& !uB s.data.toList i) i=true)/\Below w.heap.size w wr)
    case atStart=>exact⟨a,by omega,aab _,rfl,fun i h1 h2=>by omega,hb1⟩
    case round=>
     obtain⟨j,hj,haj,rfl,hall,hB⟩:=hrel;have hj':j<=s.size:=by omega
     have HJ:=kH hj;have iV:=kH hall;clear hj hall hb1
     have fin:(j<s.size->(!ru (bz s.data.toList j)&& !decide (bz s.data.toList j=35)&& !uB s.data.toList j)=false)->il s.data.toList a=(4,j):=fun h=>by
      rw[xQ.out,F6 _ a j haj (by rw[dm];exact hj') iV.out (fun hl=>by rw[dm]at hl;exact h hl) (by omega)]
     by_cases hlt:j<s.size
     ·have hc:=qh s j hlt
      have hji:(j:Int)<s.size:=by omega
      obtain⟨d,hcd⟩:∃c,bz s.data.toList j=c:=⟨_,rfl⟩
      rw[hcd]at hc;obtain⟨b1,hb1⟩:∃x,ru d=x:=⟨_,rfl⟩
      obtain⟨b3,hb3⟩:∃x,uB s.data.toList j=x:=⟨_,rfl⟩
      have Bo:=kH hcd;have HB1:=kH hb1;have HB3:=kH hb3;rw[hcd,hb1,hb3]at fin;clear hcd hb1 hb3;cases b1
      ·by_cases uG:d=35
       ·have hfin:=fin (fun _=>by simp[uG])
        have hdi:((d:Int) !=35)=false:=by simp;omega
        have jg:=kH hfin;clear hfin fin uG;go_wp2_with fail
        refine(tZ d _).mono ?_;rintro e w' ⟨rfl,rfl⟩;rw[HB1.out];go_wp2_with fail
        go_ret2
        exact⟨by rw[jg.out];rfl,hB⟩
       ·have hdi:((d:Int) !=35)=true:=by simp;omega
        have hda:decide (d=35)=false:=decide_eq_false uG;rw[hda]at fin;have HDA:=kH hda;clear hda uG;cases b3
        ·clear fin
         go_wp2_with fail
         refine(tZ d _).mono ?_;rintro e w' ⟨rfl,rfl⟩;rw[HB1.out];go_wp2_with fail
         refine(KJ s j _ hlt hs).mono ?_;rintro e w2 ⟨rfl,hb2⟩;rw[HB3.out];go_wp2_with fail
         go_roundg (gk - 1)
         case measure=>have:=HJ.out;omega
         case rel=>
          refine⟨j+1,by have:=HJ.out;omega,by omega,by go_num,fun i h1 h2=>?_,hB.trans (hb2.mono hB.size)⟩;by_cases hij:i=j
          ·subst hij
           rw[HB3.out,Bo.out,HDA.out,HB1.out];rfl
          ·exact iV.out i h1 (by omega)
        ·have hfin:=fin (fun _=>by simp)
         have jg:=kH hfin;clear hfin fin;go_wp2_with fail
         refine(tZ d _).mono ?_;rintro e w' ⟨rfl,rfl⟩;rw[HB1.out];go_wp2_with fail
         refine(KJ s j _ hlt hs).mono ?_;rintro e w2 ⟨rfl,hb2⟩;rw[HB3.out];go_wp2_with fail
         go_ret2
         exact⟨by rw[jg.out];rfl,hB.trans (hb2.mono hB.size)⟩
      ·have hfin:=fin (fun _=>by simp)
       have jg:=kH hfin;clear hfin fin;go_wp2_with fail
       refine(tZ d _).mono ?_;rintro e w' ⟨rfl,rfl⟩;rw[HB1.out];go_wp2_with fail
       go_ret2
       exact⟨by rw[jg.out];rfl,hB⟩
     ·have hjs:j=s.size:=by omega
      have hfin:=fin (fun h=>by omega);have jg:=kH hfin;clear hfin fin;subst hjs;go_wp2_with fail
      go_ret2
      exact⟨by rw[jg.out];rfl,hB⟩
  ·have hrun:il s.data.toList a=(2,iJ (fun i=>fZ (bz s.data.toList i)) s.data.toList s.data.toList.length a):=by
    unfold il;rw[K9.out,yK.out,Hq.out,if_neg (by simp),if_pos rfl]
   have xQ:=kH hrun;clear hrun;go_enter Tryz.func180,Tryz.ntmps180
   go_wp2_with fail
   refine(mK c _).mono ?_;rintro e w' ⟨rfl,rfl⟩;rw[yK.out];go_wp2_with fail
   refine(mX c _).mono ?_;rintro e w' ⟨rfl,rfl⟩;rw[Hq.out];clear hc;go_wp2_with fail
   go_loopg [6] (s.size - a) (fun gk s6 wr=> ∃j:Nat,j+gk=s.size/\a<=j/\s6= .int .i64 j/\(∀i,a<=i->i<j->(fun i=>fZ (bz s.data.toList i)) i=true)/\w=wr)
   case atStart=>exact⟨a,by omega,aab _,rfl,fun i h1 h2=>by omega,rfl⟩
   case round=>
    obtain⟨j,hj,haj,rfl,hall,rfl⟩:=hrel;have hj':j<=s.size:=by omega
    have HJ:=kH hj;have iV:=kH hall;clear hj hall
    have fin:(j<s.size->fZ (bz s.data.toList j)=false)->il s.data.toList a=(2,j):=fun h=>by
     rw[xQ.out,F6 _ a j haj (by rw[dm];exact hj') iV.out (fun hl=>by rw[dm]at hl;exact h hl) (by omega)]
    by_cases hlt:j<s.size
    ·have hc:=qh s j hlt
     have hji:(j:Int)<s.size:=by omega
     obtain⟨d,hcd⟩:∃c,bz s.data.toList j=c:=⟨_,rfl⟩
     rw[hcd]at hc;obtain⟨b1,hb1⟩:∃x,fZ d=x:=⟨_,rfl⟩
     have Bo:=kH hcd;have HB1:=kH hb1;rw[hcd,hb1]at fin;clear hcd hb1;cases b1
     ·have hfin:=fin (fun _=>rfl)
      have jg:=kH hfin;clear hfin fin;go_wp2_with fail
      refine(mX d _).mono ?_;rintro e w' ⟨rfl,rfl⟩;rw[HB1.out];go_wp2_with fail
      go_ret2
      exact⟨by rw[jg.out];rfl,Below.refl _ _⟩
     ·clear fin
      go_wp2_with fail
      refine(mX d _).mono ?_;rintro e w' ⟨rfl,rfl⟩;rw[HB1.out];go_wp2_with fail
      go_roundg (gk - 1)
      case measure=>have:=HJ.out;omega
      case rel=>
       refine⟨j+1,by have:=HJ.out;omega,by omega,by go_num,fun i h1 h2=>?_,rfl⟩;by_cases hij:i=j
       ·subst hij
        rw[Bo.out];exact HB1.out
       ·exact iV.out i h1 (by omega)
    ·have hjs:j=s.size:=by omega
     have hfin:=fin (fun h=>by omega);have jg:=kH hfin;clear hfin fin;subst hjs;go_wp2_with fail
     go_ret2
     exact⟨by rw[jg.out];rfl,Below.refl _ _⟩
 ·have hrun:il s.data.toList a=(if J2 (tC s.data.toList a (iJ (fun i=>wJ (bz s.data.toList i)) s.data.toList s.data.toList.length a)) then 1 else 0,iJ (fun i=>wJ (bz s.data.toList i)) s.data.toList s.data.toList.length a):=by
   unfold il;rw[K9.out,yK.out,if_pos rfl]
  have xQ:=kH hrun;clear hrun;go_enter Tryz.func180,Tryz.ntmps180
  go_wp2_with fail
  refine(mK c _).mono ?_;rintro e w' ⟨rfl,rfl⟩;rw[yK.out];clear hc;go_wp2_with fail
  go_loopg [6] (s.size - a) (fun gk s6 wr=> ∃j:Nat,j+gk=s.size/\a<=j/\s6= .int .i64 j/\(∀i,a<=i->i<j->(fun i=>wJ (bz s.data.toList i)) i=true)/\w=wr)
  case atStart=>exact⟨a,by omega,aab _,rfl,fun i h1 h2=>by omega,rfl⟩
  case round=>
   obtain⟨j,hj,haj,rfl,hall,rfl⟩:=hrel;have hj':j<=s.size:=by omega
   have HJ:=kH hj;have iV:=kH hall;clear hj hall;obtain⟨kb,hkb⟩:∃x,J2 (tC s.data.toList a j)=x:=⟨_,rfl⟩
   have fin:(j<s.size->wJ (bz s.data.toList j)=false)->il s.data.toList a=(if kb then 1 else 0,j):=fun h=>by
    rw[xQ.out,F6 _ a j haj (by rw[dm];exact hj') iV.out (fun hl=>by rw[dm]at hl;exact h hl) (by omega),hkb]
   have J9:∀w:World,Calls Tryz.prog 228 #[.string (s.extract a j)] w fun e w'=>e= .returned (.bool kb)/\Below w.heap.size w w':=fun w=>by
    have:=Rw (s.extract a j) w;rw[Cx,hkb]at this;exact this
   have iy:=kH J9;clear J9 hkb;have haji:(a:Int)<=(j:Int):=by omega
   have hjsi:(j:Int)<=s.size:=by omega
   by_cases hlt:j<s.size
   ·have hc:=qh s j hlt
    have hji:(j:Int)<s.size:=by omega
    obtain⟨d,hcd⟩:∃c,bz s.data.toList j=c:=⟨_,rfl⟩
    rw[hcd]at hc;obtain⟨b1,hb1⟩:∃x,lH d=x:=⟨_,rfl⟩
    obtain⟨b2,hb2⟩:∃x,fZ d=x:=⟨_,rfl⟩
    have hid:wJ d=(b1 || b2 || decide (d=95)):=by unfold wJ;rw[hb1,hb2]
    have Bo:=kH hcd;have HB1:=kH hb1;have HB2:=kH hb2;rw[hcd,hid]at fin;have HID:=kH hid;clear hcd hb1 hb2 hid;cases b1
    ·cases b2
     ·by_cases h95:d=95
      ·have hdi:((d:Int)==95)=true:=by simp;omega
       have HD:Hid (d=95):=kH h95;clear fin h95;go_wp2_with fail
       refine(mK d _).mono ?_;rintro e w' ⟨rfl,rfl⟩;rw[HB1.out];go_wp2_with fail
       refine(mX d _).mono ?_;rintro e w' ⟨rfl,rfl⟩;rw[HB2.out];go_wp2_with fail
       go_roundg (gk - 1)
       case measure=>have:=HJ.out;omega
       case rel=>
        refine⟨j+1,by have:=HJ.out;omega,by omega,by go_num,fun i h1 h2=>?_,rfl⟩;by_cases hij:i=j
        ·subst hij
         rw[Bo.out,HID.out];simp[HD.out]
        ·exact iV.out i h1 (by omega)
      ·have hdi:((d:Int)==95)=false:=by simp;omega
       have hfin:=fin (fun _=>by simp[h95]);have jg:=kH hfin;clear hfin fin h95;go_wp2_with fail
       refine(mK d _).mono ?_;rintro e w' ⟨rfl,rfl⟩;rw[HB1.out];go_wp2_with fail
       refine(mX d _).mono ?_;rintro e w' ⟨rfl,rfl⟩;rw[HB2.out];go_wp2_with fail
       refine(iy.out _).mono ?_;rintro e w1 ⟨rfl,hb1⟩;cases kb
       ·go_wp2_with fail
        go_ret2
        exact⟨by rw[jg.out];rfl,hb1⟩
       ·go_wp2_with fail
        go_ret2
        exact⟨by rw[jg.out];rfl,hb1⟩
     ·clear fin
      go_wp2_with fail
      refine(mK d _).mono ?_;rintro e w' ⟨rfl,rfl⟩;rw[HB1.out];go_wp2_with fail
      refine(mX d _).mono ?_;rintro e w' ⟨rfl,rfl⟩;rw[HB2.out];go_wp2_with fail
      go_roundg (gk - 1)
      case measure=>have:=HJ.out;omega
      case rel=>
       refine⟨j+1,by have:=HJ.out;omega,by omega,by go_num,fun i h1 h2=>?_,rfl⟩;by_cases hij:i=j
       ·subst hij
        rw[Bo.out,HID.out];simp
       ·exact iV.out i h1 (by omega)
    ·clear fin
     go_wp2_with fail
     refine(mK d _).mono ?_;rintro e w' ⟨rfl,rfl⟩;rw[HB1.out];go_wp2_with fail
     go_roundg (gk - 1)
     case measure=>have:=HJ.out;omega
     case rel=>
      refine⟨j+1,by have:=HJ.out;omega,by omega,by go_num,fun i h1 h2=>?_,rfl⟩;by_cases hij:i=j
      ·subst hij
       rw[Bo.out,HID.out];simp
      ·exact iV.out i h1 (by omega)
   ·have hjs:j=s.size:=by omega
    have hfin:=fin (fun h=>by omega);have jg:=kH hfin;clear hfin fin;subst hjs;go_wp2_with fail
    refine(iy.out _).mono ?_;rintro e w1 ⟨rfl,hb1⟩;cases kb
    ·go_wp2_with fail
     go_ret2
     exact⟨by rw[jg.out];rfl,hb1⟩
    ·go_wp2_with fail
     go_ret2
     exact⟨by rw[jg.out];rfl,hb1⟩
mutual
def aF(w:World)(P:Nat->Prop):aa->List Value->Prop
 | .node k t a e kids,cs=> ∃A c vals,cs=[.int .i64 k,.string t,.int .i64 a,.int .i64 e,.slice A kids.length c]/\aP w 0 24 5 (.slice A kids.length c) kids.length (List.flatten vals)/\(∀g,(Value.slice A kids.length c).ownBlock=some g->P g)/\bV w P kids vals
def bV(w:World)(P:Nat->Prop):List aa->List (List Value)->Prop
 | [],vals=>vals=[]
 | t::ts,vals=> ∃v vs,vals=v::vs/\aF w P t v/\bV w P ts vs
end
def dB(P:Nat->Prop)(w w':World):Prop:=∀(g:Nat) (cs:Array Value),P g->w.heap[g]? =some (.cells cs 24 (0,0))->w'.heap[g]? =w.heap[g]?
theorem aP.typed{w:World}{base:Nat}{e:TypeId}{size:Nat}{v:Value}{n:Nat}{xs:List Value}(h:aP w base e size v n xs){g:Nat}(hg:v.ownBlock=some g):∃cs,w.heap[g]? =some (.cells cs e (0,0)):=by
 rcases h.2 with⟨rfl,_⟩| ⟨g1,EK,I7,Ch,rfl,_,hg1,_⟩
 ·cases hg
 ·have e1:g1=g:=by simpa [Value.ownBlock] using hg
  subst e1;exact⟨_,hg1⟩
theorem aP.dZ{P:Nat->Prop}{w w':World}{base:Nat}{v:Value}{n:Nat}{xs:List Value}(h:aP w base 24 5 v n xs)(hP:∀g,v.ownBlock=some g->P g)(hk:dB P w w'):aP w' base 24 5 v n xs:=
 h.of_block fun g hg=>by
  obtain⟨cs,hc⟩:=h.typed hg;exact hk g cs (hP g hg) hc
mutual
theorem aF.keeps{P:Nat->Prop}{w w':World}(hk:dB P w w'):∀(t:aa) (cs:List Value),aF w P t cs->aF w' P t cs
 | .node _ _ _ _ kids,_,h=>by
  obtain⟨A,c,vals,h1,h2,hP,h3⟩:=h;exact⟨A,c,vals,h1,h2.dZ hP hk,hP,bV.keeps hk kids vals h3⟩
theorem bV.keeps{P:Nat->Prop}{w w':World}(hk:dB P w w'):∀(ts:List aa) (vals:List (List Value)),bV w P ts vals->bV w' P ts vals
 | [],_,h=>h
 | t::ts,_,h=>by
  obtain⟨v,vs,h1,h2,h3⟩:=h;exact⟨v,vs,h1,aF.keeps hk t v h2,bV.keeps hk ts vs h3⟩
end
mutual
theorem aF.weak{P Q:Nat->Prop}{w:World}(zg:∀g,g<w.heap.size->P g->Q g):∀(t:aa) (cs:List Value),aF w P t cs->aF w Q t cs
 | .node _ _ _ _ kids,_,h=>by
  obtain⟨A,c,vals,h1,h2,hP,h3⟩:=h;exact⟨A,c,vals,h1,h2,fun g hg=>zg g (h2.lt g hg).2 (hP g hg),bV.weak zg kids vals h3⟩
theorem bV.weak{P Q:Nat->Prop}{w:World}(zg:∀g,g<w.heap.size->P g->Q g):∀(ts:List aa) (vals:List (List Value)),bV w P ts vals->bV w Q ts vals
 | [],_,h=>h
 | t::ts,_,h=>by
  obtain⟨v,vs,h1,h2,h3⟩:=h;exact⟨v,vs,h1,aF.weak zg t v h2,bV.weak zg ts vs h3⟩
end
theorem dB.of_below{P:Nat->Prop}{w w':World}(hb:Below w.heap.size w w'):dB P w w':=fun g _ _ h=>hb.block g (aae.1 h).1
theorem aF.len{P:Nat->Prop}{w:World}{t:aa}{cs:List Value}(h:aF w P t cs):cs.length=5:=by
 cases t with
 | node k x a e kids=>
  obtain⟨A,c,vals,rfl,_⟩:=h;rfl
theorem bV.lens{P:Nat->Prop}{w:World}:∀{ts:List aa}{vals:List (List Value)},bV w P ts vals->vals.length=ts.length/\(List.flatten vals).length=ts.length*5
 | [],vals,h=>by
  have:vals=[]:=h;subst this;exact⟨rfl,rfl⟩
 | t::ts,vals,h=>by
  obtain⟨v,vs,rfl,h1,h2⟩:=h;have:=bV.lens h2;have:=aF.len h1;simp only[aao,List.flatten_cons,aam];omega
theorem bV.snoc{P:Nat->Prop}{w:World}:∀{ts:List aa}{vals:List (List Value)}{t:aa}{v:List Value},bV w P ts vals->aF w P t v->bV w P (ts++[t]) (vals++[v])
 | [],vals,t,v,h,ht=>by
  have:vals=[]:=h;subst this;exact⟨v,[],rfl,ht,rfl⟩
 | x::ts,vals,t,v,h,ht=>by
  obtain⟨v1,vs,rfl,h1,h2⟩:=h;exact⟨v1,vs++[v],rfl,h1,bV.snoc h2 ht⟩
def bT(w:World)(lo:Nat)(v:Value)(n:Nat)(ts:List aa):Prop:=
 ∃vals,aP w lo 24 5 v n (List.flatten vals)/\bV w (fun g=>lo<=g/\some g≠v.ownBlock) ts vals/\ts.length=n
theorem bT.keeps{w w':World}{lo:Nat}{v:Value}{n:Nat}{ts:List aa}(h:bT w lo v n ts)(hk:dB (fun g=>lo<=g) w w'):bT w' lo v n ts:=by
 obtain⟨vals,h1,h2,h3⟩:=h;exact⟨vals,h1.dZ (fun g hg=>(h1.lt g hg).1) hk,bV.keeps (fun g cs hP hc=>hk g cs hP.1 hc) _ _ h2,h3⟩
theorem bT.nil(w:World)(lo:Nat):bT w lo (.slice none 0 0) 0 []:=⟨[],aP.nil _ _ _ _,rfl,rfl⟩
theorem bT.node{w:World}{lo:Nat}{A:Option Addr}{n c:Nat}{ts:List aa}(h:bT w lo (.slice A n c) n ts)(k:Int)(t:ByteArray)(a e:Int):
 aF w (fun g=>lo<=g) (.node k t a e ts) [.int .i64 k,.string t,.int .i64 a,.int .i64 e,.slice A n c]:=by
 obtain⟨vals,h1,h2,rfl⟩:=h;exact⟨A,c,vals,rfl,h1.mono (Nat.zero_le _),fun g hg=>(h1.lt g hg).1,bV.weak (fun g _ hg=>hg.1) _ _ h2⟩
theorem bT.push{w w1:World}{lo:Nat}{v v':Value}{n:Nat}{ts:List aa}{t:aa}{cs:List Value}{vals:List (List Value)}
 (h2:bV w (fun g=>lo<=g/\some g≠v.ownBlock) ts vals) (hn:ts.length=n) (ht:aF w (fun g=>lo<=g/\some g≠v.ownBlock) t cs)
 (hown:aP w1 lo 24 5 v' (n+1) (List.flatten vals++cs)) (hk:∀g,g<w.heap.size->some g≠v.ownBlock->w1.heap[g]? =w.heap[g]?) (hat:v'.ownBlock=v.ownBlock\/∀g,v'.ownBlock=some g->w.heap.size<=g):bT w1 lo v' (n+1) (ts++[t]):=by
 have hall:=bV.snoc h2 ht;have hke:dB (fun g=>lo<=g/\some g≠v.ownBlock) w w1:=fun g cs hP hc=>hk g (aae.1 hc).1 hP.2
 have Dr:bV w (fun g=>(lo<=g/\some g≠v.ownBlock)/\(lo<=g/\some g≠v'.ownBlock)) (ts++[t]) (vals++[cs]):=bV.weak (fun g hg hP=>⟨hP,hP.1,fun e=>by
  rcases hat with h|h
  ·exact hP.2 (e.trans h)
  ·have:=h g e.symm
   omega⟩) _ _ hall
 have hall3:=bV.keeps (w':=w1) (fun g cs hP hc=>hke g cs hP.1 hc) _ _ Dr;refine⟨vals++[cs],?_,bV.weak (fun g _ hP=>hP.2) _ _ hall3,by simp[hn]⟩;simpa using hown
end Go.Proofs.YtoepemlnlpamlaaGreat
namespace Go.Proofs.YtoepemlnlpamlaaGreat
section
variable {s:bE}{l:List jP}
theorem fE{r:Option (List aa×PS)}{f:aa->PS->Option (List aa×PS)}{y:List aa×PS}(h:pW r f=some y):∃x p,r=some ([x],p)/\f x p=some y:=by
 unfold pW at h;split at h
 ·exact⟨_,_,rfl,h⟩
 ·cases h
theorem vL{r:Option (List aa×PS)}{f:List aa->PS->Option (List aa×PS)}{y:List aa×PS}(h:yP r f=some y):∃x p,r=some (x,p)/\f x p=some y:=by
 unfold yP at h;split at h
 ·exact⟨_,_,rfl,h⟩
 ·cases h
theorem iq{r:Option (List aa×PS)}{f:aa->PS->Option (List aa×PS)}{x:aa}{p:PS}(h:r=some ([x],p)):pW r f=f x p:=by rw[h];rfl
theorem zJ{r:Option (List aa×PS)}{f:List aa->PS->Option (List aa×PS)}{x:List aa}{p:PS}(h:r=some (x,p)):yP r f=f x p:=by rw[h];rfl
theorem Tz:∀(f first:Nat) (p q:PS),qp s l first f p=some q->qp s l first (f+1) p=some q:=by
 intro f
 induction f with
 | zero=>intro first p q h;simp[qp]at h
 | succ f ih=>
  intro first p q h
  rw[qp]at h⊢;split at h
  ·rename_i h1
   rw[if_pos h1];split at h
   ·rename_i h2;rw[if_pos h2];exact h
   ·rename_i h2;rw[if_neg h2];exact ih _ _ _ h
  ·rename_i h1
   rw[if_neg h1];exact h
theorem Nr{f:Nat}{p:PS}{y:aa×PS}(h:pU s l f p=some y):pU s l (f+1) p=some y:=by
 unfold pU at h⊢;split at h
 ·cases h
 ·rename_i q hq
  rw[Tz _ _ _ _ hq];exact h
theorem Mk:∀(f:Nat) (fn:Fn) (p:PS) (y:List aa×PS),aO s l f fn p=some y->aO s l (f+1) fn p=some y:=by
 intro f
 induction f with
 | zero=>intro fn p y h;simp[aO]at h
 | succ f ih=>
  have o7:∀{fn:Fn}{p:PS}{g g':aa->PS->Option (List aa×PS)}{y:List aa×PS},pW (aO s l f fn p) g=some y->(∀x q y,g x q=some y->g' x q=some y)->pW (aO s l (f+1) fn p) g'=some y:=by
   intro fn p g g' y h hg;obtain⟨x,q,h1,h2⟩:=fE h;rw[iq (ih _ _ _ h1)];exact hg _ _ _ h2
  have many1:∀{fn:Fn}{p:PS}{g g':List aa->PS->Option (List aa×PS)}{y:List aa×PS},yP (aO s l f fn p) g=some y->(∀x q y,g x q=some y->g' x q=some y)->yP (aO s l (f+1) fn p) g'=some y:=by
   intro fn p g g' y h hg;obtain⟨x,q,h1,h2⟩:=vL h;rw[zJ (ih _ _ _ h1)];exact hg _ _ _ h2
  intro fn p y h
  cases fn with
  | expr lv=>
   rw[aO]at h⊢;split at h
   ·rename_i h1
    rw[if_pos h1];split at h
    ·rename_i h2
     rw[if_pos h2];exact o7 h (fun _ _ _ h=>h)
    ·rename_i h2
     rw[if_neg h2];exact ih _ _ _ h
   ·rename_i h1
    rw[if_neg h1];split at h
    ·rename_i h2
     rw[if_pos h2];split at h
     ·rename_i h3
      rw[if_pos h3];exact o7 h (fun _ _ _ h=>h)
     ·rename_i h3
      rw[if_neg h3];exact ih _ _ _ h
    ·rename_i h2
     rw[if_neg h2];exact o7 h (fun _ _ _ h=>ih _ _ _ h)
  | sS lv first x=>
   rw[aO]at h⊢;split at h
   ·rename_i h1
    rw[if_pos h1];refine o7 h (fun y q z h=>?_);simp only at h⊢;split at h
    ·rename_i h2;rw[if_pos h2];exact h
    ·rename_i h2;rw[if_neg h2];exact ih _ _ _ h
   ·rename_i h1;rw[if_neg h1];exact h
  | operand=>
   rw[aO]at h⊢;split at h
   ·rename_i h1;rw[if_pos h1];exact h
   rename_i h1;rw[if_neg h1]
   split at h
   ·rename_i h2;rw[if_pos h2];exact h
   rename_i h2;rw[if_neg h2]
   split at h
   ·rename_i h3;rw[if_pos h3];exact many1 h (fun _ _ _ h=>h)
   rename_i h3;rw[if_neg h3]
   split at h
   ·rename_i h4;rw[if_pos h4];exact ih _ _ _ h
   rename_i h4;rw[if_neg h4]
   split at h
   ·rename_i h5
    rw[if_pos h5];exact o7 h (fun _ _ _ h=>many1 h (fun _ _ _ h=>h))
   rename_i h5;rw[if_neg h5]
   split at h
   ·rename_i h6;rw[if_pos h6];exact h
   rename_i h6;rw[if_neg h6]
   split at h
   ·rename_i h7;rw[if_pos h7];exact o7 h (fun _ _ _ h=>h)
   rename_i h7;rw[if_neg h7];exact h
  | args=>
   rw[aO]at h⊢;split at h
   ·rename_i h1;rw[if_pos h1];exact h
   rename_i h1;rw[if_neg h1]
   exact o7 h (fun _ _ _ h=>many1 h (fun _ _ _ h=>h))
  | oq kids=>
   rw[aO]at h⊢;split at h
   ·rename_i h1;rw[if_pos h1];exact o7 h (fun _ _ _ h=>ih _ _ _ h)
   rename_i h1;rw[if_neg h1];exact h
  | place=>
   rw[aO]at h⊢;split at h
   ·rename_i h1;rw[if_pos h1];exact o7 h (fun _ _ _ h=>h)
   rename_i h1;rw[if_neg h1];exact h
  | stmt=>
   rw[aO]at h⊢;simp only at h⊢;split at h
   ·rename_i h1;rw[if_pos h1];exact o7 h (fun _ _ _ h=>h)
   rename_i h1;rw[if_neg h1]
   split at h
   ·rename_i h2;rw[if_pos h2];exact ih _ _ _ h
   rename_i h2;rw[if_neg h2]
   split at h
   ·rename_i h3;rw[if_pos h3];exact o7 h (fun _ _ _ h=>o7 h (fun _ _ _ h=>h))
   rename_i h3;rw[if_neg h3]
   split at h
   ·rename_i h4;rw[if_pos h4];exact o7 h (fun _ _ _ h=>o7 h (fun _ _ _ h=>o7 h (fun _ _ _ h=>h)))
   rename_i h4;rw[if_neg h4]
   split at h
   ·rename_i h5
    rw[if_pos h5];split at h
    ·rename_i h6;rw[if_pos h6];exact o7 h (fun _ _ _ h=>h)
    rename_i h6;rw[if_neg h6];exact h
   rename_i h5;rw[if_neg h5]
   split at h
   ·rename_i h6;rw[if_pos h6];exact o7 h (fun _ _ _ h=>h)
   rename_i h6;rw[if_neg h6]
   split at h
   ·rename_i h7;rw[if_pos h7];exact many1 h (fun _ _ _ h=>h)
   rename_i h7;rw[if_neg h7]
   split at h
   ·rename_i h8;rw[if_pos h8];exact o7 h (fun _ _ _ h=>o7 h (fun _ _ _ h=>h))
   rename_i h8;rw[if_neg h8]
   split at h
   ·cases h
   ·rename_i x q hq
    rw[Nr hq];exact h
  | block=>
   rw[aO]at h⊢;split at h
   ·rename_i h1;rw[if_pos h1];exact many1 h (fun _ _ _ h=>h)
   rename_i h1;rw[if_neg h1];exact h
  | qi kids=>
   rw[aO]at h⊢;split at h
   ·rename_i h1;rw[if_pos h1];exact h
   rename_i h1;rw[if_neg h1]
   exact o7 h (fun _ _ _ h=>ih _ _ _ h)
  | branch=>
   rw[aO]at h⊢;refine o7 h (fun _ _ _ h=>o7 h (fun _ _ _ h=>?_));split at h
   ·rename_i h1
    rw[if_pos h1];split at h
    ·rename_i h2;rw[if_pos h2];exact o7 h (fun _ _ _ h=>h)
    rename_i h2;rw[if_neg h2];exact o7 h (fun _ _ _ h=>h)
   rename_i h1;rw[if_neg h1];exact h
theorem F8{f f':Nat}(hf:f<=f'){fn:Fn}{p:PS}{y:List aa×PS}(h:aO s l f fn p=some y):aO s l f' fn p=some y:=by
 induction hf with
 | refl=>exact h
 | step _ ih=>exact Mk _ _ _ _ ih
end
end Go.Proofs.YtoepemlnlpamlaaGreat
