/- The law NamesBack holds for every text and every number: it returns true, and its arguments read as before. No condition. Part 4: LexT Tree ParT. -/
import Derived.Test.YtoepemlnlpamlaaGreatBakk01
import Derived.Test.YtoepemlnlpamlaaGreatBakk03
set_option maxRecDepth 100000
set_option maxHeartbeats 4000000
namespace Go.Proofs.YtoepemlnlpamlaaGreat
open Go.RowKit
theorem Wz(s:ByteArray)(a:Nat)(w:World)(ha:a<s.size)(hs:s.size<=4096):
 Calls Tryz.prog 180 #[.string s,.int .i64 (a:Int)] w fun e w'=>e= .returned (.tuple #[.int .i64 ((gy s.data.toList a).1:Int),.int .i64 ((gy s.data.toList a).2:Int)])/\Below w.heap.size w w':=by
 have hc:=pK s a ha;have hai:(a:Int)<s.size:=by omega
 obtain⟨c,hcb⟩:∃c,bz s.data.toList a=c:=⟨_,rfl⟩
 rw[hcb]at hc;have Ec:=kH hcb;clear hcb;obtain⟨bl,hbl⟩:∃x,kJ c=x:=⟨_,rfl⟩
 have yE:=kH hbl;clear hbl;cases bl
 ·obtain⟨bd,hbd⟩:∃x,fB c=x:=⟨_,rfl⟩
  have Hg:=kH hbd;clear hbd;cases bd
  ·obtain⟨sm,hsm⟩:∃x,xy s.data.toList a=x:=⟨_,rfl⟩
   have hsm2:sm<=2:=by rw[<- hsm];exact symM_le a
   have hsy:∀w:World,Calls Tryz.prog 229 #[.string s,.int .i64 (a:Int)] w fun e w'=>e= .returned (.int .i64 (sm:Int))/\Below w.heap.size w w':=fun w=>by rw[<- hsm];exact JF s a w ha hs
   have La:=kH hsm;have Tz:=kH hsy;clear hsm hsy;by_cases h0:0<sm
   ·have h0i:(0:Int)<(sm:Int):=by omega
    have hres:gy s.data.toList a=(3,a+sm):=by
     unfold gy;rw[Ec.out,yE.out,Hg.out,La.out,if_neg (by simp),if_neg (by simp),if_pos h0]
    have aM:=kH hres;clear hres h0;go_enter Tryz.func180,Tryz.ntmps180
    go_wp2_with fail
    refine(l9 c _).mono ?_;rintro e w' ⟨rfl,rfl⟩;rw[yE.out];go_wp2_with fail
    refine(mF c _).mono ?_;rintro e w' ⟨rfl,rfl⟩;rw[Hg.out];go_wp2_with fail
    refine(Tz.out _).mono ?_;rintro e w1 ⟨rfl,hb1⟩;go_wp2_with fail
    refine(Tz.out _).mono ?_;rintro e w2 ⟨rfl,hb2⟩;go_wp2_with fail
    go_ret2
    refine⟨by rw[aM.out];rfl,hb1.trans (hb2.mono hb1.size)⟩
   ·have hs0:sm=0:=by omega
    subst hs0
    have hrun:gy s.data.toList a=(4,gY (fun i=> !qW (bz s.data.toList i)&& !decide (bz s.data.toList i=35)&& !uq s.data.toList i) s.data.toList s.data.toList.length a):=by
     unfold gy;rw[Ec.out,yE.out,Hg.out,La.out,if_neg (by simp),if_neg (by simp),if_neg (by simp)]
    have xM:=kH hrun;clear hrun h0;go_enter Tryz.func180,Tryz.ntmps180
    go_wp2_with fail
    refine(l9 c _).mono ?_;rintro e w' ⟨rfl,rfl⟩;rw[yE.out];go_wp2_with fail
    refine(mF c _).mono ?_;rintro e w' ⟨rfl,rfl⟩;rw[Hg.out];go_wp2_with fail
    refine(Tz.out _).mono ?_;rintro e w1 ⟨rfl,hb1⟩;clear hc;go_wp2_with fail
    go_loopg [6] (s.size - a) (fun gk s6 wr=> ∃j:Nat,j+gk=s.size/\a<=j/\s6= .int .i64 j/\(∀i,a<=i->i<j->(fun i=> !qW (bz s.data.toList i)&& !decide (bz s.data.toList i=35)&& !uq s.data.toList i) i=true)/\Below w.heap.size w wr)
    case atStart=>exact⟨a,by omega,aaD _,rfl,fun i h1 h2=>by omega,hb1⟩
    case round=>
     obtain⟨j,hj,haj,rfl,hall,hB⟩:=hrel;have hj':j<=s.size:=by omega
     have HJ:=kH hj;have iB:=kH hall;clear hj hall hb1
     have fin:(j<s.size->(!qW (bz s.data.toList j)&& !decide (bz s.data.toList j=35)&& !uq s.data.toList j)=false)->gy s.data.toList a=(4,j):=fun h=>by
      rw[xM.out,FU _ a j haj (by rw[bS];exact hj') iB.out (fun hl=>by rw[bS]at hl;exact h hl) (by omega)]
     by_cases hlt:j<s.size
     ·have hc:=pK s j hlt
      have hji:(j:Int)<s.size:=by omega
      obtain⟨d,hcd⟩:∃c,bz s.data.toList j=c:=⟨_,rfl⟩
      rw[hcd]at hc;obtain⟨b1,hb1⟩:∃x,qW d=x:=⟨_,rfl⟩
      obtain⟨b3,hb3⟩:∃x,uq s.data.toList j=x:=⟨_,rfl⟩
      have Aq:=kH hcd;have HB1:=kH hb1;have HB3:=kH hb3;rw[hcd,hb1,hb3]at fin;clear hcd hb1 hb3;cases b1
      ·by_cases uD:d=35
       ·have hfin:=fin (fun _=>by simp[uD])
        have hdi:((d:Int) !=35)=false:=by simp;omega
        have iP:=kH hfin;clear hfin fin uD;go_wp2_with fail
        refine(tT d _).mono ?_;rintro e w' ⟨rfl,rfl⟩;rw[HB1.out];go_wp2_with fail
        go_ret2
        exact⟨by rw[iP.out];rfl,hB⟩
       ·have hdi:((d:Int) !=35)=true:=by simp;omega
        have hda:decide (d=35)=false:=decide_eq_false uD;rw[hda]at fin;have HDA:=kH hda;clear hda uD;cases b3
        ·clear fin
         go_wp2_with fail
         refine(tT d _).mono ?_;rintro e w' ⟨rfl,rfl⟩;rw[HB1.out];go_wp2_with fail
         refine(KU s j _ hlt hs).mono ?_;rintro e w2 ⟨rfl,hb2⟩;rw[HB3.out];go_wp2_with fail
         go_roundg (gk - 1)
         case measure=>have:=HJ.out;omega
         case rel=>
          refine⟨j+1,by have:=HJ.out;omega,by omega,by go_num,fun i h1 h2=>?_,hB.trans (hb2.mono hB.size)⟩;by_cases hij:i=j
          ·subst hij
           rw[HB3.out,Aq.out,HDA.out,HB1.out];rfl
          ·exact iB.out i h1 (by omega)
        ·have hfin:=fin (fun _=>by simp)
         have iP:=kH hfin;clear hfin fin;go_wp2_with fail
         refine(tT d _).mono ?_;rintro e w' ⟨rfl,rfl⟩;rw[HB1.out];go_wp2_with fail
         refine(KU s j _ hlt hs).mono ?_;rintro e w2 ⟨rfl,hb2⟩;rw[HB3.out];go_wp2_with fail
         go_ret2
         exact⟨by rw[iP.out];rfl,hB.trans (hb2.mono hB.size)⟩
      ·have hfin:=fin (fun _=>by simp)
       have iP:=kH hfin;clear hfin fin;go_wp2_with fail
       refine(tT d _).mono ?_;rintro e w' ⟨rfl,rfl⟩;rw[HB1.out];go_wp2_with fail
       go_ret2
       exact⟨by rw[iP.out];rfl,hB⟩
     ·have hjs:j=s.size:=by omega
      have hfin:=fin (fun h=>by omega);have iP:=kH hfin;clear hfin fin;subst hjs;go_wp2_with fail
      go_ret2
      exact⟨by rw[iP.out];rfl,hB⟩
  ·have hrun:gy s.data.toList a=(2,gY (fun i=>fB (bz s.data.toList i)) s.data.toList s.data.toList.length a):=by
    unfold gy;rw[Ec.out,yE.out,Hg.out,if_neg (by simp),if_pos rfl]
   have xM:=kH hrun;clear hrun;go_enter Tryz.func180,Tryz.ntmps180
   go_wp2_with fail
   refine(l9 c _).mono ?_;rintro e w' ⟨rfl,rfl⟩;rw[yE.out];go_wp2_with fail
   refine(mF c _).mono ?_;rintro e w' ⟨rfl,rfl⟩;rw[Hg.out];clear hc;go_wp2_with fail
   go_loopg [6] (s.size - a) (fun gk s6 wr=> ∃j:Nat,j+gk=s.size/\a<=j/\s6= .int .i64 j/\(∀i,a<=i->i<j->(fun i=>fB (bz s.data.toList i)) i=true)/\w=wr)
   case atStart=>exact⟨a,by omega,aaD _,rfl,fun i h1 h2=>by omega,rfl⟩
   case round=>
    obtain⟨j,hj,haj,rfl,hall,rfl⟩:=hrel;have hj':j<=s.size:=by omega
    have HJ:=kH hj;have iB:=kH hall;clear hj hall
    have fin:(j<s.size->fB (bz s.data.toList j)=false)->gy s.data.toList a=(2,j):=fun h=>by
     rw[xM.out,FU _ a j haj (by rw[bS];exact hj') iB.out (fun hl=>by rw[bS]at hl;exact h hl) (by omega)]
    by_cases hlt:j<s.size
    ·have hc:=pK s j hlt
     have hji:(j:Int)<s.size:=by omega
     obtain⟨d,hcd⟩:∃c,bz s.data.toList j=c:=⟨_,rfl⟩
     rw[hcd]at hc;obtain⟨b1,hb1⟩:∃x,fB d=x:=⟨_,rfl⟩
     have Aq:=kH hcd;have HB1:=kH hb1;rw[hcd,hb1]at fin;clear hcd hb1;cases b1
     ·have hfin:=fin (fun _=>rfl)
      have iP:=kH hfin;clear hfin fin;go_wp2_with fail
      refine(mF d _).mono ?_;rintro e w' ⟨rfl,rfl⟩;rw[HB1.out];go_wp2_with fail
      go_ret2
      exact⟨by rw[iP.out];rfl,Below.refl _ _⟩
     ·clear fin
      go_wp2_with fail
      refine(mF d _).mono ?_;rintro e w' ⟨rfl,rfl⟩;rw[HB1.out];go_wp2_with fail
      go_roundg (gk - 1)
      case measure=>have:=HJ.out;omega
      case rel=>
       refine⟨j+1,by have:=HJ.out;omega,by omega,by go_num,fun i h1 h2=>?_,rfl⟩;by_cases hij:i=j
       ·subst hij
        rw[Aq.out];exact HB1.out
       ·exact iB.out i h1 (by omega)
    ·have hjs:j=s.size:=by omega
     have hfin:=fin (fun h=>by omega);have iP:=kH hfin;clear hfin fin;subst hjs;go_wp2_with fail
     go_ret2
     exact⟨by rw[iP.out];rfl,Below.refl _ _⟩
 ·have hrun:gy s.data.toList a=(if Ka (qN s.data.toList a (gY (fun i=>wm (bz s.data.toList i)) s.data.toList s.data.toList.length a)) then 1 else 0,gY (fun i=>wm (bz s.data.toList i)) s.data.toList s.data.toList.length a):=by
   unfold gy;rw[Ec.out,yE.out,if_pos rfl]
  have xM:=kH hrun;clear hrun;go_enter Tryz.func180,Tryz.ntmps180
  go_wp2_with fail
  refine(l9 c _).mono ?_;rintro e w' ⟨rfl,rfl⟩;rw[yE.out];clear hc;go_wp2_with fail
  go_loopg [6] (s.size - a) (fun gk s6 wr=> ∃j:Nat,j+gk=s.size/\a<=j/\s6= .int .i64 j/\(∀i,a<=i->i<j->(fun i=>wm (bz s.data.toList i)) i=true)/\w=wr)
  case atStart=>exact⟨a,by omega,aaD _,rfl,fun i h1 h2=>by omega,rfl⟩
  case round=>
   obtain⟨j,hj,haj,rfl,hall,rfl⟩:=hrel;have hj':j<=s.size:=by omega
   have HJ:=kH hj;have iB:=kH hall;clear hj hall;obtain⟨kb,hkb⟩:∃x,Ka (qN s.data.toList a j)=x:=⟨_,rfl⟩
   have fin:(j<s.size->wm (bz s.data.toList j)=false)->gy s.data.toList a=(if kb then 1 else 0,j):=fun h=>by
    rw[xM.out,FU _ a j haj (by rw[bS];exact hj') iB.out (fun hl=>by rw[bS]at hl;exact h hl) (by omega),hkb]
   have Kk:∀w:World,Calls Tryz.prog 228 #[.string (s.extract a j)] w fun e w'=>e= .returned (.bool kb)/\Below w.heap.size w w':=fun w=>by
    have:=Sb (s.extract a j) w;rw[Ci,hkb]at this;exact this
   have Li:=kH Kk;clear Kk hkb;have haji:(a:Int)<=(j:Int):=by omega
   have hjsi:(j:Int)<=s.size:=by omega
   by_cases hlt:j<s.size
   ·have hc:=pK s j hlt
    have hji:(j:Int)<s.size:=by omega
    obtain⟨d,hcd⟩:∃c,bz s.data.toList j=c:=⟨_,rfl⟩
    rw[hcd]at hc;obtain⟨b1,hb1⟩:∃x,kJ d=x:=⟨_,rfl⟩
    obtain⟨b2,hb2⟩:∃x,fB d=x:=⟨_,rfl⟩
    have hid:wm d=(b1 || b2 || decide (d=95)):=by unfold wm;rw[hb1,hb2]
    have Aq:=kH hcd;have HB1:=kH hb1;have HB2:=kH hb2;rw[hcd,hid]at fin;have HID:=kH hid;clear hcd hb1 hb2 hid;cases b1
    ·cases b2
     ·by_cases h95:d=95
      ·have hdi:((d:Int)==95)=true:=by simp;omega
       have HD:Hid (d=95):=kH h95;clear fin h95;go_wp2_with fail
       refine(l9 d _).mono ?_;rintro e w' ⟨rfl,rfl⟩;rw[HB1.out];go_wp2_with fail
       refine(mF d _).mono ?_;rintro e w' ⟨rfl,rfl⟩;rw[HB2.out];go_wp2_with fail
       go_roundg (gk - 1)
       case measure=>have:=HJ.out;omega
       case rel=>
        refine⟨j+1,by have:=HJ.out;omega,by omega,by go_num,fun i h1 h2=>?_,rfl⟩;by_cases hij:i=j
        ·subst hij
         rw[Aq.out,HID.out];simp[HD.out]
        ·exact iB.out i h1 (by omega)
      ·have hdi:((d:Int)==95)=false:=by simp;omega
       have hfin:=fin (fun _=>by simp[h95]);have iP:=kH hfin;clear hfin fin h95;go_wp2_with fail
       refine(l9 d _).mono ?_;rintro e w' ⟨rfl,rfl⟩;rw[HB1.out];go_wp2_with fail
       refine(mF d _).mono ?_;rintro e w' ⟨rfl,rfl⟩;rw[HB2.out];go_wp2_with fail
       refine(Li.out _).mono ?_;rintro e w1 ⟨rfl,hb1⟩;cases kb
       ·go_wp2_with fail
        go_ret2
        exact⟨by rw[iP.out];rfl,hb1⟩
       ·go_wp2_with fail
        go_ret2
        exact⟨by rw[iP.out];rfl,hb1⟩
     ·clear fin
      go_wp2_with fail
      refine(l9 d _).mono ?_;rintro e w' ⟨rfl,rfl⟩;rw[HB1.out];go_wp2_with fail
      refine(mF d _).mono ?_;rintro e w' ⟨rfl,rfl⟩;rw[HB2.out];go_wp2_with fail
      go_roundg (gk - 1)
      case measure=>have:=HJ.out;omega
      case rel=>
       refine⟨j+1,by have:=HJ.out;omega,by omega,by go_num,fun i h1 h2=>?_,rfl⟩;by_cases hij:i=j
       ·subst hij
        rw[Aq.out,HID.out];simp
       ·exact iB.out i h1 (by omega)
    ·clear fin
     go_wp2_with fail
     refine(l9 d _).mono ?_;rintro e w' ⟨rfl,rfl⟩;rw[HB1.out];go_wp2_with fail
     go_roundg (gk - 1)
     case measure=>have:=HJ.out;omega
     case rel=>
      refine⟨j+1,by have:=HJ.out;omega,by omega,by go_num,fun i h1 h2=>?_,rfl⟩;by_cases hij:i=j
      ·subst hij
       rw[Aq.out,HID.out];simp
      ·exact iB.out i h1 (by omega)
   ·have hjs:j=s.size:=by omega
    have hfin:=fin (fun h=>by omega);have iP:=kH hfin;clear hfin fin;subst hjs;go_wp2_with fail
    refine(Li.out _).mono ?_;rintro e w1 ⟨rfl,hb1⟩;cases kb
    ·go_wp2_with fail
     go_ret2
     exact⟨by rw[iP.out];rfl,hb1⟩
    ·go_wp2_with fail
     go_ret2
     exact⟨by rw[iP.out];rfl,hb1⟩
mutual
def aB(w:World)(P:Nat->Prop):aa->List Value->Prop
 | .node k t a e kids,cs=> ∃A c vals,cs=[.int .i64 k,.string t,.int .i64 a,.int .i64 e,.slice A kids.length c]/\aL w 0 24 5 (.slice A kids.length c) kids.length (List.flatten vals)/\(∀g,(Value.slice A kids.length c).ownBlock=some g->P g)/\bM w P kids vals
def bM(w:World)(P:Nat->Prop):List aa->List (List Value)->Prop
 | [],vals=>vals=[]
 | t::ts,vals=> ∃v vs,vals=v::vs/\aB w P t v/\bM w P ts vs
end
def bO(P:Nat->Prop)(w w':World):Prop:=∀(g:Nat) (cs:Array Value),P g->w.heap[g]? =some (.cells cs 24 (0,0))->w'.heap[g]? =w.heap[g]?
theorem aL.typed{w:World}{base:Nat}{e:TypeId}{size:Nat}{v:Value}{n:Nat}{xs:List Value}(h:aL w base e size v n xs){g:Nat}(hg:v.ownBlock=some g):∃cs,w.heap[g]? =some (.cells cs e (0,0)):=by
 rcases h.2 with⟨rfl,_⟩| ⟨g1,EB,Jd,BC,rfl,_,hg1,_⟩
 ·cases hg
 ·have e1:g1=g:=by simpa [Value.ownBlock] using hg
  subst e1;exact⟨_,hg1⟩
theorem aL.dL{P:Nat->Prop}{w w':World}{base:Nat}{v:Value}{n:Nat}{xs:List Value}(h:aL w base 24 5 v n xs)(hP:∀g,v.ownBlock=some g->P g)(hk:bO P w w'):aL w' base 24 5 v n xs:=
 h.of_block fun g hg=>by
  obtain⟨cs,hc⟩:=h.typed hg;exact hk g cs (hP g hg) hc
mutual
theorem aB.keeps{P:Nat->Prop}{w w':World}(hk:bO P w w'):∀(t:aa) (cs:List Value),aB w P t cs->aB w' P t cs
 | .node _ _ _ _ kids,_,h=>by
  obtain⟨A,c,vals,h1,h2,hP,h3⟩:=h;exact⟨A,c,vals,h1,h2.dL hP hk,hP,bM.keeps hk kids vals h3⟩
theorem bM.keeps{P:Nat->Prop}{w w':World}(hk:bO P w w'):∀(ts:List aa) (vals:List (List Value)),bM w P ts vals->bM w' P ts vals
 | [],_,h=>h
 | t::ts,_,h=>by
  obtain⟨v,vs,h1,h2,h3⟩:=h;exact⟨v,vs,h1,aB.keeps hk t v h2,bM.keeps hk ts vs h3⟩
end
mutual
theorem aB.weak{P Q:Nat->Prop}{w:World}(QA:∀g,g<w.heap.size->P g->Q g):∀(t:aa) (cs:List Value),aB w P t cs->aB w Q t cs
 | .node _ _ _ _ kids,_,h=>by
  obtain⟨A,c,vals,h1,h2,hP,h3⟩:=h;exact⟨A,c,vals,h1,h2,fun g hg=>QA g (h2.lt g hg).2 (hP g hg),bM.weak QA kids vals h3⟩
theorem bM.weak{P Q:Nat->Prop}{w:World}(QA:∀g,g<w.heap.size->P g->Q g):∀(ts:List aa) (vals:List (List Value)),bM w P ts vals->bM w Q ts vals
 | [],_,h=>h
 | t::ts,_,h=>by
  obtain⟨v,vs,h1,h2,h3⟩:=h;exact⟨v,vs,h1,aB.weak QA t v h2,bM.weak QA ts vs h3⟩
end
theorem bO.of_below{P:Nat->Prop}{w w':World}(hb:Below w.heap.size w w'):bO P w w':=fun g _ _ h=>hb.block g (aaG.1 h).1
theorem aB.len{P:Nat->Prop}{w:World}{t:aa}{cs:List Value}(h:aB w P t cs):cs.length=5:=by
 cases t with
 | node k x a e kids=>
  obtain⟨A,c,vals,rfl,_⟩:=h;rfl
theorem bM.lens{P:Nat->Prop}{w:World}:∀{ts:List aa}{vals:List (List Value)},bM w P ts vals->vals.length=ts.length/\(List.flatten vals).length=ts.length*5
 | [],vals,h=>by
  have:vals=[]:=h;subst this;exact⟨rfl,rfl⟩
 | t::ts,vals,h=>by
  obtain⟨v,vs,rfl,h1,h2⟩:=h;have:=bM.lens h2;have:=aB.len h1;simp only[aaQ,List.flatten_cons,aaO];omega
theorem bM.snoc{P:Nat->Prop}{w:World}:∀{ts:List aa}{vals:List (List Value)}{t:aa}{v:List Value},bM w P ts vals->aB w P t v->bM w P (ts++[t]) (vals++[v])
 | [],vals,t,v,h,ht=>by
  have:vals=[]:=h;subst this;exact⟨v,[],rfl,ht,rfl⟩
 | x::ts,vals,t,v,h,ht=>by
  obtain⟨v1,vs,rfl,h1,h2⟩:=h;exact⟨v1,vs++[v],rfl,h1,bM.snoc h2 ht⟩
def bL(w:World)(lo:Nat)(v:Value)(n:Nat)(ts:List aa):Prop:=
 ∃vals,aL w lo 24 5 v n (List.flatten vals)/\bM w (fun g=>lo<=g/\some g≠v.ownBlock) ts vals/\ts.length=n
theorem bL.keeps{w w':World}{lo:Nat}{v:Value}{n:Nat}{ts:List aa}(h:bL w lo v n ts)(hk:bO (fun g=>lo<=g) w w'):bL w' lo v n ts:=by
 obtain⟨vals,h1,h2,h3⟩:=h;exact⟨vals,h1.dL (fun g hg=>(h1.lt g hg).1) hk,bM.keeps (fun g cs hP hc=>hk g cs hP.1 hc) _ _ h2,h3⟩
theorem bL.nil(w:World)(lo:Nat):bL w lo (.slice none 0 0) 0 []:=⟨[],aL.nil _ _ _ _,rfl,rfl⟩
theorem bL.node{w:World}{lo:Nat}{A:Option Addr}{n c:Nat}{ts:List aa}(h:bL w lo (.slice A n c) n ts)(k:Int)(t:ByteArray)(a e:Int):
 aB w (fun g=>lo<=g) (.node k t a e ts) [.int .i64 k,.string t,.int .i64 a,.int .i64 e,.slice A n c]:=by
 obtain⟨vals,h1,h2,rfl⟩:=h;exact⟨A,c,vals,rfl,h1.mono (Nat.zero_le _),fun g hg=>(h1.lt g hg).1,bM.weak (fun g _ hg=>hg.1) _ _ h2⟩
theorem bL.push{w w1:World}{lo:Nat}{v v':Value}{n:Nat}{ts:List aa}{t:aa}{cs:List Value}{vals:List (List Value)}
 (h2:bM w (fun g=>lo<=g/\some g≠v.ownBlock) ts vals) (hn:ts.length=n) (ht:aB w (fun g=>lo<=g/\some g≠v.ownBlock) t cs)
 (hown:aL w1 lo 24 5 v' (n+1) (List.flatten vals++cs)) (hk:∀g,g<w.heap.size->some g≠v.ownBlock->w1.heap[g]? =w.heap[g]?) (hat:v'.ownBlock=v.ownBlock\/∀g,v'.ownBlock=some g->w.heap.size<=g):bL w1 lo v' (n+1) (ts++[t]):=by
 have hall:=bM.snoc h2 ht;have hke:bO (fun g=>lo<=g/\some g≠v.ownBlock) w w1:=fun g cs hP hc=>hk g (aaG.1 hc).1 hP.2
 have Db:bM w (fun g=>(lo<=g/\some g≠v.ownBlock)/\(lo<=g/\some g≠v'.ownBlock)) (ts++[t]) (vals++[cs]):=bM.weak (fun g hg hP=>⟨hP,hP.1,fun e=>by
  rcases hat with h|h
  ·exact hP.2 (e.trans h)
  ·have:=h g e.symm
   omega⟩) _ _ hall
 have hall3:=bM.keeps (w':=w1) (fun g cs hP hc=>hke g cs hP.1 hc) _ _ Db;refine⟨vals++[cs],?_,bM.weak (fun g _ hP=>hP.2) _ _ hall3,by simp[hn]⟩;simpa using hown
end Go.Proofs.YtoepemlnlpamlaaGreat
namespace Go.Proofs.YtoepemlnlpamlaaGreat
section
variable {s:aP}{l:List jl}
theorem ek{r:Option (List aa×PS)}{f:aa->PS->Option (List aa×PS)}{y:List aa×PS}(h:one r f=some y):∃x p,r=some ([x],p)/\f x p=some y:=by
 unfold one at h;split at h
 ·exact⟨_,_,rfl,h⟩
 ·cases h
theorem sU{r:Option (List aa×PS)}{f:List aa->PS->Option (List aa×PS)}{y:List aa×PS}(h:xH r f=some y):∃x p,r=some (x,p)/\f x p=some y:=by
 unfold xH at h;split at h
 ·exact⟨_,_,rfl,h⟩
 ·cases h
theorem gz{r:Option (List aa×PS)}{f:aa->PS->Option (List aa×PS)}{x:aa}{p:PS}(h:r=some ([x],p)):one r f=f x p:=by rw[h];rfl
theorem zn{r:Option (List aa×PS)}{f:List aa->PS->Option (List aa×PS)}{x:List aa}{p:PS}(h:r=some (x,p)):xH r f=f x p:=by rw[h];rfl
theorem Ud:∀(f first:Nat) (p q:PS),pU s l first f p=some q->pU s l first (f+1) p=some q:=by
 intro f
 induction f with
 | zero=>intro first p q h;simp[pU]at h
 | succ f ih=>
  intro first p q h
  rw[pU]at h⊢;split at h
  ·rename_i h1
   rw[if_pos h1];split at h
   ·rename_i h2;rw[if_pos h2];exact h
   ·rename_i h2;rw[if_neg h2];exact ih _ _ _ h
  ·rename_i h1
   rw[if_neg h1];exact h
theorem NL{f:Nat}{p:PS}{y:aa×PS}(h:mR s l f p=some y):mR s l (f+1) p=some y:=by
 unfold mR at h⊢;split at h
 ·cases h
 ·rename_i q hq
  rw[Ud _ _ _ _ hq];exact h
theorem MN:∀(f:Nat) (fn:Fn) (p:PS) (y:List aa×PS),aJ s l f fn p=some y->aJ s l (f+1) fn p=some y:=by
 intro f
 induction f with
 | zero=>intro fn p y h;simp[aJ]at h
 | succ f ih=>
  have fM:∀{fn:Fn}{p:PS}{g g':aa->PS->Option (List aa×PS)}{y:List aa×PS},one (aJ s l f fn p) g=some y->(∀x q y,g x q=some y->g' x q=some y)->one (aJ s l (f+1) fn p) g'=some y:=by
   intro fn p g g' y h hg;obtain⟨x,q,h1,h2⟩:=ek h;rw[gz (ih _ _ _ h1)];exact hg _ _ _ h2
  have many1:∀{fn:Fn}{p:PS}{g g':List aa->PS->Option (List aa×PS)}{y:List aa×PS},xH (aJ s l f fn p) g=some y->(∀x q y,g x q=some y->g' x q=some y)->xH (aJ s l (f+1) fn p) g'=some y:=by
   intro fn p g g' y h hg;obtain⟨x,q,h1,h2⟩:=sU h;rw[zn (ih _ _ _ h1)];exact hg _ _ _ h2
  intro fn p y h
  cases fn with
  | expr lv=>
   rw[aJ]at h⊢;split at h
   ·rename_i h1
    rw[if_pos h1];split at h
    ·rename_i h2
     rw[if_pos h2];exact fM h (fun _ _ _ h=>h)
    ·rename_i h2
     rw[if_neg h2];exact ih _ _ _ h
   ·rename_i h1
    rw[if_neg h1];split at h
    ·rename_i h2
     rw[if_pos h2];split at h
     ·rename_i h3
      rw[if_pos h3];exact fM h (fun _ _ _ h=>h)
     ·rename_i h3
      rw[if_neg h3];exact ih _ _ _ h
    ·rename_i h2
     rw[if_neg h2];exact fM h (fun _ _ _ h=>ih _ _ _ h)
  | qL lv first x=>
   rw[aJ]at h⊢;split at h
   ·rename_i h1
    rw[if_pos h1];refine fM h (fun y q z h=>?_);simp only at h⊢;split at h
    ·rename_i h2;rw[if_pos h2];exact h
    ·rename_i h2;rw[if_neg h2];exact ih _ _ _ h
   ·rename_i h1;rw[if_neg h1];exact h
  | operand=>
   rw[aJ]at h⊢;split at h
   ·rename_i h1;rw[if_pos h1];exact h
   rename_i h1;rw[if_neg h1]
   split at h
   ·rename_i h2;rw[if_pos h2];exact h
   rename_i h2;rw[if_neg h2]
   split at h
   ·rename_i h3;rw[if_pos h3];exact many1 h (fun _ _ _ h=>h)
   rename_i h3;rw[if_neg h3]
   split at h
   ·rename_i h4;rw[if_pos h4];exact ih _ _ _ h
   rename_i h4;rw[if_neg h4]
   split at h
   ·rename_i h5
    rw[if_pos h5];exact fM h (fun _ _ _ h=>many1 h (fun _ _ _ h=>h))
   rename_i h5;rw[if_neg h5]
   split at h
   ·rename_i h6;rw[if_pos h6];exact h
   rename_i h6;rw[if_neg h6]
   split at h
   ·rename_i h7;rw[if_pos h7];exact fM h (fun _ _ _ h=>h)
   rename_i h7;rw[if_neg h7];exact h
  | args=>
   rw[aJ]at h⊢;split at h
   ·rename_i h1;rw[if_pos h1];exact h
   rename_i h1;rw[if_neg h1]
   exact fM h (fun _ _ _ h=>many1 h (fun _ _ _ h=>h))
  | mM kids=>
   rw[aJ]at h⊢;split at h
   ·rename_i h1;rw[if_pos h1];exact fM h (fun _ _ _ h=>ih _ _ _ h)
   rename_i h1;rw[if_neg h1];exact h
  | place=>
   rw[aJ]at h⊢;split at h
   ·rename_i h1;rw[if_pos h1];exact fM h (fun _ _ _ h=>h)
   rename_i h1;rw[if_neg h1];exact h
  | stmt=>
   rw[aJ]at h⊢;simp only at h⊢;split at h
   ·rename_i h1;rw[if_pos h1];exact fM h (fun _ _ _ h=>h)
   rename_i h1;rw[if_neg h1]
   split at h
   ·rename_i h2;rw[if_pos h2];exact ih _ _ _ h
   rename_i h2;rw[if_neg h2]
   split at h
   ·rename_i h3;rw[if_pos h3];exact fM h (fun _ _ _ h=>fM h (fun _ _ _ h=>h))
   rename_i h3;rw[if_neg h3]
   split at h
   ·rename_i h4;rw[if_pos h4];exact fM h (fun _ _ _ h=>fM h (fun _ _ _ h=>fM h (fun _ _ _ h=>h)))
   rename_i h4;rw[if_neg h4]
   split at h
   ·rename_i h5
    rw[if_pos h5];split at h
    ·rename_i h6;rw[if_pos h6];exact fM h (fun _ _ _ h=>h)
    rename_i h6;rw[if_neg h6];exact h
   rename_i h5;rw[if_neg h5]
   split at h
   ·rename_i h6;rw[if_pos h6];exact fM h (fun _ _ _ h=>h)
   rename_i h6;rw[if_neg h6]
   split at h
   ·rename_i h7;rw[if_pos h7];exact many1 h (fun _ _ _ h=>h)
   rename_i h7;rw[if_neg h7]
   split at h
   ·rename_i h8;rw[if_pos h8];exact fM h (fun _ _ _ h=>fM h (fun _ _ _ h=>h))
   rename_i h8;rw[if_neg h8]
   split at h
   ·cases h
   ·rename_i x q hq
    rw[NL hq];exact h
  | block=>
   rw[aJ]at h⊢;split at h
   ·rename_i h1;rw[if_pos h1];exact many1 h (fun _ _ _ h=>h)
   rename_i h1;rw[if_neg h1];exact h
  | nJ kids=>
   rw[aJ]at h⊢;split at h
   ·rename_i h1;rw[if_pos h1];exact h
   rename_i h1;rw[if_neg h1]
   exact fM h (fun _ _ _ h=>ih _ _ _ h)
  | branch=>
   rw[aJ]at h⊢;refine fM h (fun _ _ _ h=>fM h (fun _ _ _ h=>?_));split at h
   ·rename_i h1
    rw[if_pos h1];split at h
    ·rename_i h2;rw[if_pos h2];exact fM h (fun _ _ _ h=>h)
    rename_i h2;rw[if_neg h2];exact fM h (fun _ _ _ h=>h)
   rename_i h1;rw[if_neg h1];exact h
theorem FW{f f':Nat}(hf:f<=f'){fn:Fn}{p:PS}{y:List aa×PS}(h:aJ s l f fn p=some y):aJ s l f' fn p=some y:=by
 induction hf with
 | refl=>exact h
 | step _ ih=>exact MN _ _ _ _ ih
end
end Go.Proofs.YtoepemlnlpamlaaGreat
