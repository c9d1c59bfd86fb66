/- The law NamesFreeAt holds: for every text and every number the law returns true, and its arguments read as before. No condition. Part 3: LexT Tree ParT. -/
import Derived.Test.YtoepemlnlpamlaaGreatFreeAt01
import Derived.Test.YtoepemlnlpamlaaGreatFreeAt02
namespace Go.Proofs.YtoepemlnlpamlaaGreat
set_option maxRecDepth 100000
set_option maxHeartbeats 4000000
open Go.RowKit
theorem token_any (s:ByteArray) (a:Nat) (w:World) (ha:a < s.size) (hs:s.size≤4096) :
 Calls Tryz.prog 180 #[.string s,.int .i64 (a:Int)] w fun e w'=>e = .returned (.tuple #[.int .i64 ((tokenM s.data.toList a).1:Int),.int .i64 ((tokenM s.data.toList a).2:Int)])∧Below w.heap.size w w':=by
 have hc:=bz_get s a ha
 have hai:(a:Int) < s.size:=by omega
 obtain⟨c,hcb⟩:∃ c,bz s.data.toList a=c:=⟨_,rfl⟩
 rw[hcb]at hc;have HCB:=kH hcb;clear hcb
 obtain⟨bl,hbl⟩:∃ x,letterB c=x:=⟨_,rfl⟩
 have HBL:=kH hbl;clear hbl
 cases bl
 ·obtain⟨bd,hbd⟩:∃ x,digitB c=x:=⟨_,rfl⟩
  have HBD:=kH hbd;clear hbd
  cases bd
  ·obtain⟨sm,hsm⟩:∃ x,symM s.data.toList a=x:=⟨_,rfl⟩
   have hsm2:sm≤2:=by rw[← hsm];exact symM_le a
   have hsy:∀ w:World,Calls Tryz.prog 229 #[.string s,.int .i64 (a:Int)] w fun e w'=>e = .returned (.int .i64 (sm:Int))∧Below w.heap.size w w':=fun w=>by rw[← hsm];exact symbol_any s a w ha hs
   have HSM:=kH hsm;have HSY:=kH hsy;clear hsm hsy
   by_cases h0:0 < sm
   ·have h0i:(0:Int) < (sm:Int):=by omega
    have hres:tokenM s.data.toList a=(3,a+sm):=by
     unfold tokenM;rw[HCB.out,HBL.out,HBD.out,HSM.out,if_neg (by simp),if_neg (by simp),if_pos h0]
    have HRES:=kH hres;clear hres h0
    go_enter Tryz.func180,Tryz.ntmps180
    go_wp2_with fail
    refine(letter_any c _).mono ?_;rintro e w' ⟨rfl,rfl⟩;rw[HBL.out]
    go_wp2_with fail
    refine(digit_any c _).mono ?_;rintro e w' ⟨rfl,rfl⟩;rw[HBD.out]
    go_wp2_with fail
    refine(HSY.out _).mono ?_;rintro e w1 ⟨rfl,hb1⟩
    go_wp2_with fail
    refine(HSY.out _).mono ?_;rintro e w2 ⟨rfl,hb2⟩
    go_wp2_with fail
    go_ret2
    refine⟨by rw[HRES.out];rfl,hb1.trans (hb2.mono hb1.size)⟩
   ·have hs0:sm=0:=by omega
    subst hs0
    have hrun:tokenM s.data.toList a=(4,runM (fun i => !blankB (bz s.data.toList i) && !decide (bz s.data.toList i=35) && !beginsM s.data.toList i) s.data.toList s.data.toList.length a):=by
     unfold tokenM;rw[HCB.out,HBL.out,HBD.out,HSM.out,if_neg (by simp),if_neg (by simp),if_neg (by simp)]
    have HRUN:=kH hrun;clear hrun h0
    go_enter Tryz.func180,Tryz.ntmps180
    go_wp2_with fail
    refine(letter_any c _).mono ?_;rintro e w' ⟨rfl,rfl⟩;rw[HBL.out]
    go_wp2_with fail
    refine(digit_any c _).mono ?_;rintro e w' ⟨rfl,rfl⟩;rw[HBD.out]
    go_wp2_with fail
    refine(HSY.out _).mono ?_;rintro e w1 ⟨rfl,hb1⟩;clear hc
    go_wp2_with fail
    go_loopg [6] (s.size - a) (fun gk s6 wr => ∃ j:Nat,j+gk=s.size∧a≤j∧s6 = .int .i64 j∧(∀ i,a≤i→i < j→(fun i => !blankB (bz s.data.toList i) && !decide (bz s.data.toList i=35) && !beginsM s.data.toList i) i=true)∧Below w.heap.size w wr)
    case atStart=>exact⟨a,by omega,Nat.le_refl _,rfl,fun i h1 h2=>by omega,hb1⟩
    case round =>
     obtain⟨j,hj,haj,rfl,hall,hB⟩:=hrel
     have hj':j≤s.size:=by omega
     have HJ:=kH hj;have HALL:=kH hall;clear hj hall hb1
     have fin:(j < s.size→(!blankB (bz s.data.toList j) && !decide (bz s.data.toList j=35) && !beginsM s.data.toList j)=false)→tokenM s.data.toList a=(4,j):=fun h=>by
      rw[HRUN.out,runM_eq _ a j haj (by rw[len_size];exact hj') HALL.out (fun hl=>by rw[len_size]at hl;exact h hl) (by omega)]
     by_cases hlt:j < s.size
     ·have hc:=bz_get s j hlt
      have hji:(j:Int) < s.size:=by omega
      obtain⟨d,hcd⟩:∃ c,bz s.data.toList j=c:=⟨_,rfl⟩
      rw[hcd]at hc
      obtain⟨b1,hb1⟩:∃ x,blankB d=x:=⟨_,rfl⟩
      obtain⟨b3,hb3⟩:∃ x,beginsM s.data.toList j=x:=⟨_,rfl⟩
      have HCD:=kH hcd;have HB1:=kH hb1;have HB3:=kH hb3;rw[hcd,hb1,hb3]at fin;clear hcd hb1 hb3
      cases b1
      ·by_cases h35:d=35
       ·have hfin:=fin (fun _=>by simp[h35])
        have hdi:((d:Int) != 35)=false:=by simp;omega
        have HFIN:=kH hfin;clear hfin fin h35
        go_wp2_with fail
        refine(blank_any d _).mono ?_;rintro e w' ⟨rfl,rfl⟩;rw[HB1.out]
        go_wp2_with fail
        go_ret2
        exact⟨by rw[HFIN.out];rfl,hB⟩
       ·have hdi:((d:Int) != 35)=true:=by simp;omega
        have hda:decide (d=35)=false:=decide_eq_false h35;rw[hda]at fin;have HDA:=kH hda;clear hda h35
        cases b3
        ·clear fin
         go_wp2_with fail
         refine(blank_any d _).mono ?_;rintro e w' ⟨rfl,rfl⟩;rw[HB1.out]
         go_wp2_with fail
         refine(begins_any s j _ hlt hs).mono ?_;rintro e w2 ⟨rfl,hb2⟩;rw[HB3.out]
         go_wp2_with fail
         go_roundg (gk - 1)
         case measure=>have:=HJ.out;omega
         case rel =>
          refine⟨j+1,by have:=HJ.out;omega,by omega,by go_num,fun i h1 h2=>?_,hB.trans (hb2.mono hB.size)⟩
          by_cases hij:i=j
          ·subst hij
           rw[HB3.out,HCD.out,HDA.out,HB1.out];rfl
          ·exact HALL.out i h1 (by omega)
        ·have hfin:=fin (fun _=>by simp)
         have HFIN:=kH hfin;clear hfin fin
         go_wp2_with fail
         refine(blank_any d _).mono ?_;rintro e w' ⟨rfl,rfl⟩;rw[HB1.out]
         go_wp2_with fail
         refine(begins_any s j _ hlt hs).mono ?_;rintro e w2 ⟨rfl,hb2⟩;rw[HB3.out]
         go_wp2_with fail
         go_ret2
         exact⟨by rw[HFIN.out];rfl,hB.trans (hb2.mono hB.size)⟩
      ·have hfin:=fin (fun _=>by simp)
       have HFIN:=kH hfin;clear hfin fin
       go_wp2_with fail
       refine(blank_any d _).mono ?_;rintro e w' ⟨rfl,rfl⟩;rw[HB1.out]
       go_wp2_with fail
       go_ret2
       exact⟨by rw[HFIN.out];rfl,hB⟩
     ·have hjs:j=s.size:=by omega
      have hfin:=fin (fun h=>by omega);have HFIN:=kH hfin;clear hfin fin;subst hjs
      go_wp2_with fail
      go_ret2
      exact⟨by rw[HFIN.out];rfl,hB⟩
  ·have hrun:tokenM s.data.toList a=(2,runM (fun i=>digitB (bz s.data.toList i)) s.data.toList s.data.toList.length a):=by
    unfold tokenM;rw[HCB.out,HBL.out,HBD.out,if_neg (by simp),if_pos rfl]
   have HRUN:=kH hrun;clear hrun
   go_enter Tryz.func180,Tryz.ntmps180
   go_wp2_with fail
   refine(letter_any c _).mono ?_;rintro e w' ⟨rfl,rfl⟩;rw[HBL.out]
   go_wp2_with fail
   refine(digit_any c _).mono ?_;rintro e w' ⟨rfl,rfl⟩;rw[HBD.out];clear hc
   go_wp2_with fail
   go_loopg [6] (s.size - a) (fun gk s6 wr => ∃ j:Nat,j+gk=s.size∧a≤j∧s6 = .int .i64 j∧(∀ i,a≤i→i < j→(fun i=>digitB (bz s.data.toList i)) i=true)∧w=wr)
   case atStart=>exact⟨a,by omega,Nat.le_refl _,rfl,fun i h1 h2=>by omega,rfl⟩
   case round =>
    obtain⟨j,hj,haj,rfl,hall,rfl⟩:=hrel
    have hj':j≤s.size:=by omega
    have HJ:=kH hj;have HALL:=kH hall;clear hj hall
    have fin:(j < s.size→digitB (bz s.data.toList j)=false)→tokenM s.data.toList a=(2,j):=fun h=>by
     rw[HRUN.out,runM_eq _ a j haj (by rw[len_size];exact hj') HALL.out (fun hl=>by rw[len_size]at hl;exact h hl) (by omega)]
    by_cases hlt:j < s.size
    ·have hc:=bz_get s j hlt
     have hji:(j:Int) < s.size:=by omega
     obtain⟨d,hcd⟩:∃ c,bz s.data.toList j=c:=⟨_,rfl⟩
     rw[hcd]at hc
     obtain⟨b1,hb1⟩:∃ x,digitB d=x:=⟨_,rfl⟩
     have HCD:=kH hcd;have HB1:=kH hb1;rw[hcd,hb1]at fin;clear hcd hb1
     cases b1
     ·have hfin:=fin (fun _=>rfl)
      have HFIN:=kH hfin;clear hfin fin
      go_wp2_with fail
      refine(digit_any d _).mono ?_;rintro e w' ⟨rfl,rfl⟩;rw[HB1.out]
      go_wp2_with fail
      go_ret2
      exact⟨by rw[HFIN.out];rfl,Below.refl _ _⟩
     ·clear fin
      go_wp2_with fail
      refine(digit_any d _).mono ?_;rintro e w' ⟨rfl,rfl⟩;rw[HB1.out]
      go_wp2_with fail
      go_roundg (gk - 1)
      case measure=>have:=HJ.out;omega
      case rel =>
       refine⟨j+1,by have:=HJ.out;omega,by omega,by go_num,fun i h1 h2=>?_,rfl⟩
       by_cases hij:i=j
       ·subst hij
        rw[HCD.out];exact HB1.out
       ·exact HALL.out i h1 (by omega)
    ·have hjs:j=s.size:=by omega
     have hfin:=fin (fun h=>by omega);have HFIN:=kH hfin;clear hfin fin;subst hjs
     go_wp2_with fail
     go_ret2
     exact⟨by rw[HFIN.out];rfl,Below.refl _ _⟩
 ·have hrun:tokenM s.data.toList a=(if kwB (sub s.data.toList a (runM (fun i=>idB (bz s.data.toList i)) s.data.toList s.data.toList.length a)) then 1 else 0,runM (fun i=>idB (bz s.data.toList i)) s.data.toList s.data.toList.length a):=by
   unfold tokenM;rw[HCB.out,HBL.out,if_pos rfl]
  have HRUN:=kH hrun;clear hrun
  go_enter Tryz.func180,Tryz.ntmps180
  go_wp2_with fail
  refine(letter_any c _).mono ?_;rintro e w' ⟨rfl,rfl⟩;rw[HBL.out];clear hc
  go_wp2_with fail
  go_loopg [6] (s.size - a) (fun gk s6 wr => ∃ j:Nat,j+gk=s.size∧a≤j∧s6 = .int .i64 j∧(∀ i,a≤i→i < j→(fun i=>idB (bz s.data.toList i)) i=true)∧w=wr)
  case atStart=>exact⟨a,by omega,Nat.le_refl _,rfl,fun i h1 h2=>by omega,rfl⟩
  case round =>
   obtain⟨j,hj,haj,rfl,hall,rfl⟩:=hrel
   have hj':j≤s.size:=by omega
   have HJ:=kH hj;have HALL:=kH hall;clear hj hall
   obtain⟨kb,hkb⟩:∃ x,kwB (sub s.data.toList a j)=x:=⟨_,rfl⟩
   have fin:(j < s.size→idB (bz s.data.toList j)=false)→tokenM s.data.toList a=(if kb then 1 else 0,j):=fun h=>by
    rw[HRUN.out,runM_eq _ a j haj (by rw[len_size];exact hj') HALL.out (fun hl=>by rw[len_size]at hl;exact h hl) (by omega),hkb]
   have hkw:∀ w:World,Calls Tryz.prog 228 #[.string (s.extract a j)] w fun e w'=>e = .returned (.bool kb)∧Below w.heap.size w w':=fun w=>by
    have:=Keyword_any (s.extract a j) w;rw[ext_sub,hkb]at this;exact this
   have HKW:=kH hkw;clear hkw hkb
   have haji:(a:Int)≤(j:Int):=by omega
   have hjsi:(j:Int)≤s.size:=by omega
   by_cases hlt:j < s.size
   ·have hc:=bz_get s j hlt
    have hji:(j:Int) < s.size:=by omega
    obtain⟨d,hcd⟩:∃ c,bz s.data.toList j=c:=⟨_,rfl⟩
    rw[hcd]at hc
    obtain⟨b1,hb1⟩:∃ x,letterB d=x:=⟨_,rfl⟩
    obtain⟨b2,hb2⟩:∃ x,digitB d=x:=⟨_,rfl⟩
    have hid:idB d=(b1 || b2 || decide (d=95)):=by unfold idB;rw[hb1,hb2]
    have HCD:=kH hcd;have HB1:=kH hb1;have HB2:=kH hb2;rw[hcd,hid]at fin;have HID:=kH hid;clear hcd hb1 hb2 hid
    cases b1
    ·cases b2
     ·by_cases h95:d=95
      ·have hdi:((d:Int) == 95)=true:=by simp;omega
       have HD:Hid (d=95):=kH h95;clear fin h95
       go_wp2_with fail
       refine(letter_any d _).mono ?_;rintro e w' ⟨rfl,rfl⟩;rw[HB1.out]
       go_wp2_with fail
       refine(digit_any d _).mono ?_;rintro e w' ⟨rfl,rfl⟩;rw[HB2.out]
       go_wp2_with fail
       go_roundg (gk - 1)
       case measure=>have:=HJ.out;omega
       case rel =>
        refine⟨j+1,by have:=HJ.out;omega,by omega,by go_num,fun i h1 h2=>?_,rfl⟩
        by_cases hij:i=j
        ·subst hij
         rw[HCD.out,HID.out];simp[HD.out]
        ·exact HALL.out i h1 (by omega)
      ·have hdi:((d:Int) == 95)=false:=by simp;omega
       have hfin:=fin (fun _=>by simp[h95]);have HFIN:=kH hfin;clear hfin fin h95
       go_wp2_with fail
       refine(letter_any d _).mono ?_;rintro e w' ⟨rfl,rfl⟩;rw[HB1.out]
       go_wp2_with fail
       refine(digit_any d _).mono ?_;rintro e w' ⟨rfl,rfl⟩;rw[HB2.out]
       go_wp2_with fail
       refine(HKW.out _).mono ?_;rintro e w1 ⟨rfl,hb1⟩
       cases kb
       ·go_wp2_with fail
        go_ret2
        exact⟨by rw[HFIN.out];rfl,hb1⟩
       ·go_wp2_with fail
        go_ret2
        exact⟨by rw[HFIN.out];rfl,hb1⟩
     ·clear fin
      go_wp2_with fail
      refine(letter_any d _).mono ?_;rintro e w' ⟨rfl,rfl⟩;rw[HB1.out]
      go_wp2_with fail
      refine(digit_any d _).mono ?_;rintro e w' ⟨rfl,rfl⟩;rw[HB2.out]
      go_wp2_with fail
      go_roundg (gk - 1)
      case measure=>have:=HJ.out;omega
      case rel =>
       refine⟨j+1,by have:=HJ.out;omega,by omega,by go_num,fun i h1 h2=>?_,rfl⟩
       by_cases hij:i=j
       ·subst hij
        rw[HCD.out,HID.out];simp
       ·exact HALL.out i h1 (by omega)
    ·clear fin
     go_wp2_with fail
     refine(letter_any d _).mono ?_;rintro e w' ⟨rfl,rfl⟩;rw[HB1.out]
     go_wp2_with fail
     go_roundg (gk - 1)
     case measure=>have:=HJ.out;omega
     case rel =>
      refine⟨j+1,by have:=HJ.out;omega,by omega,by go_num,fun i h1 h2=>?_,rfl⟩
      by_cases hij:i=j
      ·subst hij
       rw[HCD.out,HID.out];simp
      ·exact HALL.out i h1 (by omega)
   ·have hjs:j=s.size:=by omega
    have hfin:=fin (fun h=>by omega);have HFIN:=kH hfin;clear hfin fin;subst hjs
    go_wp2_with fail
    refine(HKW.out _).mono ?_;rintro e w1 ⟨rfl,hb1⟩
    cases kb
    ·go_wp2_with fail
     go_ret2
     exact⟨by rw[HFIN.out];rfl,hb1⟩
    ·go_wp2_with fail
     go_ret2
     exact⟨by rw[HFIN.out];rfl,hb1⟩
end Go.Proofs.YtoepemlnlpamlaaGreat
namespace Go.Proofs.YtoepemlnlpamlaaGreat
set_option maxRecDepth 100000
set_option maxHeartbeats 4000000
open Go.RowKit
mutual
def TreeOwn (w:World) (P:Nat→Prop):Tree→List Value→Prop
 | .node k t a e kids,cs => ∃ A c vals,cs = [.int .i64 k,.string t,.int .i64 a,.int .i64 e,.slice A kids.length c]∧OwnS w 0 24 5 (.slice A kids.length c) kids.length (List.flatten vals)∧(∀ g,(Value.slice A kids.length c).ownBlock=some g→P g)∧TreesOwn w P kids vals
def TreesOwn (w:World) (P:Nat→Prop):List Tree→List (List Value)→Prop
 | [],vals=>vals = []
 | t :: ts,vals => ∃ v vs,vals=v :: vs∧TreeOwn w P t v∧TreesOwn w P ts vs
end
def KeepsN (P:Nat→Prop) (w w':World):Prop:=∀ (g:Nat) (cs:Array Value),P g→w.heap[g]? = some (.cells cs 24 (0,0))→w'.heap[g]? = w.heap[g]?
theorem OwnS.typed {w:World} {base:Nat} {e:TypeId} {size:Nat} {v:Value} {n:Nat} {xs:List Value} (h:OwnS w base e size v n xs) {g:Nat} (hg:v.ownBlock=some g):∃ cs,w.heap[g]? = some (.cells cs e (0,0)):=by
 rcases h.2 with ⟨rfl,_⟩ | ⟨g1,off1,cap1,cur1,rfl,_,hg1,_⟩
 ·cases hg
 ·have e1:g1=g:=by simpa [Value.ownBlock] using hg
  subst e1;exact⟨_,hg1⟩
theorem OwnS.keepsN {P:Nat→Prop} {w w':World} {base:Nat} {v:Value} {n:Nat} {xs:List Value} (h:OwnS w base 24 5 v n xs) (hP:∀ g,v.ownBlock=some g→P g) (hk:KeepsN P w w'):OwnS w' base 24 5 v n xs :=
 h.of_block fun g hg=>by
  obtain⟨cs,hc⟩:=h.typed hg;exact hk g cs (hP g hg) hc
mutual
theorem TreeOwn.keeps {P:Nat→Prop} {w w':World} (hk:KeepsN P w w'):∀ (t:Tree) (cs:List Value),TreeOwn w P t cs→TreeOwn w' P t cs
 | .node _ _ _ _ kids,_,h=>by
  obtain⟨A,c,vals,h1,h2,hP,h3⟩:=h;exact⟨A,c,vals,h1,h2.keepsN hP hk,hP,TreesOwn.keeps hk kids vals h3⟩
theorem TreesOwn.keeps {P:Nat→Prop} {w w':World} (hk:KeepsN P w w'):∀ (ts:List Tree) (vals:List (List Value)),TreesOwn w P ts vals→TreesOwn w' P ts vals
 | [],_,h=>h
 | t :: ts,_,h=>by
  obtain⟨v,vs,h1,h2,h3⟩:=h;exact⟨v,vs,h1,TreeOwn.keeps hk t v h2,TreesOwn.keeps hk ts vs h3⟩
end
mutual
theorem TreeOwn.weak {P Q:Nat→Prop} {w:World} (hPQ:∀ g,g < w.heap.size→P g→Q g):∀ (t:Tree) (cs:List Value),TreeOwn w P t cs→TreeOwn w Q t cs
 | .node _ _ _ _ kids,_,h=>by
  obtain⟨A,c,vals,h1,h2,hP,h3⟩:=h;exact⟨A,c,vals,h1,h2,fun g hg=>hPQ g (h2.lt g hg).2 (hP g hg),TreesOwn.weak hPQ kids vals h3⟩
theorem TreesOwn.weak {P Q:Nat→Prop} {w:World} (hPQ:∀ g,g < w.heap.size→P g→Q g):∀ (ts:List Tree) (vals:List (List Value)),TreesOwn w P ts vals→TreesOwn w Q ts vals
 | [],_,h=>h
 | t :: ts,_,h=>by
  obtain⟨v,vs,h1,h2,h3⟩:=h;exact⟨v,vs,h1,TreeOwn.weak hPQ t v h2,TreesOwn.weak hPQ ts vs h3⟩
end
theorem KeepsN.of_below {P:Nat→Prop} {w w':World} (hb:Below w.heap.size w w'):KeepsN P w w':=fun g _ _ h=>hb.block g (Array.getElem?_eq_some_iff.1 h).1
theorem TreeOwn.len {P:Nat→Prop} {w:World} {t:Tree} {cs:List Value} (h:TreeOwn w P t cs):cs.length=5:=by
 cases t with
 | node k x a e kids =>
  obtain⟨A,c,vals,rfl,_⟩:=h;rfl
theorem TreesOwn.lens {P:Nat→Prop} {w:World}:∀ {ts:List Tree} {vals:List (List Value)},TreesOwn w P ts vals→vals.length=ts.length∧(List.flatten vals).length=ts.length * 5
 | [],vals,h=>by
  have:vals = []:=h;subst this;exact⟨rfl,rfl⟩
 | t :: ts,vals,h=>by
  obtain⟨v,vs,rfl,h1,h2⟩:=h;have:=TreesOwn.lens h2;have:=TreeOwn.len h1;simp only[List.length_cons,List.flatten_cons,List.length_append];omega
theorem TreesOwn.snoc {P:Nat→Prop} {w:World}:∀ {ts:List Tree} {vals:List (List Value)} {t:Tree} {v:List Value},TreesOwn w P ts vals→TreeOwn w P t v→TreesOwn w P (ts ++ [t]) (vals ++ [v])
 | [],vals,t,v,h,ht=>by
  have:vals = []:=h;subst this;exact⟨v,[],rfl,ht,rfl⟩
 | x :: ts,vals,t,v,h,ht=>by
  obtain⟨v1,vs,rfl,h1,h2⟩:=h;exact⟨v1,vs ++ [v],rfl,h1,TreesOwn.snoc h2 ht⟩
def KidsOwn (w:World) (lo:Nat) (v:Value) (n:Nat) (ts:List Tree):Prop :=
 ∃ vals,OwnS w lo 24 5 v n (List.flatten vals)∧TreesOwn w (fun g=>lo≤g∧some g≠v.ownBlock) ts vals∧ts.length=n
theorem KidsOwn.keeps {w w':World} {lo:Nat} {v:Value} {n:Nat} {ts:List Tree} (h:KidsOwn w lo v n ts) (hk:KeepsN (fun g=>lo≤g) w w'):KidsOwn w' lo v n ts:=by
 obtain⟨vals,h1,h2,h3⟩:=h;exact⟨vals,h1.keepsN (fun g hg=>(h1.lt g hg).1) hk,TreesOwn.keeps (fun g cs hP hc=>hk g cs hP.1 hc) _ _ h2,h3⟩
theorem KidsOwn.nil (w:World) (lo:Nat):KidsOwn w lo (.slice none 0 0) 0 []:=⟨[],OwnS.nil _ _ _ _,rfl,rfl⟩
theorem KidsOwn.node {w:World} {lo:Nat} {A:Option Addr} {n c:Nat} {ts:List Tree} (h:KidsOwn w lo (.slice A n c) n ts) (k:Int) (t:ByteArray) (a e:Int) :
 TreeOwn w (fun g=>lo≤g) (.node k t a e ts) [.int .i64 k,.string t,.int .i64 a,.int .i64 e,.slice A n c]:=by
 obtain⟨vals,h1,h2,rfl⟩:=h;exact⟨A,c,vals,rfl,h1.mono (Nat.zero_le _),fun g hg=>(h1.lt g hg).1,TreesOwn.weak (fun g _ hg=>hg.1) _ _ h2⟩
theorem KidsOwn.push {w w1:World} {lo:Nat} {v v':Value} {n:Nat} {ts:List Tree} {t:Tree} {cs:List Value} {vals:List (List Value)}
 (h2:TreesOwn w (fun g=>lo≤g∧some g≠v.ownBlock) ts vals) (hn:ts.length=n) (ht:TreeOwn w (fun g=>lo≤g∧some g≠v.ownBlock) t cs)
 (hown:OwnS w1 lo 24 5 v' (n+1) (List.flatten vals ++ cs)) (hk:∀ g,g < w.heap.size→some g≠v.ownBlock→w1.heap[g]? = w.heap[g]?) (hat:v'.ownBlock=v.ownBlock∨∀ g,v'.ownBlock=some g→w.heap.size≤g):KidsOwn w1 lo v' (n+1) (ts ++ [t]):=by
 have hall:=TreesOwn.snoc h2 ht
 have hke:KeepsN (fun g=>lo≤g∧some g≠v.ownBlock) w w1:=fun g cs hP hc=>hk g (Array.getElem?_eq_some_iff.1 hc).1 hP.2
 have hall2:TreesOwn w (fun g=>(lo≤g∧some g≠v.ownBlock)∧(lo≤g∧some g≠v'.ownBlock)) (ts ++ [t]) (vals ++ [cs]):=TreesOwn.weak (fun g hg hP=>⟨hP,hP.1,fun e=>by
  rcases hat with h | h
  ·exact hP.2 (e.trans h)
  ·have:=h g e.symm
   omega⟩) _ _ hall
 have hall3:=TreesOwn.keeps (w':=w1) (fun g cs hP hc=>hke g cs hP.1 hc) _ _ hall2;refine⟨vals ++ [cs],?_,TreesOwn.weak (fun g _ hP=>hP.2) _ _ hall3,by simp[hn]⟩
 simpa using hown
end Go.Proofs.YtoepemlnlpamlaaGreat
namespace Go.Proofs.YtoepemlnlpamlaaGreat
set_option maxRecDepth 100000
set_option maxHeartbeats 4000000
section
variable {s:Bytes} {l:List Tok}
theorem one_some {r:Option (List Tree × PS)} {f:Tree→PS→Option (List Tree × PS)} {y:List Tree × PS} (h:one r f=some y):∃ x p,r=some ([x],p)∧f x p=some y:=by
 unfold one at h;split at h
 ·exact⟨_,_,rfl,h⟩
 ·cases h
theorem many_some {r:Option (List Tree × PS)} {f:List Tree→PS→Option (List Tree × PS)} {y:List Tree × PS} (h:many r f=some y):∃ x p,r=some (x,p)∧f x p=some y:=by
 unfold many at h;split at h
 ·exact⟨_,_,rfl,h⟩
 ·cases h
theorem one_mk {r:Option (List Tree × PS)} {f:Tree→PS→Option (List Tree × PS)} {x:Tree} {p:PS} (h:r=some ([x],p)):one r f=f x p:=by rw[h];rfl
theorem many_mk {r:Option (List Tree × PS)} {f:List Tree→PS→Option (List Tree × PS)} {x:List Tree} {p:PS} (h:r=some (x,p)):many r f=f x p:=by rw[h];rfl
theorem skipL_mono:∀ (f first:Nat) (p q:PS),skipL s l first f p=some q→skipL s l first (f+1) p=some q:=by
 intro f
 induction f with
 | zero=>intro first p q h;simp[skipL]at h
 | succ f ih =>
  intro first p q h
  rw[skipL]at h ⊢;split at h
  ·rename_i h1
   rw[if_pos h1];split at h
   ·rename_i h2;rw[if_pos h2];exact h
   ·rename_i h2;rw[if_neg h2];exact ih _ _ _ h
  ·rename_i h1
   rw[if_neg h1];exact h
theorem skippedM_mono {f:Nat} {p:PS} {y:Tree × PS} (h:skippedM s l f p=some y):skippedM s l (f+1) p=some y:=by
 unfold skippedM at h ⊢;split at h
 ·cases h
 ·rename_i q hq
  rw[skipL_mono _ _ _ _ hq];exact h
theorem parM_mono:∀ (f:Nat) (fn:Fn) (p:PS) (y:List Tree × PS),parM s l f fn p=some y→parM s l (f+1) fn p=some y:=by
 intro f
 induction f with
 | zero=>intro fn p y h;simp[parM]at h
 | succ f ih =>
  have one1:∀ {fn:Fn} {p:PS} {g g':Tree→PS→Option (List Tree × PS)} {y:List Tree × PS},one (parM s l f fn p) g=some y→(∀ x q y,g x q=some y→g' x q=some y)→one (parM s l (f+1) fn p) g'=some y:=by
   intro fn p g g' y h hg;obtain⟨x,q,h1,h2⟩:=one_some h;rw[one_mk (ih _ _ _ h1)];exact hg _ _ _ h2
  have many1:∀ {fn:Fn} {p:PS} {g g':List Tree→PS→Option (List Tree × PS)} {y:List Tree × PS},many (parM s l f fn p) g=some y→(∀ x q y,g x q=some y→g' x q=some y)→many (parM s l (f+1) fn p) g'=some y:=by
   intro fn p g g' y h hg;obtain⟨x,q,h1,h2⟩:=many_some h;rw[many_mk (ih _ _ _ h1)];exact hg _ _ _ h2
  intro fn p y h
  cases fn with
  | expr lv =>
   rw[parM]at h ⊢;split at h
   ·rename_i h1
    rw[if_pos h1];split at h
    ·rename_i h2
     rw[if_pos h2];exact one1 h (fun _ _ _ h=>h)
    ·rename_i h2
     rw[if_neg h2];exact ih _ _ _ h
   ·rename_i h1
    rw[if_neg h1];split at h
    ·rename_i h2
     rw[if_pos h2];split at h
     ·rename_i h3
      rw[if_pos h3];exact one1 h (fun _ _ _ h=>h)
     ·rename_i h3
      rw[if_neg h3];exact ih _ _ _ h
    ·rename_i h2
     rw[if_neg h2];exact one1 h (fun _ _ _ h=>ih _ _ _ h)
  | exprL lv first x =>
   rw[parM]at h ⊢;split at h
   ·rename_i h1
    rw[if_pos h1];refine one1 h (fun y q z h=>?_);simp only at h ⊢;split at h
    ·rename_i h2;rw[if_pos h2];exact h
    ·rename_i h2;rw[if_neg h2];exact ih _ _ _ h
   ·rename_i h1;rw[if_neg h1];exact h
  | operand =>
   rw[parM]at h ⊢;split at h
   ·rename_i h1;rw[if_pos h1];exact h
   rename_i h1;rw[if_neg h1]
   split at h
   ·rename_i h2;rw[if_pos h2];exact h
   rename_i h2;rw[if_neg h2]
   split at h
   ·rename_i h3;rw[if_pos h3];exact many1 h (fun _ _ _ h=>h)
   rename_i h3;rw[if_neg h3]
   split at h
   ·rename_i h4;rw[if_pos h4];exact ih _ _ _ h
   rename_i h4;rw[if_neg h4]
   split at h
   ·rename_i h5
    rw[if_pos h5];exact one1 h (fun _ _ _ h=>many1 h (fun _ _ _ h=>h))
   rename_i h5;rw[if_neg h5]
   split at h
   ·rename_i h6;rw[if_pos h6];exact h
   rename_i h6;rw[if_neg h6]
   split at h
   ·rename_i h7;rw[if_pos h7];exact one1 h (fun _ _ _ h=>h)
   rename_i h7;rw[if_neg h7];exact h
  | args =>
   rw[parM]at h ⊢;split at h
   ·rename_i h1;rw[if_pos h1];exact h
   rename_i h1;rw[if_neg h1]
   exact one1 h (fun _ _ _ h=>many1 h (fun _ _ _ h=>h))
  | argsL kids =>
   rw[parM]at h ⊢;split at h
   ·rename_i h1;rw[if_pos h1];exact one1 h (fun _ _ _ h=>ih _ _ _ h)
   rename_i h1;rw[if_neg h1];exact h
  | place =>
   rw[parM]at h ⊢;split at h
   ·rename_i h1;rw[if_pos h1];exact one1 h (fun _ _ _ h=>h)
   rename_i h1;rw[if_neg h1];exact h
  | stmt =>
   rw[parM]at h ⊢;simp only at h ⊢;split at h
   ·rename_i h1;rw[if_pos h1];exact one1 h (fun _ _ _ h=>h)
   rename_i h1;rw[if_neg h1]
   split at h
   ·rename_i h2;rw[if_pos h2];exact ih _ _ _ h
   rename_i h2;rw[if_neg h2]
   split at h
   ·rename_i h3;rw[if_pos h3];exact one1 h (fun _ _ _ h=>one1 h (fun _ _ _ h=>h))
   rename_i h3;rw[if_neg h3]
   split at h
   ·rename_i h4;rw[if_pos h4];exact one1 h (fun _ _ _ h=>one1 h (fun _ _ _ h=>one1 h (fun _ _ _ h=>h)))
   rename_i h4;rw[if_neg h4]
   split at h
   ·rename_i h5
    rw[if_pos h5];split at h
    ·rename_i h6;rw[if_pos h6];exact one1 h (fun _ _ _ h=>h)
    rename_i h6;rw[if_neg h6];exact h
   rename_i h5;rw[if_neg h5]
   split at h
   ·rename_i h6;rw[if_pos h6];exact one1 h (fun _ _ _ h=>h)
   rename_i h6;rw[if_neg h6]
   split at h
   ·rename_i h7;rw[if_pos h7];exact many1 h (fun _ _ _ h=>h)
   rename_i h7;rw[if_neg h7]
   split at h
   ·rename_i h8;rw[if_pos h8];exact one1 h (fun _ _ _ h=>one1 h (fun _ _ _ h=>h))
   rename_i h8;rw[if_neg h8]
   split at h
   ·cases h
   ·rename_i x q hq
    rw[skippedM_mono hq];exact h
  | block =>
   rw[parM]at h ⊢;split at h
   ·rename_i h1;rw[if_pos h1];exact many1 h (fun _ _ _ h=>h)
   rename_i h1;rw[if_neg h1];exact h
  | blockL kids =>
   rw[parM]at h ⊢;split at h
   ·rename_i h1;rw[if_pos h1];exact h
   rename_i h1;rw[if_neg h1]
   exact one1 h (fun _ _ _ h=>ih _ _ _ h)
  | branch =>
   rw[parM]at h ⊢;refine one1 h (fun _ _ _ h=>one1 h (fun _ _ _ h=>?_));split at h
   ·rename_i h1
    rw[if_pos h1];split at h
    ·rename_i h2;rw[if_pos h2];exact one1 h (fun _ _ _ h=>h)
    rename_i h2;rw[if_neg h2];exact one1 h (fun _ _ _ h=>h)
   rename_i h1;rw[if_neg h1];exact h
theorem parM_le {f f':Nat} (hf:f≤f') {fn:Fn} {p:PS} {y:List Tree × PS} (h:parM s l f fn p=some y):parM s l f' fn p=some y:=by
 induction hf with
 | refl=>exact h
 | step _ ih=>exact parM_mono _ _ _ _ ih
end
end Go.Proofs.YtoepemlnlpamlaaGreat
