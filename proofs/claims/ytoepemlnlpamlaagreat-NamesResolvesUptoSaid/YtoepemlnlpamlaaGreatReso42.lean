/- The law NamesResolves holds where what it reads is of bulk at most 1048576: it returns true, and its argument reads as before. Part 42: Ints HeldF Same Same2 Small. -/
import Derived.Test.YtoepemlnlpamlaaGreatReso13
import Derived.Test.YtoepemlnlpamlaaGreatReso23
import Derived.Test.YtoepemlnlpamlaaGreatReso32
import Derived.Test.YtoepemlnlpamlaaGreatReso38
import Derived.Test.YtoepemlnlpamlaaGreatReso41
set_option maxRecDepth 100000
set_option maxHeartbeats 4000000
namespace Go.Proofs.YtoepemlnlpamlaaGreat
open Go.RowKit
theorem Pv{α:Type}{l1 l2:List α}{k:Nat}{x y:α}(h:l1.take k=l2.take k)(h1:l1[k]? =some x)(h2:l2[k]? =some y)(hxy:x=y):l1.take (k+1)=l2.take (k+1):=by
 rw[List.take_add_one,List.take_add_one,h,h1,h2,hxy]
theorem Kg(A1 A2:Option Addr)(n1 n2 c1 c2:Nat)(l1 l2:List Int)(w:World)(h1:bN 1 fO w w.heap.size A1 l1)(h2:bN 1 fO w w.heap.size A2 l2)(hl1:l1.length=n1)(hl2:l2.length=n2)(hn:n1<=1000000):
 Calls Tryz.prog 16 #[.slice A1 n1 c1,.slice A2 n2 c2] w fun e w'=>e= .returned (.bool (decide (l1=l2)))/\Below w.heap.size w w':=by
 by_cases hne:n1=n2
 ·subst hne
  have H1:=kH h1;have H2:=kH h2;have tN:=kH hl1;have HL2:=kH hl2;clear h1 h2 hl1 hl2;go_enter Tryz.func16,Tryz.ntmps16
  go_wp2_with fail
  go_loopg [5] n1 (fun gk s wr=> ∃k:Nat,k+gk=n1/\s= .int .i64 k/\Below w.heap.size w wr/\l1.take k=l2.take k)
  case atStart=>exact⟨0,by omega,rfl,Below.refl _ _,rfl⟩
  case round=>
   obtain⟨k,hk,rfl,hB,ht⟩:=hrel;have hk':k<=n1:=by omega
   have HK:=kH hk;have HT:=kH ht;clear hk ht;by_cases hlt:k<n1
   ·have e1:l1[k]? =some (l1[k]'(by rw[tN.out];exact hlt)):=abI _
    have e2:l2[k]? =some (l2[k]'(by rw[HL2.out];exact hlt)):=abI _;generalize l1[k]'(by rw[tN.out];exact hlt)=x at e1
    generalize l2[k]'(by rw[HL2.out];exact hlt)=y at e2
    obtain⟨b1,o1,hA1,hb1,hc1⟩:=(H1.out.below hB (abE _)) k _ e1;obtain⟨b2,o2,hA2,hb2,hc2⟩:=(H2.out.below hB (abE _)) k _ e2;subst hA1;subst hA2;have hx:wr.cell? ⟨b1,o1+k,none⟩=some (.int .i64 x):=by simpa using hc1 0 _ rfl
    have hy:wr.cell? ⟨b2,o2+k,none⟩=some (.int .i64 y):=by simpa using hc2 0 _ rfl
    have E1:=kH e1;have E2:=kH e2;have hkn:(k:Int)<(n1:Int):=by omega
    clear hc1 hc2 e1 e2;by_cases hxy:x=y
    ·subst hxy
     go_wp2_with fail
     go_quiet (fail)
     go_wp2_with fail
     go_roundg (gk - 1)
     case measure=>have:=HK.out;omega
     case rel=>exact⟨k+1,by have:=HK.out;omega,by go_num,by(repeat (first|exact Below.refl _ _|assumption|refine Below.trans ?_ (Below.mono (by assumption) (by first|omega|(simp;done)|(simp;omega)))|refine Below.alloc ?_ (by first|omega|(simp;done)|(simp;omega)) _|refine Below.setCell ?_ (by first|omega|(simp;done)|(simp;omega)) _|refine Below.drew ?_|refine aR ?_ _)),Pv HT.out E1.out E2.out rfl⟩
    ·have hxb:(x !=y)=true:=by simpa using hxy
     have hres:decide (l1=l2)=false:=by
      refine decide_eq_false fun e=>?_
      have:=E1.out;rw[e,E2.out]at this;cases this
      exact hxy rfl
     have aM:=kH hres;clear hres hxy;go_wp2_with fail
     go_quiet (fail)
     go_wp2_with fail
     go_ret
     rw[aM.out];exact⟨rfl,by(repeat (first|exact Below.refl _ _|assumption|refine Below.trans ?_ (Below.mono (by assumption) (by first|omega|(simp;done)|(simp;omega)))|refine Below.alloc ?_ (by first|omega|(simp;done)|(simp;omega)) _|refine Below.setCell ?_ (by first|omega|(simp;done)|(simp;omega)) _|refine Below.drew ?_|refine aR ?_ _))⟩
   ·have hres:decide (l1=l2)=true:=by
     have h:=HT.out;rw[List.take_of_length_le (by rw[tN.out];omega),List.take_of_length_le (by rw[HL2.out];omega)]at h;exact decide_eq_true h
    have aM:=kH hres;clear hres;go_wp2_with fail
    go_ret
    rw[aM.out];exact⟨rfl,by(repeat (first|exact Below.refl _ _|assumption|refine Below.trans ?_ (Below.mono (by assumption) (by first|omega|(simp;done)|(simp;omega)))|refine Below.alloc ?_ (by first|omega|(simp;done)|(simp;omega)) _|refine Below.setCell ?_ (by first|omega|(simp;done)|(simp;omega)) _|refine Below.drew ?_|refine aR ?_ _))⟩
 ·have hb:(n1 !=n2)=true:=by simpa using hne
  have hres:decide (l1=l2)=false:=decide_eq_false (fun e=>hne (by rw[<- hl1,<- hl2,e]));have aM:=kH hres;have hb2:((n1:Int) !=(n2:Int))=true:=by simp;omega
  clear hres h1 h2 hl1 hl2;go_enter Tryz.func16,Tryz.ntmps16
  go_wp2_with fail
  go_ret
  rw[aM.out];exact⟨rfl,by(repeat (first|exact Below.refl _ _|assumption|refine Below.trans ?_ (Below.mono (by assumption) (by first|omega|(simp;done)|(simp;omega)))|refine Below.alloc ?_ (by first|omega|(simp;done)|(simp;omega)) _|refine Below.setCell ?_ (by first|omega|(simp;done)|(simp;omega)) _|refine Below.drew ?_|refine aR ?_ _))⟩
theorem Ze(A1 A2:Option Addr)(n1 n2 c1 c2:Nat)(l1 l2:List ByteArray)(w:World)(h1:bN 1 fE w w.heap.size A1 l1)(h2:bN 1 fE w w.heap.size A2 l2)(hl1:l1.length=n1)(hl2:l2.length=n2)(hn:n1<=1000000):
 Calls Tryz.prog 19 #[.slice A1 n1 c1,.slice A2 n2 c2] w fun e w'=>e= .returned (.bool (decide (l1=l2)))/\Below w.heap.size w w':=by
 by_cases hne:n1=n2
 ·subst hne
  have H1:=kH h1;have H2:=kH h2;have tN:=kH hl1;have HL2:=kH hl2;clear h1 h2 hl1 hl2;go_enter Tryz.func19,Tryz.ntmps19
  go_wp2_with fail
  go_loopg [5] n1 (fun gk s wr=> ∃k:Nat,k+gk=n1/\s= .int .i64 k/\Below w.heap.size w wr/\l1.take k=l2.take k)
  case atStart=>exact⟨0,by omega,rfl,Below.refl _ _,rfl⟩
  case round=>
   obtain⟨k,hk,rfl,hB,ht⟩:=hrel;have hk':k<=n1:=by omega
   have HK:=kH hk;have HT:=kH ht;clear hk ht;by_cases hlt:k<n1
   ·have e1:l1[k]? =some (l1[k]'(by rw[tN.out];exact hlt)):=abI _
    have e2:l2[k]? =some (l2[k]'(by rw[HL2.out];exact hlt)):=abI _;generalize l1[k]'(by rw[tN.out];exact hlt)=x at e1
    generalize l2[k]'(by rw[HL2.out];exact hlt)=y at e2
    obtain⟨b1,o1,hA1,hb1,hc1⟩:=(H1.out.below hB (abE _)) k _ e1;obtain⟨b2,o2,hA2,hb2,hc2⟩:=(H2.out.below hB (abE _)) k _ e2;subst hA1;subst hA2;have hx:wr.cell? ⟨b1,o1+k,none⟩=some (.string x):=by simpa using hc1 0 _ rfl
    have hy:wr.cell? ⟨b2,o2+k,none⟩=some (.string y):=by simpa using hc2 0 _ rfl
    have E1:=kH e1;have E2:=kH e2;have hkn:(k:Int)<(n1:Int):=by omega
    clear hc1 hc2 e1 e2;by_cases hxy:x=y
    ·subst hxy
     go_wp2_with fail
     go_quiet (fail)
     go_wp2_with fail
     go_roundg (gk - 1)
     case measure=>have:=HK.out;omega
     case rel=>exact⟨k+1,by have:=HK.out;omega,by go_num,by(repeat (first|exact Below.refl _ _|assumption|refine Below.trans ?_ (Below.mono (by assumption) (by first|omega|(simp;done)|(simp;omega)))|refine Below.alloc ?_ (by first|omega|(simp;done)|(simp;omega)) _|refine Below.setCell ?_ (by first|omega|(simp;done)|(simp;omega)) _|refine Below.drew ?_|refine aR ?_ _)),Pv HT.out E1.out E2.out rfl⟩
    ·have hxb:¬x.toList=y.toList:=fun h=>hxy (mE (by rw[<- ByteArray.toList_eq,<- ByteArray.toList_eq,h]))
     have TR:(x.toList==y.toList)=false:=by rw[beq_eq_false_iff_ne];exact hxb
     have hres:decide (l1=l2)=false:=by
      refine decide_eq_false fun e=>?_
      have:=E1.out;rw[e,E2.out]at this;cases this
      exact hxy rfl
     have aM:=kH hres;clear hres hxy;go_wp2_with fail
     go_quiet (fail)
     go_wp2_with fail
     go_ret
     rw[aM.out];exact⟨rfl,by(repeat (first|exact Below.refl _ _|assumption|refine Below.trans ?_ (Below.mono (by assumption) (by first|omega|(simp;done)|(simp;omega)))|refine Below.alloc ?_ (by first|omega|(simp;done)|(simp;omega)) _|refine Below.setCell ?_ (by first|omega|(simp;done)|(simp;omega)) _|refine Below.drew ?_|refine aR ?_ _))⟩
   ·have hres:decide (l1=l2)=true:=by
     have h:=HT.out;rw[List.take_of_length_le (by rw[tN.out];omega),List.take_of_length_le (by rw[HL2.out];omega)]at h;exact decide_eq_true h
    have aM:=kH hres;clear hres;go_wp2_with fail
    go_ret
    rw[aM.out];exact⟨rfl,by(repeat (first|exact Below.refl _ _|assumption|refine Below.trans ?_ (Below.mono (by assumption) (by first|omega|(simp;done)|(simp;omega)))|refine Below.alloc ?_ (by first|omega|(simp;done)|(simp;omega)) _|refine Below.setCell ?_ (by first|omega|(simp;done)|(simp;omega)) _|refine Below.drew ?_|refine aR ?_ _))⟩
 ·have hb:(n1 !=n2)=true:=by simpa using hne
  have hres:decide (l1=l2)=false:=decide_eq_false (fun e=>hne (by rw[<- hl1,<- hl2,e]));have aM:=kH hres;have hb2:((n1:Int) !=(n2:Int))=true:=by simp;omega
  clear hres h1 h2 hl1 hl2;go_enter Tryz.func19,Tryz.ntmps19
  go_wp2_with fail
  go_ret
  rw[aM.out];exact⟨rfl,by(repeat (first|exact Below.refl _ _|assumption|refine Below.trans ?_ (Below.mono (by assumption) (by first|omega|(simp;done)|(simp;omega)))|refine Below.alloc ?_ (by first|omega|(simp;done)|(simp;omega)) _|refine Below.setCell ?_ (by first|omega|(simp;done)|(simp;omega)) _|refine Below.drew ?_|refine aR ?_ _))⟩
inductive zo where
 | done
 | soft (k:Nat) (t:zo)
 | hard (k:Nat) (t:zo)
 | fork (i:Nat) (s:zo) (j:Nat) (t:zo)
def zo.len:zo->Nat
 | .done=>0
 | .soft _ t=>t.len+1
 | .hard _ t=>t.len+1
 | .fork _ s _ _=>s.len+1
section
variable {P:Program}{ops:Array Oper}{Q:Exit->Act->World->Prop}{md:Region.Mode}{S:World->Prop}{ex:List Nat}
def vD(P:Program)(ops:Array Oper)(Q:Exit->Act->World->Prop)(S:World->Prop)(ex:List Nat):zo->Act->World->Prop
 | .done,a,w=>Q .normal a w
 | .soft k t,a,w=> ∃o,ops[k]? =some o/\∃v,YieldsIf P ops S o v a/\S w/\vD P ops Q S ex t (a.put o.dst v) w
 | .hard k t,a,w=> ∃o,ops[k]? =some o/\Region.wanted o (yielded ops a.tmps)=true/\o.wp P a w (fun a' w'=>(ex.contains k=false->S w')/\vD P ops Q S ex t a' w') Q
 | .fork i s j t,a,w=>(∃o,ops[i]? =some o/\Region.wanted o (yielded ops a.tmps)=true/\o.wp P a w (fun a' w'=>(ex.contains i=false->S w')/\vD P ops Q S ex s a' w') Q) /\
  (∃o,ops[j]? =some o/\Region.wanted o (yielded ops a.tmps)=true/\o.wp P a w (fun a' w'=>(ex.contains j=false->S w')/\vD P ops Q S ex t a' w') Q)
def yA(md:Region.Mode)(ops:Array Oper)(ex:List Nat):zo->Array Bool->Bool
 | .done,listed=>(Region.ready md ops listed).isEmpty
 | .soft k t,listed=>Region.free md ops listed k&&(Region.ready md ops listed).contains k&&ex.all (fun j=>Region.waitsFor md ops j k)&&yA md ops ex t (listed.setIfInBounds k true)
 | .hard k t,listed=>(Region.ready md ops listed==[k])&&yA md ops ex t (listed.setIfInBounds k true)
 | .fork i s j t,listed=>(Region.ready md ops listed==[i,j])&&(s.len==t.len)&&yA md ops ex s (listed.setIfInBounds i true)&&yA md ops ex t (listed.setIfInBounds j true)
theorem Pf(hs:Region.noSelect ops=true)(hQ:∀c a b w,Q (.panic c) a w->Q (.panic c) b w):∀(t:zo) (listed:Array Bool) (a:Act) (w:World),
 yA md ops ex t listed=true->vD P ops Q S ex t a w->yE P md ops Q S ex t.len listed a w:=by
 intro t
 induction t with
 | done=>
  intro listed a w hB h;exact⟨by simpa [yA] using hB,by simpa [vD] using h⟩
 | soft k t ih=>
  intro listed a w hB h;simp only[yA,abG]at hB;obtain⟨⟨⟨h1,h2⟩,h3⟩,h4⟩:=hB;obtain⟨o,hok,v,hy,hS,h5⟩:=h;refine wE hok (Region.noSelect_spec hs) (fun j hj=>?_) (fun c a w hq=>hQ c _ _ w hq) t.len listed a w (Region.free_spec hok h1) (by simpa using h2) hy hS (ih _ _ w h4 h5);exact List.all_eq_true.1 h3 j hj
 | hard k t ih=>
  intro listed a w hB h;simp only[yA,abG,beq_iff_eq]at hB;obtain⟨h1,h2⟩:=hB;obtain⟨o,hok,hg,h5⟩:=h;refine⟨fun h0=>(by rw[h0]at h1;cases h1),fun i hi=>?_⟩;rw[h1]at hi;simp at hi;subst hi;unfold wpOp;simp only[hok,hg,if_true];refine .inl (Oper.wp_mono (fun a' w' h6=>⟨fun hn=>h6.1 (by simpa using hn),ih (listed.setIfInBounds i true) a' w' h2 h6.2⟩) h5)
 | fork i s j t ihs iht=>
  intro listed a w hB h;simp only[yA,abG,beq_iff_eq]at hB;obtain⟨⟨⟨h1,h0⟩,h2⟩,h3⟩:=hB;obtain⟨⟨o,hok,hg,h5⟩,⟨o',hok',hg',h5'⟩⟩:=h;refine⟨fun h0=>(by rw[h0]at h1;cases h1),fun q hq=>?_⟩;rw[h1]at hq;simp at hq;rcases hq with rfl|rfl
  ·unfold wpOp
   simp only[hok,hg,if_true];exact .inl (Oper.wp_mono (fun a' w' h6=>⟨fun hn=>h6.1 (by simpa using hn),ihs (listed.setIfInBounds q true) a' w' h2 h6.2⟩) h5)
  ·unfold wpOp
   simp only[hok',hg',if_true];refine .inl (Oper.wp_mono (fun a' w' h6=>⟨fun hn=>h6.1 (by simpa using hn),?_⟩) h5');have:=iht (listed.setIfInBounds q true) a' w' h3 h6.2;rw[h0];exact this
theorem O7{id:Nat}{a:Act}{w:World}{l:List Oper}(S:World->Prop)(ex:List Nat)(t:zo)(hm:P.follows .mixedOrders=true)(hs:Region.noSelect l.toArray=true)
 (hl:t.len=l.length) (hB:yA .any l.toArray ex t (Array.replicate l.length false)=true) (h:vD P l.toArray (NoPanic Q) S ex t a w.drew):(Code.region id l.toArray true).wp P Q a w:=by
 refine wp_region_noPanic (wp_region_any hm (wD (S:=S) (ex:=ex) _ _ _ _ ?_));have:=Pf (P:=P) (S:=S) (md:=.any) hs (Q:=NoPanic Q) (fun c a b w hq=>(hq:False).elim) t (Array.replicate l.length false) a w.drew hB h;simpa [hl] using this
theorem O9{a:Act}{w:World}(h:Q .normal a w):vD P ops (NoPanic Q) S ex .done a w:=h
theorem Xx{k:Nat}{t:zo}{o:Oper}{a:Act}{w:World}{v:Value}(ho:ops[k]? =some o)(hg:Region.wanted o (yielded ops a.tmps)=true)(hS:S w)(hy:∀w',S w'->(execOp a.eval o).run P w'= .ok (.value v) w')
 (h:vD P ops Q S ex t (a.put o.dst v) w):vD P ops Q S ex (.soft k t) a w:=
 ⟨o,ho,v,.inl ⟨hg,hy⟩,hS,h⟩
def LF(P:Program)(ops:Array Oper)(Q:Exit->Act->World->Prop)(S:World->Prop)(ex:List Nat)(k:Nat)(t:zo)(a:Act)(w:World):Prop:=
 ∃o,ops[k]? =some o/\Region.wanted o (yielded ops a.tmps)=true/\o.wp P a w (fun a' w'=>(ex.contains k=false->S w')/\vD P ops Q S ex t a' w') Q
theorem BM{k:Nat}{t:zo}{o:Oper}{a:Act}{w w':World}{v:Value}(ho:ops[k]? =some o)(hg:Region.wanted o (yielded ops a.tmps)=true)(hr:(execOp a.eval o).run P w= .ok (.value v) w')(hS:ex.contains k=false->S w')
 (h:vD P ops Q S ex t (a.put o.dst v) w'):LF P ops Q S ex k t a w:=
 ⟨o,ho,hg,by unfold Oper.wp;rw[hr];exact⟨hS,h⟩⟩
theorem zK{k:Nat}{t:zo}{o:Oper}{a:Act}{w w':World}(ho:ops[k]? =some o)(hg:Region.wanted o (yielded ops a.tmps)=true)(hr:(execOp a.eval o).run P w= .ok .skip w')(hS:ex.contains k=false->S w')
 (h:vD P ops Q S ex t (a.put o.dst undef) w'):LF P ops Q S ex k t a w:=
 ⟨o,ho,hg,by unfold Oper.wp;rw[hr];exact⟨hS,h⟩⟩
theorem vO{k:Nat}{t:zo}{a:Act}{w:World}(h:LF P ops Q S ex k t a w):vD P ops Q S ex (.hard k t) a w:=h
theorem Xy{i j:Nat}{s t:zo}{a:Act}{w:World}(h:LF P ops Q S ex i s a w)(k:LF P ops Q S ex j t a w):vD P ops Q S ex (.fork i s j t) a w:=⟨h,k⟩
end
theorem Nf{w:World}{g:Nat}{t:TypeId}{a0 a1 a2 a3 a4 a b c d e:Value}(h:ai w g t #[a0,a1,a2,a3,a4]):ai (ek w g a b c d e) g t #[a,b,c,d,e]:=by
 unfold ek;have:=((((h.fM 0 a).fM 1 b).fM 2 c).fM 3 d).fM 4 e;simpa using this
theorem Zj(A1 A2:Option Addr)(n c1 c2:Nat)(l:List Dg)(w:World)(h1:bN 5 bC w w.heap.size A1 l)(h2:bN 5 bC w w.heap.size A2 l)(hl:l.length=n)(hn:n<=1000000):
 Calls Tryz.prog 15 #[.slice A1 n c1,.slice A2 n c2] w fun e w'=>e= .returned (.bool true)/\Below w.heap.size w w':=by
 have H1:=kH h1;have H2:=kH h2;have HL:=kH hl;clear h1 h2 hl;go_enter Tryz.func15,Tryz.ntmps15
 go_wp2_with fail
 go_loopg [5] n (fun gk s wr=> ∃k:Nat,k+gk=n/\s= .int .i64 k/\Below w.heap.size w wr)
 case atStart=>exact⟨0,by omega,rfl,Below.refl _ _⟩
 case round=>
  obtain⟨k,hk,rfl,hB⟩:=hrel;have hk':k<=n:=by omega
  have HK:=kH hk;clear hk;by_cases hlt:k<n
  ·have e1:l[k]? =some (l[k]'(by rw[HL.out];exact hlt)):=abI _
   generalize l[k]'(by rw[HL.out];exact hlt)=x at e1
   obtain⟨x1,x2,x3,x4⟩:=x;obtain⟨b1,o1,hA1,hb1,hc1⟩:=(H1.out.below hB (abE _)) k _ e1;obtain⟨b2,o2,hA2,hb2,hc2⟩:=(H2.out.below hB (abE _)) k _ e1;have hb1':b1<wr.heap.size:=Nat.lt_of_lt_of_le hb1 hB.size;have hb2':b2<wr.heap.size:=Nat.lt_of_lt_of_le hb2 hB.size;subst hA1;subst hA2
   have hcell:∀W,Below wr.heap.size wr W->W.cell? ⟨b1,o1+k*5,none⟩=some (.int .i64 x1)/\W.cell? ⟨b1,o1+k*5+1,none⟩=some (.int .i64 x2)/\W.cell? ⟨b1,o1+k*5+2,none⟩=some (.int .i64 x3)/\W.cell? ⟨b1,o1+k*5+3,none⟩=some (.string x4)/\W.cell? ⟨b1,o1+k*5+4,none⟩=some (.slice none 0 0)/\W.cell? ⟨b2,o2+k*5,none⟩=some (.int .i64 x1)/\W.cell? ⟨b2,o2+k*5+1,none⟩=some (.int .i64 x2)/\W.cell? ⟨b2,o2+k*5+2,none⟩=some (.int .i64 x3)/\W.cell? ⟨b2,o2+k*5+3,none⟩=some (.string x4)/\W.cell? ⟨b2,o2+k*5+4,none⟩=some (.slice none 0 0):=fun W hb=>by
    have e:=fun j v (hj:(bC ⟨x1,x2,x3,x4⟩)[j]? =some v)=>(hb.cell (p:=⟨b1,_,none⟩) hb1').trans (hc1 j v hj)
    have e':=fun j v (hj:(bC ⟨x1,x2,x3,x4⟩)[j]? =some v)=>(hb.cell (p:=⟨b2,_,none⟩) hb2').trans (hc2 j v hj)
    exact⟨by simpa using e 0 _ rfl,by simpa using e 1 _ rfl,by simpa using e 2 _ rfl,by simpa using e 3 _ rfl,by simpa using e 4 _ rfl,by simpa using e' 0 _ rfl,by simpa using e' 1 _ rfl,by simpa using e' 2 _ rfl,by simpa using e' 3 _ rfl,by simpa using e' 4 _ rfl⟩
   have dU:=kH hcell;have hki:(k:Int)<(n:Int):=by omega
   have hk0:¬((k:Int)<0):=by omega
   have HB:=kH hB;clear hc1 hc2 e1 hcell hB
   have hfin:∀(Z:World) (g6 g7:Nat),Below wr.heap.size wr Z->wr.heap.size<=g6->wr.heap.size<=g7->g6≠g7->ai Z g6 78 #[.int .i64 0,.int .i64 0,.int .i64 0,.string ⟨#[]⟩,.slice none 0 0]->ai Z g7 78 #[.int .i64 0,.int .i64 0,.int .i64 0,.string ⟨#[]⟩,.slice none 0 0] ->
    let Z1:=ek Z g6 (.int .i64 x1) (.int .i64 x2) (.int .i64 x3) (.string x4) (.slice none 0 0)
    let Z2:=ek Z1 g7 (.int .i64 x1) (.int .i64 x2) (.int .i64 x3) (.string x4) (.slice none 0 0)
    Below wr.heap.size wr Z1/\ai Z1 g7 78 #[.int .i64 0,.int .i64 0,.int .i64 0,.string ⟨#[]⟩,.slice none 0 0]/\Below wr.heap.size wr Z2/\ai Z2 g6 78 #[.int .i64 x1,.int .i64 x2,.int .i64 x3,.string x4,.slice none 0 0]/\ai Z2 g7 78 #[.int .i64 x1,.int .i64 x2,.int .i64 x3,.string x4,.slice none 0 0]:=fun Z g6 g7 hb l6 l7 hne b6 b7=>by
    intro Z1 Z2;have hb1:Below wr.heap.size wr Z1:=hb.trans ((zB (w:=Z) (g:=g6)).toBelow hb.size (fun q hq=>by rw[hq];exact l6));have dB:ai Z1 g7 _ _:=b7.since (zB (w:=Z) (g:=g6)) (fun e=>hne e.symm);exact⟨hb1,dB,hb1.trans ((zB (w:=Z1) (g:=g7)).toBelow hb1.size (fun q hq=>by rw[hq];exact l7)),(Nf b6).since (zB (w:=Z1) (g:=g7)) hne,Nf dB⟩
   have iw:=kH hfin;clear hfin;go_upto_region 6 with fail
   go_cut [6,7] (fun s6 s7 wx=> ∃g6 g7,s6= .pointer (some ⟨g6,0,none⟩)/\s7= .pointer (some ⟨g7,0,none⟩)/\Hid (ai wx g6 78 #[.int .i64 x1,.int .i64 x2,.int .i64 x3,.string x4,.slice none 0 0]/\ai wx g7 78 #[.int .i64 x1,.int .i64 x2,.int .i64 x3,.string x4,.slice none 0 0]/\Below wr.heap.size wr wx))
   case first=>
    refine O7 (fun W=>W.cell? ⟨b1,o1+k*5,none⟩=some (.int .i64 x1)/\W.cell? ⟨b1,o1+k*5+1,none⟩=some (.int .i64 x2)/\W.cell? ⟨b1,o1+k*5+2,none⟩=some (.int .i64 x3)/\W.cell? ⟨b1,o1+k*5+3,none⟩=some (.string x4)/\W.cell? ⟨b1,o1+k*5+4,none⟩=some (.slice none 0 0)/\W.cell? ⟨b2,o2+k*5,none⟩=some (.int .i64 x1)/\W.cell? ⟨b2,o2+k*5+1,none⟩=some (.int .i64 x2)/\W.cell? ⟨b2,o2+k*5+2,none⟩=some (.int .i64 x3)/\W.cell? ⟨b2,o2+k*5+3,none⟩=some (.string x4)/\W.cell? ⟨b2,o2+k*5+4,none⟩=some (.slice none 0 0)) [] (.soft 0 (.soft 1 (.soft 2 (.soft 3 (.soft 4 (.soft 5 (.soft 6 (.soft 7 (.fork 8 (.hard 9 (.hard 10 (.hard 11 .done))) 9 (.hard 8 (.hard 10 (.hard 11 .done)))))))))))) (by kernel_rfl) (by kernel_rfl) rfl (by kernel_rfl) ?_;have hd1:Below wr.heap.size wr wr.drew:=(Below.refl _ _).drew;have hS0:=dU.out _ hd1
    iterate 8
     refine Xx (by simp only[abN,abM,abL];rfl) (by rfl) hS0 (by intro w' hSw;obtain⟨hs1,hs2,hs3,hs4,hs5,hs6,hs7,jQ,Db,FP⟩:=hSw;go_simp;rfl) ?_;simp only[Act.put,sA,sZ,sC]
    obtain⟨ga,hga⟩:∃q,wr.drew.heap.size=q:=⟨_,rfl⟩
    obtain⟨Y,hY⟩:∃q,wr.drew.alloc (.cells #[.int .i64 0,.int .i64 0,.int .i64 0,.string ⟨#[]⟩,.slice none 0 0] 78)=q:=⟨_,rfl⟩
    obtain⟨gb,hgb⟩:∃q,Y.heap.size=q:=⟨_,rfl⟩
    obtain⟨Z,hZ⟩:∃q,Y.alloc (.cells #[.int .i64 0,.int .i64 0,.int .i64 0,.string ⟨#[]⟩,.slice none 0 0] 78)=q:=⟨_,rfl⟩
    have NW:Below wr.heap.size wr Y:=by rw[<- hY];exact hd1.trans ((ag _ _).mono hd1.size)
    have hbZ:Below wr.heap.size wr Z:=by rw[<- hZ];exact NW.trans ((ag _ _).mono NW.size)
    have hga0:wr.heap.size<=ga:=by rw[<- hga];exact hd1.size
    have hgab:ga<gb:=by rw[<- hgb,<- hY,<- hga];simp
    have hBa:ai Z ga 78 #[.int .i64 0,.int .i64 0,.int .i64 0,.string ⟨#[]⟩,.slice none 0 0]:=by rw[<- hZ,<- hY,<- hga];exact(ai.new _ _ _).alloc _
    have hBb:ai Z gb 78 #[.int .i64 0,.int .i64 0,.int .i64 0,.string ⟨#[]⟩,.slice none 0 0]:=by rw[<- hZ,<- hgb];exact ai.new _ _ _
    have hSY:=dU.out Y NW;have hSZ:=dU.out Z hbZ;refine Xy ?_ ?_
    ·obtain⟨q1,q2,q3,q4,q5⟩:=iw.out Z ga gb hbZ hga0 (by omega) (by omega) hBa hBb
     have hS1:=dU.out _ q1;have hS2:=dU.out _ q3;refine BM (v:=.pointer (some ⟨ga,0,none⟩)) (w':=Y) (by simp only[abN,abM,abL];rfl) (by rfl) (by first|(go_simp;done)|(go_simp;rw[hY,hga])|(go_simp;rw[hga];rfl)) (fun _=>hSY) ?_;simp only[Act.put,sA,sZ,sC];refine vO (BM (v:=.pointer (some ⟨gb,0,none⟩)) (w':=Z) (by simp only[abN,abM,abL];rfl) (by rfl) (by first|(go_simp;done)|(go_simp;rw[hZ,hgb])|(go_simp;rw[hgb];rfl)) (fun _=>hSZ) ?_);simp only[Act.put,sA,sZ,sC];obtain⟨⟨m0,m1,m2,m3,m4⟩,f0,f1,f2,f3,f4⟩:=hBa.five;have lm:=hBa.lt;refine vO (zK (w':=ek Z ga (.int .i64 x1) (.int .i64 x2) (.int .i64 x3) (.string x4) (.slice none 0 0)) (by simp only[abN,abM,abL];rfl) (by rfl) (by go_simp;rfl) (fun _=>hS1) ?_);simp only[Act.put];clear m0 m1 m2 m3 m4 f0 f1 f2 f3 f4 lm;generalize hZ1:ek Z ga (.int .i64 x1) (.int .i64 x2) (.int .i64 x3) (.string x4) (.slice none 0 0)=Z1 at q1 q2 q3 q4 q5 hS1 hS2⊢
     obtain⟨⟨m0,m1,m2,m3,m4⟩,f0,f1,f2,f3,f4⟩:=q2.five;have lm:=q2.lt;refine vO (zK (w':=ek Z1 gb (.int .i64 x1) (.int .i64 x2) (.int .i64 x3) (.string x4) (.slice none 0 0)) (by simp only[abN,abM,abL];rfl) (by rfl) (by go_simp;rfl) (fun _=>hS2) ?_);simp only[Act.put];refine O9 ?_;clear m0 m1 m2 m3 m4 f0 f1 f2 f3 f4 lm hS0 hS1 hS2 hSY hSZ;go_wp2_with fail
     go_meet
     exact⟨ga,gb,rfl,rfl,kH ⟨q4,q5,q3⟩⟩
    ·obtain⟨q1,q2,q3,q4,q5⟩:=iw.out Z gb ga hbZ (by omega) hga0 (by omega) hBb hBa
     have hS1:=dU.out _ q1;have hS2:=dU.out _ q3;refine BM (v:=.pointer (some ⟨ga,0,none⟩)) (w':=Y) (by simp only[abN,abM,abL];rfl) (by rfl) (by first|(go_simp;done)|(go_simp;rw[hY,hga])|(go_simp;rw[hga];rfl)) (fun _=>hSY) ?_;simp only[Act.put,sA,sZ,sC];refine vO (BM (v:=.pointer (some ⟨gb,0,none⟩)) (w':=Z) (by simp only[abN,abM,abL];rfl) (by rfl) (by first|(go_simp;done)|(go_simp;rw[hZ,hgb])|(go_simp;rw[hgb];rfl)) (fun _=>hSZ) ?_);simp only[Act.put,sA,sZ,sC];obtain⟨⟨m0,m1,m2,m3,m4⟩,f0,f1,f2,f3,f4⟩:=hBb.five;have lm:=hBb.lt;refine vO (zK (w':=ek Z gb (.int .i64 x1) (.int .i64 x2) (.int .i64 x3) (.string x4) (.slice none 0 0)) (by simp only[abN,abM,abL];rfl) (by rfl) (by go_simp;rfl) (fun _=>hS1) ?_);simp only[Act.put];clear m0 m1 m2 m3 m4 f0 f1 f2 f3 f4 lm;generalize hZ1:ek Z gb (.int .i64 x1) (.int .i64 x2) (.int .i64 x3) (.string x4) (.slice none 0 0)=Z1 at q1 q2 q3 q4 q5 hS1 hS2⊢
     obtain⟨⟨m0,m1,m2,m3,m4⟩,f0,f1,f2,f3,f4⟩:=q2.five;have lm:=q2.lt;refine vO (zK (w':=ek Z1 ga (.int .i64 x1) (.int .i64 x2) (.int .i64 x3) (.string x4) (.slice none 0 0)) (by simp only[abN,abM,abL];rfl) (by rfl) (by go_simp;rfl) (fun _=>hS2) ?_);simp only[Act.put];refine O9 ?_;clear m0 m1 m2 m3 m4 f0 f1 f2 f3 f4 lm hS0 hS1 hS2 hSY hSZ;go_wp2_with fail
     go_meet
     exact⟨gb,ga,rfl,rfl,kH ⟨q4,q5,q3⟩⟩
   case rest=>
    obtain⟨g6,g7,rfl,rfl,HQ⟩:=hcut;obtain⟨⟨m0,m1,m2,m3,m4⟩,-⟩:=HQ.out.1.five;obtain⟨⟨p0,p1,p2,p3,p4⟩,-⟩:=HQ.out.2.1.five;have lm:=HQ.out.1.lt;have lp:=HQ.out.2.1.lt;obtain⟨gq,rfl⟩:∃q:Nat,q=gk:=⟨_,rfl⟩
    go_wp2_with fail
    go_loopg [8] 1 (fun gk s wz=>s= .int .i64 0/\wc=wz)
    case atStart=>exact⟨rfl,rfl⟩
    case round=>
     obtain⟨rfl,rfl⟩:=hrel;go_wp2_with fail
     go_roundg (gq - 1)
     case measure=>have:=HK.out;omega
     case rel=>exact⟨k+1,by have:=HK.out;omega,by go_num,HB.out.trans (HQ.out.2.2.mono HB.out.size)⟩
  ·have hge:k=n:=by omega
   subst hge;go_wp2_with fail
   go_ret
   exact⟨rfl,hB⟩
theorem Zi(A1 A2 B1 B2:Option Addr)(n c1 c2 m d1 d2:Nat)(l:List Dc)(u:List Int)(w:World)(h1:bN 4 cB w w.heap.size A1 l)(h2:bN 4 cB w w.heap.size A2 l)(g1:bN 1 fO w w.heap.size B1 u)(g2:bN 1 fO w w.heap.size B2 u)(hl:l.length=n)(hn:n<=1000000)(hu:u.length=m)(hm:m<=1000000):
 Calls Tryz.prog 14 #[.agg #[.slice A1 n c1,.slice B1 m d1],.agg #[.slice A2 n c2,.slice B2 m d2]] w fun e w'=>e= .returned (.bool true)/\Below w.heap.size w w':=by
 obtain⟨W1,hW1⟩:∃W1,(w.alloc (.cells #[.slice A1 n c1,.slice B1 m d1] 30)).alloc (.cells #[.slice A2 n c2,.slice B2 m d2] 30)=W1:=⟨_,rfl⟩
 have hb1:Below w.heap.size w W1:=by rw[<- hW1];exact(ag w _).trans ((ag _ _).mono (by simp))
 have hx:ai W1 w.heap.size 30 #[.slice A1 n c1,.slice B1 m d1]:=by rw[<- hW1];exact(ai.new w _ _).alloc _
 have hy:ai W1 (w.heap.size+1) 30 #[.slice A2 n c2,.slice B2 m d2]:=by
  rw[<- hW1];have:=ai.new (w.alloc (.cells #[.slice A1 n c1,.slice B1 m d1] 30)) 30 #[.slice A2 n c2,.slice B2 m d2];simpa using this
 have hint:=Kg B1 B2 m m d1 d2 u u W1 ((g1.below hb1 (abE _)).mono hb1.size) ((g2.below hb1 (abE _)).mono hb1.size) hu hu hm;rw[decide_eq_true rfl]at hint;have H1:=kH ((h1.below hb1 (abE _)).mono hb1.size);have H2:=kH ((h2.below hb1 (abE _)).mono hb1.size);have HL:=kH hl;have Ez:=kH hint;have HB1:=kH hb1;have HX:=kH hx;have HY:=kH hy;have x0:=hx.cell 0;have x1:=hx.cell 1;have y0:=hy.cell 0;have y1:=hy.cell 1;have lx:=hx.lt;have ly:=hy.lt;clear h1 h2 g1 g2 hl hint hb1 hx hy;go_enter Tryz.func14,Tryz.ntmps14
 go_wp2_with (rw[hW1])
 refine Ez.out.mono ?_;rintro e w2 ⟨rfl,hb2⟩;have HB2:Hid (Below w.heap.size w w2):=kH (HB1.out.trans (hb2.mono HB1.out.size));have hx:=HX.out.below hb2 HX.out.lt;have hy:=HY.out.below hb2 HY.out.lt;have K1:=kH ((H1.out.below hb2 (abE _)).mono hb2.size);have K2:=kH ((H2.out.below hb2 (abE _)).mono hb2.size);clear x0 x1 y0 y1 lx ly hb2 hW1 HX HY H1 H2 Ez;have x0:=hx.cell 0;have y0:=hy.cell 0;have lx:=hx.lt;have ly:=hy.lt;have HX:=kH hx;have HY:=kH hy;clear hx hy;go_wp2_with fail
 go_loopg [5] n (fun gk s wr=> ∃k:Nat,k+gk=n/\s= .int .i64 k/\Below w2.heap.size w2 wr)
 case atStart=>exact⟨0,by omega,rfl,Below.refl _ _⟩
 case round=>
  obtain⟨k,hk,rfl,hB⟩:=hrel;have hk':k<=n:=by omega
  have HK:=kH hk;have hx:=HX.out.below hB HX.out.lt;have hy:=HY.out.below hB HY.out.lt;have z0:=hx.cell 0;have u0:=hy.cell 0;have lzx:=hx.lt;have lzy:=hy.lt;clear hk hx hy;by_cases hlt:k<n
  ·have e1:l[k]? =some (l[k]'(by rw[HL.out];exact hlt)):=abI _
   generalize l[k]'(by rw[HL.out];exact hlt)=x at e1
   obtain⟨b1,o1,hA1,hb1,hc1⟩:=(K1.out.below hB (abE _)) k _ e1;obtain⟨b2,o2,hA2,hb2,hc2⟩:=(K2.out.below hB (abE _)) k _ e1;subst hA1;subst hA2;obtain⟨p1,p2,p3,p4⟩:=x;have a0:wr.cell? ⟨b1,o1+k*4,none⟩=some (.int .i64 p1):=by simpa using hc1 0 _ rfl
   have a1:wr.cell? ⟨b1,o1+k*4+1,none⟩=some (.string p2):=by simpa using hc1 1 _ rfl
   have a2:wr.cell? ⟨b1,o1+k*4+2,none⟩=some (.int .i64 p3):=by simpa using hc1 2 _ rfl
   have a3:wr.cell? ⟨b1,o1+k*4+3,none⟩=some (.int .i64 p4):=by simpa using hc1 3 _ rfl
   have d0:wr.cell? ⟨b2,o2+k*4,none⟩=some (.int .i64 p1):=by simpa using hc2 0 _ rfl
   have d1:wr.cell? ⟨b2,o2+k*4+1,none⟩=some (.string p2):=by simpa using hc2 1 _ rfl
   have d2:wr.cell? ⟨b2,o2+k*4+2,none⟩=some (.int .i64 p3):=by simpa using hc2 2 _ rfl
   have d3:wr.cell? ⟨b2,o2+k*4+3,none⟩=some (.int .i64 p4):=by simpa using hc2 3 _ rfl
   have hkn:(k:Int)<(n:Int):=by omega
   have hk0:¬((k:Int)<0):=by omega
   clear hc1 hc2 e1;go_wp2_with fail
   go_quiet (fail)
   go_wp2_with fail
   go_roundg (gk - 1)
   case measure=>have:=HK.out;omega
   case rel=>exact⟨k+1,by have:=HK.out;omega,by go_num,by(repeat (first|exact Below.refl _ _|assumption|refine Below.trans ?_ (Below.mono (by assumption) (by first|omega|(simp;done)|(simp;omega)))|refine Below.alloc ?_ (by first|omega|(simp;done)|(simp;omega)) _|refine Below.setCell ?_ (by first|omega|(simp;done)|(simp;omega)) _|refine Below.drew ?_|refine aR ?_ _))⟩
  ·have hge:k=n:=by omega
   subst hge;go_wp2_with fail
   go_ret
   exact⟨rfl,HB2.out.trans (hB.mono HB2.out.size)⟩
def CU(t:ae)(m:Nat):Bool:=(bY t).all (fun u=>decide (u.text.size<=60))&&decide (au t<=m)
theorem abg{p:ae->Bool}{ts:List ae}{i:Nat}{u:ae}(hu:ts[i]? =some u):(ts.drop i).all p=(p u&&(ts.drop (i+1)).all p):=by
 obtain⟨hlt,he⟩:=abK.1 hu;rw[List.drop_eq_getElem_cons hlt,he,List.all_cons]
theorem Zf(t:ae)(A:Option Addr)(c m:Nat)(w:World)(hN:au t<=1000000)(hcap:t.kids.length<=c)(hk:aK w w.heap.size A 0 t.kids):
 Calls Tryz.prog 10 #[bD t A c,.int .i64 (m:Int)] w fun e w'=>e= .returned (.bool (CU t m))/\Below w.heap.size w w':=by
 obtain⟨k0,x0,a0,z0,n0,-,-,-,-,-,kX⟩:=fq t A c;obtain⟨W1,hW1⟩:∃W1,w.alloc (.cells #[.int .i64 k0,.string x0,.int .i64 a0,.int .i64 z0,.slice A n0 c] 24)=W1:=⟨_,rfl⟩
 have hb1:Below w.heap.size w W1:=by rw[<- hW1];exact ag _ _
 have hT1:ai W1 w.heap.size 24 #[.int .i64 k0,.string x0,.int .i64 a0,.int .i64 z0,.slice A n0 c]:=by rw[<- hW1];exact ai.new w _ _
 have hnd:=DN (au t) t A c W1 W1.heap.size (abE _) (abE _) (by omega) hcap (aK.mono hb1.size _ _ _ (aK.below hb1 (abE _) _ _ _ hk));have hlen:=mh t;obtain⟨R,hR⟩:∃b,CU t m=b:=⟨_,rfl⟩
 rw[hR];unfold CU at hR;rw[<- hlen]at hR hN;obtain⟨ts,hts⟩:∃z,bY t=z:=⟨_,rfl⟩
 rw[hts]at hnd hR hN;rw[kX]at hnd⊢;obtain⟨N,zm⟩:∃z,ts.length=z:=⟨_,rfl⟩
 rw[zm]at hR hN;have lC:=kH hnd;have HR:=kH hR;have uX:=kH zm;have HB1:=kH hb1;obtain⟨⟨t0,t1,t2,t3,t4⟩,-⟩:=hT1.five;have lt':=hT1.lt;clear hb1 hT1 hnd hlen hts kX hcap hk zm hR;go_enter Tryz.func10,Tryz.ntmps10
 go_wp2_with (rw[hW1])
 clear t0 t1 t2 t3 t4 lt' hW1;refine lC.out.mono ?_;rintro e2 w2 ⟨v2,n2,vals,rfl,hn2,hO2,hV2,hb2⟩;rw[uX.out]at hn2;subst hn2;obtain⟨A2,c2,rfl,-,-⟩:=hO2.shape;have HB2:Hid (Below w.heap.size w w2):=kH (HB1.out.trans (hb2.mono HB1.out.size));have uy:=kH hO2;have gF:=kH hV2;clear hO2 hV2 hb2 lC;go_wp2_with fail
 go_loopg [6] n2 (fun gk s6 wr=> ∃(i:Nat),s6= .int .i64 (i:Int)/\i+gk=n2/\Hid (Below w2.heap.size w2 wr/\((ts.drop i).all (fun u=>decide (u.text.size<=60))&&decide (n2<=m))=R))
 case atStart=>exact⟨0,rfl,by omega,kH ⟨Below.refl _ _,HR.out⟩⟩
 case round=>
  obtain⟨i,rfl,hin,HI⟩:=hrel;have hib:i<=n2:=by omega
  have rH:=kH hin;clear hin;by_cases hlt:i<n2
  ·obtain⟨tn,htn⟩:∃z,ts[i]? =some z:=⟨_,abI (by rw[uX.out];exact hlt)⟩
   obtain⟨hB3,hgl⟩:=HI.out;obtain⟨b,off,Ak,ck,hA,hbl,-,hcs,-⟩:=Ih (uy.out.below hB3 (fun g hg=>(uy.out.lt g hg).2)) gF.out uX.out i tn htn;subst hA;rw[abg htn]at hgl;obtain⟨x,hx⟩:∃z,tn.text=z:=⟨_,rfl⟩
   rw[hx]at hgl;have z1:wr.cell? ⟨b,off+i*5+1,none⟩=some (.string x):=by rw[<- hx];exact hcs 1 _ rfl
   have aaH:(i:Int)<(n2:Int):=by omega
   have hi00:¬((i:Int)<0):=by omega
   have hw2:IntKind.i64.wrap ((i:Int)+1)=(i:Int)+1:=IntWalk.i64_in _ (by omega);clear htn hcs hx HI;by_cases h60:60<x.size
   ·have h60i:(60:Int)<(x.size:Int):=by omega
    have hrf:R=false:=by rw[<- hgl,decide_eq_false (p:=x.size<=60) (by omega)];rfl
    subst hrf;clear hgl;go_wp2_with fail
    go_ret
    exact⟨rfl,HB2.out.trans (hB3.mono HB2.out.size)⟩
   ·have h60i:¬(60:Int)<(x.size:Int):=by omega
    rw[decide_eq_true (p:=x.size<=60) (by omega),Bool.true_and]at hgl;have UJ:=kH hgl;clear hgl;go_wp2_with fail
    go_roundg (gk - 1)
    case measure=>have:=rH.out;omega
    case rel=>exact⟨i+1,by simp,by have:=rH.out;omega,kH ⟨hB3,UJ.out⟩⟩
  ·have hge:i=n2:=by omega
   subst hge;obtain⟨hB3,hgl⟩:=HI.out;rw[List.drop_of_length_le (by rw[uX.out];exact abE _),List.all_nil,Bool.true_and]at hgl;have UJ:=kH hgl;clear hgl HI;go_wp2_with fail
   go_ret
   exact⟨Ah (by rw[<- UJ.out];try simp),HB2.out.trans (hB3.mono HB2.out.size)⟩
end Go.Proofs.YtoepemlnlpamlaaGreat
