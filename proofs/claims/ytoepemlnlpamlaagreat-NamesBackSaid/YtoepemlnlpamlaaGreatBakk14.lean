/- The law NamesBack holds for every text and every number: it returns true, and its arguments read as before. No condition. Part 14: Lexi HeldG HeldP. -/
import Derived.Deep.CutBlock
import Derived.Test.YtoepemlnlpamlaaGreatBakk06
import Derived.Test.YtoepemlnlpamlaaGreatBakk13
set_option maxRecDepth 100000
set_option maxHeartbeats 4000000
namespace Go.Proofs.YtoepemlnlpamlaaGreat
open Go.RowKit
def r9(s:aP)(t:jl):Option Dg:=if 0<sH s t then some ⟨sH s t,t.at_,t.end_,aU []⟩ else none
def YE(w:World)(l:List Dg)(e:Ending)(w':World):Prop:=
 ∃A n c,e= .returned (.slice A n c)/\n=l.length/\aL w' w.heap.size 78 5 (.slice A n c) n (l.flatMap bR)/\Below w.heap.size w w'
theorem GH(s:ByteArray)(w:World)(hs:s.size<=4096):Calls Tryz.prog 73 #[.string s] w (YE w (ic s.data.toList)):=by
 obtain⟨i0,hi0,hz0,hz1,hz2⟩:=info_parts F9;go_enter Tryz.func73,Tryz.ntmps73
 go_wp2_with fail
 generalize hW1:w.alloc (.cells #[] 78)=W1
 have hb1:Below w.heap.size w W1:=by rw[<- hW1];exact af _ _
 have uM:aL W1 w.heap.size 78 5 (.slice (some ⟨w.heap.size,0,none⟩) 0 0) 0 (([]:List Dg).flatMap bR):=by
  have hn:=ai.new w 78 #[];rw[hW1]at hn;exact aL.block (n:=0) (cur:=#[]) (aaD _) hn (by simp[maxLen]) rfl
 have hs1:W1.heap.size=w.heap.size+1:=by rw[<- hW1];simp
 refine(QW s W1 hs).mono ?_;rintro e w2 ⟨vl,rfl,hO2,hb2⟩;have QD:=uM.below hb2 (fun g hg=>(uM.lt g hg).2);have lF:=hb1.trans (hb2.mono hb1.size);obtain⟨l,hl⟩:∃l,qO s.data.toList=l:=⟨_,rfl⟩
 rw[hl]at hO2;obtain⟨Al,cl,rfl,-,-⟩:=hO2.shape;have xm:=kH hO2;have Jr:=kH QD;have HB2:=kH lF;have HL:=kH hl
 have hll:l.length<=4097:=by
  have:=xQ s.data.toList;rw[HL.out,bS]at this;omega
 have hz12:Hid (w.heap.size<W1.heap.size):=kH (by omega);clear hW1 hb1 hs1 hb2 uM hO2 QD lF hl;go_wp2_with fail
 have hO2w:=xm.out;go_loopg [3,6] l.length (fun gk s3 s6 wr=> ∃(k:Nat) (A:Option Addr) (n c:Nat),k+gk=l.length/\s3= .slice A n c/\s6= .int .i64 (k:Int)/\n=((l.take k).filterMap (r9 s.data.toList)).length/\aL wr w.heap.size 78 5 (.slice A n c) n (((l.take k).filterMap (r9 s.data.toList)).flatMap bR)/\aL wr W1.heap.size 186 4 (.slice Al l.length cl) l.length (l.flatMap jM)/\Below w.heap.size w wr)
 case atStart=>exact⟨0,_,0,0,by omega,rfl,rfl,rfl,Jr.out,xm.out,HB2.out⟩
 case round=>
  obtain⟨k,A,n,c,hk,rfl,rfl,hn,hO,XH,hB⟩:=hrel;have HN:=kH hn;have HO:=kH hO;have Yv:=kH XH;have HB:=kH hB;have hnk:n<=k:=by rw[hn];exact aaE (List.length_filterMap_le _ _) (by simp;omega)
  clear hn hO XH hB hO2w;by_cases hkl:k<l.length
  ·obtain⟨tk,htk⟩:∃x,l[k]? =some x:=⟨_,aaH hkl⟩
   obtain⟨b,off,hA,hb,hcs⟩:=Yv.out.rowAt (cells:=jM) (l:=l) rfl rfl (by intro c _;rfl) rfl k tk htk;subst hA;have t0:wr.cell? ⟨b,off+k*4,none⟩=some (.int .i64 (tk.kind:Int)):=hcs 0 _ rfl;have t1:wr.cell? ⟨b,off+k*4+1,none⟩=some (.int .i64 (tk.from_:Int)):=hcs 1 _ rfl;have t2:wr.cell? ⟨b,off+k*4+2,none⟩=some (.int .i64 (tk.at_:Int)):=hcs 2 _ rfl;have t3:wr.cell? ⟨b,off+k*4+3,none⟩=some (.int .i64 (tk.end_:Int)):=hcs 3 _ rfl
   have htm:tk.from_<=tk.at_/\tk.at_<=tk.end_/\tk.end_<=s.size/\tk.kind<=5:=by
    have h1:=JI (s:=s.data.toList) (s.data.toList.length+1) 0 (Nat.zero_le _) (by omega)
    have h2:=Fq h1 tk (by
     have h3:tk∈qO s.data.toList:=by rw[HL.out];exact aaP htk
     exact h3)
    rw[bS]at h2;exact h2
   have AZ:=kH htk;have hwr:IntKind.i64.wrap ((k:Int)+1)=(k:Int)+1:=IntWalk.i64_in _ (by omega);obtain⟨bn,hbn⟩:∃x,je (Ar s.data.toList tk)=x:=⟨_,rfl⟩
   obtain⟨cd,hcd⟩:∃x,sH s.data.toList tk=x:=⟨_,rfl⟩
   have Be:=kH hbn;have Aq:=kH hcd;have hwrd:=Ji s tk.kind tk.from_ tk.at_ tk.end_ wr htm.2.1 htm.2.2.1;have HW:=kH hwrd
   have CV:=fun w'=>VR (aU (qN s.data.toList tk.at_ tk.end_)) w' (by
    have h1:(aU (qN s.data.toList tk.at_ tk.end_)).size=(qN s.data.toList tk.at_ tk.end_).length:=by simp[aU,ByteArray.size]
    rw[h1];unfold qN;simp only[List.length_take,List.length_drop]
    omega)
   have Mk:Hid (∀w':World,Calls Tryz.prog 132 #[.string (aU (qN s.data.toList tk.at_ tk.end_))] w' fun e w''=>e= .returned (.tuple #[.int .i64 ((bn.getD 0:Nat):Int),.bool bn.isSome])/\w'=w''):=kH (fun w'=>by
    have h1:=CV w';have h2:je (aU (qN s.data.toList tk.at_ tk.end_)).data.toList=bn:=Be.out;rw[h2]at h1
    exact h1)
   clear hcs htk hbn hcd hwrd CV;go_wp2_with fail
   refine HW.out.mono ?_;rintro e w3 ⟨rfl,hb3⟩;have hc3:=fun o=>hb3.cell (p:=⟨b,o,none⟩) hb
   have u0:=(hc3 _).trans t0;have u1:=(hc3 _).trans t1;have u2:=(hc3 _).trans t2;have u3:=(hc3 _).trans t3;have HO3:=kH (HO.out.below hb3 (fun g hg=>(HO.out.lt g hg).2));have HOL3:=kH (Yv.out.below hb3 (fun g hg=>(Yv.out.lt g hg).2));have HB3:=kH (HB.out.trans (hb3.mono HB.out.size));have hb':b<w3.heap.size:=Nat.lt_of_lt_of_le hb hb3.size;clear t0 t1 t2 t3 hc3 hb3 hb;go_wp2_with fail
   refine(Mk.out w3).mono ?_;rintro e w4 ⟨rfl,rfl⟩;obtain⟨bo,hbo⟩:∃x,bn.isSome=x:=⟨_,rfl⟩
   rw[hbo];have Lv:=kH hbo;have hwd:IntKind.i64.wrap ((tk.end_:Int) - (tk.at_:Int))=(tk.end_:Int) - (tk.at_:Int):=IntWalk.i64_in _ (by omega);clear hbo;go_upto_block 2 with fail
   go_cut [7] (fun s7 wx=>s7= .int .i64 cd/\Below w3.heap.size w3 wx)
   case first=>
    by_cases h4:tk.kind=4
    ·have hki:((tk.kind:Int)==4)=true:=by simp;omega
     have hkn:(tk.kind==4)=true:=by simp;omega
     have hc:cd=1:=by rw[<- Aq.out];unfold sH;rw[if_pos h4]
     clear h4;go_wp2_with fail
     go_meet
     exact⟨by rw[hc],by(repeat (first|exact Below.refl _ _|assumption|refine Below.trans ?_ (Below.mono (by assumption) (by first|omega|(simp;done)|(simp;omega)))|refine Below.alloc ?_ (by first|omega|(simp;done)|(simp;omega)) _|refine Below.setCell ?_ (by first|omega|(simp;done)|(simp;omega)) _|refine Below.drew ?_|refine aY ?_ _))⟩
    ·have hki:((tk.kind:Int)==4)=false:=by simp;omega
     have hkn:(tk.kind==4)=false:=by simp;omega
     by_cases h2:tk.kind=2
     ·have hki2:((tk.kind:Int)==2)=true:=by simp;omega
      have hkn2:(tk.kind==2)=true:=by simp;omega
      have Vv:((tk.kind:Int)==0)=false:=by simp;omega
      have Vu:(tk.kind==0)=false:=by simp;omega
      have hc:cd=if bo then 0 else 2:=by
       rw[<- Aq.out];unfold sH;have h1:je (Ar s.data.toList tk)=bn:=Be.out;rw[if_neg h4,h1];have h3:=Lv.out
       cases bn with
       | none=>simp at h3;subst h3;simp[h2]
       | some x=>simp at h3;subst h3;simp[h2]
      clear h4 h2;cases bo
      ·go_wp2_with fail
       go_meet
       exact⟨by rw[hc];simp,by(repeat (first|exact Below.refl _ _|assumption|refine Below.trans ?_ (Below.mono (by assumption) (by first|omega|(simp;done)|(simp;omega)))|refine Below.alloc ?_ (by first|omega|(simp;done)|(simp;omega)) _|refine Below.setCell ?_ (by first|omega|(simp;done)|(simp;omega)) _|refine Below.drew ?_|refine aY ?_ _))⟩
      ·go_wp2_with fail
       go_quiet (fail)
       go_wp2_with fail
       go_meet
       exact⟨by rw[hc];simp,by(repeat (first|exact Below.refl _ _|assumption|refine Below.trans ?_ (Below.mono (by assumption) (by first|omega|(simp;done)|(simp;omega)))|refine Below.alloc ?_ (by first|omega|(simp;done)|(simp;omega)) _|refine Below.setCell ?_ (by first|omega|(simp;done)|(simp;omega)) _|refine Below.drew ?_|refine aY ?_ _))⟩
     ·have hki2:((tk.kind:Int)==2)=false:=by simp;omega
      have hkn2:(tk.kind==2)=false:=by simp;omega
      by_cases h0:tk.kind=0
      ·have Vv:((tk.kind:Int)==0)=true:=by simp;omega
       have Vu:(tk.kind==0)=true:=by simp;omega
       obtain⟨bg,hbg⟩:∃x,decide ((16:Int)<(tk.end_:Int) - (tk.at_:Int))=x:=⟨_,rfl⟩
       have hc:cd=if bg then 3 else 0:=by
        rw[<- Aq.out,<- hbg];unfold sH;rw[if_neg h4,if_neg (by omega)];by_cases hg:(16:Int)<(tk.end_:Int) - (tk.at_:Int)
        ·rw[if_pos ⟨h0,hg⟩];simp[hg]
        ·rw[if_neg (fun h=>hg h.2)];simp[hg]
       clear h4 h2 h0;cases bg
       ·go_wp2_with fail
        go_quiet (fail)
        go_wp2_with fail
        go_meet
        exact⟨by rw[hc];simp,by(repeat (first|exact Below.refl _ _|assumption|refine Below.trans ?_ (Below.mono (by assumption) (by first|omega|(simp;done)|(simp;omega)))|refine Below.alloc ?_ (by first|omega|(simp;done)|(simp;omega)) _|refine Below.setCell ?_ (by first|omega|(simp;done)|(simp;omega)) _|refine Below.drew ?_|refine aY ?_ _))⟩
       ·go_wp2_with fail
        go_quiet (fail)
        go_wp2_with fail
        go_meet
        exact⟨by rw[hc];simp,by(repeat (first|exact Below.refl _ _|assumption|refine Below.trans ?_ (Below.mono (by assumption) (by first|omega|(simp;done)|(simp;omega)))|refine Below.alloc ?_ (by first|omega|(simp;done)|(simp;omega)) _|refine Below.setCell ?_ (by first|omega|(simp;done)|(simp;omega)) _|refine Below.drew ?_|refine aY ?_ _))⟩
      ·have Vv:((tk.kind:Int)==0)=false:=by simp;omega
       have Vu:(tk.kind==0)=false:=by simp;omega
       have hc:cd=0:=by
        rw[<- Aq.out];unfold sH;rw[if_neg h4,if_neg (by omega),if_neg (by omega)]
       clear h4 h2 h0;go_wp2_with fail
       go_quiet (fail)
       go_wp2_with fail
       go_meet
       exact⟨by rw[hc],by(repeat (first|exact Below.refl _ _|assumption|refine Below.trans ?_ (Below.mono (by assumption) (by first|omega|(simp;done)|(simp;omega)))|refine Below.alloc ?_ (by first|omega|(simp;done)|(simp;omega)) _|refine Below.setCell ?_ (by first|omega|(simp;done)|(simp;omega)) _|refine Below.drew ?_|refine aY ?_ _))⟩
   case rest=>
    obtain⟨rfl,hbx⟩:=hcut;obtain⟨w5,rfl⟩:∃w5:World,w5=wc:=⟨_,rfl⟩
    have hc3:=fun o=>hbx.cell (p:=⟨b,o,none⟩) hb'
    have t0:=(hc3 _).trans u0;have t1:=(hc3 _).trans u1;have t2:=(hc3 _).trans u2;have t3:=(hc3 _).trans u3;have Q8:=kH (HO3.out.below hbx (fun g hg=>(HO3.out.lt g hg).2));have aao:=kH (HOL3.out.below hbx (fun g hg=>(HOL3.out.lt g hg).2));have iQ:=kH (HB3.out.trans (hbx.mono HB3.out.size));have hb:b<w5.heap.size:=Nat.lt_of_lt_of_le hb' hbx.size
    have hcd0:0<=cd:=by
     rw[<- Aq.out];unfold sH;split
     ·omega
     ·split
      ·omega
      ·split<;>omega
    clear u0 u1 u2 u3 hc3 hbx hb' hwd;by_cases hpos:cd=0
    ·subst hpos
     have e1:(l.take (k+1)).filterMap (r9 s.data.toList)=(l.take k).filterMap (r9 s.data.toList):=by
      rw[List.take_add_one,AZ.out,List.filterMap_append];have:r9 s.data.toList tk=none:=by unfold r9;rw[Aq.out];rfl
      simp[this]
     have E1:=kH e1;clear e1;go_wp2_with fail
     go_roundg (gk - 1)
     case measure=>omega
     case rel=>exact⟨k+1,A,n,c,by omega,rfl,by simp,by rw[E1.out];exact HN.out,by rw[E1.out];exact Q8.out,aao.out,iQ.out⟩
    ·have hposb:decide ((0:Int)<cd)=true:=by simp;omega
     have e1:(l.take (k+1)).filterMap (r9 s.data.toList)=(l.take k).filterMap (r9 s.data.toList)++[⟨cd,tk.at_,tk.end_,aU []⟩]:=by
      rw[List.take_add_one,AZ.out,List.filterMap_append];have:r9 s.data.toList tk=some ⟨cd,tk.at_,tk.end_,aU []⟩:=by unfold r9;rw[Aq.out,if_pos (by omega)]
      simp[this]
     have E1:=kH e1;have Px:=iQ.out.size;have hap:(Value.slice A n c).ownBlock≠some b:=fun e2=>aao.out.apart Q8.out (by decide) b rfl e2
     have FM:=kH hap;clear e1 hap;go_wp2_with fail
     refine fT (fun w'=>w'.cell? ⟨b,off+k*4+2,none⟩=some (.int .i64 (tk.at_:Int))/\w'.cell? ⟨b,off+k*4+3,none⟩=some (.int .i64 (tk.end_:Int))) [] [true,true,true,true,true,true,true,true,true,true,true,true,false,false,false,false] (by kernel_rfl) (by kernel_rfl) rfl (by kernel_rfl) ?_;have hS0:w5.drew.cell? ⟨b,off+k*4+2,none⟩=some (.int .i64 (tk.at_:Int))/\w5.drew.cell? ⟨b,off+k*4+3,none⟩=some (.int .i64 (tk.end_:Int)):=⟨t2,t3⟩
     iterate 12(refine jI rfl hS0 (by intro w' hSw;obtain⟨hs1,hs2⟩:=hSw;go_simp;rfl) ?_;simp only[Act.put,sA,sZ,sC])
     refine kD (w':=w5.drew) rfl (by go_simp;rfl) (fun _=>hS0) ?_;simp only[Act.put,sA,sZ,sC];refine kD (w':=w5.drew.alloc (.cells #[.int .i64 cd,.int .i64 (tk.at_:Int),.int .i64 (tk.end_:Int),.string ⟨#[]⟩,.slice none 0 0] 78)) rfl (by go_simp;rfl) ?_ ?_
     ·exact fun _=>⟨by go_simp,by go_simp⟩
     simp only[Act.put,sA,sZ,sC];refine uW rfl (jY _ (.tmp 73) (.tmp 86) _ rfl w.heap.size 78 i0 _ 5 64 Tryz.underlying31 hi0 hz0 hz1 hz2 rfl (.slice A n c) n (((l.take k).filterMap (r9 s.data.toList)).flatMap bR) rfl (Q8.out.drew.alloc _) ⟨w5.heap.size,0,none⟩ 1 1 (bR ⟨cd,tk.at_,tk.end_,aU []⟩) rfl rfl (jB _ _ _ _ _ _ _ (by go_simp) (by go_simp) (by go_simp) (by go_simp;rfl) (by go_simp)) (by simp[bR,Value.oneCell']) (by simp only[maxLen];omega) (by omega) (by simp;omega) ?_);intro v6 w6 hown hgrow hat;obtain⟨A6,c6,hv6,-,-⟩:=hown.shape;subst hv6
     have q1:w6.cell? ⟨b,off+k*4+2,none⟩=some (.int .i64 (tk.at_:Int)):=by
      rw[hgrow.cell_far _ (by simp;omega) (fun e1=>FM.out e1.symm)];go_simp
     have q2:w6.cell? ⟨b,off+k*4+3,none⟩=some (.int .i64 (tk.end_:Int)):=by
      rw[hgrow.cell_far _ (by simp;omega) (fun e1=>FM.out e1.symm)];go_simp
     refine⟨fun _=>⟨q1,q2⟩,?_⟩;simp only[Act.put,sA,sZ,sC];refine kD (w':=w6) rfl (by go_simp;rfl) (fun _=>⟨q1,q2⟩) ?_;refine ll ?_;simp only[Act.put,sA,sZ,sC];have HOWN:=kH hown;have nW:=kH hgrow;clear hown hgrow hat q1 q2;go_wp2_with fail
     go_roundg (gk - 1)
     case measure=>omega
     case rel=>
      refine⟨k+1,A6,n+1,c6,by omega,rfl,by simp,by rw[E1.out,aaO,<- HN.out];rfl,?_,?_,?_⟩
      ·rw[E1.out,List.flatMap_append]
       simpa using HOWN.out
      ·refine((aao.out.drew).alloc _).kept nW.out (.inr (fun e1=>FM.out e1.symm))
      ·exact((((az.refl (fun g=>w.heap.size<=g) w).below iQ.out).drew.alloc _).grown nW.out (fun g hg=>.inl (Q8.out.lt g hg).1)).toBelow (aaD _) (fun g hg=>hg)
  ·go_wp2_with fail
   have hke:k=l.length:=by omega
   have hlf:(l.take k).filterMap (r9 s.data.toList)=ic s.data.toList:=by
    rw[hke,List.take_length];unfold ic;rw[HL.out];rfl
   refine bodyPost_ret (v:=.slice A n c) (by simp[results,Tryz.results73,go_sem]) rfl ?_;exact⟨A,n,c,rfl,by rw[HN.out,hlf],by rw[<- hlf];exact HO.out,HB.out⟩
end Go.Proofs.YtoepemlnlpamlaaGreat
namespace Go.Proofs.YtoepemlnlpamlaaGreat
section
variable {P:Program}{ops:Array Oper}{Q:Exit->Act->World->Prop}{md:Region.Mode}{S:World->Prop}{ex:List Nat}
def sM(P:Program)(ops:Array Oper)(Q:Exit->Act->World->Prop)(S:World->Prop)(ex:List Nat):Nat->List Bool->List Oper->Act->World->Prop
 | _,_,[],a,w=>Q .normal a w
 | _,[],_::_,_,_=>False
 | k,true::ss,o::rest,a,w=> ∃v,YieldsIf P ops S o v a/\S w/\sM P ops Q S ex (k+1) ss rest (a.put o.dst v) w
 | k,false::ss,o::rest,a,w=>Region.wanted o (yielded ops a.tmps)=true/\o.wp P a w (fun a' w'=>(ex.contains k=false->S w')/\sM P ops Q S ex (k+1) ss rest a' w') Q
theorem Ob(hs:Region.noSelect ops=true)(hQ:∀c a b w,Q (.panic c) a w->Q (.panic c) b w):∀(l:List Oper) (ss:List Bool) (k:Nat) (listed:Array Bool) (a:Act) (w:World),(∀j,l[j]? =ops[k+j]?)->ss.length=l.length ->
 nZ md ops ex k ss listed=true->sM P ops Q S ex k ss l a w->xY P md ops Q S ex l.length listed a w:=by
 intro l
 induction l with
 | nil=>
  intro ss k listed a w hl hss hB h;have:ss=[]:=List.eq_nil_of_length_eq_zero hss;subst this;exact⟨by simpa [nZ] using hB,by simpa [sM] using h⟩
 | cons o rest ih=>
  intro ss k listed a w hl hss hB h;have hok:ops[k]? =some o:=by have:=hl 0;simpa using this.symm
  have hl':∀j,rest[j]? =ops[k+1+j]? :=fun j=>by
   have:=hl (j+1);rw[aaL]at this;rw[this,Nat.add_assoc,Nat.add_comm 1 j]
  cases ss with
  | nil=>simp at hss
  | cons s ss=>
   have PD:ss.length=rest.length:=by simpa using hss
   cases s with
   | true=>
    simp only[nZ,aaF]at hB;obtain⟨⟨⟨h1,h2⟩,h3⟩,h4⟩:=hB;obtain⟨v,hy,hS,h5⟩:=h;refine vT hok (Region.noSelect_spec hs) (fun j hj=>?_) (fun c a w hq=>hQ c _ _ w hq) rest.length listed a w (Region.free_spec hok h1) (by simpa using h2) hy hS (ih ss (k+1) _ _ w hl' PD h4 h5);exact List.all_eq_true.1 h3 j hj
   | false=>
    simp only[nZ,aaF,beq_iff_eq]at hB;obtain⟨h1,h2⟩:=hB;obtain⟨hg,h5⟩:=h;refine⟨fun h0=>(by rw[h0]at h1;cases h1),fun i hi=>?_⟩;rw[h1]at hi;simp at hi;subst hi;unfold wpOp;simp only[hok,hg,if_true];refine .inl (Oper.wp_mono (fun a' w' h6=>⟨fun hn=>h6.1 (by simpa using hn),ih ss (i+1) _ a' w' hl' PD h2 h6.2⟩) h5)
theorem iI{id:Nat}{a:Act}{w:World}{l:List Oper}(S:World->Prop)(ex:List Nat)(ss:List Bool)(hm:P.follows .mixedOrders=true)(hs:Region.noSelect l.toArray=true)
 (hl:ss.length=l.length) (hB:nZ .any l.toArray ex 0 ss (Array.replicate l.length false)=true) (h:sM P l.toArray (NoPanic Q) S ex 0 ss l a w.drew):(Code.region id l.toArray true).wp P Q a w:=by
 refine wp_region_noPanic (wp_region_any hm (vS (S:=S) (ex:=ex) _ _ _ _ ?_));have:=Ob (P:=P) (S:=S) (md:=.any) hs (Q:=NoPanic Q) (fun c a b w hq=>(hq:False).elim) l ss 0 (Array.replicate l.length false) a w.drew (fun j=>by simp) hl hB h;simpa using this
theorem mQ{k:Nat}{ss:List Bool}{a:Act}{w:World}(h:Q .normal a w):sM P ops (NoPanic Q) S ex k ss [] a w:=by
 cases ss<;>exact h
theorem iX{k:Nat}{ss:List Bool}{o:Oper}{rest:List Oper}{a:Act}{w:World}{v:Value}(hg:Region.wanted o (yielded ops a.tmps)=true)(hS:S w)(hy:∀w',S w'->(execOp a.eval o).run P w'= .ok (.value v) w')
 (h:sM P ops Q S ex (k+1) ss rest (a.put o.dst v) w):sM P ops Q S ex k (true::ss) (o::rest) a w:=
 ⟨v,.inl ⟨hg,hy⟩,hS,h⟩
theorem jJ{k:Nat}{ss:List Bool}{o:Oper}{rest:List Oper}{a:Act}{w:World}(hg:Region.wanted o (yielded ops a.tmps)=false)(hS:S w)
 (h:sM P ops Q S ex (k+1) ss rest (a.put o.dst undef) w):sM P ops Q S ex k (true::ss) (o::rest) a w:=
 ⟨undef,.inr ⟨hg,rfl⟩,hS,h⟩
theorem N8{k:Nat}{ss:List Bool}{o:Oper}{rest:List Oper}{a:Act}{w:World}(hg:Region.wanted o (yielded ops a.tmps)=true)
 (h:o.wp P a w (fun a' w'=>(ex.contains k=false->S w')/\sM P ops Q S ex (k+1) ss rest a' w') Q):sM P ops Q S ex k (false::ss) (o::rest) a w:=⟨hg,h⟩
end
section
variable {P:Program}{ops:Array Oper}{Q:Exit->Act->World->Prop}{md:Region.Mode}{S:World->Prop}{ex:List Nat}
def vR(P:Program)(ops:Array Oper)(Q:Exit->Act->World->Prop)(S:World->Prop)(ex:List Nat):List (Nat×Bool)->Act->World->Prop
 | [],a,w=>Q .normal a w
 | (k,true)::ss,a,w=> ∃o,ops[k]? =some o/\∃v,YieldsIf P ops S o v a/\S w/\vR P ops Q S ex ss (a.put o.dst v) w
 | (k,false)::ss,a,w=> ∃o,ops[k]? =some o/\Region.wanted o (yielded ops a.tmps)=true/\o.wp P a w (fun a' w'=>(ex.contains k=false->S w')/\vR P ops Q S ex ss a' w') Q
def C8(md:Region.Mode)(ops:Array Oper)(ex:List Nat):List (Nat×Bool)->Array Bool->Bool
 | [],listed=>(Region.ready md ops listed).isEmpty
 | (k,true)::ss,listed=>Region.free md ops listed k&&(Region.ready md ops listed).contains k&&ex.all (fun j=>Region.waitsFor md ops j k)&&C8 md ops ex ss (listed.setIfInBounds k true)
 | (k,false)::ss,listed=>(Region.ready md ops listed==[k])&&C8 md ops ex ss (listed.setIfInBounds k true)
theorem Oa(hs:Region.noSelect ops=true)(hQ:∀c a b w,Q (.panic c) a w->Q (.panic c) b w):∀(ss:List (Nat×Bool)) (listed:Array Bool) (a:Act) (w:World),
 C8 md ops ex ss listed=true->vR P ops Q S ex ss a w->xY P md ops Q S ex ss.length listed a w:=by
 intro ss
 induction ss with
 | nil=>
  intro listed a w hB h;exact⟨by simpa [C8] using hB,by simpa [vR] using h⟩
 | cons s ss ih=>
  intro listed a w hB h;obtain⟨k,s⟩:=s
  cases s with
  | true=>
   simp only[C8,aaF]at hB;obtain⟨⟨⟨h1,h2⟩,h3⟩,h4⟩:=hB;obtain⟨o,hok,v,hy,hS,h5⟩:=h;refine vT hok (Region.noSelect_spec hs) (fun j hj=>?_) (fun c a w hq=>hQ c _ _ w hq) ss.length listed a w (Region.free_spec hok h1) (by simpa using h2) hy hS (ih _ _ w h4 h5);exact List.all_eq_true.1 h3 j hj
  | false=>
   simp only[C8,aaF,beq_iff_eq]at hB;obtain⟨h1,h2⟩:=hB;obtain⟨o,hok,hg,h5⟩:=h;refine⟨fun h0=>(by rw[h0]at h1;cases h1),fun i hi=>?_⟩;rw[h1]at hi;simp at hi;subst hi;unfold wpOp;simp only[hok,hg,if_true];refine .inl (Oper.wp_mono (fun a' w' h6=>⟨fun hn=>h6.1 (by simpa using hn),ih (listed.setIfInBounds i true) a' w' h2 h6.2⟩) h5)
theorem oV{id:Nat}{a:Act}{w:World}{l:List Oper}(S:World->Prop)(ex:List Nat)(ss:List (Nat×Bool))(hm:P.follows .mixedOrders=true)(hs:Region.noSelect l.toArray=true)
 (hl:ss.length=l.length) (hB:C8 .any l.toArray ex ss (Array.replicate l.length false)=true) (h:vR P l.toArray (NoPanic Q) S ex ss a w.drew):(Code.region id l.toArray true).wp P Q a w:=by
 refine wp_region_noPanic (wp_region_any hm (vS (S:=S) (ex:=ex) _ _ _ _ ?_));have:=Oa (P:=P) (S:=S) (md:=.any) hs (Q:=NoPanic Q) (fun c a b w hq=>(hq:False).elim) ss (Array.replicate l.length false) a w.drew hB h;simpa [hl] using this
theorem uX{a:Act}{w:World}(h:Q .normal a w):vR P ops (NoPanic Q) S ex [] a w:=h
theorem iC{k:Nat}{ss:List (Nat×Bool)}{o:Oper}{a:Act}{w:World}{v:Value}(ho:ops[k]? =some o)(hg:Region.wanted o (yielded ops a.tmps)=true)(hS:S w)(hy:∀w',S w'->(execOp a.eval o).run P w'= .ok (.value v) w')
 (h:vR P ops Q S ex ss (a.put o.dst v) w):vR P ops Q S ex ((k,true)::ss) a w:=
 ⟨o,ho,v,.inl ⟨hg,hy⟩,hS,h⟩
theorem oW{k:Nat}{ss:List (Nat×Bool)}{o:Oper}{a:Act}{w w':World}{v:Value}(ho:ops[k]? =some o)(hg:Region.wanted o (yielded ops a.tmps)=true)(hr:(execOp a.eval o).run P w= .ok (.value v) w')(hS:ex.contains k=false->S w')
 (h:vR P ops Q S ex ss (a.put o.dst v) w'):vR P ops Q S ex ((k,false)::ss) a w:=
 ⟨o,ho,hg,by unfold Oper.wp;rw[hr];exact⟨hS,h⟩⟩
theorem Mq{k:Nat}{ss:List (Nat×Bool)}{o:Oper}{a:Act}{w w':World}(ho:ops[k]? =some o)(hg:Region.wanted o (yielded ops a.tmps)=true)(hr:(execOp a.eval o).run P w= .ok .skip w')(hS:ex.contains k=false->S w')
 (h:vR P ops Q S ex ss (a.put o.dst undef) w'):vR P ops Q S ex ((k,false)::ss) a w:=
 ⟨o,ho,hg,by unfold Oper.wp;rw[hr];exact⟨hS,h⟩⟩
theorem rJ{k:Nat}{ss:List (Nat×Bool)}{o:Oper}{a:Act}{w:World}(ho:ops[k]? =some o)(hg:Region.wanted o (yielded ops a.tmps)=true)
 (h:o.wp P a w (fun a' w'=>(ex.contains k=false->S w')/\vR P ops Q S ex ss a' w') Q):vR P ops Q S ex ((k,false)::ss) a w:=⟨o,ho,hg,h⟩
end
end Go.Proofs.YtoepemlnlpamlaaGreat
