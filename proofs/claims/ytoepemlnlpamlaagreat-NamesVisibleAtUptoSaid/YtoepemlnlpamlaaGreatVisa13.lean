/- The law NamesVisibleAt holds where what it reads is of bulk at most 1048576: it returns true, and its arguments read as before. Part 13: Lexi HeldG HeldP. -/
import Derived.Deep.CutBlock
import Derived.Test.YtoepemlnlpamlaaGreatVisa05
import Derived.Test.YtoepemlnlpamlaaGreatVisa12
set_option maxRecDepth 100000
set_option maxHeartbeats 4000000
namespace Go.Proofs.YtoepemlnlpamlaaGreat
open Go.RowKit
def tX(s:bB)(t:kD):Option Dg:=if 0<uh s t then some ⟨uh s t,t.at_,t.end_,bf []⟩ else none
def DgsRes(w:World)(l:List Dg)(e:Ending)(w':World):Prop:=
 ∃A n c,e= .returned (.slice A n c)/\n=l.length/\aK w' w.heap.size 78 5 (.slice A n c) n (l.flatMap bO)/\Below w.heap.size w w'
theorem Jj(s:ByteArray)(w:World)(hs:s.size<=4096):Calls Tryz.prog 73 #[.string s] w (DgsRes w (iJ s.data.toList)):=by
 obtain⟨i0,hi0,hz0,hz1,hz2⟩:=info_parts Ee;go_in
 go_wp2_with fail
 generalize R:w.alloc (.cells #[] 78)=W1
 have u:Below w.heap.size w W1:=by rw[<- R];exact ag _ _
 have vo:aK W1 w.heap.size 78 5 (.slice (some ⟨w.heap.size,0,none⟩) 0 0) 0 (([]:List Dg).flatMap bO):=by
  have j:=aj.new w 78 #[];rw[R]at j;exact aK.block (n:=0) (cur:=#[]) (aab _) j (by simp[maxLen]) rfl
 have hs1:W1.heap.size=w.heap.size+1:=by rw[<- R];simp
 refine(Tz s W1 hs).mono ?_;rintro e w2 ⟨vl,rfl,O,t⟩;have S9:=vo.below t (fun g F=>(vo.lt g F).2);have lY:=u.trans (t.mono u.size);obtain⟨l,hl⟩:∃l,rH s.data.toList=l:=⟨_,rfl⟩
 rw[hl]at O;obtain⟨Al,cl,rfl,-,-⟩:=O.shape;have r9:=kH O;have Ls:=kH S9;have HB2:=kH lY;have HL:=kH hl
 have hll:l.length<=4097:=by
  have:=C9 s.data.toList;rw[HL.out,bQ]at this;omega
 have hz12:Hid (w.heap.size<W1.heap.size):=kH (by omega);clear R u hs1 t vo O S9 lY hl;go_wp2_with fail
 have hO2w:=r9.out;go_loopg [3,6] l.length (fun gk s3 s6 wr=> ∃(k:Nat) (A:Option Addr) (n c:Nat),k+gk=l.length/\s3= .slice A n c/\s6= .int .i64 (k:Int)/\n=((l.take k).filterMap (tX s.data.toList)).length/\aK wr w.heap.size 78 5 (.slice A n c) n (((l.take k).filterMap (tX s.data.toList)).flatMap bO)/\aK wr W1.heap.size 186 4 (.slice Al l.length cl) l.length (l.flatMap jY)/\Below w.heap.size w wr)
 case atStart=>exact⟨0,_,0,0,by omega,rfl,rfl,rfl,Ls.out,r9.out,HB2.out⟩
 case round=>
  obtain⟨k,A,n,c,hk,rfl,rfl,j,hO,Z5,hB⟩:=hrel;have HN:=kH j;have HO:=kH hO;have Pz:=kH Z5;have HB:=kH hB;have hnk:n<=k:=by rw[j];exact aac (List.length_filterMap_le _ _) (by simp;omega)
  clear j hO Z5 hB hO2w;by_cases hkl:k<l.length
  ·obtain⟨B,U⟩:∃x,l[k]? =some x:=⟨_,aaf hkl⟩
   obtain⟨b,D,hA,hb,L⟩:=Pz.out.rowAt (cells:=jY) (l:=l) rfl rfl (by intro c _;rfl) rfl k B U;subst hA;have t0:wr.cell? ⟨b,D+k*4,none⟩=some (.int .i64 (B.kind:Int)):=L 0 _ rfl;have t1:wr.cell? ⟨b,D+k*4+1,none⟩=some (.int .i64 (B.from_:Int)):=L 1 _ rfl;have t2:wr.cell? ⟨b,D+k*4+2,none⟩=some (.int .i64 (B.at_:Int)):=L 2 _ rfl;have t3:wr.cell? ⟨b,D+k*4+3,none⟩=some (.int .i64 (B.end_:Int)):=L 3 _ rfl
   have htm:B.from_<=B.at_/\B.at_<=B.end_/\B.end_<=s.size/\B.kind<=5:=by
    have W:=LW (s:=s.data.toList) (s.data.toList.length+1) 0 (Nat.zero_le _) (by omega)
    have N:=Hf W B (by
     have m:B∈rH s.data.toList:=by rw[HL.out];exact aan U
     exact m)
    rw[bQ]at N;exact N
   have zG:=kH U;have hwr:IntKind.i64.wrap ((k:Int)+1)=(k:Int)+1:=IntWalk.i64_in _ (by omega);obtain⟨q,hbn⟩:∃x,fV (Cq s.data.toList B)=x:=⟨_,rfl⟩
   obtain⟨I,hcd⟩:∃x,uh s.data.toList B=x:=⟨_,rfl⟩
   have Ny:=kH hbn;have z:=kH hcd;have Y:=Lh s B.kind B.from_ B.at_ B.end_ wr htm.2.1 htm.2.2.1;have HW:=kH Y
   have yL:=fun w'=>Nj (bf (uD s.data.toList B.at_ B.end_)) w' (by
    have W:(bf (uD s.data.toList B.at_ B.end_)).size=(uD s.data.toList B.at_ B.end_).length:=by simp[bf,ByteArray.size]
    rw[W];unfold uD;simp only[List.length_take,List.length_drop]
    omega)
   have Hy:Hid (∀w':World,Calls Tryz.prog 132 #[.string (bf (uD s.data.toList B.at_ B.end_))] w' fun e w''=>e= .returned (.tuple #[.int .i64 ((q.getD 0:Nat):Int),.bool q.isSome])/\w'=w''):=kH (fun w'=>by
    have W:=yL w';have N:fV (bf (uD s.data.toList B.at_ B.end_)).data.toList=q:=Ny.out;rw[N]at W
    exact W)
   clear L U hbn hcd Y yL;go_wp2_with fail
   refine HW.out.mono ?_;rintro e w3 ⟨rfl,G⟩;have C:=fun o=>G.cell (p:=⟨b,o,none⟩) hb
   have u0:=(C _).trans t0;have u1:=(C _).trans t1;have u2:=(C _).trans t2;have u3:=(C _).trans t3;have FT:=kH (HO.out.below G (fun g F=>(HO.out.lt g F).2));have V:=kH (Pz.out.below G (fun g F=>(Pz.out.lt g F).2));have d:=kH (HB.out.trans (G.mono HB.out.size));have y:b<w3.heap.size:=Nat.lt_of_lt_of_le hb G.size;clear t0 t1 t2 t3 C G hb;go_wp2_with fail
   refine(Hy.out w3).mono ?_;rintro e w4 ⟨rfl,rfl⟩;obtain⟨bo,r⟩:∃x,q.isSome=x:=⟨_,rfl⟩
   rw[r];have Nw:=kH r;have hwd:IntKind.i64.wrap ((B.end_:Int) - (B.at_:Int))=(B.end_:Int) - (B.at_:Int):=IntWalk.i64_in _ (by omega);clear r;go_upto_block 2 with fail
   go_cut [7] (fun s7 wx=>s7= .int .i64 I/\Below w3.heap.size w3 wx)
   case first=>
    by_cases X:B.kind=4
    ·have hki:((B.kind:Int)==4)=true:=by simp;omega
     have hkn:(B.kind==4)=true:=by simp;omega
     have T:I=1:=by rw[<- z.out];unfold uh;rw[if_pos X]
     clear X;go_wp2_with fail
     go_meet
     exact⟨by rw[T],by(repeat (first|exact Below.refl _ _|assumption|refine Below.trans ?_ (Below.mono (by assumption) (by first|omega|(simp;done)|(simp;omega)))|refine Below.alloc ?_ (by first|omega|(simp;done)|(simp;omega)) _|refine Below.setCell ?_ (by first|omega|(simp;done)|(simp;omega)) _|refine Below.drew ?_|refine aT ?_ _))⟩
    ·have hki:((B.kind:Int)==4)=false:=by simp;omega
     have hkn:(B.kind==4)=false:=by simp;omega
     by_cases N:B.kind=2
     ·have hki2:((B.kind:Int)==2)=true:=by simp;omega
      have hkn2:(B.kind==2)=true:=by simp;omega
      have X0:((B.kind:Int)==0)=false:=by simp;omega
      have XZ:(B.kind==0)=false:=by simp;omega
      have T:I=if bo then 0 else 2:=by
       rw[<- z.out];unfold uh;have W:fV (Cq s.data.toList B)=q:=Ny.out;rw[if_neg X,W];have m:=Nw.out
       cases q with
       | none=>simp at m;subst m;simp[N]
       | some x=>simp at m;subst m;simp[N]
      clear X N;cases bo
      ·go_wp2_with fail
       go_meet
       exact⟨by rw[T];simp,by(repeat (first|exact Below.refl _ _|assumption|refine Below.trans ?_ (Below.mono (by assumption) (by first|omega|(simp;done)|(simp;omega)))|refine Below.alloc ?_ (by first|omega|(simp;done)|(simp;omega)) _|refine Below.setCell ?_ (by first|omega|(simp;done)|(simp;omega)) _|refine Below.drew ?_|refine aT ?_ _))⟩
      ·go_wp2_with fail
       go_quiet (fail)
       go_wp2_with fail
       go_meet
       exact⟨by rw[T];simp,by(repeat (first|exact Below.refl _ _|assumption|refine Below.trans ?_ (Below.mono (by assumption) (by first|omega|(simp;done)|(simp;omega)))|refine Below.alloc ?_ (by first|omega|(simp;done)|(simp;omega)) _|refine Below.setCell ?_ (by first|omega|(simp;done)|(simp;omega)) _|refine Below.drew ?_|refine aT ?_ _))⟩
     ·have hki2:((B.kind:Int)==2)=false:=by simp;omega
      have hkn2:(B.kind==2)=false:=by simp;omega
      by_cases h0:B.kind=0
      ·have X0:((B.kind:Int)==0)=true:=by simp;omega
       have XZ:(B.kind==0)=true:=by simp;omega
       obtain⟨bg,hbg⟩:∃x,decide ((16:Int)<(B.end_:Int) - (B.at_:Int))=x:=⟨_,rfl⟩
       have T:I=if bg then 3 else 0:=by
        rw[<- z.out,<- hbg];unfold uh;rw[if_neg X,if_neg (by omega)];by_cases F:(16:Int)<(B.end_:Int) - (B.at_:Int)
        ·rw[if_pos ⟨h0,F⟩];simp[F]
        ·rw[if_neg (fun h=>F h.2)];simp[F]
       clear X N h0;cases bg
       ·go_wp2_with fail
        go_quiet (fail)
        go_wp2_with fail
        go_meet
        exact⟨by rw[T];simp,by(repeat (first|exact Below.refl _ _|assumption|refine Below.trans ?_ (Below.mono (by assumption) (by first|omega|(simp;done)|(simp;omega)))|refine Below.alloc ?_ (by first|omega|(simp;done)|(simp;omega)) _|refine Below.setCell ?_ (by first|omega|(simp;done)|(simp;omega)) _|refine Below.drew ?_|refine aT ?_ _))⟩
       ·go_wp2_with fail
        go_quiet (fail)
        go_wp2_with fail
        go_meet
        exact⟨by rw[T];simp,by(repeat (first|exact Below.refl _ _|assumption|refine Below.trans ?_ (Below.mono (by assumption) (by first|omega|(simp;done)|(simp;omega)))|refine Below.alloc ?_ (by first|omega|(simp;done)|(simp;omega)) _|refine Below.setCell ?_ (by first|omega|(simp;done)|(simp;omega)) _|refine Below.drew ?_|refine aT ?_ _))⟩
      ·have X0:((B.kind:Int)==0)=false:=by simp;omega
       have XZ:(B.kind==0)=false:=by simp;omega
       have T:I=0:=by
        rw[<- z.out];unfold uh;rw[if_neg X,if_neg (by omega),if_neg (by omega)]
       clear X N h0;go_wp2_with fail
       go_quiet (fail)
       go_wp2_with fail
       go_meet
       exact⟨by rw[T],by(repeat (first|exact Below.refl _ _|assumption|refine Below.trans ?_ (Below.mono (by assumption) (by first|omega|(simp;done)|(simp;omega)))|refine Below.alloc ?_ (by first|omega|(simp;done)|(simp;omega)) _|refine Below.setCell ?_ (by first|omega|(simp;done)|(simp;omega)) _|refine Below.drew ?_|refine aT ?_ _))⟩
   case rest=>
    obtain⟨rfl,H⟩:=hcut;obtain⟨Z,rfl⟩:∃Z:World,Z=wc:=⟨_,rfl⟩
    have C:=fun o=>H.cell (p:=⟨b,o,none⟩) y
    have t0:=(C _).trans u0;have t1:=(C _).trans u1;have t2:=(C _).trans u2;have t3:=(C _).trans u3;have Em:=kH (FT.out.below H (fun g F=>(FT.out.lt g F).2));have J:=kH (V.out.below H (fun g F=>(V.out.lt g F).2));have gG:=kH (d.out.trans (H.mono d.out.size));have hb:b<Z.heap.size:=Nat.lt_of_lt_of_le y H.size
    have hcd0:0<=I:=by
     rw[<- z.out];unfold uh;split
     ·omega
     ·split
      ·omega
      ·split<;>omega
    clear u0 u1 u2 u3 C H y hwd;by_cases hpos:I=0
    ·subst hpos
     have K:(l.take (k+1)).filterMap (tX s.data.toList)=(l.take k).filterMap (tX s.data.toList):=by
      rw[List.take_add_one,zG.out,List.filterMap_append];have:tX s.data.toList B=none:=by unfold tX;rw[z.out];rfl
      simp[this]
     have f:=kH K;clear K;go_wp2_with fail
     go_roundg (gk - 1)
     case measure=>omega
     case rel=>exact⟨k+1,A,n,c,by omega,rfl,by simp,by rw[f.out];exact HN.out,by rw[f.out];exact Em.out,J.out,gG.out⟩
    ·have hposb:decide ((0:Int)<I)=true:=by simp;omega
     have K:(l.take (k+1)).filterMap (tX s.data.toList)=(l.take k).filterMap (tX s.data.toList)++[⟨I,B.at_,B.end_,bf []⟩]:=by
      rw[List.take_add_one,zG.out,List.filterMap_append];have:tX s.data.toList B=some ⟨I,B.at_,B.end_,bf []⟩:=by unfold tX;rw[z.out,if_pos (by omega)]
      simp[this]
     have f:=kH K;have RJ:=gG.out.size;have hap:(Value.slice A n c).ownBlock≠some b:=fun e2=>J.out.apart Em.out (by decide) b rfl e2
     have Ik:=kH hap;clear K hap;go_wp2_with fail
     refine eQ (fun w'=>w'.cell? ⟨b,D+k*4+2,none⟩=some (.int .i64 (B.at_:Int))/\w'.cell? ⟨b,D+k*4+3,none⟩=some (.int .i64 (B.end_:Int))) [] [true,true,true,true,true,true,true,true,true,true,true,true,false,false,false,false] (by kernel_rfl) (by kernel_rfl) rfl (by kernel_rfl) ?_;have hS0:Z.drew.cell? ⟨b,D+k*4+2,none⟩=some (.int .i64 (B.at_:Int))/\Z.drew.cell? ⟨b,D+k*4+3,none⟩=some (.int .i64 (B.end_:Int)):=⟨t2,t3⟩
     iterate 12(refine ic rfl hS0 (by intro w' hSw;obtain⟨hs1,hs2⟩:=hSw;go_simp;rfl) ?_;simp only[Act.put,sA,sZ,sC])
     refine ib (w':=Z.drew) rfl (by go_simp;rfl) (fun _=>hS0) ?_;simp only[Act.put,sA,sZ,sC];refine ib (w':=Z.drew.alloc (.cells #[.int .i64 I,.int .i64 (B.at_:Int),.int .i64 (B.end_:Int),.string ⟨#[]⟩,.slice none 0 0] 78)) rfl (by go_simp;rfl) ?_ ?_
     ·exact fun _=>⟨by go_simp,by go_simp⟩
     simp only[Act.put,sA,sZ,sC];refine sP rfl (iG _ (.tmp 73) (.tmp 86) _ rfl w.heap.size 78 i0 _ 5 64 Tryz.underlying31 hi0 hz0 hz1 hz2 rfl (.slice A n c) n (((l.take k).filterMap (tX s.data.toList)).flatMap bO) rfl (Em.out.drew.alloc _) ⟨Z.heap.size,0,none⟩ 1 1 (bO ⟨I,B.at_,B.end_,bf []⟩) rfl rfl (ji _ _ _ _ _ _ _ (by go_simp) (by go_simp) (by go_simp) (by go_simp;rfl) (by go_simp)) (by simp[bO,Value.oneCell']) (by simp only[maxLen];omega) (by omega) (by simp;omega) ?_);intro v6 w6 M E hat;obtain⟨A6,c6,hv6,-,-⟩:=M.shape;subst hv6
     have q1:w6.cell? ⟨b,D+k*4+2,none⟩=some (.int .i64 (B.at_:Int)):=by
      rw[E.cell_far _ (by simp;omega) (fun K=>Ik.out K.symm)];go_simp
     have q2:w6.cell? ⟨b,D+k*4+3,none⟩=some (.int .i64 (B.end_:Int)):=by
      rw[E.cell_far _ (by simp;omega) (fun K=>Ik.out K.symm)];go_simp
     refine⟨fun _=>⟨q1,q2⟩,?_⟩;simp only[Act.put,sA,sZ,sC];refine ib (w':=w6) rfl (by go_simp;rfl) (fun _=>⟨q1,q2⟩) ?_;refine jm ?_;simp only[Act.put,sA,sZ,sC];have HOWN:=kH M;have qy:=kH E;clear M E hat q1 q2;go_wp2_with fail
     go_roundg (gk - 1)
     case measure=>omega
     case rel=>
      refine⟨k+1,A6,n+1,c6,by omega,rfl,by simp,by rw[f.out,aam,<- HN.out];rfl,?_,?_,?_⟩
      ·rw[f.out,List.flatMap_append]
       simpa using HOWN.out
      ·refine((J.out.drew).alloc _).kept qy.out (.inr (fun K=>Ik.out K.symm))
      ·exact((((aF.refl (fun g=>w.heap.size<=g) w).below gG.out).drew.alloc _).grown qy.out (fun g F=>.inl (Em.out.lt g F).1)).toBelow (aab _) (fun g F=>F)
  ·go_wp2_with fail
   have hke:k=l.length:=by omega
   have hlf:(l.take k).filterMap (tX s.data.toList)=iJ s.data.toList:=by
    rw[hke,List.take_length];unfold iJ;rw[HL.out];rfl
   refine bodyPost_ret (v:=.slice A n c) (by simp[results,Tryz.results73,go_sem]) rfl ?_;exact⟨A,n,c,rfl,by rw[HN.out,hlf],by rw[<- hlf];exact HO.out,HB.out⟩
end Go.Proofs.YtoepemlnlpamlaaGreat
namespace Go.Proofs.YtoepemlnlpamlaaGreat
section
variable {P:Program}{ops:Array Oper}{Q:Exit->Act->World->Prop}{md:Region.Mode}{S:World->Prop}{ex:List Nat}
def uj(P:Program)(ops:Array Oper)(Q:Exit->Act->World->Prop)(S:World->Prop)(ex:List Nat):Nat->List Bool->List Oper->Act->World->Prop
 | _,_,[],a,w=>Q .normal a w
 | _,[],_::_,_,_=>False
 | k,true::ss,o::rest,a,w=> ∃v,YieldsIf P ops S o v a/\S w/\uj P ops Q S ex (k+1) ss rest (a.put o.dst v) w
 | k,false::ss,o::rest,a,w=>Region.wanted o (yielded ops a.tmps)=true/\o.wp P a w (fun a' w'=>(ex.contains k=false->S w')/\uj P ops Q S ex (k+1) ss rest a' w') Q
theorem Qq(z:Region.noSelect ops=true)(U:∀c a b w,Q (.panic c) a w->Q (.panic c) b w):∀(l:List Oper) (B:List Bool) (k:Nat) (A:Array Bool) (a:Act) (w:World),(∀j,l[j]? =ops[k+j]?)->B.length=l.length ->
 oQ md ops ex k B A=true->uj P ops Q S ex k B l a w->zf P md ops Q S ex l.length A a w:=by
 intro l
 induction l with
 | nil=>
  intro B k A a w K C E h;have:B=[]:=List.eq_nil_of_length_eq_zero C;subst this;exact⟨by simpa [oQ] using E,by simpa [uj] using h⟩
 | cons o rest ih=>
  intro B k A a w K C E h;have D:ops[k]? =some o:=by have:=K 0;simpa using this.symm
  have G:∀j,rest[j]? =ops[k+1+j]? :=fun j=>by
   have:=K (j+1);rw[aaj]at this;rw[this,Nat.add_assoc,Nat.add_comm 1 j]
  cases B with
  | nil=>simp at C
  | cons s B=>
   have L:B.length=rest.length:=by simpa using C
   cases s with
   | true=>
    simp only[oQ,aad]at E;obtain⟨⟨⟨F,H⟩,R⟩,T⟩:=E;obtain⟨v,y,V,I⟩:=h;refine xh D (Region.noSelect_spec z) (fun j X=>?_) (fun c a w Z=>U c _ _ w Z) rest.length A a w (Region.free_spec D F) (by simpa using H) y V (ih B (k+1) _ _ w G L T I);exact List.all_eq_true.1 R j X
   | false=>
    simp only[oQ,aad,beq_iff_eq]at E;obtain⟨F,H⟩:=E;obtain⟨W,I⟩:=h;refine⟨fun O=>(by rw[O]at F;cases F),fun i J=>?_⟩;rw[F]at J;simp at J;subst J;unfold wpOp;simp only[D,W,if_true];refine .inl (Oper.wp_mono (fun N w' M=>⟨fun Y=>M.1 (by simpa using Y),ih B (i+1) _ N w' G L H M.2⟩) I)
theorem dD{G:Nat}{a:Act}{w:World}{l:List Oper}(S:World->Prop)(ex:List Nat)(A:List Bool)(D:P.follows .mixedOrders=true)(F:Region.noSelect l.toArray=true)
 (C:A.length=l.length) (B:oQ .any l.toArray ex 0 A (Array.replicate l.length false)=true) (h:uj P l.toArray (NoPanic Q) S ex 0 A l a w.drew):(Code.region G l.toArray true).wp P Q a w:=by
 refine wp_region_noPanic (wp_region_any D (xg (S:=S) (ex:=ex) _ _ _ _ ?_));have:=Qq (P:=P) (S:=S) (md:=.any) F (Q:=NoPanic Q) (fun c a b w E=>(E:False).elim) l A 0 (Array.replicate l.length false) a w.drew (fun j=>by simp) C B h;simpa using this
theorem gJ{k:Nat}{A:List Bool}{a:Act}{w:World}(h:Q .normal a w):uj P ops (NoPanic Q) S ex k A [] a w:=by
 cases A<;>exact h
theorem bV{k:Nat}{A:List Bool}{o:Oper}{rest:List Oper}{a:Act}{w:World}{v:Value}(C:Region.wanted o (yielded ops a.tmps)=true)(B:S w)(D:∀w',S w'->(execOp a.eval o).run P w'= .ok (.value v) w')
 (h:uj P ops Q S ex (k+1) A rest (a.put o.dst v) w):uj P ops Q S ex k (true::A) (o::rest) a w:=
 ⟨v,.inl ⟨C,D⟩,B,h⟩
theorem dB{k:Nat}{A:List Bool}{o:Oper}{rest:List Oper}{a:Act}{w:World}(C:Region.wanted o (yielded ops a.tmps)=false)(B:S w)
 (h:uj P ops Q S ex (k+1) A rest (a.put o.dst undef) w):uj P ops Q S ex k (true::A) (o::rest) a w:=
 ⟨undef,.inr ⟨C,rfl⟩,B,h⟩
theorem Qm{k:Nat}{A:List Bool}{o:Oper}{rest:List Oper}{a:Act}{w:World}(C:Region.wanted o (yielded ops a.tmps)=true)
 (h:o.wp P a w (fun B w'=>(ex.contains k=false->S w')/\uj P ops Q S ex (k+1) A rest B w') Q):uj P ops Q S ex k (false::A) (o::rest) a w:=⟨C,h⟩
end
section
variable {P:Program}{ops:Array Oper}{Q:Exit->Act->World->Prop}{md:Region.Mode}{S:World->Prop}{ex:List Nat}
def xe(P:Program)(ops:Array Oper)(Q:Exit->Act->World->Prop)(S:World->Prop)(ex:List Nat):List (Nat×Bool)->Act->World->Prop
 | [],a,w=>Q .normal a w
 | (k,true)::ss,a,w=> ∃o,ops[k]? =some o/\∃v,YieldsIf P ops S o v a/\S w/\xe P ops Q S ex ss (a.put o.dst v) w
 | (k,false)::ss,a,w=> ∃o,ops[k]? =some o/\Region.wanted o (yielded ops a.tmps)=true/\o.wp P a w (fun a' w'=>(ex.contains k=false->S w')/\xe P ops Q S ex ss a' w') Q
def ER(md:Region.Mode)(ops:Array Oper)(ex:List Nat):List (Nat×Bool)->Array Bool->Bool
 | [],listed=>(Region.ready md ops listed).isEmpty
 | (k,true)::ss,listed=>Region.free md ops listed k&&(Region.ready md ops listed).contains k&&ex.all (fun j=>Region.waitsFor md ops j k)&&ER md ops ex ss (listed.setIfInBounds k true)
 | (k,false)::ss,listed=>(Region.ready md ops listed==[k])&&ER md ops ex ss (listed.setIfInBounds k true)
theorem Qp(W:Region.noSelect ops=true)(N:∀c a b w,Q (.panic c) a w->Q (.panic c) b w):∀(C:List (Nat×Bool)) (A:Array Bool) (a:Act) (w:World),
 ER md ops ex C A=true->xe P ops Q S ex C a w->zf P md ops Q S ex C.length A a w:=by
 intro C
 induction C with
 | nil=>
  intro A a w D h;exact⟨by simpa [ER] using D,by simpa [xe] using h⟩
 | cons s C ih=>
  intro A a w D h;obtain⟨k,s⟩:=s
  cases s with
  | true=>
   simp only[ER,aad]at D;obtain⟨⟨⟨E,F⟩,L⟩,M⟩:=D;obtain⟨o,B,v,X,O,G⟩:=h;refine xh B (Region.noSelect_spec W) (fun j T=>?_) (fun c a w V=>N c _ _ w V) C.length A a w (Region.free_spec B E) (by simpa using F) X O (ih _ _ w M G);exact List.all_eq_true.1 L j T
  | false=>
   simp only[ER,aad,beq_iff_eq]at D;obtain⟨E,F⟩:=D;obtain⟨o,B,R,G⟩:=h;refine⟨fun K=>(by rw[K]at E;cases E),fun i H=>?_⟩;rw[E]at H;simp at H;subst H;unfold wpOp;simp only[B,R,if_true];refine .inl (Oper.wp_mono (fun J w' I=>⟨fun U=>I.1 (by simpa using U),ih (A.setIfInBounds i true) J w' F I.2⟩) G)
theorem pV{G:Nat}{a:Act}{w:World}{l:List Oper}(S:World->Prop)(ex:List Nat)(A:List (Nat×Bool))(D:P.follows .mixedOrders=true)(F:Region.noSelect l.toArray=true)
 (C:A.length=l.length) (B:ER .any l.toArray ex A (Array.replicate l.length false)=true) (h:xe P l.toArray (NoPanic Q) S ex A a w.drew):(Code.region G l.toArray true).wp P Q a w:=by
 refine wp_region_noPanic (wp_region_any D (xg (S:=S) (ex:=ex) _ _ _ _ ?_));have:=Qp (P:=P) (S:=S) (md:=.any) F (Q:=NoPanic Q) (fun c a b w E=>(E:False).elim) A (Array.replicate l.length false) a w.drew B h;simpa [C] using this
theorem wu{a:Act}{w:World}(h:Q .normal a w):xe P ops (NoPanic Q) S ex [] a w:=h
theorem iV{k:Nat}{A:List (Nat×Bool)}{o:Oper}{a:Act}{w:World}{v:Value}(D:ops[k]? =some o)(C:Region.wanted o (yielded ops a.tmps)=true)(B:S w)(E:∀w',S w'->(execOp a.eval o).run P w'= .ok (.value v) w')
 (h:xe P ops Q S ex A (a.put o.dst v) w):xe P ops Q S ex ((k,true)::A) a w:=
 ⟨o,D,v,.inl ⟨C,E⟩,B,h⟩
theorem pW{k:Nat}{A:List (Nat×Bool)}{o:Oper}{a:Act}{w w':World}{v:Value}(D:ops[k]? =some o)(C:Region.wanted o (yielded ops a.tmps)=true)(E:(execOp a.eval o).run P w= .ok (.value v) w')(B:ex.contains k=false->S w')
 (h:xe P ops Q S ex A (a.put o.dst v) w'):xe P ops Q S ex ((k,false)::A) a w:=
 ⟨o,D,C,by unfold Oper.wp;rw[E];exact⟨B,h⟩⟩
theorem Od{k:Nat}{A:List (Nat×Bool)}{o:Oper}{a:Act}{w w':World}(D:ops[k]? =some o)(C:Region.wanted o (yielded ops a.tmps)=true)(E:(execOp a.eval o).run P w= .ok .skip w')(B:ex.contains k=false->S w')
 (h:xe P ops Q S ex A (a.put o.dst undef) w'):xe P ops Q S ex ((k,false)::A) a w:=
 ⟨o,D,C,by unfold Oper.wp;rw[E];exact⟨B,h⟩⟩
theorem sQ{k:Nat}{A:List (Nat×Bool)}{o:Oper}{a:Act}{w:World}(D:ops[k]? =some o)(C:Region.wanted o (yielded ops a.tmps)=true)
 (h:o.wp P a w (fun B w'=>(ex.contains k=false->S w')/\xe P ops Q S ex A B w') Q):xe P ops Q S ex ((k,false)::A) a w:=⟨o,D,C,h⟩
end
end Go.Proofs.YtoepemlnlpamlaaGreat
