/- The law NamesResolves holds where what it reads is of bulk at most 1048576: it returns true, and its argument reads as before. Part 44: LawR Row LawO1 OpenT HoldR. -/
import Derived.Test.YtoepemlnlpamlaaGreatRows
import Derived.ProofKit
import Derived.Below
import Derived.ChangeSame
import Derived.Lib.SmallJoins
import Derived.Deep.Slices
import Derived.ChangeMaps5
import Derived.JoinedCond
import Derived.Test.YtoepemlnlpamlaaGreatReso12
import Derived.Test.YtoepemlnlpamlaaGreatReso14
import Derived.Test.YtoepemlnlpamlaaGreatReso15
import Derived.Test.YtoepemlnlpamlaaGreatReso17
import Derived.Test.YtoepemlnlpamlaaGreatReso22
import Derived.Test.YtoepemlnlpamlaaGreatReso32
import Derived.Test.YtoepemlnlpamlaaGreatReso40
import Derived.Test.YtoepemlnlpamlaaGreatReso42
import Derived.Test.YtoepemlnlpamlaaGreatReso43
set_option maxRecDepth 100000
set_option maxHeartbeats 4000000
namespace Go.Proofs.YtoepemlnlpamlaaGreat
open Go.RowKit
def rD(t:ae):List Dc:=if iJ t=true then(bS t).ds else []
def rU(t:ae):List Int:=if iJ t=true then(bS t).uses else []
def rL(t:ae):List Dg:=if iJ t=true then(bS t).aW.map (·.2) else []
def rS(t:ae):Int:=if iJ t=true then 0 else 1
def yg(t:ae)(w:World)(e:Ending)(w':World):Prop:=
 ∃dA dc uA uc lA lc,e= .returned (.tuple #[.agg #[.slice dA (rD t).length dc,.slice uA (rU t).length uc],.slice lA (rL t).length lc,.int .i64 (rS t)])/\bN 4 cB w' w'.heap.size dA (rD t)/\bN 1 fO w' w'.heap.size uA (rU t)/\bN 5 bC w' w'.heap.size lA (rL t)/\Below w.heap.size w w'
theorem Jd{α:Type}(size:Nat)(cells:α->List Value)(w:World)(B:Nat)(A:Option Addr):bN size cells w B A []:=fun k c h=>by simp at h
theorem rlens(t:ae)(hN:au t<=1000000):(rD t).length<=1000000/\(rU t).length<=1000000/\(rL t).length<=1000000:=by
 unfold rD rU rL;split
 ·have h1:=zA (dG t) t false [] ⟨[],List.replicate (au t) (-1),[],[],0,0⟩
  have h2:=GY (dG t) t false [] ⟨[],List.replicate (au t) (-1),[],[],0,0⟩;have h3:=h1.aW;have h4:=h1.ds;have h5:=h1.qX;show(aJ (dG t) false t [] ⟨[],List.replicate (au t) (-1),[],[],0,0⟩).1.ds.length<=_/\(List.map _ (aJ (dG t) false t [] ⟨[],List.replicate (au t) (-1),[],[],0,0⟩).1.uses).length<=_/\(List.map _ (aJ (dG t) false t [] ⟨[],List.replicate (au t) (-1),[],[],0,0⟩).1.aW).length<=_;rw[List.length_map,List.length_map];generalize (aJ (dG t) false t [] ⟨[],List.replicate (au t) (-1),[],[],0,0⟩).1=Z at h2 h3 h4 h5⊢
  have h2:Z.next<=0+au t:=h2;have h3:Z.aW.length+0<=0+Z.next:=h3;have h4:Z.ds.length+0<=0+Z.next:=h4;have h5:Z.uses.length=(List.replicate (au t) (-1:Int)).length:=h5;rw[List.length_replicate]at h5;omega
 ·simp
theorem rvals{t:ae}{e:Ending}{w w':World}(hv:iJ t=true)(h:∃dA dc uA uc lA lc,e= .returned (.tuple #[.agg #[.slice dA (bS t).ds.length dc,.slice uA (bS t).uses.length uc],.slice lA (bS t).aW.length lc,.int .i64 0])/\bN 4 cB w' w'.heap.size dA (bS t).ds/\bN 1 fO w' w'.heap.size uA (bS t).uses/\bN 5 bC w' w'.heap.size lA ((bS t).aW.map (·.2))/\Below w.heap.size w w'):yg t w e w':=by
 unfold yg rD rU rL rS;rw[if_pos hv,if_pos hv,if_pos hv,if_pos hv,List.length_map];exact h
theorem rnone{t:ae}{e:Ending}{w w':World}(hv:iJ t=false)(he:e= .returned (.tuple #[.agg #[.slice none 0 0,.slice none 0 0],.slice none 0 0,.int .i64 1]))(hb:Below w.heap.size w w'):yg t w e w':=by
 unfold yg rD rU rL rS;rw[if_neg (by simp[hv]),if_neg (by simp[hv]),if_neg (by simp[hv]),if_neg (by simp[hv])];exact⟨none,0,none,0,none,0,he,Jd _ _ _ _ _,Jd _ _ _ _ _,Jd _ _ _ _ _,hb⟩
theorem yg.prog{t:ae}{e:Ending}{w w':World}(h:RZ t w e w'):yg t w e w':=by
 rcases h with⟨hv,he,hb⟩| ⟨hv,E,V,A,n,c,he,hE,hR,rfl,hO,hb⟩
 ·exact rnone hv he hb
 ·exact rvals hv ⟨V.dA,V.dc,E.uA,E.uc,A,c,he,hR.ds.rowAt (cells:=cB) rfl rfl (fun _ _=>rfl) rfl,hR.us.rowAt (cells:=fO) rfl (by unfold gY;rw[<- List.flatMap_singleton' (List.map _ _),List.flatMap_map];rfl) (fun _ _=>rfl) rfl,hO.rowAt (cells:=bC) rfl (by rw[List.flatMap_map]) (fun _ _=>rfl) (by rw[List.length_map]),hb⟩
theorem yg.ref{t:ae}{e:Ending}{w w':World}(h:M5 t w e w'):yg t w e w':=by
 rcases h with⟨hv,he,hb⟩| ⟨hv,h⟩
 ·exact rnone hv he hb
 ·exact rvals hv h
theorem Li(t:ae)(A:Option Addr)(c:Nat)(w:World)(hN:au t<=1000000)(hcap:t.kids.length<=c)(hk:aK w w.heap.size A 0 t.kids):
 Calls Tryz.prog 3 #[bD t A c] w fun e w'=>e= .returned (.bool true)/\Below w.heap.size w w':=by
 have Wm:∀W,Below w.heap.size w W->Calls Tryz.prog 10 #[bD t A c,.int .i64 200] W _:=fun W hb=>Zf t A c 200 W hN hcap (aK.mono hb.size _ _ _ (aK.below hb (abE _) _ _ _ hk))
 have wR:∀W,Below w.heap.size w W->Calls Tryz.prog 12 #[bD t A c] W (yg t W):=fun W hb=>(IP t A c W hN hcap (aK.mono hb.size _ _ _ (aK.below hb (abE _) _ _ _ hk))).mono fun e w' h=>yg.prog h
 have wS:au t<=200->∀W,Below w.heap.size w W->Calls Tryz.prog 13 #[bD t A c] W (yg t W):=fun h2 W hb=>(Qc t A c W (by omega) hcap (aK.mono hb.size _ _ _ (aK.below hb (abE _) _ _ _ hk))).mono fun e w' h=>yg.ref h
 obtain⟨l1,l2,l3⟩:=rlens t hN
 have hs2:CU t 200=true->au t<=200:=fun h=>by
  unfold CU at h;rw[abG]at h;exact of_decide_eq_true h.2
 obtain⟨sb,hsb⟩:∃b,CU t 200=b:=⟨_,rfl⟩
 obtain⟨k0,x0,a0,z0,n0,-,-,-,-,-,kX⟩:=fq t A c;rw[kX]at Wm wR wS⊢;rw[hsb]at Wm hs2;unfold yg at wR wS;obtain⟨D,hD⟩:∃q,rD t=q:=⟨_,rfl⟩
 obtain⟨U,hU⟩:∃q,rU t=q:=⟨_,rfl⟩
 obtain⟨L,hL⟩:∃q,rL t=q:=⟨_,rfl⟩
 obtain⟨st,hst⟩:∃q,rS t=q:=⟨_,rfl⟩
 rw[hD]at wR wS l1;rw[hU]at wR wS l2;rw[hL]at wR wS l3;rw[hst]at wR wS;obtain⟨nd,hnd⟩:∃q,D.length=q:=⟨_,rfl⟩
 obtain⟨nu,hnu⟩:∃q,U.length=q:=⟨_,rfl⟩
 obtain⟨nl,hnl⟩:∃q,L.length=q:=⟨_,rfl⟩
 rw[hnd]at wR wS l1;rw[hnu]at wR wS l2;rw[hnl]at wR wS l3;obtain⟨W1,hW1⟩:∃W1,w.alloc (.cells #[.int .i64 k0,.string x0,.int .i64 a0,.int .i64 z0,.slice A n0 c] 24)=W1:=⟨_,rfl⟩
 have hbW:Below w.heap.size w W1:=by rw[<- hW1];exact ag _ _
 have Rw:ai W1 w.heap.size 24 #[.int .i64 k0,.string x0,.int .i64 a0,.int .i64 z0,.slice A n0 c]:=by rw[<- hW1];exact ai.new _ _ _
 have pV:=kH (Wm W1 hbW);have aM:=kH wR;have HREF:=kH wS;have HS2:=kH hs2;have HLEN:Hid (D.length=nd/\U.length=nu/\L.length=nl/\nd<=1000000/\nu<=1000000/\nl<=1000000):=kH ⟨hnd,hnu,hnl,l1,l2,l3⟩;have HAWK:=kH Za;have qf:=kH hbW;have Mv:=kH Rw;obtain⟨⟨m0,m1,m2,m3,m4⟩,-⟩:=Rw.five;have lm:=Rw.lt;clear Wm wR wS hs2 hsb kX hD hU hL hst hnd hnu hnl hbW Rw hk hcap hN l1 l2 l3;go_enter Tryz.func3,Tryz.ntmps3
 go_wp2_with (rw[hW1])
 clear m0 m1 m2 m3 m4 lm hW1;refine pV.out.mono ?_;rintro e2 w2 ⟨rfl,hb2⟩;have HB2:Hid (Below w.heap.size w w2):=kH (qf.out.trans (hb2.mono qf.out.size));have vV:=Mv.out.below hb2 Mv.out.lt;have EW:=kH vV;clear hb2 Mv pV
 cases sb with
 | false=>
  clear vV;go_wp2_with fail
  refine(HAWK.out _).mono ?_;rintro e3 w3 ⟨rfl,hb3⟩;go_wp2_with fail
  go_ret
  exact⟨rfl,HB2.out.trans (hb3.mono HB2.out.size)⟩
 | true=>
  have uY:=kH (HS2.out rfl);clear HS2;obtain⟨⟨m0,m1,m2,m3,m4⟩,-⟩:=vV.five;have lm:=vV.lt;clear vV;go_wp2_with fail
  clear m0 m1 m2 m3 m4 lm;refine(aM.out _ HB2.out).mono ?_;rintro e3 w3 ⟨dA,dc,uA,uc,lA,lc,rfl,r1,r2,r3,hb3⟩;obtain⟨R1,gJ⟩:∃R1,w3.alloc (.cells #[.slice dA nd dc,.slice uA nu uc] 30)=R1:=⟨_,rfl⟩
  obtain⟨g3,hg3⟩:∃q,w3.heap.size=q:=⟨_,rfl⟩
  have hbR:Below w3.heap.size w3 R1:=by rw[<- gJ];exact ag _ _
  have hRR:ai R1 g3 30 #[.slice dA nd dc,.slice uA nu uc]:=by rw[<- gJ,<- hg3];exact ai.new _ _ _
  have hNR:=(EW.out.below hb3 EW.out.lt).below hbR (EW.out.below hb3 EW.out.lt).lt;have nT:Hid (Below w.heap.size w R1):=kH (HB2.out.trans ((hb3.trans (hbR.mono hb3.size)).mono HB2.out.size));have HR1:Hid (bN 4 cB R1 R1.heap.size dA D/\bN 1 fO R1 R1.heap.size uA U/\bN 5 bC R1 R1.heap.size lA L):=kH ⟨(r1.below hbR (abE _)).mono hbR.size,(r2.below hbR (abE _)).mono hbR.size,(r3.below hbR (abE _)).mono hbR.size⟩;have HRR:=kH hRR;obtain⟨⟨m0,m1,m2,m3,m4⟩,-⟩:=hNR.five;have lm:=hNR.lt;clear r1 r2 r3 hb3 hbR hRR hNR EW aM HB2;go_wp2_with (first|rw[gJ]|rw[hg3])
  clear m0 m1 m2 m3 m4 lm gJ hg3;refine(HREF.out uY.out _ nT.out).mono ?_;rintro e4 w4 ⟨dA',dc',uA',uc',lA',lc',rfl,r1,r2,r3,hb4⟩;obtain⟨R2,hR2⟩:∃R2,w4.alloc (.cells #[.slice dA' nd dc',.slice uA' nu uc'] 30)=R2:=⟨_,rfl⟩
  obtain⟨g4,hg4⟩:∃q,w4.heap.size=q:=⟨_,rfl⟩
  have hbR:Below w4.heap.size w4 R2:=by rw[<- hR2];exact ag _ _
  have Ef:Below R1.heap.size R1 R2:=hb4.trans (hbR.mono hb4.size);have WK:ai R2 g4 30 #[.slice dA' nd dc',.slice uA' nu uc']:=by rw[<- hR2,<- hg4];exact ai.new _ _ _
  have WL:=HRR.out.below Ef HRR.out.lt;have q1:=(HR1.out.1.below Ef (abE _)).mono Ef.size;have q2:=(HR1.out.2.1.below Ef (abE _)).mono Ef.size;have q3:=(HR1.out.2.2.below Ef (abE _)).mono Ef.size;have s1:=(r1.below hbR (abE _)).mono hbR.size;have s2:=(r2.below hbR (abE _)).mono hbR.size;have s3:=(r3.below hbR (abE _)).mono hbR.size;obtain⟨e1,e2,e3,l1,l2,l3⟩:=HLEN.out;have HSR:=kH (Zi dA dA' uA uA' nd dc dc' nu uc uc' D U R2 q1 s1 q2 s2 e1 l1 e2 l2);have HSD:=kH (fun(W:World) (hb:Below R2.heap.size R2 W)=>Zj lA lA' nl lc lc' L W ((q3.below hb (abE _)).mono hb.size) ((s3.below hb (abE _)).mono hb.size) e3 l3);have HB24:Hid (Below w.heap.size w R2):=kH (nT.out.trans (Ef.mono nT.out.size));have c0:=WL.cell 0;have c1:=WL.cell 1;have lc1:=WL.lt;have d0:=WK.cell 0;have d1:=WK.cell 1;have ld1:=WK.lt;clear r1 r2 r3 hb4 hbR Ef WL WK q1 q2 q3 s1 s2 s3 e1 e2 e3 l1 l2 l3 HR1 HRR HREF nT;go_wp2_with (first|rw[hR2]|rw[hg4])
  clear c0 c1 lc1 d0 d1 ld1 hR2 hg4;refine HSR.out.mono ?_;rintro e5 w5 ⟨rfl,hb5⟩;go_wp2_with fail
  refine(HSD.out _ hb5).mono ?_;rintro e6 w6 ⟨rfl,hb6⟩;go_wp2_with fail
  refine(HAWK.out _).mono ?_;rintro e7 w7 ⟨rfl,dB⟩;go_wp2_with fail
  go_ret
  have h6:=hb5.trans (hb6.mono hb5.size);have h7:=h6.trans (dB.mono h6.size);exact⟨rfl,HB24.out.trans (h7.mono HB24.out.size)⟩
open Go.ChangeShapes Go.WideShapes Go.ChangeAt
theorem Tryz.own:ownKnob Tryz.prog.godebug=none:=by kernel_rfl
theorem Tryz.laidOut:laidOutB Tryz.prog=true:=by kernel_rfl
section
variable {H:Type}{enc:TypeId×Value->H}{P:Program}
theorem OG(hl:laidOutB P=true){W W':World}(hb:Below W.heap.size W W')(sp:Nat->Bool):∀{ts:List TypeId}{vs:List Value}{ds:List (DataW H)}{ps:List MemPlace},
 ts.all (fun t=>P.readableRec t&&decide (t<P.types.size))=true->DataW.TrodAll enc P W 0 (fun _=>true) true ts vs ds ps->(∀x∈ps,x.block<W.heap.size)->(∀x∈ps,sp x.block=true) ->
 DataW.TrodAll enc P W' 0 sp true ts vs ds ps:=by
 intro ts
 induction ts with
 | nil=>
  intro vs ds ps _ h _ _;cases vs<;>cases ds<;>simp[DataW.TrodAll]at h⊢
  exact h
 | cons t ts ih=>
  intro vs ds ps hr h hlt hsp;obtain⟨v,vs',d,ds',p,q,rfl,rfl,rfl,hd,hrest⟩:=trodAll_cons h;rw[List.all_cons,abG,abG]at hr;refine⟨p,q,?_,ih hr.2 hrest (fun x hx=>hlt x (by simp[hx])) (fun x hx=>hsp x (by simp[hx])),rfl⟩;exact WideElems.Trod_stays hl hr.1.1 (of_decide_eq_true hr.1.2) hd (fun x hx=>hb.same (hlt x (by simp[hx]))) (fun x hx=>hsp x (by simp[hx]))
theorem aam(hl:laidOutB P=true){f:Func}{s:ChangeSpec}{apart fresh handsOn again:Bool}{W W':World}{args:Array Value}{ds gs:List (DataW H)}{before:List MemPlace}{tb:TypeId}
 (hW:DataW.Whole enc P f.params.toList s.vars apart W args.toList ds gs before) (hv:s.vars=[])
 (hread:f.params.toList.all (fun t=>P.readableRec t&&decide (t<P.types.size))=true)
 (hfn:s.fn H (ds++gs)= { results:=[.lit (.bool true)],args:=ds }) (hr:f.resultTypes= #[tb]) (htb:P.underlying tb=some .bool) (hb:Below W.heap.size W W'):
 s.post enc P f apart fresh handsOn again W args (.bool true) W':=by
 have hlt:∀p∈before,p.block<W.heap.size:=fun p hp=>hW.lt p hp
 have hW0:=hW;obtain⟨p,q,hA,hV,hpq,hz,hn⟩:=hW;rw[hv]at hV;obtain⟨hgs,hq⟩:=trodVars_none hV;subst hq;rw[List.append_nil]at hpq;subst hpq
 have hres:∀(b:Nat) (sp:Nat->Bool) (hd:Bool),DataW.TrodAll enc P W' b sp hd f.resultTypes.toList ((Value.bool true).resultList f.resultTypes.size) (s.fn H (ds++gs)).results []:=fun b sp hd=>by
  rw[hfn,hr];exact trodAll_mk1 (shut_bool htb true)
 have hargs:∀sp:Nat->Bool,(∀x∈before,sp x.block=true)->DataW.TrodAll enc P W' 0 sp true f.params.toList args.toList (s.fn H (ds++gs)).args before:=fun sp hsp=>by
  rw[hfn];exact OG hl hb sp hread hA hlt hsp
 have hvars:∀sp:Nat->Bool,DataW.TrodVars enc P W' sp s.vars (s.fn H (ds++gs)).vars []:=fun sp=>by
  rw[hfn,hv];rfl
 have hold:∀x∈before,(fun b=>decide (b<W.heap.size)) x.block=true:=fun x hx=>by simpa using hlt x hx
 refine⟨ds,gs,before,[],before,[],hW0,hres _ _ _,hargs _ hold,hvars _,World.keptBut_mono (fun x hx=>⟨hx,Or.inr (by simpa using hx)⟩) (hb.frame (· ∈before)),fun _=>?_⟩;refine⟨ok_one hr rfl (okWide_bool_mk htb true),_,_,([]++before)++[],⟨[]++before,[],trodAll_append (hargs _ (fun _ _=>rfl)) (hres _ _ _),hvars _,rfl,?_,?_⟩,?_⟩
 ·intro b off hp
  have hin:MemPlace.cell b off∈before:=by simpa using hp
  rw[hb.frozen (hlt _ hin)];exact hz b off hin
 ·intro ha
  simpa using hn ha
 ·intro x hx _
  simpa using hx
end
end Go.Proofs.YtoepemlnlpamlaaGreat
namespace Go.Proofs.YtoepemlnlpamlaaGreat
open Go.RowKit
theorem aK.mk{w:World}{B b off:Nat}(hb:b<B):∀{ts:List ae}{i:Nat},(∀(j:Nat) (t:ae),ts[j]? =some t->∃vals,(∀q v,vals[q]? =some v->w.cell? ⟨b,off+(i+j)*5+q,none⟩=some v)/\jU w B t vals)->aK w B (some ⟨b,off,none⟩) i ts
 | [],_,_=>trivial
 | t::ts,i,h=>by
  obtain⟨vals,h1,h2⟩:=h 0 t rfl;refine⟨⟨b,off,vals,rfl,hb,fun j v hj=>h1 j v hj,h2⟩,aK.mk hb fun j u hu=>?_⟩;obtain⟨vals,h3,h4⟩:=h (j+1) u hu;exact⟨vals,fun q v hq=>by have:=h3 q v hq;rw[show i+(j+1)=i+1+j by omega]at this;exact this,h4⟩
open Go.ChangeShapes Go.WideShapes Go.ChangeAt Go.Deep
theorem Tk{α:Type}{p:Nat->α->Prop}:∀m:Nat,(∀i,i<m->∃x,p i x)->∃l:List α,l.length=m/\∀i x,l[i]? =some x->p i x:=by
 intro m
 induction m with
 | zero=>intro _;exact⟨[],rfl,fun i x h=>by simp at h⟩
 | succ m ih=>
  intro h;obtain⟨l,hl,hp⟩:=ih (fun i hi=>h i (by omega));obtain⟨x,hx⟩:=h m (by omega);refine⟨l++[x],by simp[hl],fun i y hy=>?_⟩;by_cases hi:i<l.length
  ·rw[List.getElem?_append_left hi]at hy
   exact hp i y hy
  ·have him:i=m:=by
    have:=(abK.1 hy).1;simp at this;omega
   subst him;rw[abO (by omega),hl,Nat.sub_self]at hy;simp at hy;subst hy;exact hx
theorem list5{α:Type}{l:List α}(h:l.length=5):∃a b c d e,l=[a,b,c,d,e]:=by
 match l,h with
 | [a,b,c,d,e],_=>exact⟨a,b,c,d,e,rfl⟩
section
variable {H:Type}{enc:TypeId×Value->H}{w:World}
theorem Px:∀(l:List ae) (ds:List (DataW H)),l.length=ds.length->(∀(i:Nat) (t:ae) (d:DataW H),l[i]? =some t->ds[i]? =some d->6*au t<=Rows.uptoBulk d)->6*aG l<=Rows.uptoBulkAll ds
 | [],_,_,_=>by simp[aG]
 | t::l,[],h,_=>by simp at h
 | t::l,d::ds,h,hp=>by
  have h1:=hp 0 t d rfl rfl;have h2:=Px l ds (by simpa using h) (fun i t d ht hd=>hp (i+1) t d (by simpa using ht) (by simpa using hd));simp only[aG,Rows.uptoBulkAll];omega
theorem Am(d:DataW H):1<=Rows.uptoBulk d:=by
 cases d with
 | lit l=>cases l<;>simp[Rows.uptoBulk]
 | nil=>simp[Rows.uptoBulk]
 | ptr d=>simp[Rows.uptoBulk]
 | slice elems spare=>simp[Rows.uptoBulk]
 | agg parts=>simp[Rows.uptoBulk]
 | iface t d=>simp[Rows.uptoBulk]
 | map entries=>simp[Rows.uptoBulk]
 | held h=>simp[Rows.uptoBulk]
theorem XW{d:DataW H}{l:List (DataW H)}(h:d∈l):Rows.uptoBulk d<=Rows.uptoBulkAll l:=by
 induction l with
 | nil=>cases h
 | cons x r ih=>
  simp only[Rows.uptoBulkAll]
  cases List.mem_cons.1 h with
  | inl e=>subst e;omega
  | inr e=>have:=ih e;omega
theorem Tryz.Oj:Tryz.prog.cellsOf 24=5:=by kernel_rfl
theorem Tryz.abd:Tryz.prog.cellsOf 3=1:=by kernel_rfl
theorem Tryz.abb:Tryz.prog.cellsOf 9=1:=by kernel_rfl
theorem Tryz.Y7:Tryz.prog.cellsOf 22=1:=by kernel_rfl
theorem X0:∀(N:Nat) {fuel:Nat}{cs:List Value}{x:DataW H×List MemPlace},DataW.trod enc Tryz.prog w 0 (fun _=>true) true fuel 24 cs=some x->Rows.uptoBulk x.1<=N->∃t:ae,jU w w.heap.size t cs/\6*au t<=Rows.uptoBulk x.1:=by
 intro N
 induction N with
 | zero=>
  intro fuel cs x h hN;obtain⟨xs,n,-,rfl,-⟩:=DataW.trod_struct Tryz.underlying24 h;simp[Rows.uptoBulk]at hN
 | succ N ih=>
  intro fuel cs x h hN;obtain⟨xs,n,-,rfl,hl,hxl,hf⟩:=DataW.trod_struct Tryz.underlying24 h;rw[Tryz.Oj]at hl;obtain⟨c0,c1,c2,c3,c4,rfl⟩:=list5 hl;obtain⟨y0,y1,y2,y3,y4,rfl⟩:=list5 (l:=xs) (by rw[hxl];rfl);have g0:=hf 0 _ rfl;have g1:=hf 1 _ rfl;have g2:=hf 2 _ rfl;have g3:=hf 3 _ rfl;have g4:=hf 4 _ rfl;simp[Tryz.abd,Tryz.abb,Tryz.Y7]at g0 g1 g2 g3 g4;obtain⟨k,k0,-,-⟩:=DataW.trod_int Tryz.underlying3 g0;obtain⟨tx,k1,-,-⟩:=DataW.trod_string Tryz.underlying9 g1;obtain⟨a,k2,-,-⟩:=DataW.trod_int Tryz.underlying3 g2;obtain⟨z,k3,-,-⟩:=DataW.trod_int Tryz.underlying3 g3;simp only[List.cons.injEq,and_true]at k0 k1 k2 k3;subst k0 k1 k2 k3
  have hy4:Rows.uptoBulk y4.1+5<=Rows.uptoBulk (DataW.agg (List.map (·.1) [y0,y1,y2,y3,y4])):=by
   have q0:=Am y0.1;have q1:=Am y1.1;have q2:=Am y2.1;have q3:=Am y3.1;simp only[Rows.uptoBulk,Rows.uptoBulkAll,List.map_cons,List.map_nil];omega
  have hy5:=Am y4.1;have hN':Rows.uptoBulk (DataW.agg (List.map (·.1) [y0,y1,y2,y3,y4]))<=N+1:=hN;have hgo:∀t:ae,6*au t<=Rows.uptoBulk y4.1+5->6*au t<=Rows.uptoBulk (DataW.agg (List.map (·.1) [y0,y1,y2,y3,y4])):=fun t h=>by omega
  rcases open_slice Tryz.underlying22 g4 with⟨hcs,hx⟩| ⟨ad,len,cap,m,n',D,Pl,hcs,hb,hln,hm,hmm,hx,hi⟩
  ·simp at hcs
   subst hcs;exact⟨.node k tx a z [],⟨none,0,rfl,abE _,trivial⟩,hgo _ (by simp only[au,aG];omega)⟩
  ·simp at hcs
   subst hcs;simp only[if_true]at hmm;subst hmm;rw[Tryz.Oj]at hi
   have hbk:Rows.uptoBulkAll ((List.range len).map D)+1<=Rows.uptoBulk y4.1:=by
    rw[hx];simp only[Rows.uptoBulk];omega
   have hel:∀i,i<len->∃t:ae,6*au t<=Rows.uptoBulk (D i)/\∃vals,jU w w.heap.size t vals/\∀j u,vals[j]? =some u->w.cell? (ad.add (i*5+j))=some u:=fun i hil=>by
    obtain⟨cs',hc,ht⟩:=hi i (by omega);have hdi:Rows.uptoBulk (D i)<=Rows.uptoBulkAll ((List.range len).map D):=XW (List.mem_map.2 ⟨i,List.mem_range.2 hil,rfl⟩);have hd:Rows.uptoBulk (D i)<=N:=by omega
    obtain⟨t,h1,h2⟩:=ih ht hd;refine⟨t,h2,cs',h1,fun j u hj=>?_⟩;obtain⟨A5,c5,h5,-⟩:=h1.five
    have hj5:j<5:=by
     have:=(abK.1 hj).1;rw[h5]at this;simpa using this
    have:=(World.cells?_some hc).2.2 j hj5;rw[hj,Go.Deep.add_add]at this;exact this
   obtain⟨l,hll,hlp⟩:=Tk len hel
   have hcnt:6*aG l<=Rows.uptoBulkAll ((List.range len).map D):=Px l _ (by simp[hll]) fun i t d ht hd=>by
    have hil:i<len:=by rw[<- hll];exact(abK.1 ht).1
    have:d=D i:=by simpa [hil] using hd.symm
    rw[this];exact(hlp i t ht).1
   obtain⟨b,off,spot⟩:=ad;refine⟨.node k tx a z l,⟨some ⟨b,off,spot⟩,m,by rw[hll],by omega,?_⟩,hgo _ (by simp only[au];omega)⟩
   cases hl0:l with
   | nil=>trivial
   | cons t0 l0=>
    obtain⟨-,vals,hT,hv⟩:=hlp 0 t0 (by rw[hl0];rfl);obtain⟨A5,c5,h5,-⟩:=hT.five;have h0:=hv 0 _ (by rw[h5];rfl);have hspot:spot=none:=by simpa [Addr.add] using World.cell?_spot h0
    subst hspot
    have hbl:b<w.heap.size:=by
     rcases Nat.lt_or_ge b w.heap.size with h1|h1
     ·exact h1
     ·rw[Addr.add_lit]at h0
      simp[World.cell?,Array.getElem?_eq_none h1]at h0
    rw[<- hl0];refine aK.mk hbl fun j t ht=>?_
    obtain⟨-,vals,hT,hv⟩:=hlp j t ht;refine⟨vals,fun q v hq=>?_,hT⟩;have:=hv q v hq;rw[Addr.add_lit]at this;rw[show off+(0+j)*5+q=off+(j*5+q) by omega];exact this
end
end Go.Proofs.YtoepemlnlpamlaaGreat
namespace Go.Proofs.YtoepemlnlpamlaaGreat
open Go.ChangeShapes Go.WideShapes Go.ChangeAt Go.RowKit Go.Joins Go.ChangeMaps
theorem KL(os:Os)(started:os.Started)(H:Type)(enc:TypeId×Value->H)(F:Stop.Interp):
 ReturnsInHanded {} Tryz.checked os 3 .any ((Rows.OpenSpec.upto Rows.namesResolvesSpec).pre6 enc Tryz.prog Tryz.f3 Rows.namesResolvesUptoRow.domain false) (((Rows.OpenSpec.upto Rows.namesResolvesSpec).at F).post enc Tryz.prog Tryz.f3 false true false false):=by
 refine returnsInHanded_of_cond (C:=Tryz.checked) (s:=Rows.OpenSpec.upto Rows.namesResolvesSpec) (k:=Rows.uptoSmall) rfl Tryz.own started (by kernel_rfl) Tryz.func3
  (OpenSpec.witness (enc:=enc) (C:=Tryz.checked) (s:=Rows.OpenSpec.upto Rows.namesResolvesSpec) (k:=Rows.uptoSmall) rfl false ⟨#[],#[.agg #[.int .i64 0,.string ⟨#[]⟩,.int .i64 0,.int .i64 0,.slice none 0 0]],[]⟩ 8 (by kernel_rfl) (by kernel_rfl) (by kernel_rfl)
   (x:=([.agg [.lit (.int .i64 0),.lit (.string []),.lit (.int .i64 0),.lit (.int .i64 0),.nil]],[],[])) (by kernel_rfl) rfl (by kernel_rfl)) ?_
 intro W base args ds gs before hval0 hW _ hk _;have hval:∀(j:Nat) t v,Tryz.f3.params[j]? =some t->args[j]? =some v->Value.okWide Tryz.prog W .any base t v:=hval0;have hW':=hW;obtain⟨p,q,hA0,hV,rfl,hfz,hnd⟩:=hW;have hA:DataW.TrodAll enc Tryz.prog W 0 (fun _=>true) true Tryz.f3.params.toList args.toList ds p:=hA0;rw[Tryz.params3]at hA hval;obtain⟨v0,vs0,d0,ds0,p0,q0,hargs,rfl,rfl,h0,r0⟩:=trodAll_cons hA;obtain⟨rfl,rfl,rfl⟩:=trodAll_nil r0;obtain rfl:args= #[v0]:=by cases args;simp_all
 obtain⟨rfl,rfl⟩:=trodVars_none hV;obtain⟨cs,rfl,-⟩:=okWide_struct Tryz.underlying24 (hval 0 24 v0 rfl rfl);obtain⟨fuel,hf⟩:=h0;obtain⟨t,hT,hc⟩:=X0 _ hf (abE _);obtain⟨A,c,hcs,nH⟩:=hT.five
 have hcs':cs= #[.int .i64 t.kind,.string t.text,.int .i64 t.at_,.int .i64 t.end_,.slice A t.kids.length c]:=by
  cases cs
  simpa [Value.cells] using hcs
 subst hcs';have hb6:Rows.uptoBulkAll ([d0]++[])<=1048576:=of_decide_eq_true hk;simp only[List.append_nil,Rows.uptoBulkAll]at hb6;refine(Li t A c W (by have:6*au t<=Rows.uptoBulk d0:=hc;omega) hT.cap nH).mono fun e W' ⟨he,hb⟩=>?_
 subst he;exact⟨_,rfl,aam Tryz.laidOut hW' rfl (by kernel_rfl) rfl (by kernel_rfl) Tryz.underlying4 hb⟩
theorem namesResolvesUpto_holds:Rows.NamesResolvesUptoSaid:=
 OpenClaim.holds_of_cond 3 Tryz.f3 rfl rfl rfl rfl rfl rfl rfl ⟨rfl,rfl,rfl,rfl,rfl⟩ rfl rfl rfl rfl rfl (by kernel_rfl) Tryz.func3 (by kernel_rfl)
  (of_decide_eq_true (by kernel_rfl)) (by unfold Func.isWrapper;first|(rw[if_pos (by decide+kernel)];kernel_rfl)|(rw[if_neg (by decide+kernel)];exact⟨rfl,rfl⟩))
  (fun os started H enc _ F=>KL os started H enc F)
end Go.Proofs.YtoepemlnlpamlaaGreat
