/- The law NamesBack holds for every text and every number: it returns true, and its arguments read as before. No condition. Part 42: BkL BkW Row HoldB. -/
import Derived.Test.YtoepemlnlpamlaaGreatRows
import Derived.ProofKit
import Derived.Below
import Derived.ChangeSame
import Derived.Lib.SmallJoins
import Derived.ChangeMaps5
import Derived.HandedShaped
import Derived.Shelf.Vars
import Derived.Test.YtoepemlnlpamlaaGreatBakk41
set_option maxRecDepth 100000
set_option maxHeartbeats 4000000
namespace Go.Proofs.YtoepemlnlpamlaaGreat
open Go.RowKit
mutual
theorem OJ(nm:ByteArray)(U:Nat->Bool):∀(t:aa) (m i:Nat),(iY (dU nm U t m))[i]? =(iY t)[i]?.map fun x=>if U (m+i)=true then nm else x
 | .node k x a z kids,m,i=>by
  rw[dU,xP,xP]
  cases i with
  | zero=>rfl
  | succ i=>
   rw[aaL,aaL,MI nm U kids (m+1) i];congr 1
   funext y
   rw[show m+1+i=m+(i+1) by omega]
theorem MI(nm:ByteArray)(U:Nat->Bool):∀(ts:List aa) (m i:Nat),(nA (dD nm U ts m))[i]? =(nA ts)[i]?.map fun x=>if U (m+i)=true then nm else x
 | [],m,i=>by simp[dD,nA,dh]
 | t::ts,m,i=>by
  have hc:∀(u:aa) (us:List aa),nA (u::us)=iY u++nA us:=fun u us=>by simp[nA,iY,dh]
  have hl:∀u:aa,(iY u).length=ah u:=fun u=>by rw[iY,List.length_map,qo]
  rw[dD,hc,hc];by_cases h:i<ah t
  ·rw[List.getElem?_append_left (by rw[hl,ql];exact h),List.getElem?_append_left (by rw[hl];exact h),OJ nm U t m i]
  ·rw[aaN (by rw[hl,ql];omega),aaN (by rw[hl];omega),hl,hl,ql,MI nm U ts (m+ah t) (i - ah t)]
   congr 1
   funext y
   rw[show m+ah t+(i - ah t)=m+i by omega]
end
theorem Uk{nm:ByteArray}{U:Nat->Bool}{t:aa}(hno:∀y∈dV t,y.text≠nm)(h:∃n y,(dV t)[n]? =some y/\U n=true):iY (dU nm U t 0)≠iY t:=fun e=>by
 obtain⟨n,y,hy,hU⟩:=h;have h1:=OJ nm U t 0 n;have h2:(iY t)[n]? =some y.text:=by rw[iY,List.getElem?_map,hy];rfl
 rw[e,h2,Option.map_some,Nat.zero_add,if_pos hU]at h1;exact hno y (aaP hy) (Option.some.inj h1)
structure LA (t T:aa) (ds ds':List Dc) (us UL:List Int) (j nd nu:Nat) (nm x0:ByteArray):Prop where
 ul:rZ (j:Int) us nu=UL
 hnd:ds.length=nd
 hnd':ds'.length=nd
 hnu:us.length=nu
 hj:j<nd
 t1:iJ t=true
 t2:(aR t).aO=[]
 t3:(aR t).ds=ds
 t4:(aR t).uses=us
 T1:iJ T=true
 T2:(aR T).aO=[]
 T3:(aR T).ds=ds'
 T4:(aR T).uses=us
 go:dU nm (si UL) t 0=T
 back:dU x0 (si UL) T 0=t
 name:cZ x0=true
 dc:∃dc,ds[j]? =some dc/\dc.name=x0
 ne:iY T≠iY t
theorem bkF_of{t:aa}{s:aP}{f:Nat}{dd:List Dg}{j nd nu:Nat}(hp:lL f s=some (t,dd))(hc:Lib.contains s Bq=false)(hv:iJ t=true)(hpr:(aR t).aO=[])(hnd:(aR t).ds.length=nd)(hnu:(aR t).uses.length=nu)(hj:j<nd):
 ∃T ds ds' us UL x0,LA t T ds ds' us UL j nd nu (aU Bq) x0:=by
 obtain⟨dc,M7⟩:∃dc,(aR t).ds[j]? =some dc:=⟨_,aaH (by omega)⟩
 have hno:=WY hc hp
 have hU:∀n,si (rZ (j:Int) (aR t).uses nu) n=decide ((aR t).uses[n]? =some (j:Int)):=fun n=>by
  have:=usN_mem (j:Int) (aR t).uses n;rw[hnu]at this;exact this
 obtain⟨h1,h2,h3,h4,h5,h6,-,h8⟩:=aaa hv hpr M7 (nm:=aU Bq) (by decide+kernel) hno hU;exact⟨_,_,_,_,_,_,⟨rfl,hnd,by rw[h4,hnd],hnu,hj,hv,hpr,rfl,rfl,h1,h2,rfl,h3,rfl,h5,h6,⟨dc,M7,rfl⟩,Uk hno h8⟩⟩
section
variable {t T:aa}{ds ds':List Dc}{us UL:List Int}{j nd nu:Nat}{nm x0:ByteArray}
theorem LA.cnt(h:LA t T ds ds' us UL j nd nu nm x0):ah T=ah t:=by rw[<- h.go,ql]
theorem LA.rename(h:LA t T ds ds' us UL j nd nu nm x0)(hnm:cZ nm=true)(A:Option Addr)(c:Nat)(w:World)(hN:ah t<=1000000)(hl:nu<=1000000)(hcap:t.kids.length<=c)(hk:aD w w.heap.size A 0 t.kids):
 Calls Tryz.prog 28 #[aX t A c,.int .i64 (j:Int),.string nm] w (QX T w):=by
 have e:dU nm (si (rZ (j:Int) us us.length)) t 0=T:=by rw[h.hnu,h.ul];exact h.go
 have:=KZ t A c j nm ds ds' us w hN hcap hk h.t1 h.t2 h.t3 h.t4 (by rw[h.hnd];exact h.hj) (by rw[h.hnu];exact hl) hnm (by rw[e];exact h.T1) (by rw[e];exact h.T2) (by rw[e];exact h.T3) (by rw[e];exact h.T4);rw[e]at this;exact this
theorem LA.again(h:LA t T ds ds' us UL j nd nu nm x0)(A:Option Addr)(c:Nat)(w:World)(hN:ah t<=1000000)(hl:nu<=1000000)(hcap:T.kids.length<=c)(hk:aD w w.heap.size A 0 T.kids):
 Calls Tryz.prog 28 #[aX T A c,.int .i64 (j:Int),.string x0] w (QX t w):=by
 have e:dU x0 (si (rZ (j:Int) us us.length)) T 0=t:=by rw[h.hnu,h.ul];exact h.back
 have:=KZ T A c j x0 ds' ds us w (by rw[h.cnt];exact hN) hcap hk h.T1 h.T2 h.T3 h.T4 (by rw[h.hnd'];exact h.hj) (by rw[h.hnu];exact hl) h.name (by rw[e];exact h.t1) (by rw[e];exact h.t2) (by rw[e];exact h.t3) (by rw[e];exact h.t4);rw[e]at this;exact this
theorem LA.resolve(h:LA t T ds ds' us UL j nd nu nm x0)(A:Option Addr)(c:Nat)(w:World)(hN:ah t<=1000000)(hcap:T.kids.length<=c)(hk:aD w w.heap.size A 0 T.kids):
 Calls Tryz.prog 12 #[aX T A c] w fun e w'=> ∃(dA:Option Addr) (dc:Nat) (uA:Option Addr) (uc:Nat) (Aw:Option Addr) (cw:Nat),e= .returned (.tuple #[.agg #[.slice dA nd dc,.slice uA nu uc],.slice Aw 0 cw,.int .i64 0])/\aL w' w.heap.size 49 4 (.slice dA nd dc) nd (ds'.flatMap kz)/\aL w' w.heap.size 3 1 (.slice uA nu uc) nu (iE us)/\Below w.heap.size w w':=
 Dm T A c w ds' us nd nu (by rw[h.cnt];exact hN) hcap hk h.T1 h.T2 h.T3 h.T4 h.hnd' h.hnu
end
theorem Wv{t:aa}(hv:iJ t=true):(aR t).uses.length=ah t:=by
 obtain⟨h2,ht⟩:=Cw hv;obtain⟨k,x,a,e,ks⟩:=t;have hk:k=2:=h2;subst hk;have hst:=yG x a e ks;unfold aR;rw[hst];show(List.map _ _).length=_;rw[List.length_map,(eU _ _ _ _ _ _ _).zF,List.length_replicate]
theorem RQ(s:ByteArray)(d m:Int)(w:World)(hm:w.cell? ⟨0,0,none⟩=some (.int .i64 m))(hw0:0<w.heap.size):Calls Tryz.prog 8 #[.string s,.int .i64 d] w fun e w'=>e= .returned (.bool true)/\Below w.heap.size w w':=by
 have HT:=kH (Wx s);have Jw:=kH X9;have HM:Hid (w.cell? ⟨0,0,none⟩=some (.int .i64 m)/\0<w.heap.size):=kH ⟨hm,hw0⟩;clear hm hw0;go_enter Tryz.func8,Tryz.ntmps8
 go_wp2_with fail
 refine(HT.out _).mono ?_;rintro e1 w1 ⟨t,A,c,ok,rfl,hcn,Km,hcap,hk,hb1⟩;have Vq:∀W,Below w1.heap.size w1 W->Calls Tryz.prog 12 #[aX t A c] W _:=fun W hb=>G7 t A c W hcn hcap (aD.mono hb.size _ _ _ (aD.below hb (aaD _) _ _ _ hk))
 obtain⟨k0,x0,a0,z0,n0,-,-,-,-,-,mP⟩:=gM t A c;rw[mP]at Vq⊢;obtain⟨nb,hnb⟩:∃q,w1.heap.size=q:=⟨_,rfl⟩
 obtain⟨W1,hW1⟩:∃W1,w1.alloc (.cells #[.int .i64 k0,.string x0,.int .i64 a0,.int .i64 z0,.slice A n0 c] 24)=W1:=⟨_,rfl⟩
 have hbW:Below w1.heap.size w1 W1:=by rw[<- hW1];exact af _ _
 have zV:ai W1 nb 24 #[.int .i64 k0,.string x0,.int .i64 a0,.int .i64 z0,.slice A n0 c]:=by rw[<- hW1,<- hnb];exact ai.new _ _ _
 have aM:=kH Vq;have Cq:Hid (ah t<=1000000/\t.kids.length<=c/\aD w1 w1.heap.size A 0 t.kids/\aX t A c= .agg #[.int .i64 k0,.string x0,.int .i64 a0,.int .i64 z0,.slice A n0 c]):=kH ⟨hcn,hcap,hk,mP⟩;have HFR:=kH Km;have HB1:=kH hb1;have tY:=kH hbW;have FC:=kH zV;obtain⟨⟨SE,n1,n2,n3,n4⟩,-⟩:=zV.five;have ln:=zV.lt;clear Vq hcn Km hcap hk hb1 hbW zV mP;go_wp2_with (first|rw[hW1]|rw[hnb])
 clear SE n1 n2 n3 n4 ln hW1 hnb;refine(aM.out _ tY.out).mono ?_;rintro e2 w2 ⟨dA,nd,dc,uA,nu,uc,Aw,nw,cw,er,rfl,⟨hR,-⟩,hb2⟩;obtain⟨rb,hrb⟩:∃q,w2.heap.size=q:=⟨_,rfl⟩
 obtain⟨R1,eD⟩:∃R1,w2.alloc (.cells #[.slice dA nd dc,.slice uA nu uc] 30)=R1:=⟨_,rfl⟩
 have hbR:Below w2.heap.size w2 R1:=by rw[<- eD];exact af _ _
 have hRR:ai R1 rb 30 #[.slice dA nd dc,.slice uA nu uc]:=by rw[<- eD,<- hrb];exact ai.new _ _ _
 have hNR:ai R1 nb 24 #[.int .i64 k0,.string x0,.int .i64 a0,.int .i64 z0,.slice A n0 c]:=(FC.out.below hb2 FC.out.lt).below hbR (FC.out.below hb2 FC.out.lt).lt;have Be:Hid (Below w1.heap.size w1 R1):=kH (tY.out.trans ((hb2.trans (hbR.mono hb2.size)).mono tY.out.size));have nL:Hid (Below w.heap.size w R1):=kH (HB1.out.trans (Be.out.mono HB1.out.size))
 have HDS:Hid (er=0->iJ t=true/\nd=(aR t).ds.length/\nw=(aR t).aO.length/\nu=(aR t).uses.length/\aL R1 W1.heap.size 49 4 (.slice dA nd dc) nd ((aR t).ds.flatMap kz)/\aL R1 W1.heap.size 3 1 (.slice uA nu uc) nu (iE (aR t).uses)):=kH fun h=>by
  obtain⟨h1,h2,h3,h4,h5,h6⟩:=hR h;exact⟨h1,h2,h3,h4,h5.below hbR (fun g hg=>(h5.lt g hg).2),h6.below hbR (fun g hg=>(h6.lt g hg).2)⟩
 have HRR:=kH hRR;have Ra:=kH hNR;have aV:Hid (∀w9,Below R1.heap.size R1 w9->Below w.heap.size w w9):=kH fun w9 hb=>nL.out.trans (hb.mono nL.out.size)
 have r0:=hRR.cell 0;have lr:=hRR.lt;clear hR hb2 hbR hRR hNR aM FC;by_cases hgo:ok=true/\er=0/\nw=0/\0<=d/\d<(nd:Int)
 case neg=>
  cases ok with
  | false=>
   clear hgo;go_wp2_with (first|rw[eD]|rw[hrb])
   refine(Jw.out _).mono ?_;rintro e9 w9 ⟨rfl,dx⟩;have sw:=kH (aV.out _ dx);clear dx;go_wp2_with fail
   go_ret
   exact⟨rfl,sw.out⟩
  | true=>
   by_cases he:er=0
   ·subst he
    by_cases hw:nw=0
    ·subst hw
     by_cases hd0:d<0
     ·have hd0b:decide (d<0)=true:=decide_eq_true hd0
      clear hgo;go_wp2_with (first|rw[eD]|rw[hrb])
      refine(Jw.out _).mono ?_;rintro e9 w9 ⟨rfl,dx⟩;have sw:=kH (aV.out _ dx);clear dx;go_wp2_with fail
      go_ret
      exact⟨rfl,sw.out⟩
     ·have hd1:(nd:Int)<=d:=by
       rcases Int.lt_or_le d (nd:Int) with h|h
       ·exact absurd ⟨rfl,rfl,rfl,by omega,h⟩ hgo
       ·exact h
      have hd0b:decide (d<0)=false:=decide_eq_false hd0;have hd1b:decide ((nd:Int)<=d)=true:=decide_eq_true hd1;clear hgo;go_wp2_with (first|rw[eD]|rw[hrb])
      refine(Jw.out _).mono ?_;rintro e9 w9 ⟨rfl,dx⟩;have sw:=kH (aV.out _ dx);clear dx;go_wp2_with fail
      go_ret
      exact⟨rfl,sw.out⟩
    ·have hwb:(0:Int)<(nw:Int):=by omega
     clear hgo;go_wp2_with (first|rw[eD]|rw[hrb])
     refine(Jw.out _).mono ?_;rintro e9 w9 ⟨rfl,dx⟩;have sw:=kH (aV.out _ dx);clear dx;go_wp2_with fail
     go_ret
     exact⟨rfl,sw.out⟩
   ·have heb:(er !=0)=true:=by simpa using he
    clear hgo;go_wp2_with (first|rw[eD]|rw[hrb])
    refine(Jw.out _).mono ?_;rintro e9 w9 ⟨rfl,dx⟩;have sw:=kH (aV.out _ dx);clear dx;go_wp2_with fail
    go_ret
    exact⟨rfl,sw.out⟩
 obtain⟨rfl,rfl,rfl,hd0,hd1⟩:=hgo;obtain⟨j,rfl⟩:∃j:Nat,d=(j:Int):=⟨d.toNat,by omega⟩
 have hj0:¬((j:Int)<0):=by omega
 have hj2:¬((nd:Int)<=(j:Int)):=by omega
 have hj0b:decide ((j:Int)<0)=false:=decide_eq_false hj0;have hj2b:decide ((nd:Int)<=(j:Int))=false:=decide_eq_false hj2;clear hd0;obtain⟨hsz,f,dd,u7⟩:=HFR.out rfl;have HDS1:=kH (HDS.out rfl);have hcon:∀W,Below R1.heap.size R1 W->Calls Tryz.prog 27 #[.string s,.string ⟨#[110,101,119,95,110,97,109,101]⟩] W fun e w'=>e= .returned (.bool (Lib.contains s.data.toList Bq))/\w'=W:=fun W hb=>Tryz.strings_Contains s ⟨#[110,101,119,95,110,97,109,101]⟩ m W (by omega) (((aV.out W hb).cell (p:=⟨0,0,none⟩) HM.out.2).trans HM.out.1)
 obtain⟨cb,hcb⟩:∃q,Lib.contains s.data.toList Bq=q:=⟨_,rfl⟩
 rw[hcb]at hcon;have HCON:=kH hcon;have HPAR:=kH u7;have Ec:=kH hcb;clear hcon hsz u7 hcb HDS HFR;go_wp2_with (first|rw[eD]|rw[hrb])
 clear eD hrb r0 lr;refine(HCON.out _ (Below.refl _ _)).mono ?_;rintro e3 w3 ⟨rfl,hw3⟩;have hw3':=hw3.symm;clear hw3;subst hw3'
 cases cb with
 | true=>
  go_wp2_with fail
  refine(Jw.out _).mono ?_;rintro e9 w9 ⟨rfl,dx⟩;have sw:=kH (aV.out _ dx);clear dx;go_wp2_with fail
  go_ret
  exact⟨rfl,sw.out⟩
 | false=>
  obtain⟨hv,hnd,hnw,hnu,XI,QB⟩:=HDS1.out;have hpr:(aR t).aO=[]:=List.eq_nil_of_length_eq_zero hnw.symm;obtain⟨T,ds,ds',us,UL,xn,hF⟩:=bkF_of HPAR.out Ec.out hv hpr hnd.symm hnu.symm (by omega:j<nd);have Zl:nu<=1000000:=by rw[hnu,Wv hv];exact Cq.out.1
  rw[hF.t3]at XI;rw[hF.t4]at QB;obtain⟨dcl,hdcl,hdn⟩:=hF.dc;obtain⟨db,nI,Kq,EU,M7⟩:=(XI.rowAt (cells:=kz) (l:=ds) rfl rfl (fun _ _=>rfl) hF.hnd) j dcl hdcl;subst Kq;have Xw:R1.cell? ⟨db,nI+j*4+1,none⟩=some (.string xn):=by rw[<- hdn];exact M7 1 _ rfl
  have hrn:∀W,Below w1.heap.size w1 W->Calls Tryz.prog 28 #[aX t A c,.int .i64 (j:Int),.string ⟨#[110,101,119,95,110,97,109,101]⟩] W (QX T W):=fun W hb=>hF.rename (by decide+kernel) A c W Cq.out.1 Zl Cq.out.2.1 (aD.mono hb.size _ _ _ (aD.below hb (aaD _) _ _ _ Cq.out.2.2.1))
  rw[Cq.out.2.2.2]at hrn;obtain⟨kT,xT,aT,zT,nT,hkT,hxT,haT,hzT,hnT,-⟩:=gM T none 0;have hnvT:∀A c,aX T A c= .agg #[.int .i64 kT,.string xT,.int .i64 aT,.int .i64 zT,.slice A nT c]:=fun A c=>by unfold aX;rw[hkT,hxT,haT,hzT,hnT]
  have Q7:=kH hrn;have VZ:=kH hnvT;have HF:=kH hF;have V6:=kH Zl;have Ha:=kH QB;have Ls:Hid (db<R1.heap.size/\R1.cell? ⟨db,nI+j*4+1,none⟩=some (.string xn)):=kH ⟨EU,Xw⟩;obtain⟨⟨SE,n1,n2,n3,n4⟩,-⟩:=Ra.out.five;have ln:=Ra.out.lt;clear hv hnd hnw hnu XI QB hpr hF Zl hdcl hdn EU M7 Xw hrn hkT hxT haT hzT hnT hnvT HDS1 HPAR Ec;go_wp2_with fail
  clear SE n1 n2 n3 n4 ln;refine(Q7.out R1 Be.out).mono ?_;rintro e4 w4 ⟨A4,c4,rfl,hK4,hb4⟩;rw[VZ.out];obtain⟨tb,htb⟩:∃q,w4.heap.size=q:=⟨_,rfl⟩
  obtain⟨X4,Cf⟩:∃W,w4.alloc (.cells #[.int .i64 kT,.string xT,.int .i64 aT,.int .i64 zT,.slice A4 nT c4] 24)=W:=⟨_,rfl⟩
  have ZE:Below w4.heap.size w4 X4:=by rw[<- Cf];exact af _ _
  have jC:ai X4 tb 24 #[.int .i64 kT,.string xT,.int .i64 aT,.int .i64 zT,.slice A4 nT c4]:=by rw[<- Cf,<- htb];exact ai.new _ _ _
  have hbr4:Below R1.heap.size R1 X4:=hb4.trans (ZE.mono hb4.size);obtain⟨Zr,hc4⟩:=(hK4.keeps (bO.of_below ZE)).Ua;have hrs:=HF.out.resolve A4 c4 X4 Cq.out.1 hc4 Zr;rw[VZ.out]at hrs;have TC:=kH hrs;have HKA4:Hid (aD X4 X4.heap.size A4 0 T.kids/\T.kids.length<=c4):=kH ⟨Zr,hc4⟩;have D7:=kH jC;have HBR4:=kH hbr4;obtain⟨⟨SE,n1,n2,n3,n4⟩,-⟩:=jC.five;have ln:=jC.lt;clear hK4 hb4 ZE jC hbr4 Zr hc4 hrs Q7;go_wp2_with (first|rw[Cf]|rw[htb])
  clear SE n1 n2 n3 n4 ln Cf htb;refine TC.out.mono ?_;rintro e5 w5 ⟨KM,AX,Gj,Gh,Aw2,cw2,rfl,-,I9,hb5⟩;obtain⟨fb,DK⟩:∃q,w5.heap.size=q:=⟨_,rfl⟩
  obtain⟨X5,vM⟩:∃W,w5.alloc (.cells #[.slice KM nd AX,.slice Gj nu Gh] 30)=W:=⟨_,rfl⟩
  have ZC:Below w5.heap.size w5 X5:=by rw[<- vM];exact af _ _
  have hF5:ai X5 fb 30 #[.slice KM nd AX,.slice Gj nu Gh]:=by rw[<- vM,<- DK];exact ai.new _ _ _
  have Ql:Below X4.heap.size X4 X5:=hb5.trans (ZC.mono hb5.size);have EW:Below R1.heap.size R1 X5:=HBR4.out.trans (Ql.mono HBR4.out.size);have gT:=D7.out.below Ql D7.out.lt;have DR:=Ra.out.below EW Ra.out.lt;have eT:=HRR.out.below EW HRR.out.lt;have uM:=Ha.out.below EW (fun g hg=>(Ha.out.lt g hg).2);have hO2:=I9.below ZC (fun g hg=>(I9.lt g hg).2);have vg:Below w1.heap.size w1 X5:=Be.out.trans (EW.mono Be.out.size);have ZX:aD X5 X5.heap.size A4 0 T.kids:=aD.mono Ql.size _ _ _ (aD.below Ql (aaD _) _ _ _ HKA4.out.1);have ZW:aD X5 X5.heap.size A 0 t.kids:=aD.mono vg.size _ _ _ (aD.below vg (aaD _) _ _ _ Cq.out.2.2.1);have hdn5:X5.cell? ⟨db,nI+j*4+1,none⟩=some (.string xn):=(EW.cell (p:=⟨db,_,none⟩) Ls.out.1).trans Ls.out.2
  have nH:∀W,Below X5.heap.size X5 W->W.cell? ⟨nb,0,none⟩=some (.int .i64 k0)/\W.cell? ⟨nb,1,none⟩=some (.string x0)/\W.cell? ⟨nb,2,none⟩=some (.int .i64 a0)/\W.cell? ⟨nb,3,none⟩=some (.int .i64 z0)/\W.cell? ⟨nb,4,none⟩=some (.slice A n0 c)/\W.cell? ⟨tb,0,none⟩=some (.int .i64 kT)/\W.cell? ⟨tb,1,none⟩=some (.string xT)/\W.cell? ⟨tb,2,none⟩=some (.int .i64 aT)/\W.cell? ⟨tb,3,none⟩=some (.int .i64 zT)/\W.cell? ⟨tb,4,none⟩=some (.slice A4 nT c4)/\W.cell? ⟨rb,0,none⟩=some (.slice (some ⟨db,nI,none⟩) nd dc)/\W.cell? ⟨rb,1,none⟩=some (.slice uA nu uc)/\W.cell? ⟨fb,0,none⟩=some (.slice KM nd AX)/\W.cell? ⟨fb,1,none⟩=some (.slice Gj nu Gh):=fun W hb=>by
   have h1:=DR.below hb DR.lt;have h2:=gT.below hb gT.lt;have h3:=eT.below hb eT.lt;have h4:=hF5.below hb hF5.lt;exact⟨h1.cell 0,h1.cell 1,h1.cell 2,h1.cell 3,h1.cell 4,h2.cell 0,h2.cell 1,h2.cell 2,h2.cell 3,h2.cell 4,h3.cell 0,h3.cell 1,h4.cell 0,h4.cell 1⟩
  have hsame:∀W,Below X5.heap.size X5 W->Calls Tryz.prog 29 #[aX T A4 c4,aX t A c] W _:=fun W hb=>YV (ah T) T t A4 c4 A c W (aaD _) (by rw[HF.out.cnt];exact Cq.out.1) (aD.mono hb.size _ _ _ (aD.below hb (aaD _) _ _ _ ZX)) (aD.mono hb.size _ _ _ (aD.below hb (aaD _) _ _ _ ZW))
  rw[VZ.out,Cq.out.2.2.2]at hsame;have huse1:∀W,Below X5.heap.size X5 W->Calls Tryz.prog 30 #[.agg #[.slice (some ⟨db,nI,none⟩) nd dc,.slice uA nu uc],.int .i64 (j:Int)] W _:=fun W hb=>Jj (some ⟨db,nI,none⟩) nd dc uA nu uc us (j:Int) W ((uM.below hb (fun g hg=>(uM.lt g hg).2)).rowAt (cells:=dM) (l:=us) rfl (qH _) (fun _ _=>rfl) HF.out.hnu) HF.out.hnu V6.out (by omega) hd1
  have huse2:∀W,Below X5.heap.size X5 W->Calls Tryz.prog 30 #[.agg #[.slice KM nd AX,.slice Gj nu Gh],.int .i64 (j:Int)] W _:=fun W hb=>Jj KM nd AX Gj nu Gh us (j:Int) W ((hO2.below hb (fun g hg=>(hO2.lt g hg).2)).rowAt (cells:=dM) (l:=us) rfl (qH _) (fun _ _=>rfl) HF.out.hnu) HF.out.hnu V6.out (by omega) hd1
  have Qp:∀W,Below X5.heap.size X5 W->Calls Tryz.prog 28 #[aX T A4 c4,.int .i64 (j:Int),.string xn] W (QX t W):=fun W hb=>HF.out.again A4 c4 W Cq.out.1 V6.out HKA4.out.2 (aD.mono hb.size _ _ _ (aD.below hb (aaD _) _ _ _ ZX))
  rw[VZ.out]at Qp;have eY:=kH nH;have HSAME:=kH hsame;have HUSE1:=kH huse1;have HUSE2:=kH huse2;have YD:=kH Qp;have aav:Hid (db<X5.heap.size/\X5.cell? ⟨db,nI+j*4+1,none⟩=some (.string xn)):=kH ⟨by have:=Ls.out.1;have:=EW.size;omega,hdn5⟩;have HKT:Hid (aD X5 X5.heap.size A 0 t.kids):=kH ZW;have iQ:Hid (Below w.heap.size w X5):=kH (nL.out.trans (EW.mono nL.out.size));have Ea:=kH DR;have HL5:Hid (nb<X5.heap.size/\tb<X5.heap.size/\rb<X5.heap.size/\fb<X5.heap.size):=kH ⟨DR.lt,gT.lt,eT.lt,hF5.lt⟩;have HX5:=kH vM;have Yy:=kH DK;clear I9 hb5 vM DK ZC hF5 Ql EW gT DR eT uM hO2 vg ZX ZW hdn5 nH hsame huse1 huse2 Qp TC;go_upto_region 7 with fail
  rw[HX5.out,Yy.out];clear HX5 Yy;go_cut [92] (fun s92 wx=>s92= .bool false/\Hid (Below X5.heap.size X5 wx))
  case first=>
   have Qh:Below X5.heap.size X5 X5.drew:=(Below.refl _ _).drew;have hS0:=eY.out _ Qh;refine zz (fun W=>W.cell? ⟨nb,0,none⟩=some (.int .i64 k0)/\W.cell? ⟨nb,1,none⟩=some (.string x0)/\W.cell? ⟨nb,2,none⟩=some (.int .i64 a0)/\W.cell? ⟨nb,3,none⟩=some (.int .i64 z0)/\W.cell? ⟨nb,4,none⟩=some (.slice A n0 c)/\W.cell? ⟨tb,0,none⟩=some (.int .i64 kT)/\W.cell? ⟨tb,1,none⟩=some (.string xT)/\W.cell? ⟨tb,2,none⟩=some (.int .i64 aT)/\W.cell? ⟨tb,3,none⟩=some (.int .i64 zT)/\W.cell? ⟨tb,4,none⟩=some (.slice A4 nT c4)/\W.cell? ⟨rb,0,none⟩=some (.slice (some ⟨db,nI,none⟩) nd dc)/\W.cell? ⟨rb,1,none⟩=some (.slice uA nu uc)/\W.cell? ⟨fb,0,none⟩=some (.slice KM nd AX)/\W.cell? ⟨fb,1,none⟩=some (.slice Gj nu Gh)) [] (.soft 0 (.soft 1 (.soft 2 (.soft 3 (.soft 4 (.soft 5 (.soft 6 (.soft 7 (.soft 8 (.soft 9 (.soft 10 (.soft 11 (.soft 12 (.soft 13 (.hard 14 (.soft 15 (.soft 16 (.soft 17 (.soft 18 (.soft 20 (.soft 21 (.hard 19 (.hard 22 (.hard 23 (.soft 24 (.soft 25 .done)))))))))))))))))))))))))) (by kernel_rfl) (by kernel_rfl) rfl (by kernel_rfl) ?_
   iterate 14
    refine qh (by simp only[aaM,aaL,aaK];rfl) (by rfl) hS0 (by intro w' hSw;obtain⟨hs1,hs2,hs3,hs4,hs5,hs6,hs7,iZ,uy,wD,sW,wC,PN,PK⟩:=hSw;go_simp;rfl) ?_;simp only[Act.put,sA,sZ,sC]
   refine jK (ma (by simp only[aaM,aaL,aaK];rfl) (by rfl) (by go_simp) ((HSAME.out _ Qh).mono ?_));rintro e6 w6 ⟨b6,rfl,DI,hb6⟩;have I5:Below X5.heap.size X5 w6:=Qh.trans (hb6.mono Qh.size);have qK:=eY.out _ I5
   have hf6:b6=false:=by
    cases b6 with
    | false=>rfl
    | true=>exact absurd (DI rfl) HF.out.ne
   subst hf6;refine⟨_,rfl,fun _=>qK,?_⟩;simp only[Act.put,sA,sZ,sC]
   iterate 6
    refine qh (by simp only[aaM,aaL,aaK];rfl) (by rfl) qK (by intro w' hSw;obtain⟨hs1,hs2,hs3,hs4,hs5,hs6,hs7,iZ,uy,wD,sW,wC,PN,PK⟩:=hSw;go_simp;rfl) ?_;simp only[Act.put,sA,sZ,sC]
   refine jK (ma (by simp only[aaM,aaL,aaK];rfl) (by rfl) (by go_simp) ((HUSE2.out _ I5).mono ?_));rintro e7 w7 ⟨UA1,un1,Em,rfl,Pz,VG,dE⟩;rw[HF.out.ul]at Pz VG;have Qk:Below X5.heap.size X5 w7:=I5.trans (dE.mono I5.size);have hS7:=eY.out _ Qk;refine⟨_,rfl,fun _=>hS7,?_⟩;simp only[Act.put,sA,sZ,sC];refine jK (ma (by simp only[aaM,aaL,aaK];rfl) (by rfl) (by go_simp) ((HUSE1.out _ Qk).mono ?_));rintro e8 w8 ⟨UA2,un2,uc3,rfl,Vh,ZT,dK⟩;rw[HF.out.ul]at Vh ZT;have VB:Below X5.heap.size X5 w8:=Qk.trans (dK.mono Qk.size);have hS8:=eY.out _ VB
   have hun:un1<=1000000:=by
    rw[<- Pz,<- HF.out.ul];exact aaE (LF _ _ _) V6.out
   have hints:=Jl UA1 UA2 un1 un2 Em uc3 UL UL w8 ((VG.below dK (fun g hg=>(VG.lt g hg).2)).rowAt (cells:=dM) (l:=UL) rfl (qH _) (fun _ _=>rfl) Pz) (ZT.rowAt (cells:=dM) (l:=UL) rfl (qH _) (fun _ _=>rfl) Vh) Pz Vh hun;rw[decide_eq_true (rfl:UL=UL)]at hints;refine⟨_,rfl,fun _=>hS8,?_⟩;simp only[Act.put,sA,sZ,sC];refine jK (ma (by simp only[aaM,aaL,aaK];rfl) (by rfl) (by go_simp) (hints.mono ?_));rintro e9 w9 ⟨rfl,dx⟩;have ZH:Below X5.heap.size X5 w9:=VB.trans (dx.mono VB.size);have xc:=eY.out _ ZH;refine⟨_,rfl,fun _=>xc,?_⟩;simp only[Act.put,sA,sZ,sC]
   iterate 2
    refine qh (by simp only[aaM,aaL,aaK];rfl) (by rfl) xc (by intro w' hSw;obtain⟨hs1,hs2,hs3,hs4,hs5,hs6,hs7,iZ,uy,wD,sW,wC,PN,PK⟩:=hSw;go_simp;rfl) ?_;simp only[Act.put,sA,sZ,sC]
   refine xx ?_;have HQ:=kH ZH;clear hS0 qK hS7 hS8 xc hints ZH dx VB dK Qk dE I5 hb6 Qh VG ZT DI Pz Vh hun;go_wp2_with fail
   go_meet
   exact⟨rfl,HQ⟩
  case rest=>
   obtain⟨rfl,HC⟩:=hcut;obtain⟨wo,rfl⟩:∃wo:World,wo=wc:=⟨_,rfl⟩
   have hbc:=HC.out;have hdnc:wo.cell? ⟨db,nI+j*4+1,none⟩=some (.string xn):=(hbc.cell (p:=⟨db,_,none⟩) aav.out.1).trans aav.out.2;have hlc:db<wo.heap.size:=by have:=aav.out.1;have:=hbc.size;omega
   have hKS2:∀W,Below wo.heap.size wo W->W.cell? ⟨tb,0,none⟩=some (.int .i64 kT)/\W.cell? ⟨tb,1,none⟩=some (.string xT)/\W.cell? ⟨tb,2,none⟩=some (.int .i64 aT)/\W.cell? ⟨tb,3,none⟩=some (.int .i64 zT)/\W.cell? ⟨tb,4,none⟩=some (.slice A4 nT c4)/\W.cell? ⟨rb,0,none⟩=some (.slice (some ⟨db,nI,none⟩) nd dc)/\W.cell? ⟨db,nI+j*4+1,none⟩=some (.string xn):=fun W hb=>by
    obtain⟨-,-,-,-,-,h6,h7,h8,h9,h10,h11,-,-,-⟩:=eY.out W (hbc.trans (hb.mono hbc.size));exact⟨h6,h7,h8,h9,h10,h11,(hb.cell (p:=⟨db,_,none⟩) hlc).trans hdnc⟩
   have hag:∀W,Below wo.heap.size wo W->Calls Tryz.prog 28 #[.agg #[.int .i64 kT,.string xT,.int .i64 aT,.int .i64 zT,.slice A4 nT c4],.int .i64 (j:Int),.string xn] W (QX t W):=fun W hb=>YD.out W (hbc.trans (hb.mono hbc.size))
   have hnvt:∀A' c',aX t A' c'= .agg #[.int .i64 k0,.string x0,.int .i64 a0,.int .i64 z0,.slice A' n0 c']:=fun A' c'=>by
    have h:=Cq.out.2.2.2;unfold aX at h⊢;simp only[Value.agg.injEq,Array.mk.injEq,List.cons.injEq,Value.int.injEq,Value.string.injEq,Value.slice.injEq,true_and,and_true]at h;obtain⟨h1,h2,h3,h4,h5⟩:=h;rw[h1,h2,h3,h4,h5]
   have Jt:=kH hKS2;have HAG:=kH hag;have aar:=kH hnvt;clear hbc hdnc hlc hKS2 hag hnvt YD HSAME HUSE1 HUSE2;go_upto_region 9 with fail
   go_cut [15,16] (fun s15 s16 wx=> ∃(g:Nat) (A9:Option Addr) (c9:Nat),s15= .pointer (some ⟨g,0,none⟩)/\s16= .int .i64 0/\Hid (wo.heap.size<=g/\ai wx g 24 #[.int .i64 k0,.string x0,.int .i64 a0,.int .i64 z0,.slice A9 n0 c9]/\aD wx wx.heap.size A9 0 t.kids/\Below wo.heap.size wo wx))
   case first=>
    have C9:Below wo.heap.size wo wo.drew:=(Below.refl _ _).drew;have hS0:=Jt.out _ C9;refine zz (fun W=>W.cell? ⟨tb,0,none⟩=some (.int .i64 kT)/\W.cell? ⟨tb,1,none⟩=some (.string xT)/\W.cell? ⟨tb,2,none⟩=some (.int .i64 aT)/\W.cell? ⟨tb,3,none⟩=some (.int .i64 zT)/\W.cell? ⟨tb,4,none⟩=some (.slice A4 nT c4)/\W.cell? ⟨rb,0,none⟩=some (.slice (some ⟨db,nI,none⟩) nd dc)/\W.cell? ⟨db,nI+j*4+1,none⟩=some (.string xn)) [] (.soft 0 (.soft 1 (.soft 2 (.soft 3 (.soft 4 (.soft 5 (.soft 6 (.soft 7 (.fork 8 (.soft 9 (.soft 10 (.soft 11 (.hard 12 (.hard 13 (.soft 14 .done)))))) 12 (.hard 8 (.soft 9 (.soft 10 (.soft 11 (.hard 13 (.soft 14 .done))))))))))))))) (by kernel_rfl) (by kernel_rfl) rfl (by kernel_rfl) ?_
    iterate 8
     refine qh (by simp only[aaM,aaL,aaK];rfl) (by rfl) hS0 (by intro w' hSw;obtain⟨hs1,hs2,hs3,hs4,hs5,hs6,hs7⟩:=hSw;go_simp;rfl) ?_;simp only[Act.put,sA,sZ,sC]
    refine Ef ?_ ?_
    ·refine ma (by simp only[aaM,aaL,aaK];rfl) (by rfl) (by go_simp) ((HAG.out _ C9).mono ?_)
     rintro e9 w9 ⟨A9,c9,rfl,XJ,dx⟩;rw[aar.out];have Qj:Below wo.heap.size wo w9:=C9.trans (dx.mono C9.size);have xc:=Jt.out _ Qj;refine⟨_,rfl,fun _=>xc,?_⟩;simp only[Act.put,sA,sZ,sC]
     iterate 3
      refine qh (by simp only[aaM,aaL,aaK];rfl) (by rfl) xc (by intro w' hSw;obtain⟨hs1,hs2,hs3,hs4,hs5,hs6,hs7⟩:=hSw;go_simp;rfl) ?_;simp only[Act.put,sA,sZ,sC]
     obtain⟨g,hg⟩:∃q,w9.heap.size=q:=⟨_,rfl⟩
     obtain⟨Y,hY⟩:∃q,w9.alloc (.cells #[.int .i64 0,.string ⟨#[]⟩,.int .i64 0,.int .i64 0,.slice none 0 0] 24)=q:=⟨_,rfl⟩
     have tC:Below w9.heap.size w9 Y:=by rw[<- hY];exact af _ _
     have wO:ai Y g 24 #[.int .i64 0,.string ⟨#[]⟩,.int .i64 0,.int .i64 0,.slice none 0 0]:=by rw[<- hY,<- hg];exact ai.new _ _ _
     have Da:Below wo.heap.size wo Y:=Qj.trans (tC.mono Qj.size);have hgl:wo.heap.size<=g:=by rw[<- hg];exact Qj.size
     refine jK (yw (v:=.pointer (some ⟨g,0,none⟩)) (w':=Y) (by simp only[aaM,aaL,aaK];rfl) (by rfl) (by first|(go_simp;done)|(go_simp;rw[hY,hg])|(go_simp;rw[hg];rfl)) (fun _=>Jt.out _ Da) ?_);simp only[Act.put,sA,sZ,sC];have uN:=wO;have EX:=Da;obtain⟨⟨m0,m1,m2,m3,m4⟩,f0,f1,f2,f3,f4⟩:=uN.five;have lm:=uN.lt;obtain⟨Z,hZ⟩:∃Z,bZ Y g (.int .i64 k0) (.string x0) (.int .i64 a0) (.int .i64 z0) (.slice A9 n0 c9)=Z:=⟨_,rfl⟩
     have uL:az (fun q=>q=g) Y Z:=by rw[<- hZ];exact qj
     have KA:ai Z g 24 #[.int .i64 k0,.string x0,.int .i64 a0,.int .i64 z0,.slice A9 n0 c9]:=by rw[<- hZ];exact ai.BZ uN _ _ _ _ _
     have IZ:Below wo.heap.size wo Z:=EX.trans (uL.toBelow EX.size (fun q hq=>by omega));have hSZ:=Jt.out _ IZ;unfold bZ at hZ;refine jK (wI (w':=Z) (by simp only[aaM,aaL,aaK];rfl) (by rfl) (by go_simp) (fun _=>hSZ) ?_);simp only[Act.put];clear m0 m1 m2 m3 m4 f0 f1 f2 f3 f4 lm hZ
     iterate 1
      refine qh (by simp only[aaM,aaL,aaK];rfl) (by rfl) hSZ (by intro w' hSw;obtain⟨hs1,hs2,hs3,hs4,hs5,hs6,hs7⟩:=hSw;go_simp;rfl) ?_;simp only[Act.put,sA,sZ,sC]
     refine xx ?_;have hkz:=(XJ.keeps (bO.of_below (tC.trans (uL.toBelow tC.size (fun q hq=>by omega))))).Ua.1;have HQ:Hid (wo.heap.size<=g/\ai Z g 24 #[.int .i64 k0,.string x0,.int .i64 a0,.int .i64 z0,.slice A9 n0 c9]/\aD Z Z.heap.size A9 0 t.kids/\Below wo.heap.size wo Z):=kH ⟨hgl,KA,hkz,IZ⟩;clear hS0 xc hSZ XJ dx tC wO Da hgl uN EX uL KA IZ hkz C9 Qj;go_wp2_with fail
     go_meet
     exact⟨g,A9,c9,rfl,rfl,HQ⟩
    ·obtain⟨g,hg⟩:∃q,wo.drew.heap.size=q:=⟨_,rfl⟩
     obtain⟨Y,hY⟩:∃q,wo.drew.alloc (.cells #[.int .i64 0,.string ⟨#[]⟩,.int .i64 0,.int .i64 0,.slice none 0 0] 24)=q:=⟨_,rfl⟩
     have tC:Below wo.drew.heap.size wo.drew Y:=by rw[<- hY];exact af _ _
     have wO:ai Y g 24 #[.int .i64 0,.string ⟨#[]⟩,.int .i64 0,.int .i64 0,.slice none 0 0]:=by rw[<- hY,<- hg];exact ai.new _ _ _
     have Da:Below wo.heap.size wo Y:=C9.trans (tC.mono C9.size);have hgl:wo.heap.size<=g:=by rw[<- hg];exact C9.size
     refine(yw (v:=.pointer (some ⟨g,0,none⟩)) (w':=Y) (by simp only[aaM,aaL,aaK];rfl) (by rfl) (by first|(go_simp;done)|(go_simp;rw[hY,hg])|(go_simp;rw[hg];rfl)) (fun _=>Jt.out _ Da) ?_);simp only[Act.put,sA,sZ,sC];refine jK (ma (by simp only[aaM,aaL,aaK];rfl) (by rfl) (by go_simp) ((HAG.out _ Da).mono ?_));rintro e9 w9 ⟨A9,c9,rfl,XJ,dx⟩;rw[aar.out];have EX:Below wo.heap.size wo w9:=Da.trans (dx.mono Da.size);have xc:=Jt.out _ EX;have uN:=wO.below dx wO.lt;refine⟨_,rfl,fun _=>xc,?_⟩;simp only[Act.put,sA,sZ,sC]
     iterate 3
      refine qh (by simp only[aaM,aaL,aaK];rfl) (by rfl) xc (by intro w' hSw;obtain⟨hs1,hs2,hs3,hs4,hs5,hs6,hs7⟩:=hSw;go_simp;rfl) ?_;simp only[Act.put,sA,sZ,sC]
     obtain⟨⟨m0,m1,m2,m3,m4⟩,f0,f1,f2,f3,f4⟩:=uN.five;have lm:=uN.lt;obtain⟨Z,hZ⟩:∃Z,bZ w9 g (.int .i64 k0) (.string x0) (.int .i64 a0) (.int .i64 z0) (.slice A9 n0 c9)=Z:=⟨_,rfl⟩
     have uL:az (fun q=>q=g) w9 Z:=by rw[<- hZ];exact qj
     have KA:ai Z g 24 #[.int .i64 k0,.string x0,.int .i64 a0,.int .i64 z0,.slice A9 n0 c9]:=by rw[<- hZ];exact ai.BZ uN _ _ _ _ _
     have IZ:Below wo.heap.size wo Z:=EX.trans (uL.toBelow EX.size (fun q hq=>by omega));have hSZ:=Jt.out _ IZ;unfold bZ at hZ;refine jK (wI (w':=Z) (by simp only[aaM,aaL,aaK];rfl) (by rfl) (by go_simp) (fun _=>hSZ) ?_);simp only[Act.put];clear m0 m1 m2 m3 m4 f0 f1 f2 f3 f4 lm hZ
     iterate 1
      refine qh (by simp only[aaM,aaL,aaK];rfl) (by rfl) hSZ (by intro w' hSw;obtain⟨hs1,hs2,hs3,hs4,hs5,hs6,hs7⟩:=hSw;go_simp;rfl) ?_;simp only[Act.put,sA,sZ,sC]
     refine xx ?_;have hkz:=(XJ.keeps (w':=Z) (fun q cs hP hc=>uL.block q (aaG.1 hc).1 (fun e=>by have hp:Y.heap.size<=q:=hP;have:=wO.lt;omega))).Ua.1;have HQ:Hid (wo.heap.size<=g/\ai Z g 24 #[.int .i64 k0,.string x0,.int .i64 a0,.int .i64 z0,.slice A9 n0 c9]/\aD Z Z.heap.size A9 0 t.kids/\Below wo.heap.size wo Z):=kH ⟨hgl,KA,hkz,IZ⟩;clear hS0 xc hSZ XJ dx tC wO Da hgl uN EX uL KA IZ hkz C9;go_wp2_with fail
     go_meet
     exact⟨g,A9,c9,rfl,rfl,HQ⟩
   case rest=>
    obtain⟨g,A9,c9,rfl,rfl,HX⟩:=hcut;obtain⟨hgl,KA,hkz,hbz⟩:=HX.out;have hb5:Below X5.heap.size X5 wc:=HC.out.trans (hbz.mono HC.out.size);have hNc:ai wc nb 24 #[.int .i64 k0,.string x0,.int .i64 a0,.int .i64 z0,.slice A n0 c]:=Ea.out.below hb5 HL5.out.1;have hka:aD wc wc.heap.size A 0 t.kids:=aD.mono hb5.size _ _ _ (aD.below hb5 (aaD _) _ _ _ HKT.out);have heq:=XW (ah t) t t A9 c9 A c wc (aaD _) Cq.out.1 rfl hkz hka;rw[aar.out,Cq.out.2.2.2]at heq;obtain⟨⟨p0,p1,p2,p3,p4⟩,-⟩:=KA.five;have lp:=KA.lt;obtain⟨⟨q0,q1,q2,q3,q4⟩,-⟩:=hNc.five;have lq:=hNc.lt;have HEQ:=kH heq;have YC:Hid (Below w.heap.size w wc):=kH (iQ.out.trans (hb5.mono iQ.out.size));clear hgl KA hkz hbz hb5 hNc hka heq;go_wp2_with fail
    refine HEQ.out.mono ?_;rintro e9 w9 ⟨b9,rfl,hb9t,dx⟩;have hbt:b9=true:=hb9t;subst hbt;have sw:Hid (Below w.heap.size w w9):=kH (YC.out.trans (dx.mono YC.out.size));clear hb9t dx p0 p1 p2 p3 p4 lp q0 q1 q2 q3 q4 lq;go_wp2_with fail
    refine(Jw.out _).mono ?_;rintro e9 bf ⟨rfl,ji⟩;have aax:Hid (Below w.heap.size w bf):=kH (sw.out.trans (ji.mono sw.out.size));clear ji;go_wp2_with fail
    go_ret
    exact⟨rfl,aax.out⟩
open Go.ChangeShapes Go.WideShapes Go.ChangeAt
theorem Tryz.own:ownKnob Tryz.prog.godebug=none:=by kernel_rfl
theorem Tryz.laidOut:laidOutB Tryz.prog=true:=by kernel_rfl
section
variable {H:Type}{enc:TypeId×Value->H}{P:Program}
theorem NJ(hl:laidOutB P=true){W W':World}(hb:Below W.heap.size W W')(sp:Nat->Bool):∀{ts:List TypeId}{vs:List Value}{ds:List (DataW H)}{ps:List MemPlace},
 ts.all (fun t=>P.readableRec t&&decide (t<P.types.size))=true->DataW.TrodAll enc P W 0 (fun _=>true) true ts vs ds ps->(∀x∈ps,x.block<W.heap.size)->(∀x∈ps,sp x.block=true) ->
 DataW.TrodAll enc P W' 0 sp true ts vs ds ps:=by
 intro ts
 induction ts with
 | nil=>
  intro vs ds ps _ h _ _;cases vs<;>cases ds<;>simp[DataW.TrodAll]at h⊢
  exact h
 | cons t ts ih=>
  intro vs ds ps hr h hlt hsp;obtain⟨v,vs',d,ds',p,q,rfl,rfl,rfl,hd,hrest⟩:=trodAll_cons h;rw[List.all_cons,aaF,aaF]at hr;refine⟨p,q,?_,ih hr.2 hrest (fun x hx=>hlt x (by simp[hx])) (fun x hx=>hsp x (by simp[hx])),rfl⟩;exact WideElems.Trod_stays hl hr.1.1 (of_decide_eq_true hr.1.2) hd (fun x hx=>hb.same (hlt x (by simp[hx]))) (fun x hx=>hsp x (by simp[hx]))
theorem Y9(hl:laidOutB P=true){f:Func}{s:ChangeSpec}{apart fresh handsOn again:Bool}{W W':World}{args:Array Value}{ds gs:List (DataW H)}{before:List MemPlace}{tb:TypeId}
 (hW:DataW.Whole enc P f.params.toList s.vars apart W args.toList ds gs before) (hv:s.vars=[])
 (hread:f.params.toList.all (fun t=>P.readableRec t&&decide (t<P.types.size))=true)
 (hfn:s.fn H (ds++gs)= { results:=[.lit (.bool true)],args:=ds }) (hr:f.resultTypes= #[tb]) (htb:P.underlying tb=some .bool) (hb:Below W.heap.size W W'):
 s.post enc P f apart fresh handsOn again W args (.bool true) W':=by
 have hlt:∀p∈before,p.block<W.heap.size:=fun p hp=>hW.lt p hp
 have hW0:=hW;obtain⟨p,q,hA,hV,hpq,hz,hn⟩:=hW;rw[hv]at hV;obtain⟨hgs,hq⟩:=trodVars_none hV;subst hq;rw[List.append_nil]at hpq;subst hpq
 have hres:∀(b:Nat) (sp:Nat->Bool) (hd:Bool),DataW.TrodAll enc P W' b sp hd f.resultTypes.toList ((Value.bool true).resultList f.resultTypes.size) (s.fn H (ds++gs)).results []:=fun b sp hd=>by
  rw[hfn,hr];exact trodAll_mk1 (shut_bool htb true)
 have hargs:∀sp:Nat->Bool,(∀x∈before,sp x.block=true)->DataW.TrodAll enc P W' 0 sp true f.params.toList args.toList (s.fn H (ds++gs)).args before:=fun sp hsp=>by
  rw[hfn];exact NJ hl hb sp hread hA hlt hsp
 have hvars:∀sp:Nat->Bool,DataW.TrodVars enc P W' sp s.vars (s.fn H (ds++gs)).vars []:=fun sp=>by
  rw[hfn,hv];rfl
 have hold:∀x∈before,(fun b=>decide (b<W.heap.size)) x.block=true:=fun x hx=>by simpa using hlt x hx
 refine⟨ds,gs,before,[],before,[],hW0,hres _ _ _,hargs _ hold,hvars _,World.keptBut_mono (fun x hx=>⟨hx,Or.inr (by simpa using hx)⟩) (hb.frame (· ∈before)),fun _=>?_⟩;refine⟨ok_one hr rfl (okWide_bool_mk htb true),_,_,([]++before)++[],⟨[]++before,[],trodAll_append (hargs _ (fun _ _=>rfl)) (hres _ _ _),hvars _,rfl,?_,?_⟩,?_⟩
 ·intro b off hp
  have hin:MemPlace.cell b off∈before:=by simpa using hp
  rw[hb.frozen (hlt _ hin)];exact hz b off hin
 ·intro ha
  simpa using hn ha
 ·intro x hx _
  simpa using hx
end
open Go.Joins Go.ChangeMaps
theorem R8(os:Os)(started:os.Started)(H:Type)(enc:TypeId×Value->H):
 ReturnsInHanded {} Tryz.checked os 8 .any (Rows.namesBackSpec.pre6 enc Tryz.prog Tryz.f8 Rows.namesBackRow.domain false) (Rows.namesBackSpec.post enc Tryz.prog Tryz.f8 false true false false):=by
 refine returnsInHanded_of_change_shaped (C:=Tryz.checked) Tryz.own started (by kernel_rfl) Tryz.func8
  (ChangeSpec.witness6 (enc:=enc) (C:=Tryz.checked) false ⟨#[],#[.string ⟨#[]⟩,.int .i64 0],[]⟩ 8 (by kernel_rfl) (by kernel_rfl) (by kernel_rfl) (by kernel_rfl)) ?_
 intro W base args ds gs before hval0 hW hcnd _ hsh _;have hval:∀(j:Nat) t v,Tryz.f8.params[j]? =some t->args[j]? =some v->Value.okWide Tryz.prog W .any base t v:=hval0;have hW':=hW;obtain⟨p,q,hA0,hV,rfl,hfz,hnd⟩:=hW;have hA:DataW.TrodAll enc Tryz.prog W 0 (fun _=>true) true Tryz.f8.params.toList args.toList ds p:=hA0;rw[Tryz.params8]at hA hval;obtain⟨v0,v1,d0,d1,p0,p1,rfl,rfl,rfl,h0,h1⟩:=trodAll_two hA;obtain⟨rfl,rfl⟩:=trodVars_none hV;obtain⟨s,rfl,-,rfl,-⟩:=open_string Tryz.underlying9 (hval 0 9 v0 rfl rfl) h0;obtain⟨num,rfl,-,rfl,-⟩:=open_int Tryz.underlying3 (hval 1 3 v1 rfl rfl) h1;obtain⟨m,hm⟩:=cell_of_shapedOpen_int (P:=Tryz.prog) (w:=W) (g:=0) (t:=3) (zero:=#[.int .i64 0]) (k:=.i64) hsh (of_decide_eq_true (by kernel_rfl)) (by kernel_rfl) rfl (by kernel_rfl) (by kernel_rfl) Tryz.underlying3
 have hlt:0<W.heap.size:=by
  rcases Nat.eq_zero_or_pos W.heap.size with h|h
  ·exfalso
   unfold World.cell? at hm;rw[Array.getElem?_eq_none (by simp only[h];exact aaD _)]at hm;cases hm
  ·exact h
 refine(RQ s num m W hm hlt).mono fun e W' ⟨he,hb⟩=>?_
 subst he;exact⟨_,rfl,Y9 Tryz.laidOut hW' rfl (by kernel_rfl) rfl (by kernel_rfl) Tryz.underlying4 hb⟩
theorem namesBack_holds:Rows.NamesBackSaid:=
 OpenClaim.holds_of_wide 8 Tryz.f8 rfl rfl rfl rfl rfl rfl rfl ⟨rfl,rfl,rfl,rfl,rfl⟩ rfl rfl rfl rfl rfl (by kernel_rfl) Tryz.func8 (by kernel_rfl)
  (of_decide_eq_true (by kernel_rfl)) (by unfold Func.isWrapper;first|(rw[if_pos (by decide+kernel)];kernel_rfl)|(rw[if_neg (by decide+kernel)];exact⟨rfl,rfl⟩))
  (fun os started H enc _=>R8 os started H enc)
end Go.Proofs.YtoepemlnlpamlaaGreat
