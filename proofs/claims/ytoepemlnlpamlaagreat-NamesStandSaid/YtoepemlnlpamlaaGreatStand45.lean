/- The law NamesStand holds: for every text and every number the law returns true, and its arguments read as before. No condition. Part 45: Repl HeldF. -/
import Derived.Test.YtoepemlnlpamlaaGreatStand13
import Derived.Test.YtoepemlnlpamlaaGreatStand44
set_option maxRecDepth 100000
set_option maxHeartbeats 4000000
namespace Go.Proofs.YtoepemlnlpamlaaGreat
open Go.RowKit
theorem Zr(k:Int)(w:World):Calls Tryz.prog 50 #[.int .i64 k] w fun e w'=> ∃b,e= .returned (.bool b)/\Below w.heap.size w w':=by
 by_cases h2:k=2
 ·subst h2
  go_enter Tryz.func50,Tryz.ntmps50
  go_wp2_with fail
  go_ret
  exact⟨_,rfl,by(repeat (first|exact Below.refl _ _|assumption|refine Below.trans ?_ (Below.mono (by assumption) (by first|omega|(simp;done)|(simp;omega)))|refine Below.alloc ?_ (by first|omega|(simp;done)|(simp;omega)) _|refine Below.setCell ?_ (by first|omega|(simp;done)|(simp;omega)) _|refine Below.drew ?_|refine bq ?_ _))⟩
 by_cases h3:k=3
 ·subst h3
  go_enter Tryz.func50,Tryz.ntmps50
  go_wp2_with fail
  go_ret
  exact⟨_,rfl,by(repeat (first|exact Below.refl _ _|assumption|refine Below.trans ?_ (Below.mono (by assumption) (by first|omega|(simp;done)|(simp;omega)))|refine Below.alloc ?_ (by first|omega|(simp;done)|(simp;omega)) _|refine Below.setCell ?_ (by first|omega|(simp;done)|(simp;omega)) _|refine Below.drew ?_|refine bq ?_ _))⟩
 by_cases h6:k=6
 ·subst h6
  go_enter Tryz.func50,Tryz.ntmps50
  go_wp2_with fail
  go_ret
  exact⟨_,rfl,by(repeat (first|exact Below.refl _ _|assumption|refine Below.trans ?_ (Below.mono (by assumption) (by first|omega|(simp;done)|(simp;omega)))|refine Below.alloc ?_ (by first|omega|(simp;done)|(simp;omega)) _|refine Below.setCell ?_ (by first|omega|(simp;done)|(simp;omega)) _|refine Below.drew ?_|refine bq ?_ _))⟩
 by_cases h11:k=11
 ·subst h11
  go_enter Tryz.func50,Tryz.ntmps50
  go_wp2_with fail
  go_ret
  exact⟨_,rfl,by(repeat (first|exact Below.refl _ _|assumption|refine Below.trans ?_ (Below.mono (by assumption) (by first|omega|(simp;done)|(simp;omega)))|refine Below.alloc ?_ (by first|omega|(simp;done)|(simp;omega)) _|refine Below.setCell ?_ (by first|omega|(simp;done)|(simp;omega)) _|refine Below.drew ?_|refine bq ?_ _))⟩
 by_cases h19:k=19
 ·subst h19
  go_enter Tryz.func50,Tryz.ntmps50
  go_wp2_with fail
  go_ret
  exact⟨_,rfl,by(repeat (first|exact Below.refl _ _|assumption|refine Below.trans ?_ (Below.mono (by assumption) (by first|omega|(simp;done)|(simp;omega)))|refine Below.alloc ?_ (by first|omega|(simp;done)|(simp;omega)) _|refine Below.setCell ?_ (by first|omega|(simp;done)|(simp;omega)) _|refine Below.drew ?_|refine bq ?_ _))⟩
 by_cases h26:k=26
 ·subst h26
  go_enter Tryz.func50,Tryz.ntmps50
  go_wp2_with fail
  go_ret
  exact⟨_,rfl,by(repeat (first|exact Below.refl _ _|assumption|refine Below.trans ?_ (Below.mono (by assumption) (by first|omega|(simp;done)|(simp;omega)))|refine Below.alloc ?_ (by first|omega|(simp;done)|(simp;omega)) _|refine Below.setCell ?_ (by first|omega|(simp;done)|(simp;omega)) _|refine Below.drew ?_|refine bq ?_ _))⟩
 ·go_enter Tryz.func50,Tryz.ntmps50
  go_wp2_with fail
  go_ret
  exact⟨_,rfl,by(repeat (first|exact Below.refl _ _|assumption|refine Below.trans ?_ (Below.mono (by assumption) (by first|omega|(simp;done)|(simp;omega)))|refine Below.alloc ?_ (by first|omega|(simp;done)|(simp;omega)) _|refine Below.setCell ?_ (by first|omega|(simp;done)|(simp;omega)) _|refine Below.drew ?_|refine bq ?_ _))⟩
theorem Rv(R:Nat->Prop)(y:aa)(LA:Option Addr)(lc i:Nat)(p:List Nat)(t u:aa)(A:Option Addr)(c:Nat)(PA:Option Addr)(pc:Nat)(w:World)(hct:ai t<=1000000)(hcap:t.kids.length<=c)(hk:aK w w.heap.size A 0 t.kids)(hpl:p.length<=1000000)(hpc:p.length<=pc)(hrow:df 1 nG w w.heap.size PA p)(hf:dX t p=some u)(hi:i<u.kids.length)(hub:u.kids.length<=1000000)(hB0:∀g,R g->g<w.heap.size)(hkl:dO w R LA 0 [y]):
 Calls Tryz.prog 25 #[bB t A c,.slice PA p.length pc,.int .i64 (i:Int),.int .i64 ((i+1:Nat):Int),.slice LA 1 lc] w fun e w'=> ∃A' c',e= .returned (.tuple #[bB (cZ t p i (i+1) [y]) A' c',.int .i64 0])/\(cZ t p i (i+1) [y]).kids.length<=c'/\dO w' (fun g=>w.heap.size<=g\/R g) A' 0 (cZ t p i (i+1) [y]).kids/\Below w.heap.size w w':=by
 obtain⟨k,x,a,z,n,hk0,hx0,ha0,hzz,hn0,ji⟩:=gD t A c;obtain⟨W2,hW2⟩:∃W2,(w.alloc (.cells #[.int .i64 k,.string x,.int .i64 a,.int .i64 z,.slice A n c] 24)).alloc (.cells #[.int .i64 0,.string ⟨#[]⟩,.int .i64 0,.int .i64 0,.slice none 0 0] 24)=W2:=⟨_,rfl⟩
 have hb2:Below w.heap.size w W2:=by rw[<- hW2];exact((Below.refl _ w).alloc (aab _) _).alloc (by simp) _
 have rf:ak W2 w.heap.size 24 #[.int .i64 k,.string x,.int .i64 a,.int .i64 z,.slice A n c]:=by rw[<- hW2];exact(ak.new w _ _).alloc _
 have hR2:ak W2 (w.heap.size+1) 24 #[.int .i64 0,.string ⟨#[]⟩,.int .i64 0,.int .i64 0,.slice none 0 0]:=by
  rw[<- hW2];have:=ak.new (w.alloc (.cells #[.int .i64 k,.string x,.int .i64 a,.int .i64 z,.slice A n c] 24)) 24 #[.int .i64 0,.string ⟨#[]⟩,.int .i64 0,.int .i64 0,.slice none 0 0];simpa using this
 have hget:=Td t u A c p PA pc W2 hcap hpl (aK.mono hb2.size _ _ _ (aK.below hb2 (aab _) _ _ _ hk)) ((hrow.below hb2 (aab _)).mono hb2.size) hf;have U3:∀W,Below w.heap.size w W->Calls Tryz.prog 51 #[bB t A c,.slice PA p.length pc,.int .i64 (i:Int),.int .i64 ((i+1:Nat):Int),.slice LA 1 lc] W _:=fun W hb=>Vd R [y] LA lc i (i+1) (by omega) (by simp) (p.length+1) p t u A c PA pc W (by omega) hct hcap (aK.mono hb.size _ _ _ (aK.below hb (aab _) _ _ _ hk)) hpl hpc ((hrow.below hb (aab _)).mono hb.size) hf (by omega) (fun g hg=>Nat.lt_of_lt_of_le (hB0 g hg) hb.size) (dO.keep (gJ.below hb hb.size (fun g hg=>hB0 g hg)) _ _ _ hkl)
 rw[ji]at hget U3⊢;obtain⟨pn,hpn⟩:∃q,p.length=q:=⟨_,rfl⟩
 rw[hpn]at hget U3 hpl⊢;have QQ:=kH hget;have HCHG:=kH U3;have HB2:=kH hb2;have vS:=kH rf;have HR2:=kH hR2;have HB0:=kH hB0;have mD:Hid (t.kind=k/\t.text=x/\t.at_=a/\t.end_=z):=kH ⟨hk0,hx0,ha0,hzz⟩;obtain⟨⟨b0,b1,b2,b3,b4⟩,-⟩:=rf.five;have lb:=rf.lt;have HIU:=kH hi;clear hk hget U3 hb2 rf hR2 hk0 hx0 ha0 hzz hn0 ji hrow hf hkl hpn hct hcap hpc hi hB0;go_enter Tryz.func25,Tryz.ntmps25
 go_wp2_with (rw[hW2])
 refine QQ.out.mono ?_;rintro e w3 ⟨Au,cu,rfl,GY,qa,hb3⟩;obtain⟨ku,xu,au,zu,nu,Cr,hxu,Ct,hzu,hnu,hnvu⟩:=gD u Au cu;rw[hnvu];obtain⟨xb,hxb⟩:∃q,w3.heap.size=q:=⟨_,rfl⟩
 obtain⟨X1,hX1⟩:∃X1,w3.alloc (.cells #[.int .i64 ku,.string xu,.int .i64 au,.int .i64 zu,.slice Au nu cu] 24)=X1:=⟨_,rfl⟩
 have hbX:Below w3.heap.size w3 X1:=by rw[<- hX1];exact ae _ _
 have Kk:ak X1 xb 24 #[.int .i64 ku,.string xu,.int .i64 au,.int .i64 zu,.slice Au nu cu]:=by rw[<- hX1,<- hxb];exact ak.new _ _ _
 have WO:=(vS.out.below hb3 vS.out.lt).below hbX (vS.out.below hb3 vS.out.lt).lt;have Km:=(HR2.out.below hb3 HR2.out.lt).below hbX (HR2.out.below hb3 HR2.out.lt).lt;have hb2X:Below W2.heap.size W2 X1:=hb3.trans (hbX.mono hb3.size);have hbw:Below w.heap.size w X1:=HB2.out.trans (hb2X.mono HB2.out.size);have Sq:=kH Kk;have aZ:=kH WO;have ig:=kH Km;have oD:=kH hbw;have HXB:Hid (W2.heap.size<=xb):=kH (by rw[<- hxb];exact hb3.size);obtain⟨⟨q0,q1,q2,q3,q4⟩,-⟩:=Kk.five;have lq:=Kk.lt;have hin:i<nu:=by rw[<- hnu];exact HIU.out
 have hnub:nu<=1000000:=by rw[<- hnu];exact hub
 have h01:¬((i:Int)<0):=by omega
 have h02:¬(((i+1:Nat):Int)<(i:Int)):=by omega
 have h02':¬((i:Int)+1<(i:Int)):=by omega
 have h03:¬((nu:Int)<((i+1:Nat):Int)):=by omega
 have h03':¬((nu:Int)<(i:Int)+1):=by omega
 have hw1:IntKind.i64.wrap (((i+1:Nat):Int) - (i:Int))=1:=by rw[IntWalk.i64_in _ (by omega)];omega
 have hw1':IntKind.i64.wrap ((i:Int)+1 - (i:Int))=1:=by rw[IntWalk.i64_in _ (by omega)];omega
 clear GY qa Cr hxu Ct hzu hnu hnvu hbX Kk WO Km hb2X hbw b0 b1 b2 b3 b4 lb hb3 QQ hub;go_wp2_with (first|rw[hX1]|rw[hxb])
 refine(Zr ku X1).mono ?_;rintro e5 w5 ⟨bl,rfl,hb5⟩;have Fs:=aZ.out.below hb5 aZ.out.lt;have fK:=ig.out.below hb5 ig.out.lt;have hb5w:Below w.heap.size w w5:=oD.out.trans (hb5.mono oD.out.size);obtain⟨⟨m0,m1,m2,m3,m4⟩,-⟩:=Fs.five;have lm:=Fs.lt;have SC:=kH fK;have fT:=kH hb5w;clear q0 q1 q2 q3 q4 lq Fs fK hb5w hb5 hX1 hW2
 cases bl with
 | true=>
  go_wp2_with fail
  refine(HCHG.out _ fT.out).mono ?_;rintro e6 w6 ⟨A6,c6,rfl,hc6,yD,hb6⟩;obtain⟨n6,uD⟩:∃q,(cZ t p i (i+1) [y]).kids.length=q:=⟨_,rfl⟩
  obtain⟨hhk,hhx,ME,hhz⟩:=tY t p i (i+1) [y]
  have GN:bB (cZ t p i (i+1) [y]) A6 c6= .agg #[.int .i64 k,.string x,.int .i64 a,.int .i64 z,.slice A6 n6 c6]:=by
   unfold bB;rw[hhk,hhx,ME,hhz,uD,mD.out.1,mD.out.2.1,mD.out.2.2.1,mD.out.2.2.2]
  have fI:=SC.out.below hb6 SC.out.lt;obtain⟨Z,hZ⟩:∃Z,bZ w6 (w.heap.size+1) (.int .i64 k) (.string x) (.int .i64 a) (.int .i64 z) (.slice A6 n6 c6)=Z:=⟨_,rfl⟩
  have hs2:aA (fun g=>g=w.heap.size+1) w6 Z:=by rw[<- hZ];exact kP
  have BF:ak Z (w.heap.size+1) 24 #[.int .i64 k,.string x,.int .i64 a,.int .i64 z,.slice A6 n6 c6]:=by rw[<- hZ];exact ak.sI fI _ _ _ _ _
  have uE:Below w.heap.size w Z:=(fT.out.trans (hb6.mono fT.out.size)).trans (hs2.toBelow (aac fT.out.size hb6.size) (fun g hg=>by omega))
  have MN:dO Z (fun g=>w.heap.size<=g\/R g) A6 0 (cZ t p i (i+1) [y]).kids:=by
   have h1:w.heap.size+1<w5.heap.size:=SC.out.lt;have h2:=HB0.out;have hk1:gJ (fun g=>w5.heap.size<=g\/R g) w6 Z:=gJ.since hs2 (fun g _ hP hq=>hP.elim (fun h=>by omega) (fun h=>by have:=h2 g h;omega));exact dO.weak (fun g _ hP=>hP.elim (fun h=>.inl (by omega)) .inr) _ _ _ (dO.keep hk1 _ _ _ yD)
  have bC:Hid (∃A' c',Ending.returned (.tuple #[.agg #[.int .i64 k,.string x,.int .i64 a,.int .i64 z,.slice A6 n6 c6],.int .i64 0])= .returned (.tuple #[bB (cZ t p i (i+1) [y]) A' c',.int .i64 0])/\(cZ t p i (i+1) [y]).kids.length<=c'/\dO Z (fun g=>w.heap.size<=g\/R g) A' 0 (cZ t p i (i+1) [y]).kids/\Below w.heap.size w Z):=kH ⟨A6,c6,by rw[GN],hc6,MN,uE⟩;obtain⟨⟨u0,u1,u2,u3,u4⟩,r0,r1,r2,r3,r4⟩:=fI.five;have lR6:=fI.lt;obtain⟨⟨v0,v1,v2,v3,v4⟩,-⟩:=BF.five;unfold bZ at hZ;rw[GN];clear hhk hhx ME hhz GN fI hs2 BF uE MN hc6 yD hb6 m0 m1 m2 m3 m4 lm;go_wp2_with (rw[hZ])
  try simp only[Exit.inBlock,Exit.then]
  refine bodyPost_ret (v:=.tuple #[.agg #[.int .i64 k,.string x,.int .i64 a,.int .i64 z,.slice A6 n6 c6],.int .i64 0]) (by simp[results,Tryz.results25,go_sem,v0,v1,v2,v3,v4]) rfl ?_;exact bC.out
 | false=>
  go_wp2_with fail
  refine(HCHG.out _ fT.out).mono ?_;rintro e6 w6 ⟨A6,c6,rfl,hc6,yD,hb6⟩;obtain⟨n6,uD⟩:∃q,(cZ t p i (i+1) [y]).kids.length=q:=⟨_,rfl⟩
  obtain⟨hhk,hhx,ME,hhz⟩:=tY t p i (i+1) [y]
  have GN:bB (cZ t p i (i+1) [y]) A6 c6= .agg #[.int .i64 k,.string x,.int .i64 a,.int .i64 z,.slice A6 n6 c6]:=by
   unfold bB;rw[hhk,hhx,ME,hhz,uD,mD.out.1,mD.out.2.1,mD.out.2.2.1,mD.out.2.2.2]
  have fI:=SC.out.below hb6 SC.out.lt;obtain⟨Z,hZ⟩:∃Z,bZ w6 (w.heap.size+1) (.int .i64 k) (.string x) (.int .i64 a) (.int .i64 z) (.slice A6 n6 c6)=Z:=⟨_,rfl⟩
  have hs2:aA (fun g=>g=w.heap.size+1) w6 Z:=by rw[<- hZ];exact kP
  have BF:ak Z (w.heap.size+1) 24 #[.int .i64 k,.string x,.int .i64 a,.int .i64 z,.slice A6 n6 c6]:=by rw[<- hZ];exact ak.sI fI _ _ _ _ _
  have uE:Below w.heap.size w Z:=(fT.out.trans (hb6.mono fT.out.size)).trans (hs2.toBelow (aac fT.out.size hb6.size) (fun g hg=>by omega))
  have MN:dO Z (fun g=>w.heap.size<=g\/R g) A6 0 (cZ t p i (i+1) [y]).kids:=by
   have h1:w.heap.size+1<w5.heap.size:=SC.out.lt;have h2:=HB0.out;have hk1:gJ (fun g=>w5.heap.size<=g\/R g) w6 Z:=gJ.since hs2 (fun g _ hP hq=>hP.elim (fun h=>by omega) (fun h=>by have:=h2 g h;omega));exact dO.weak (fun g _ hP=>hP.elim (fun h=>.inl (by omega)) .inr) _ _ _ (dO.keep hk1 _ _ _ yD)
  have bC:Hid (∃A' c',Ending.returned (.tuple #[.agg #[.int .i64 k,.string x,.int .i64 a,.int .i64 z,.slice A6 n6 c6],.int .i64 0])= .returned (.tuple #[bB (cZ t p i (i+1) [y]) A' c',.int .i64 0])/\(cZ t p i (i+1) [y]).kids.length<=c'/\dO Z (fun g=>w.heap.size<=g\/R g) A' 0 (cZ t p i (i+1) [y]).kids/\Below w.heap.size w Z):=kH ⟨A6,c6,by rw[GN],hc6,MN,uE⟩;obtain⟨⟨u0,u1,u2,u3,u4⟩,r0,r1,r2,r3,r4⟩:=fI.five;have lR6:=fI.lt;obtain⟨⟨v0,v1,v2,v3,v4⟩,-⟩:=BF.five;unfold bZ at hZ;rw[GN];clear hhk hhx ME hhz GN fI hs2 BF uE MN hc6 yD hb6 m0 m1 m2 m3 m4 lm;go_wp2_with (rw[hZ])
  try simp only[Exit.inBlock,Exit.then]
  refine bodyPost_ret (v:=.tuple #[.agg #[.int .i64 k,.string x,.int .i64 a,.int .i64 z,.slice A6 n6 c6],.int .i64 0]) (by simp[results,Tryz.results25,go_sem,v0,v1,v2,v3,v4]) rfl ?_;exact bC.out
inductive yG where
 | done
 | soft (k:Nat) (t:yG)
 | hard (k:Nat) (t:yG)
 | fork (i:Nat) (s:yG) (j:Nat) (t:yG)
def yG.len:yG->Nat
 | .done=>0
 | .soft _ t=>t.len+1
 | .hard _ t=>t.len+1
 | .fork _ s _ _=>s.len+1
section
variable {P:Program}{ops:Array Oper}{Q:Exit->Act->World->Prop}{md:Region.Mode}{S:World->Prop}{ex:List Nat}
def uM(P:Program)(ops:Array Oper)(Q:Exit->Act->World->Prop)(S:World->Prop)(ex:List Nat):yG->Act->World->Prop
 | .done,a,w=>Q .normal a w
 | .soft k t,a,w=> ∃o,ops[k]? =some o/\∃v,YieldsIf P ops S o v a/\S w/\uM P ops Q S ex t (a.put o.dst v) w
 | .hard k t,a,w=> ∃o,ops[k]? =some o/\Region.wanted o (yielded ops a.tmps)=true/\o.wp P a w (fun a' w'=>(ex.contains k=false->S w')/\uM P ops Q S ex t a' w') Q
 | .fork i s j t,a,w=>(∃o,ops[i]? =some o/\Region.wanted o (yielded ops a.tmps)=true/\o.wp P a w (fun a' w'=>(ex.contains i=false->S w')/\uM P ops Q S ex s a' w') Q) /\
  (∃o,ops[j]? =some o/\Region.wanted o (yielded ops a.tmps)=true/\o.wp P a w (fun a' w'=>(ex.contains j=false->S w')/\uM P ops Q S ex t a' w') Q)
def yc(md:Region.Mode)(ops:Array Oper)(ex:List Nat):yG->Array Bool->Bool
 | .done,listed=>(Region.ready md ops listed).isEmpty
 | .soft k t,listed=>Region.free md ops listed k&&(Region.ready md ops listed).contains k&&ex.all (fun j=>Region.waitsFor md ops j k)&&yc md ops ex t (listed.setIfInBounds k true)
 | .hard k t,listed=>(Region.ready md ops listed==[k])&&yc md ops ex t (listed.setIfInBounds k true)
 | .fork i s j t,listed=>(Region.ready md ops listed==[i,j])&&(s.len==t.len)&&yc md ops ex s (listed.setIfInBounds i true)&&yc md ops ex t (listed.setIfInBounds j true)
theorem NM(hs:Region.noSelect ops=true)(hQ:∀c a b w,Q (.panic c) a w->Q (.panic c) b w):∀(t:yG) (listed:Array Bool) (a:Act) (w:World),
 yc md ops ex t listed=true->uM P ops Q S ex t a w->yj P md ops Q S ex t.len listed a w:=by
 intro t
 induction t with
 | done=>
  intro listed a w hB h;exact⟨by simpa [yc] using hB,by simpa [uM] using h⟩
 | soft k t ih=>
  intro listed a w hB h;simp only[yc,aad]at hB;obtain⟨⟨⟨h1,h2⟩,h3⟩,h4⟩:=hB;obtain⟨o,hok,v,hy,hS,h5⟩:=h;refine wh hok (Region.noSelect_spec hs) (fun j hj=>?_) (fun c a w hq=>hQ c _ _ w hq) t.len listed a w (Region.free_spec hok h1) (by simpa using h2) hy hS (ih _ _ w h4 h5);exact List.all_eq_true.1 h3 j hj
 | hard k t ih=>
  intro listed a w hB h;simp only[yc,aad,beq_iff_eq]at hB;obtain⟨h1,h2⟩:=hB;obtain⟨o,hok,hg,h5⟩:=h;refine⟨fun h0=>(by rw[h0]at h1;cases h1),fun i hi=>?_⟩;rw[h1]at hi;simp at hi;subst hi;unfold wpOp;simp only[hok,hg,if_true];refine .inl (Oper.wp_mono (fun a' w' h6=>⟨fun hn=>h6.1 (by simpa using hn),ih (listed.setIfInBounds i true) a' w' h2 h6.2⟩) h5)
 | fork i s j t ihs iht=>
  intro listed a w hB h;simp only[yc,aad,beq_iff_eq]at hB;obtain⟨⟨⟨h1,h0⟩,h2⟩,h3⟩:=hB;obtain⟨⟨o,hok,hg,h5⟩,⟨o',hok',hg',h5'⟩⟩:=h;refine⟨fun h0=>(by rw[h0]at h1;cases h1),fun q hq=>?_⟩;rw[h1]at hq;simp at hq;rcases hq with rfl|rfl
  ·unfold wpOp
   simp only[hok,hg,if_true];exact .inl (Oper.wp_mono (fun a' w' h6=>⟨fun hn=>h6.1 (by simpa using hn),ihs (listed.setIfInBounds q true) a' w' h2 h6.2⟩) h5)
  ·unfold wpOp
   simp only[hok',hg',if_true];refine .inl (Oper.wp_mono (fun a' w' h6=>⟨fun hn=>h6.1 (by simpa using hn),?_⟩) h5');have:=iht (listed.setIfInBounds q true) a' w' h3 h6.2;rw[h0];exact this
theorem NH{id:Nat}{a:Act}{w:World}{l:List Oper}(S:World->Prop)(ex:List Nat)(t:yG)(hm:P.follows .mixedOrders=true)(hs:Region.noSelect l.toArray=true)
 (hl:t.len=l.length) (hB:yc .any l.toArray ex t (Array.replicate l.length false)=true) (h:uM P l.toArray (NoPanic Q) S ex t a w.drew):(Code.region id l.toArray true).wp P Q a w:=by
 refine wp_region_noPanic (wp_region_any hm (vZ (S:=S) (ex:=ex) _ _ _ _ ?_));have:=NM (P:=P) (S:=S) (md:=.any) hs (Q:=NoPanic Q) (fun c a b w hq=>(hq:False).elim) t (Array.replicate l.length false) a w.drew hB h;simpa [hl] using this
theorem Hy{a:Act}{w:World}(h:Q .normal a w):uM P ops (NoPanic Q) S ex .done a w:=h
theorem rM{k:Nat}{t:yG}{o:Oper}{a:Act}{w:World}{v:Value}(ho:ops[k]? =some o)(hg:Region.wanted o (yielded ops a.tmps)=true)(hS:S w)(hy:∀w',S w'->(execOp a.eval o).run P w'= .ok (.value v) w')
 (h:uM P ops Q S ex t (a.put o.dst v) w):uM P ops Q S ex (.soft k t) a w:=
 ⟨o,ho,v,.inl ⟨hg,hy⟩,hS,h⟩
def Gc(P:Program)(ops:Array Oper)(Q:Exit->Act->World->Prop)(S:World->Prop)(ex:List Nat)(k:Nat)(t:yG)(a:Act)(w:World):Prop:=
 ∃o,ops[k]? =some o/\Region.wanted o (yielded ops a.tmps)=true/\o.wp P a w (fun a' w'=>(ex.contains k=false->S w')/\uM P ops Q S ex t a' w') Q
theorem yB{k:Nat}{t:yG}{o:Oper}{a:Act}{w w':World}{v:Value}(ho:ops[k]? =some o)(hg:Region.wanted o (yielded ops a.tmps)=true)(hr:(execOp a.eval o).run P w= .ok (.value v) w')(hS:ex.contains k=false->S w')
 (h:uM P ops Q S ex t (a.put o.dst v) w'):Gc P ops Q S ex k t a w:=
 ⟨o,ho,hg,by unfold Oper.wp;rw[hr];exact⟨hS,h⟩⟩
theorem Dp{k:Nat}{t:yG}{o:Oper}{a:Act}{w w':World}(ho:ops[k]? =some o)(hg:Region.wanted o (yielded ops a.tmps)=true)(hr:(execOp a.eval o).run P w= .ok .skip w')(hS:ex.contains k=false->S w')
 (h:uM P ops Q S ex t (a.put o.dst undef) w'):Gc P ops Q S ex k t a w:=
 ⟨o,ho,hg,by unfold Oper.wp;rw[hr];exact⟨hS,h⟩⟩
theorem Dq{k:Nat}{t:yG}{o:Oper}{a:Act}{w:World}{f:FuncId}{args:Array Value}(ho:ops[k]? =some o)(hg:Region.wanted o (yielded ops a.tmps)=true)
 (hr:(execOp a.eval o).run P w= .ok (.enter f args) w) (h:Calls P f args w fun e w'=> ∃v,e= .returned v/\(ex.contains k=false->S w')/\uM P ops Q S ex t (a.put o.dst v) w'):Gc P ops Q S ex k t a w:=
 ⟨o,ho,hg,by unfold Oper.wp;rw[hr];exact h.mono (fun e w' ⟨v,he,h1,h2⟩=>by subst he;exact⟨h1,h2⟩)⟩
theorem sV{k:Nat}{t:yG}{a:Act}{w:World}(h:Gc P ops Q S ex k t a w):uM P ops Q S ex (.hard k t) a w:=h
theorem LV{i j:Nat}{s t:yG}{a:Act}{w:World}(h:Gc P ops Q S ex i s a w)(k:Gc P ops Q S ex j t a w):uM P ops Q S ex (.fork i s j t) a w:=⟨h,k⟩
end
end Go.Proofs.YtoepemlnlpamlaaGreat
