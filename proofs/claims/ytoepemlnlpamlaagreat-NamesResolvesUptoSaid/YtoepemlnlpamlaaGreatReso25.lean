/- The law NamesResolves holds where what it reads is of bulk at most 1048576: it returns true, and its argument reads as before. Part 25: Nam6 Nam7 Nam8. -/
import Derived.Test.YtoepemlnlpamlaaGreatReso02
import Derived.Test.YtoepemlnlpamlaaGreatReso18
import Derived.Test.YtoepemlnlpamlaaGreatReso22
import Derived.Test.YtoepemlnlpamlaaGreatReso24
set_option maxRecDepth 100000
set_option maxHeartbeats 4000000
namespace Go.Proofs.YtoepemlnlpamlaaGreat
open Go.RowKit
theorem xO(l:kP)(x:ByteArray)(n:Int):pE (jC l) x (.int .i64 n)=jC (cZ l x n):=Jc (Value.int .i64) x n l
theorem aV.om{E:RC}{G:bf}{r:RS}{V:RV}{w:World}(h:aV E G r V w):∀g cs,E.uA.map (·.block)=some g->w.heap[g]?≠some (.cells cs 95 (0,0)):=by
 intro g cs hg hb
 have hv:(Value.slice E.uA r.uses.length E.uc).ownBlock=some g:=by
  cases hA:E.uA with
  | none=>rw[hA]at hg;cases hg
  | some p=>rw[hA]at hg;simpa [Value.ownBlock] using hg
 obtain⟨cur,ho⟩:=h.us.obj g hv;rw[hb]at ho;simp at ho
theorem aV.TK{E:RC}{G:bf}{r:RS}{V:RV}{w:World}(h:aV E G r V w){g:Nat}{cs:Array Value}(hb:ai w g 24 cs):E.uA.map (·.block)≠some g:=by
 intro hg
 have hv:(Value.slice E.uA r.uses.length E.uc).ownBlock=some g:=by
  cases hA:E.uA with
  | none=>rw[hA]at hg;cases hg
  | some p=>rw[hA]at hg;simpa [Value.ownBlock] using hg
 exact h.us.bZ hb (by decide) hv
structure Dm (E:RC) (ms:List Nat):Prop where
 nodup:ms.Nodup
 apart:∀m∈ms,m≠E.g/\m≠E.f/\m≠E.k/\m≠E.vi
theorem aV.oo{E:RC}{G:bf}{r:RS}{V:RV}{w w':World}{m:Nat}(h:aV E G r V w)(hs:aF (fun g=>g=m) w w')(hm:m≠E.g/\m≠E.f/\m≠E.k/\m≠E.vi)(ho:∃es ck,w.heap[m]? =some (.map es ck)):aV E G r V w':=by
 obtain⟨es,ck,ho⟩:=ho
 have hb:∀{g:Nat}{t:TypeId}{cs:Array Value},ai w g t cs->g≠m:=fun hb e=>by
  subst e;have:w.heap[_]? =some (Obj.cells _ _ (0,0)):=hb;rw[ho]at this;cases this
 have how:∀{e size v n xs},aL w E.base e size v n xs->aL w' E.base e size v n xs:=fun ha=>ha.since hs (fun g hg e=>by
  subst e;obtain⟨cur,hc⟩:=ha.obj _ hg;rw[ho]at hc
  cases hc)
 refine⟨h.blk.since hs (hb h.blk),h.gl.since hs (fun e=>hm.1 e.symm),h.fl.since hs (fun e=>hm.2.1 e.symm),h.kn.since hs (fun e=>hm.2.2.1 e.symm),h.vi.since hs (fun e=>hm.2.2.2 e.symm),?_,how h.ds,how h.us,how h.ps,h.low,h.apart⟩;refine fB.of_block h.aS fun g cur hg _=>hs.block g (abH.1 hg).1 fun e=>?_
 subst e;rw[ho]at hg;cases hg
theorem aY.isMap{K:Type}[DecidableEq K]{KK:oD K}{w:World}{r:Nat}{m:List (K×Value)}(h:aY KK w r m):∃es ck,w.heap[r]? =some (.map es ck):=by
 obtain⟨es,ck,h1,_⟩:=h;exact⟨es,ck,h1⟩
theorem KX.oo{E:RC}{w w':World}{m:Nat}{M:Nat->Prop}(hs:aF (fun g=>g=m) w w')(hm:M m)(hb:E.base<=m)(ho:∃es ck,w.heap[m]? =some (.map es ck)):KX E M w w':=
 aF.mono hs fun g e=>by subst e;exact⟨hb,.inr ⟨ho,hm⟩⟩
theorem OE(E:RC)(G:bf)(r:RS)(V:RV)(w:World)(h:aV E G r V w)(hN:r.ds.length<=1000000)(hP:r.aW.length<=1000000)(hbase:E.base<=w.heap.size)(kind:Int)(n:Nat)(hn:n<r.uses.length)(t:ae)(A:Option Addr)(c:Nat)
 (l:kP) (s:aQ) (p:Option Addr) (m:Nat) (ms:List Nat) (hs:bL w E.base p (l::s) (m::ms)) (hsep:Dm E (m::ms)):
 Calls Tryz.prog 148 #[.pointer (some ⟨E.rp,0,none⟩),.int .i64 kind,.int .i64 (n:Int),bD t A c,.pointer p] w fun e w'=>e= .returned (.tuple #[])/\∃V',aV E G (aD G r kind n t (l::s)).1 V' w'/\bL w' E.base p (aD G r kind n t (l::s)).2 (m::ms)/\KX E (fun g=>g=m) w w':=by
 obtain⟨k,x,a,z,mk,-,hx,-,-,-,hv⟩:=fq t A c;obtain⟨W1,hW1⟩:∃W1,w.alloc (.cells #[.int .i64 k,.string x,.int .i64 a,.int .i64 z,.slice A mk c] 24)=W1:=⟨_,rfl⟩
 have hb1:Below w.heap.size w W1:=by rw[<- hW1];exact ag _ _
 have hT1:ai W1 w.heap.size 24 #[.int .i64 k,.string x,.int .i64 a,.int .i64 z,.slice A mk c]:=by rw[<- hW1];exact ai.new w _ _
 have h1:=h.below hb1;have hs1:=hs.below hb1;have hfind:=JZ E.base x W1 (l::s) p (m::ms) hs1;have hlk:=fun q=>pG (W1.drewN q) E.g G.globals (aY.drewN h1.gl q) x
 have hbs1:E.base<=W1.heap.size:=abF hbase hb1.size;have hdec:=fun q al=>AY E G r V (W1.drewN q) (h1.below (aR (Below.refl _ _) q)) hN hP hbs1 kind n hn t A c al (fun _=>False)
 rw[hv]at hdec⊢;obtain⟨b,m0,p',ms0,hp,hms,hb0,hm0,hsb,hsm,hst⟩:=hs1;simp only[List.cons.injEq]at hms;obtain⟨rfl,rfl⟩:=hms;subst hp
 have hvar:aD G r kind n t (l::s)=if (eP (l::s) x).isSome || (bG G.globals x).isSome then(qg r 9 n t,l::s) else(kU r kind n t,cZ l x (n:Int)::s):=by
  unfold aD;rw[hx];rfl
 rw[hvar];have hds:aU r kind n t true=qg r 9 n t:=rfl;have hdd:aU r kind n t false=kU r kind n t:=rfl;have c0:=h1.blk.cell 0;have hlr:=h1.blk.lt;have hx0:=hT1.cell 0;have hx1:=hT1.cell 1;have hx2:=hT1.cell 2;have hx3:=hT1.cell 3;have hx4:=hT1.cell 4;have hlt:=hT1.lt;generalize hfo:eP (l::s) x=fo at hfind⊢
 obtain⟨go,hgo⟩:∃q,bG G.globals x=q:=⟨_,rfl⟩
 rw[hgo]at hlk⊢;have H1:=kH h1;have o5:Hid (bL W1 E.base (some ⟨b,0,none⟩) (l::s) (m::ms)):=kH ⟨b,m,p',ms,rfl,rfl,hb0,hm0,hsb,hsm,hst⟩;have HT1:=kH hT1;have HB1:=kH hb1;have HF:=kH hfind;have HSEP:=kH hsep;clear h hs hvar hfo hgo hx hv h1 hT1 hb1 hst hfind hsb hsm hsep
 have hsay:Hid (∀q w2,(∃V',aV E G (qg r 9 n t) V' w2/\KX E (fun _=>False) (W1.drewN q) w2)->∃V',aV E G (qg r 9 n t) V' w2/\bL w2 E.base (some ⟨b,0,none⟩) (l::s) (m::ms)/\KX E (fun g=>g=m) w w2):=kH (by
  rintro q w2 ⟨V2,h2,k2⟩;have hd:Below W1.heap.size W1 (W1.drewN q):=aR (Below.refl _ _) q;have k1:KX E (fun _=>False) W1 w2:=(KX.of_below (M:=fun _=>False) hd).trans k2 (fun g hg=>hg.elim)
  exact⟨V2,h2,bL.kx k1 H1.out.om o5.out (fun _ _ h=>h),(KX.of_below HB1.out).trans k1 (fun g hg=>hg.elim)⟩)
 have hsd:=fun q=>hdec q true
 have WE:=fun q=>hdec q false
 rw[hds]at hsd;rw[hdd]at WE;simp only[Bool.not_true,Bool.not_false]at hsd WE;have HSD:=kH hsd;have HDD:=kH WE;clear hsd WE hdec
 cases fo with
 | some y=>
  simp only[Option.isSome_some,Bool.true_or,if_true]at HF⊢;go_enter Tryz.func148,Tryz.ntmps148
  go_wp2_with (rw[hW1])
  refine HF.out.mono ?_;rintro e w2 ⟨rfl,hw2⟩;obtain rfl:W1=w2:=hw2.symm;go_wp2_with fail
  go_quiet (fail)
  go_wp2_with fail
  refine(HSD.out _).mono ?_;rintro e w3 ⟨rfl,h3⟩;have HE:=kH (hsay.out _ w3 h3);clear h3;go_wp2_with fail
  go_end0
  exact⟨rfl,HE.out⟩
 | none=>
  cases go with
  | some y=>
   simp only[Option.isSome_some,Option.isSome_none,Bool.or_true,if_true]at HF hlk⊢;go_enter Tryz.func148,Tryz.ntmps148
   go_wp2_with (rw[hW1])
   refine HF.out.mono ?_;rintro e w2 ⟨rfl,hw2⟩;obtain rfl:W1=w2:=hw2.symm;go_wp2_with fail
   go_quiet (fail)
   go_wp2_with fail
   refine(HSD.out _).mono ?_;rintro e w3 ⟨rfl,h3⟩;have HE:=kH (hsay.out _ w3 h3);clear h3;go_wp2_with fail
   go_end0
   exact⟨rfl,HE.out⟩
  | none=>
   simp only[Option.isSome_none,Bool.or_false,Bool.false_eq_true,if_false]at HF hlk⊢;go_enter Tryz.func148,Tryz.ntmps148
   go_wp2_with (rw[hW1])
   refine HF.out.mono ?_;rintro e w2 ⟨rfl,hw2⟩;obtain rfl:W1=w2:=hw2.symm;go_wp2_with fail
   go_quiet (fail)
   go_wp2_with fail
   refine(HDD.out _).mono ?_;rintro e w3 ⟨rfl,V3,h3,k3⟩;have k1:KX E (fun _=>False) W1 w3:=(KX.of_below (M:=fun _=>False) (aR (Below.refl W1.heap.size W1) _)).trans k3 (fun g hg=>hg.elim);have hs3:=bL.kx k1 H1.out.om o5.out (fun _ _ h=>h);have jX:=k1.blk HT1.out (by decide) (by decide) (by decide) (H1.out.TK HT1.out);have K1:=kH k1;have H3:=kH h3;obtain⟨b2,m2,p2,wL,hp2,wT,hb2,hm2,Wo,hsm3,hst3⟩:=hs3;simp only[List.cons.injEq]at wT;obtain⟨rfl,rfl⟩:=wT;simp only[abJ,Addr.mk.injEq,and_true]at hp2;subst hp2;have d1:=Wo.cell 1;have e1:=jX.cell 1;have hl3:=Wo.lt;have hl4:=jX.lt;have ET:=kH Wo;have pV:=kH hsm3;have HST:=kH hst3;clear jX k1 k3 h3 Wo hsm3 hst3;go_wp2_with fail
   refine dY (fun w'=>w'.cell? ⟨b,1,none⟩=some (.map (some m))/\w'.cell? ⟨w.heap.size,1,none⟩=some (.string x)) [7] [true,true,true,true,true,true,true,false] (by kernel_rfl) (by kernel_rfl) rfl (by kernel_rfl) ?_;have hS0:w3.drew.cell? ⟨b,1,none⟩=some (.map (some m))/\w3.drew.cell? ⟨w.heap.size,1,none⟩=some (.string x):=⟨d1,e1⟩
   iterate 7(refine gP rfl hS0 (by intro w' hSw;obtain⟨hs1,hs2⟩:=hSw;go_simp;rfl) ?_;simp only[Act.put,sA,sZ,sC])
   obtain⟨w4,hrun,iB,hg4,hz4⟩:=fF (P:=Tryz.prog) (KK:=jg) (t:=70) (kt:=9) (et:=3) Tryz.underlying70 Tryz.underlying9 (pV.out.drew) x (.int .i64 (n:Int));change (Instr.mapUpdate 70 (.map (some m)) (Value.string x) (.int .i64 (n:Int))).run Tryz.prog w3.drew=_ at hrun;have hs4:aF (fun g=>g=m) w3 w4:=((aF.refl (fun g=>g=m) w3).drew).grown hg4 (fun k hk=>by cases hk;exact .inl rfl)
   have HE:Hid (∃V',aV E G (kU r kind n t) V' w4/\bL w4 E.base (some ⟨b,0,none⟩) (cZ l x (n:Int)::s) (m::ms)/\KX E (fun g=>g=m) w w4):=kH (by
    rw[xO]at iB;have QZ:=pV.out.isMap;have Wn:=HSEP.out.apart m (by simp);have hnd:=List.nodup_cons.1 HSEP.out.nodup;have km:KX E (fun g=>g=m) w3 w4:=KX.oo hs4 rfl hm2 QZ;refine⟨V3,H3.out.oo hs4 Wn QZ,⟨b,m,p2,ms,rfl,rfl,hb2,hm2,?_,iB,?_⟩,(KX.of_below HB1.out).trans ((K1.out.mono (M':=fun g=>g=m) (fun _ h=>h.elim)).trans km (fun g hg=>.inl hg)) (fun g hg=>.inl hg)⟩
    ·refine ET.out.since hs4 (fun e=>?_)
     obtain⟨es,ck,ho⟩:=QZ;subst e;have:w3.heap[b]? =some (Obj.cells _ _ (0,0)):=ET.out;rw[ho]at this;cases this
    ·exact bL.kx km H3.out.om HST.out (fun g hg e=>hnd.1 (by rw[<- e];exact hg)))
   clear iB hg4 hz4 hs4;refine gZ (w':=w4) rfl (by simp[execOp,Act.eval,hrun,Result.andThen]) (by simp) ?_;refine iT ?_;simp only[Act.put];go_wp2_with fail
   go_end0
   exact⟨rfl,HE.out⟩
theorem Od(l:kP)(m:Nat)(x:ByteArray)(n:Nat)(w:World)(hm:aY jg w m (jC l)):
 Calls Tryz.prog 144 #[.map (some m),.string x,.int .i64 (n:Int)] w fun e w'=>e= .returned (.tuple #[])/\aY jg w' m (jC (lM l x n))/\aF (fun g=>g=m) w w':=by
 have hlk:=pG w m l hm x
 cases hl:bG l x with
 | some k=>
  have hf:lM l x n=l:=by unfold lM aT;rw[hl];rfl
  rw[hf];rw[hl]at hlk;simp only[Option.getD_some,Option.isSome_some]at hlk;have HM:=kH hm;clear hm hf hl;go_enter Tryz.func144,Tryz.ntmps144
  go_wp2_with fail
  go_end0
  exact⟨rfl,HM.out,aF.refl _ _⟩
 | none=>
  have hf:lM l x n=cZ l x (n:Int):=by unfold lM aT;rw[hl];rfl
  rw[hf];rw[hl]at hlk;simp only[Option.getD_none,Option.isSome_none]at hlk;have HM:=kH hm;clear hm hf hl;go_enter Tryz.func144,Tryz.ntmps144
  obtain⟨w1,hrun,hm1,hg1,hz1⟩:=fF (P:=Tryz.prog) (KK:=jg) (t:=70) (kt:=9) (et:=3) Tryz.underlying70 Tryz.underlying9 HM.out x (.int .i64 (n:Int));change (Instr.mapUpdate 70 (.map (some m)) (Value.string x) (.int .i64 (n:Int))).run Tryz.prog w=_ at hrun;have hs1:aF (fun g=>g=m) w w1:=(aF.refl (fun g=>g=m) w).grown hg1 (fun k hk=>by cases hk;exact .inl rfl);rw[xO]at hm1;have jv:=kH hm1;have o5:=kH hs1;clear hm1 hg1 hz1 hs1;go_wp2_with fail
  go_end0
  exact⟨rfl,jv.out,o5.out⟩
theorem EP:∀(a:List ae) (f:ae) (n:Nat) (l:kP),jT (a++[f]) n l=if f.kind=4 then lM (jT a n l) f.text ((n+aG a:Nat):Int) else jT a n l
 | [],f,n,l=>rfl
 | g::a,f,n,l=>by
  show jT (a++[f]) (n+au g) _=_;rw[EP a,aG];show(if _ then lM (jT a (n+au g) _) _ _ else jT a (n+au g) _)=_;rw[show n+au g+aG a=n+(au g+aG a) by omega];rfl
theorem EO:∀(a:List ae) (k:ae) (n:Nat) (g:bf),lJ (a++[k]) n g=⟨lM (lJ a n g).globals k.text ((n+aG a:Nat):Int),jT k.kids (n+aG a+1) (lJ a n g).fields,cZ (lJ a n g).kinds ((n+aG a:Nat):Int) k.kind⟩
 | [],k,n,g=>rfl
 | j::a,k,n,g=>by
  show lJ (a++[k]) (n+au j) _=_;rw[EO a,aG];rw[show n+au j+aG a=n+(au j+aG a) by omega];rfl
theorem yF{α:Type}{l:List α}{i:Nat}{x:α}(h:l[i]? =some x):l.take (i+1)=l.take i++[x]:=by
 rw[List.take_add_one,h];rfl
theorem PO(l:List (Int×Int))(x n:Int):pE (uQ l) x (.int .i64 n)=uQ (cZ l x n):=Jc (Value.int .i64) x n l
structure CG (g f k:Nat) (G:bf) (w:World):Prop where
 gl:aY jg w g (jC G.globals)
 fl:aY jg w f (jC G.fields)
 kn:aY kC w k (uQ G.kinds)
theorem CG.below{g f k:Nat}{G:bf}{w w':World}(h:CG g f k G w)(hb:Below w.heap.size w w'):CG g f k G w':=⟨h.gl.IL hb,h.fl.IL hb,h.kn.IL hb⟩
theorem aK.since{w w':World}{B:Nat}{S:Nat->Prop}(hs:aF S w w')(hB:B<=w.heap.size)(hS:∀g,S g->B<=g){ts:List ae}{A:Option Addr}{i:Nat}(h:aK w B A i ts):aK w' B A i ts:=
 aK.below (hs.toBelow hB hS) (abE _) _ _ _ h
theorem Tj(rp g f kk B:Nat)(a3 a4 a5 a6 a7 a8:Value)(w:World)(hb:ai w rp 75 #[.map (some g),.map (some f),.map (some kk),a3,a4,a5,a6,a7,a8])(hG:CG g f kk ⟨[],[],[]⟩ w)(hne:g≠f/\g≠kk/\f≠kk)(hB:B<=g/\B<=f/\B<=kk/\B<=w.heap.size)
 (t:ae) (A:Option Addr) (c:Nat) (hm:au t<=1000000000) (hk:aK w B A 0 t.kids):
 Calls Tryz.prog 78 #[.pointer (some ⟨rp,0,none⟩),bD t A c] w fun e w'=>e= .returned (.tuple #[])/\CG g f kk (dG t) w'/\aF (fun x=>x=g\/x=f\/x=kk) w w':=by
 have hcm:dG t=lJ t.kids 1 ⟨[],[],[]⟩:=rfl;have hce:=um t;obtain⟨kids,nH⟩:∃q,t.kids=q:=⟨_,rfl⟩
 obtain⟨k0,x0,a0,z0,n,-,-,-,-,hn,hv⟩:=fq t A c;rw[hv,hcm];rw[nH]at hk hn hce⊢;have hcl:=kV kids;have hS:∀x,(x=g\/x=f\/x=kk)->B<=x:=by intro x hx;omega
 have ET:=kH hS;have EX:=kH hB;have HK:=kH hk;have HN:=kH hn;have HCE:=kH hce;have HM:Hid (1+aG kids<=1000000000):=kH (by omega);have HG:=kH hG;have HB:=kH hb;have fC:=kH hne;have hnb:n<=1000000000:=by omega
 have hgl:=hb.lt;clear hk hce hm nH hn hcl hv hcm hS hB hG hb hne;go_enter Tryz.func78,Tryz.ntmps78
 go_wp2_with fail
 generalize hW1:w.alloc (.cells #[.int .i64 k0,.string x0,.int .i64 a0,.int .i64 z0,.slice A n c] 24)=W1
 have hb1:Below w.heap.size w W1:=by rw[<- hW1];exact ag _ _
 have o5:Hid (aF (fun x=>x=g\/x=f\/x=kk) w W1):=kH ((aF.refl _ w).below hb1);have HG1:=kH (HG.out.below hb1);clear hW1 hb1;go_loopg [4,14] n (fun gk s4 s14 wr=> ∃i:Nat,i+gk=n/\s4= .int .i64 ((1+aG (kids.take i):Nat):Int)/\s14= .int .i64 (i:Int)/\Hid (CG g f kk (lJ (kids.take i) 1 ⟨[],[],[]⟩) wr)/\Hid (aF (fun x=>x=g\/x=f\/x=kk) w wr))
 case atStart=>exact⟨0,by omega,by simp[aG],rfl,HG1,o5⟩
 case round=>
  obtain⟨i,hi,rfl,rfl,HGr,Uu⟩:=hrel;have HI:=kH hi;have hin:i<=n:=by omega
  clear hi;by_cases hlt:i<n
  ·have hlt':(i:Int)<(n:Int):=by omega
   obtain⟨u,hu⟩:∃u,kids[i]? =some u:=⟨_,abI (by rw[HN.out];exact hlt)⟩
   have hbW:Below B w wr:=Uu.out.toBelow EX.out.2.2.2 ET.out;obtain⟨vals,⟨b,off,hA,hbl,hcs⟩,hT⟩:=HK.out.get i u hu;obtain⟨A',c',lQ,hK'⟩:=hT.five;subst hA;subst lQ;have NL:=Uu.out.size;have hbw:=EX.out.2.2.2;have hbb:b<wr.heap.size:=by omega
   obtain⟨uk,AA⟩:∃q,u.kind=q:=⟨_,rfl⟩
   obtain⟨ux,Ay⟩:∃q,u.text=q:=⟨_,rfl⟩
   obtain⟨ua,Da⟩:∃q,u.at_=q:=⟨_,rfl⟩
   obtain⟨uz,Iw⟩:∃q,u.end_=q:=⟨_,rfl⟩
   obtain⟨pX,MZ⟩:∃q,u.kids=q:=⟨_,rfl⟩
   obtain⟨un,hun⟩:∃q,pX.length=q:=⟨_,rfl⟩
   have t0:wr.cell? ⟨b,off+i*5,none⟩=some (.int .i64 uk):=(hbW.cell (p:=⟨b,_,none⟩) hbl).trans (by rw[<- AA];simpa using hcs 0 _ rfl);have t1:wr.cell? ⟨b,off+i*5+1,none⟩=some (.string ux):=(hbW.cell (p:=⟨b,_,none⟩) hbl).trans (by rw[<- Ay];simpa using hcs 1 _ rfl);have t2:wr.cell? ⟨b,off+i*5+2,none⟩=some (.int .i64 ua):=(hbW.cell (p:=⟨b,_,none⟩) hbl).trans (by rw[<- Da];simpa using hcs 2 _ rfl);have t3:wr.cell? ⟨b,off+i*5+3,none⟩=some (.int .i64 uz):=(hbW.cell (p:=⟨b,_,none⟩) hbl).trans (by rw[<- Iw];simpa using hcs 3 _ rfl);have t4:wr.cell? ⟨b,off+i*5+4,none⟩=some (.slice A' un c'):=(hbW.cell (p:=⟨b,_,none⟩) hbl).trans (by rw[<- hun,<- MZ];simpa using hcs 4 _ rfl)
   have UK:Hid (ai wr rp 75 #[.map (some g),.map (some f),.map (some kk),a3,a4,a5,a6,a7,a8]):=kH (HB.out.since Uu.out (fun e=>by
    have h1:w.heap[rp]? =some (Obj.cells _ _ (0,0)):=HB.out;rcases e with e|e|e
    ·obtain⟨es,ck,ho⟩:=HG.out.gl.isMap
     rw[<- e,h1]at ho;cases ho
    ·obtain⟨es,ck,ho⟩:=HG.out.fl.isMap
     rw[<- e,h1]at ho;cases ho
    ·obtain⟨es,ck,ho⟩:=HG.out.kn.isMap
     rw[<- e,h1]at ho;cases ho))
   rw[MZ]at hK';have HK':=kH hK';have HU0:=kH hu
   have WG:∀Z,aF (fun x=>x=g\/x=f\/x=kk) w Z->Calls Tryz.prog 77 #[bD u A' c'] Z fun e w'=>e= .returned (.int .i64 (au u:Int))/\Below Z.heap.size Z w':=fun Z hZ=>
    Gf u A' c' Z (by have h1:=jl kids i u HU0.out;have h2:=kg kids (i+1);have h3:=HM.out;omega) (aK.mono (abF hbw hZ.size) _ _ _ (aK.since hZ hbw ET.out (by rw[MZ];exact HK'.out)))
   unfold bD at WG;rw[AA,Ay,Da,Iw,MZ,hun]at WG;have HCU:=kH WG;clear WG;have hgr:=UK.out.lt;have d0:=UK.out.cell 0;have d1:=UK.out.cell 1;have d2:=UK.out.cell 2;have HU:=kH hu;have HUN:=kH hun;clear hcs hT hK' hu hbW hun;go_wp2_with fail
   generalize hX:wr.alloc (.cells #[.int .i64 uk,.string ux,.int .i64 ua,.int .i64 uz,.slice A' un c'] 24)=X
   have hbX:Below wr.heap.size wr X:=by rw[<- hX];exact ag _ _
   have EK:ai X wr.heap.size 24 #[.int .i64 uk,.string ux,.int .i64 ua,.int .i64 uz,.slice A' un c']:=by rw[<- hX];exact ai.new wr _ _
   have Bf:Hid (aF (fun x=>x=g\/x=f\/x=kk) w X):=kH (Uu.out.below hbX);have MC:=kH (HGr.out.below hbX);have hBX:=UK.out.below hbX hgr;obtain⟨num,D5⟩:∃q,1+aG (kids.take i)=q:=⟨_,rfl⟩
   rw[D5]at⊢;have Na:=kH D5;obtain⟨Gi,hGi⟩:∃q,lJ (kids.take i) 1 ⟨[],[],[]⟩=q:=⟨_,rfl⟩
   rw[hGi]at MC;have uO:=kH hGi
   have pF:Hid (∀{r:Nat}{t:TypeId}{cs:Array Value}{x:Nat}{w':World},ai w' r t cs->(∃es ck,w'.heap[x]? =some (.map es ck))->r≠x):=kH (fun hb ⟨es,ck,ho⟩ e=>by
    subst e;have h1:_=some (Obj.cells _ _ (0,0)):=hb
    rw[ho]at h1;cases h1)
   have Ow:=kH EK;have yZ:=kH hBX
   have tJ:∀W':World,aF (fun x=>x=g) X W'->W'.cell? ⟨rp,0,none⟩=some (.map (some g))/\W'.cell? ⟨wr.heap.size,1,none⟩=some (.string ux):=fun W' hs=>by
    have h1:=yZ.out.since hs (fun e=>pF.out yZ.out MC.out.gl.isMap e);have h2:=Ow.out.since hs (fun e=>pF.out Ow.out MC.out.gl.isMap e);exact⟨h1.cell 0,h2.cell 1⟩
   have Sc:=kH tJ;have hlX:=EK.lt;have hrX:=hBX.lt;have e0:=hBX.cell 0;have e1:=EK.cell 1;have hs0:aF (fun x=>x=g) X X.drew:=(aF.refl _ X).drew;clear hX hbX EK hBX D5 hGi UK d0 d1 d2 t0 t1 t2 t3 t4 tJ Uu HGr;go_region_held3 (fun w'=>w'.cell? ⟨rp,0,none⟩=some (.map (some g))/\w'.cell? ⟨wr.heap.size,1,none⟩=some (.string ux)) (exact Sc.out _ (by assumption)) ((go_at_call 144;refine(Od Gi.globals g ux num X.drew (aY.drew MC.out.gl)).mono ?_;rintro e w2 ⟨rfl,hm2,hs2⟩;have hs3:=hs0.trans hs2))
   have hG2:CG g f kk ⟨lM Gi.globals ux num,Gi.fields,Gi.kinds⟩ w2:=⟨hm2,MC.out.fl.since hs3 (fun e=>fC.out.1 e.symm),MC.out.kn.since hs3 (fun e=>fC.out.2.1 e.symm)⟩
   have hB2:=yZ.out.since hs3 (fun e=>pF.out yZ.out MC.out.gl.isMap e);have p9:=Ow.out.since hs3 (fun e=>pF.out Ow.out MC.out.gl.isMap e);have HS2:Hid (aF (fun x=>x=g\/x=f\/x=kk) w w2):=kH (Bf.out.step hs3 (fun x e=>.inl (.inl e)));have HZ2:Hid (wr.heap.size<w2.heap.size/\w.heap.size<=wr.heap.size):=kH ⟨p9.lt,NL⟩;have HG2:=kH hG2;have HB2:=kH hB2;have HT2:=kH p9;have e2:=hB2.cell 2;have t0:=p9.cell 0;have hl2:=p9.lt;have hr2:=hB2.lt;clear hs3 hs2 hs0 hm2 hG2 hB2 p9 MC Bf Ow yZ Sc hlX hrX e0 e1;go_wp2_with fail
   refine dY (fun w'=>w'.cell? ⟨rp,2,none⟩=some (.map (some kk))/\w'.cell? ⟨wr.heap.size,0,none⟩=some (.int .i64 uk)) [7] [true,true,true,true,true,true,true,false] (by kernel_rfl) (by kernel_rfl) rfl (by kernel_rfl) ?_;have hS0:w2.drew.cell? ⟨rp,2,none⟩=some (.map (some kk))/\w2.drew.cell? ⟨wr.heap.size,0,none⟩=some (.int .i64 uk):=⟨e2,t0⟩
   iterate 7(refine gP rfl hS0 (by intro w' hSw;obtain⟨hs1,hs2⟩:=hSw;go_simp;rfl) ?_;simp only[Act.put,sA,sZ,sC])
   obtain⟨w4,hrun,iB,hg4,hz4⟩:=fF (P:=Tryz.prog) (KK:=kC) (t:=71) (kt:=3) (et:=3) Tryz.underlying71 Tryz.underlying3 (aY.drew HG2.out.kn) (num:Int) (.int .i64 uk);change (Instr.mapUpdate 71 (.map (some kk)) (Value.int .i64 (num:Int)) (.int .i64 uk)).run Tryz.prog w2.drew=_ at hrun;have hs4:aF (fun g=>g=kk) w2 w4:=((aF.refl (fun g=>g=kk) w2).drew).grown hg4 (fun k hk=>by cases hk;exact .inl rfl);rw[PO]at iB;have hG4:CG g f kk ⟨lM Gi.globals ux num,Gi.fields,cZ Gi.kinds (num:Int) uk⟩ w4:=⟨HG2.out.gl.since hs4 (fun e=>fC.out.2.1 e),HG2.out.fl.since hs4 (fun e=>fC.out.2.2 e),iB⟩
   have hB4:=HB2.out.since hs4 (fun e=>pF.out HB2.out HG2.out.kn.isMap e);have kE:=HT2.out.since hs4 (fun e=>pF.out HT2.out HG2.out.kn.isMap e);have HS4:Hid (aF (fun x=>x=g\/x=f\/x=kk) w w4):=kH (HS2.out.step hs4 (fun x e=>.inl (.inr (.inr e))));have HZ4:Hid (wr.heap.size<w4.heap.size/\w.heap.size<=wr.heap.size):=kH ⟨kE.lt,HZ2.out.2⟩;have OB:=kH hG4;have sV:=kH hB4;have HT4:=kH kE;have f4:=kE.cell 4;have hl4:=kE.lt;refine gZ (w':=w4) rfl (by simp[execOp,Act.eval,hrun,Result.andThen]) (by simp) ?_;refine iT ?_;simp only[Act.put];obtain⟨Ul,aaJ⟩:∃q,Gi.fields=q:=⟨_,rfl⟩
   rw[aaJ]at OB;have MF:=kH aaJ;have M0:(num:Int)<=1000000000:=by have:=kg kids i;have:=Na.out;have:=HM.out;omega
   have hwn:IntKind.i64.wrap ((num:Int)+1)=(num:Int)+1:=IntWalk.i64_in _ (by omega)
   have HUC:Hid (1+aG pX=au u/\num+au u<=1000000000):=kH (by
    have h1:=um u;have h2:=jl kids i u HU.out;have h3:=kg kids (i+1);have h4:=Na.out;have h5:=HM.out;rw[MZ]at h1
    exact⟨by omega,by omega⟩)
   have hub:un<=1000000000:=by have:=HUC.out;have:=kV pX;have:=HUN.out;omega
   clear hs4 hG4 hB4 kE iB hg4 hz4 hrun HG2 HB2 HT2 HS2 HZ2 e2 t0 hl2 hr2 aaJ;go_wp2_with fail
   obtain⟨wo,hwo⟩:∃wo:World,wo=wr:=⟨_,rfl⟩
   subst hwo;obtain⟨go,hgo⟩:∃go:Nat,go=gk:=⟨_,rfl⟩
   subst hgo;go_loopg [8,39] un (fun gk s8 s39 wr=> ∃j:Nat,j+gk=un/\s8= .int .i64 ((num+1+aG (pX.take j):Nat):Int)/\s39= .int .i64 (j:Int)/\Hid (CG g f kk ⟨lM Gi.globals ux num,jT (pX.take j) (num+1) Ul,cZ Gi.kinds (num:Int) uk⟩ wr)/\Hid (aF (fun x=>x=g\/x=f\/x=kk) w4 wr))
   case atStart=>exact⟨0,by omega,by simp[aG],rfl,OB,kH (aF.refl _ _)⟩
   case round=>
    obtain⟨j,hj,rfl,rfl,HGj,Ox⟩:=hrel;have HJ:=kH hj;have hjn:j<=un:=by omega
    have Zt:Hid (aF (fun x=>x=g\/x=f\/x=kk) w wr):=kH (HS4.out.trans Ox.out)
    have hTj:=HT4.out.since Ox.out (fun e=>by
     rcases e with e|e|e
     ·exact pF.out HT4.out OB.out.gl.isMap e
     ·exact pF.out HT4.out OB.out.fl.isMap e
     ·exact pF.out HT4.out OB.out.kn.isMap e)
    have hBj:=sV.out.since Ox.out (fun e=>by
     rcases e with e|e|e
     ·exact pF.out sV.out OB.out.gl.isMap e
     ·exact pF.out sV.out OB.out.fl.isMap e
     ·exact pF.out sV.out OB.out.kn.isMap e)
    clear hj;by_cases hjt:j<un
    ·have hjt':(j:Int)<(un:Int):=by omega
     obtain⟨v,hv⟩:∃v,pX[j]? =some v:=⟨_,abI (by rw[HUN.out];exact hjt)⟩
     have hbW:Below B w wr:=Zt.out.toBelow EX.out.2.2.2 ET.out;obtain⟨vals,⟨bb,ob,hA2,Re,hcs⟩,p9⟩:=HK'.out.get j v hv;obtain⟨A2,c2,lQ,hK2⟩:=p9.five;subst hA2;subst lQ;have hzj:=Zt.out.size;have hbw:=EX.out.2.2.2;have aaP:bb<wr.heap.size:=by omega
     have O4:∀Z,aF (fun x=>x=g\/x=f\/x=kk) w Z->Calls Tryz.prog 77 #[bD v A2 c2] Z fun e w'=>e= .returned (.int .i64 (au v:Int))/\Below Z.heap.size Z w':=fun Z hZ=>
      Gf v A2 c2 Z (by have h1:=jl pX j v hv;have h2:=kg pX (j+1);have h3:=HUC.out;omega) (aK.mono (abF hbw hZ.size) _ _ _ (aK.since hZ hbw ET.out hK2))
     unfold bD at O4;obtain⟨vk,hvk⟩:∃q,v.kind=q:=⟨_,rfl⟩
     obtain⟨vx,Iu⟩:∃q,v.text=q:=⟨_,rfl⟩
     obtain⟨va,hva⟩:∃q,v.at_=q:=⟨_,rfl⟩
     obtain⟨vz,hvz⟩:∃q,v.end_=q:=⟨_,rfl⟩
     obtain⟨vn,nC⟩:∃q,v.kids.length=q:=⟨_,rfl⟩
     obtain⟨cv,hcv⟩:∃q,au v=q:=⟨_,rfl⟩
     rw[hvk,Iu,hva,hvz,nC,hcv]at O4;have t0:wr.cell? ⟨bb,ob+j*5,none⟩=some (.int .i64 vk):=(hbW.cell (p:=⟨bb,_,none⟩) Re).trans (by rw[<- hvk];simpa using hcs 0 _ rfl);have t1:wr.cell? ⟨bb,ob+j*5+1,none⟩=some (.string vx):=(hbW.cell (p:=⟨bb,_,none⟩) Re).trans (by rw[<- Iu];simpa using hcs 1 _ rfl);have t2:wr.cell? ⟨bb,ob+j*5+2,none⟩=some (.int .i64 va):=(hbW.cell (p:=⟨bb,_,none⟩) Re).trans (by rw[<- hva];simpa using hcs 2 _ rfl);have t3:wr.cell? ⟨bb,ob+j*5+3,none⟩=some (.int .i64 vz):=(hbW.cell (p:=⟨bb,_,none⟩) Re).trans (by rw[<- hvz];simpa using hcs 3 _ rfl);have t4:wr.cell? ⟨bb,ob+j*5+4,none⟩=some (.slice A2 vn c2):=(hbW.cell (p:=⟨bb,_,none⟩) Re).trans (by rw[<- nC];simpa using hcs 4 _ rfl);obtain⟨at_,hat⟩:∃q,num+1+aG (pX.take j)=q:=⟨_,rfl⟩
     have hsum:at_+cv<=1000000000:=by have h1:=jl pX j v hv;have h2:=kg pX (j+1);have h3:=HUC.out;omega
     have hws:IntKind.i64.wrap ((at_:Int)+(cv:Int))=(at_:Int)+(cv:Int):=IntWalk.i64_in _ (by omega);have hwj:IntKind.i64.wrap ((j:Int)+1)=(j:Int)+1:=IntWalk.i64_in _ (by omega);have hnxt:((at_:Int)+(cv:Int))=((num+1+aG (pX.take (j+1)):Nat):Int):=by have h1:=jl pX j v hv;omega
     have hcF:jT (pX.take (j+1)) (num+1) Ul=if vk=4 then lM (jT (pX.take j) (num+1) Ul) vx (at_:Int) else jT (pX.take j) (num+1) Ul:=by
      rw[yF hv,EP,hvk,Iu,hat]
     rw[hat];have HCF:=kH hcF;have bF:=kH hnxt;have HCV:=kH O4;have hTj1:=hTj.lt;have hrj:=hBj.lt;have HTj:=kH hTj;have HBj:=kH hBj;clear hcs p9 hK2 hv hbW hcF hnxt O4 hvk Iu hva hvz nC hcv hat hTj hBj;by_cases hv4:vk=4
     ·subst hv4
      rw[if_pos rfl]at HCF;go_wp2_with fail
      generalize hY:wr.alloc (.cells #[.int .i64 4,.string vx,.int .i64 va,.int .i64 vz,.slice A2 vn c2] 24)=Y
      have NW:Below wr.heap.size wr Y:=by rw[<- hY];exact ag _ _
      have hTY:ai Y wr.heap.size 24 #[.int .i64 4,.string vx,.int .i64 va,.int .i64 vz,.slice A2 vn c2]:=by rw[<- hY];exact ai.new wr _ _
      have Uw:Hid (aF (fun x=>x=g\/x=f\/x=kk) w4 Y):=kH (Ox.out.below NW);have Sr:=kH (HGj.out.below NW);have hBY:=HBj.out.below NW hrj;have Zr:=kH hTY;have OC:=kH hBY
      have tJ:∀W':World,aF (fun x=>x=f) Y W'->W'.cell? ⟨rp,1,none⟩=some (.map (some f))/\W'.cell? ⟨wr.heap.size,1,none⟩=some (.string vx):=fun W' hs=>by
       have h1:=OC.out.since hs (fun e=>pF.out OC.out Sr.out.fl.isMap e);have h2:=Zr.out.since hs (fun e=>pF.out Zr.out Sr.out.fl.isMap e);exact⟨h1.cell 1,h2.cell 1⟩
      have Sc:=kH tJ;have hlY:=hTY.lt;have hrY:=hBY.lt;have e0:=hBY.cell 1;have e1:=hTY.cell 1;have hs0:aF (fun x=>x=f) Y Y.drew:=(aF.refl _ Y).drew;clear hY NW hTY hBY tJ t0 t1 t2 t3 t4;go_region_held3 (fun w'=>w'.cell? ⟨rp,1,none⟩=some (.map (some f))/\w'.cell? ⟨wr.heap.size,1,none⟩=some (.string vx)) (exact Sc.out _ (by assumption)) ((go_at_call 144;refine(Od (jT (pX.take j) (num+1) Ul) f vx at_ Y.drew (aY.drew Sr.out.fl)).mono ?_;rintro e w6 ⟨rfl,gQ,hs6⟩;have hs7:=hs0.trans hs6))
      have hG6:CG g f kk ⟨lM Gi.globals ux num,lM (jT (pX.take j) (num+1) Ul) vx (at_:Int),cZ Gi.kinds (num:Int) uk⟩ w6:=⟨Sr.out.gl.since hs7 (fun e=>fC.out.1 e),gQ,Sr.out.kn.since hs7 (fun e=>fC.out.2.2 e.symm)⟩
      have qN:=Zr.out.since hs7 (fun e=>pF.out Zr.out Sr.out.fl.isMap e);have HSX6:Hid (aF (fun x=>x=g\/x=f\/x=kk) w4 w6):=kH (Uw.out.step hs7 (fun x e=>.inl (.inr (.inl e))));have t0:=qN.cell 0;have t1:=qN.cell 1;have t2:=qN.cell 2;have t3:=qN.cell 3;have t4:=qN.cell 4;have zl:=qN.lt;have HG6:=kH hG6;clear hs7 hs6 hs0 gQ hG6 qN Sr Uw Zr OC Sc hlY hrY e0 e1;go_wp2_with fail
      refine(HCV.out w6 (HS4.out.trans HSX6.out)).mono ?_;rintro e w7 ⟨rfl,dB⟩;have gN:=kH dB;clear dB t0 t1 t2 t3 t4;go_wp2_with fail
      go_roundg (gk - 1)
      case measure=>have:=HJ.out;omega
      case rel=>exact⟨j+1,by have:=HJ.out;omega,by rw[bF.out],by simp,kH (by rw[HCF.out];exact HG6.out.below gN.out),kH (HSX6.out.below gN.out)⟩
     ·rw[if_neg hv4]at HCF
      go_wp2_with fail
      refine(HCV.out _ (Zt.out.below (ag _ _))).mono ?_;rintro e w7 ⟨rfl,dB⟩;have gN:Hid (Below wr.heap.size wr w7):=kH ((ag _ _).trans (dB.mono (by simp)));clear dB t0 t1 t2 t3 t4;go_wp2_with fail
      go_roundg (gk - 1)
      case measure=>have:=HJ.out;omega
      case rel=>exact⟨j+1,by have:=HJ.out;omega,by rw[bF.out],by simp,kH (by rw[HCF.out];exact HGj.out.below gN.out),kH (Ox.out.below gN.out)⟩
    ·have NT:j=un:=by omega
     have t0:=hTj.cell 0;have t1:=hTj.cell 1;have t2:=hTj.cell 2;have t3:=hTj.cell 3;have t4:=hTj.cell 4;have TU:=hTj.lt
     have HGE:Hid (CG g f kk (lJ (kids.take (i+1)) 1 ⟨[],[],[]⟩) wr):=kH (by
      have h1:=HGj.out;rw[NT,<- HUN.out,List.take_length]at h1;rw[yF HU.out,EO,uO.out,Na.out,Ay,MZ,AA,MF.out]
      exact h1)
     have bF:Hid (((num:Int)+(au u:Int))=((1+aG (kids.take (i+1)):Nat):Int)):=kH (by
      have h1:=jl kids i u HU.out;have h2:=Na.out
      omega)
     have mY:=HCU.out wr Zt.out;obtain⟨cu,hcu2⟩:∃q,au u=q:=⟨_,rfl⟩
     rw[hcu2]at mY bF;have hsum:num+cu<=1000000000:=by have:=HUC.out;omega
     have hws:IntKind.i64.wrap ((num:Int)+(cu:Int))=(num:Int)+(cu:Int):=IntWalk.i64_in _ (by omega);have hwi:IntKind.i64.wrap ((i:Int)+1)=(i:Int)+1:=IntWalk.i64_in _ (by omega);have HC:=kH mY;clear hTj hBj mY hcu2 NT;go_wp2_with fail
     refine HC.out.mono ?_;rintro e w7 ⟨rfl,dB⟩;have gN:=kH dB;clear dB t0 t1 t2 t3 t4;go_wp2_with fail
     go_roundg (go - 1)
     case measure=>have:=HI.out;omega
     case rel=>exact⟨i+1,by have:=HI.out;omega,by rw[bF.out],by simp,kH (HGE.out.below gN.out),kH (Zt.out.below gN.out)⟩
  ·have hie:i=n:=by omega
   have HGE:Hid (CG g f kk (lJ kids 1 ⟨[],[],[]⟩) wr):=kH (by
    have h1:=HGr.out;rw[hie,<- HN.out,List.take_length]at h1
    exact h1)
   clear hie;go_wp2_with fail
   go_end0
   exact⟨rfl,HGE.out,Uu.out⟩
def gz(E:RC)(G:bf)(B:Nat)(t:ae):Prop:=
 ∀(i:Bool) (s:aQ) (p:Option Addr) (ms:List Nat) (r:RS) (V:RV) (w:World) (A:Option Addr) (c:Nat),
  aV E G r V w->bL w E.base p s ms->Dm E ms->aK w B A 0 t.kids->t.kids.length<=c->E.base<=w.heap.size->qb s.isEmpty t=true->RB r s (au t) ->
  Calls Tryz.prog 79 #[.pointer (some ⟨E.rp,0,none⟩),bD t A c,.pointer p,.bool i] w fun e w'=>e= .returned (.tuple #[])/\∃V',aV E G (aJ G i t s r).1 V' w'/\bL w' E.base p (aJ G i t s r).2 ms/\KX E (fun g=>g=E.vi\/ms.head? =some g) w w'
theorem Cm{α:Type}{a b:List α}(h:a.length=b.length):a.isEmpty=b.isEmpty:=by
 cases a<;>cases b<;>first|rfl|cases h
theorem OJ{P:Program}(w:World)(t e:TypeId)(i:TypeInfo)(ht:P.underlying t=some (.slice e))(hi:P.info? e=some i)(a:Option Addr)(len cap lo hi_:Nat)(h1:lo<=hi_)(h2:hi_<=cap):
 (Instr.slice t (.slice a len cap) (some (.int .i64 (lo:Int))) (some (.int .i64 (hi_:Int))) none).run P w= .ok (.slice (if cap=lo then a else a.map (·.add (lo*i.size))) (hi_ - lo) (cap - lo)) w:=by
 simp[Instr.slice,run_underlying ht,Instr.sliceBounds,Instr.sliceBound,asIntOf,sizeOf,typeInfo,hi];rw[if_pos h2,if_pos h1]
theorem aV.Ya{E:RC}{G:bf}{r:RS}{V:RV}{w:World}(h:aV E G r V w){g:Nat}{cs:Array Value}(hb:ai w g 68 cs):E.uA.map (·.block)≠some g:=by
 intro hg
 have hv:(Value.slice E.uA r.uses.length E.uc).ownBlock=some g:=by
  cases hA:E.uA with
  | none=>rw[hA]at hg;cases hg
  | some p=>rw[hA]at hg;simpa [Value.ownBlock] using hg
 exact h.us.bZ hb (by decide) hv
theorem QH(E:RC)(G:bf)(B:Nat)(hB:B<=E.base)(kids:List ae)(hih:∀k∈kids,gz E G B k)(i:Bool)(s:aQ)(p:Option Addr)(ms:List Nat)(r:RS)(V:RV)(w:World)
 (k0:Int) (x0:ByteArray) (a0 z0:Int) (A:Option Addr) (nk c f n Np bn br:Nat) (hnk:kids.length=nk) (hto:Np=f+n) (h:aV E G r V w) (hs:bL w E.base p s ms) (hsep:Dm E ms) (hk:aK w B A 0 kids) (hcap:nk<=c) (hfn:f+n<=nk) (hbase:E.base<=w.heap.size)
 (hbn:ai w bn 24 #[.int .i64 k0,.string x0,.int .i64 a0,.int .i64 z0,.slice A nk c]) (hbr:ai w br 68 #[.pointer (some ⟨E.rp,0,none⟩)]) (hv:lU s.isEmpty kids=true) (hrb:RB r s (aG ((kids.drop f).take n))):
 Calls Tryz.prog 146 #[.int .i64 (f:Int),.int .i64 (Np:Int),.pointer p,.bool i,.pointer (some ⟨bn,0,none⟩),.pointer (some ⟨br,0,none⟩)] w fun e w'=>e= .returned (.tuple #[])/\∃V',aV E G (ah G i kids f n s r).1 V' w'/\bL w' E.base p (ah G i kids f n s r).2 ms/\KX E (fun g=>g=E.vi\/ms.head? =some g) w w':=by
 obtain⟨i0,hi0,hz0,hz1,hz2⟩:=info_parts rP;have hsl:=OJ (P:=Tryz.prog) w 22 24 i0 Tryz.underlying22 hi0 A nk c f Np (by omega) (by omega);rw[hz1,show Np - f=n by omega]at hsl;obtain⟨A1,hA1⟩:∃A1,(if c=f then A else A.map (·.add (f*5)))=A1:=⟨_,rfl⟩
 rw[hA1]at hsl;obtain⟨c1,hc1⟩:∃q,c - f=q:=⟨_,rfl⟩
 rw[hc1]at hsl
 have hnm:n<=1000000:=by
  have h1:=hrb.room;have h2:=hrb.most;have h3:=kV ((kids.drop f).take n);simp at h3;omega
 have b4:=hbn.cell 4;have lb:=hbn.lt;have HA1:=kH hA1;have fD:=kH hih;have H:=kH h;have HS:=kH hs;have HK:=kH hk;have MH:=kH hbn;have nT:=kH hbr;have HV:=kH hv;have dH:=kH hrb;have fQ:=kH hnk;have I5:Hid (f+n<=nk/\nk<=c/\B<=E.base/\E.base<=w.heap.size):=kH ⟨hfn,hcap,hB,hbase⟩;clear hA1 hih h hs hk hbn hbr hv hrb hnk hto hcap hfn hB hbase hc1 hi0 hz0 hz1 hz2;go_enter Tryz.func146,Tryz.ntmps146
 go_wp2_with fail
 go_loopg [18] n (fun gk s18 wr=> ∃(j:Nat) (Vj:RV),j+gk=n/\s18= .int .i64 (j:Int)/\Hid (aV E G (ah G i kids f j s r).1 Vj wr)/\Hid (bL wr E.base p (ah G i kids f j s r).2 ms)/\Hid (KX E (fun g=>g=E.vi\/ms.head? =some g) w wr))
 case atStart=>exact⟨0,V,by omega,rfl,by rw[Hm];exact H,by rw[Hm];exact HS,kH (KX.refl _ _ _)⟩
 case round=>
  obtain⟨j,Vj,hj,rfl,Hj,Ox,ZC⟩:=hrel;have HJ:=kH hj;have hjn:j<=n:=by omega
  clear hj;by_cases hlt:j<n
  ·have hlt':(j:Int)<(n:Int):=by omega
   obtain⟨u,hu⟩:∃u,kids[f+j]? =some u:=⟨_,abI (by rw[fQ.out];have:=I5.out;omega)⟩
   have hbW:Below E.base w wr:=ZC.out.low I5.out.2.2.2;have hkr:aK wr B A 0 kids:=aK.below (hbW.mono I5.out.2.2.1) (abE _) _ _ _ HK.out;obtain⟨vals,⟨b,off,hA,hbl,hcs⟩,hT⟩:=hkr.get (f+j) u hu;obtain⟨A',c',lQ,hK'⟩:=hT.five;subst hA;subst lQ;have mY:=hT.cap;have hsz:=ZC.out.size
   have hA1:A1=some ⟨b,off+f*5,none⟩:=by
    rw[<- HA1.out,if_neg (by have:=I5.out;omega)];simp[Addr.add_lit]
   subst hA1;have hbb:b<wr.heap.size:=by have:=I5.out;omega
   obtain⟨uk,AA⟩:∃q,u.kind=q:=⟨_,rfl⟩
   obtain⟨ux,Ay⟩:∃q,u.text=q:=⟨_,rfl⟩
   obtain⟨ua,Da⟩:∃q,u.at_=q:=⟨_,rfl⟩
   obtain⟨uz,Iw⟩:∃q,u.end_=q:=⟨_,rfl⟩
   obtain⟨un,hun⟩:∃q,u.kids.length=q:=⟨_,rfl⟩
   have hcs':∀q v,[Value.int .i64 uk,.string ux,.int .i64 ua,.int .i64 uz,.slice A' un c'][q]? =some v->wr.cell? ⟨b,off+f*5+j*5+q,none⟩=some v:=fun q v hq=>by
    have:=hcs q v (by rw[AA,Ay,Da,Iw,hun];exact hq);rw[show off+(0+(f+j))*5+q=off+f*5+j*5+q by omega]at this;exact this
   have t0:wr.cell? ⟨b,off+f*5+j*5,none⟩=some (.int .i64 uk):=by simpa using hcs' 0 _ rfl
   have t1:wr.cell? ⟨b,off+f*5+j*5+1,none⟩=some (.string ux):=by simpa using hcs' 1 _ rfl
   have t2:wr.cell? ⟨b,off+f*5+j*5+2,none⟩=some (.int .i64 ua):=by simpa using hcs' 2 _ rfl
   have t3:wr.cell? ⟨b,off+f*5+j*5+3,none⟩=some (.int .i64 uz):=by simpa using hcs' 3 _ rfl
   have t4:wr.cell? ⟨b,off+f*5+j*5+4,none⟩=some (.slice A' un c'):=by simpa using hcs' 4 _ rfl
   have hbR:=ZC.out.blk nT.out (by decide) (by decide) (by decide) (H.out.Ya nT.out);have hmem:u∈kids:=abQ hu
   have hrbj:RB (ah G i kids f j s r).1 (ah G i kids f j s r).2 (au u):=by
    refine dH.out.slow (ym G kids i f j s r) (iZ G kids i f j s r) ?_;have h1:=qK G kids i f j s r;have h2:((kids.drop f).take n)[j]? =some u:=by rw[List.getElem?_take_of_lt hlt,List.getElem?_drop];exact hu
    have h3:=jl _ j u h2;have h4:=kg ((kids.drop f).take n) (j+1);have e:((kids.drop f).take n).take j=(kids.drop f).take j:=by rw[List.take_take,Nat.min_eq_left hjn]
    rw[e]at h3;omega
   have hvj:qb (ah G i kids f j s r).2.isEmpty u=true:=by
    rw[Cm (j3 G kids i f j s r)];exact abj HV.out u hmem
   obtain⟨X,hX⟩:∃X,wr.alloc (.cells #[.int .i64 uk,.string ux,.int .i64 ua,.int .i64 uz,.slice A' un c'] 24)=X:=⟨_,rfl⟩
   have hbX:Below wr.heap.size wr X:=by rw[<- hX];exact ag _ _
   have hcall:=fD.out u hmem i (ah G i kids f j s r).2 p ms (ah G i kids f j s r).1 Vj X A' c' (Hj.out.below hbX) (Ox.out.below hbX) hsep (aK.below hbX (by have:=I5.out;omega) _ _ _ hK') mY (by have:=I5.out;have:=hbX.size;omega) hvj hrbj;unfold bD at hcall;rw[AA,Ay,Da,Iw,hun,<- BZ G i kids f j s r u hu]at hcall;have HC:=kH hcall;have yZ:=kH hbX;have EK:ai X wr.heap.size 24 #[.int .i64 uk,.string ux,.int .i64 ua,.int .i64 uz,.slice A' un c']:=by rw[<- hX];exact ai.new wr _ _
   have hRX:=hbR.below hbX hbR.lt;have r0:=hRX.cell 0;have lr:=hRX.lt;have y0:=EK.cell 0;have y1:=EK.cell 1;have y2:=EK.cell 2;have y3:=EK.cell 3;have y4:=EK.cell 4;have ly:=EK.lt;have hwj:IntKind.i64.wrap ((j:Int)+1)=(j:Int)+1:=IntWalk.i64_in _ (by omega);clear hcs hcs' hT hK' hkr hbW hu hcall hbX hrbj hvj hmem AA Ay Da Iw hun mY hbR EK hRX;go_wp2_with (rw[hX])
   refine HC.out.mono ?_;rintro e w5 ⟨rfl,V5,h5,s5,k5⟩;have H5:=kH h5;have S5:=kH s5;have K5:Hid (KX E (fun g=>g=E.vi\/ms.head? =some g) w w5):=kH (ZC.out.trans ((KX.of_below (M:=fun g=>g=E.vi\/ms.head? =some g) yZ.out).trans k5 (fun g hg=>.inl hg)) (fun g hg=>.inl hg));clear h5 s5 k5 t0 t1 t2 t3 t4 r0 y0 y1 y2 y3 y4 lr ly;go_wp2_with fail
   go_roundg (gk - 1)
   case measure=>have:=HJ.out;omega
   case rel=>exact⟨j+1,V5,by have:=HJ.out;omega,by simp,H5,S5,K5⟩
  ·have NT:j=n:=by omega
   subst NT;go_wp2_with fail
   go_end0
   exact⟨rfl,Vj,Hj.out,Ox.out,ZC.out⟩
end Go.Proofs.YtoepemlnlpamlaaGreat
