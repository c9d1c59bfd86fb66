/- The law NamesStand holds: for every text and every number the law returns true, and its arguments read as before. No condition. Part 44: Chg. -/
import Derived.Test.YtoepemlnlpamlaaGreatStand36
import Derived.Test.YtoepemlnlpamlaaGreatStand43
set_option maxRecDepth 100000
set_option maxHeartbeats 4000000
namespace Go.Proofs.YtoepemlnlpamlaaGreat
open Go.RowKit
theorem Addr.add_add(a:Addr)(x y:Nat):(a.add x).add y=a.add (x+y):=by
 unfold Addr.add;by_cases h1:x=0
 ·simp[h1]
 ·by_cases h2:y=0
  ·simp[h1,h2]
  ·simp[h1,h2,Nat.add_assoc]
theorem We{w:World}{A S:Option Addr}{vals:List (List Value)}(h5:∀v∈vals,v.length=5){n c k:Nat}(hk:k<=n)(hnc:n<=c)(hS:(if c=0 then A else A.map (·.add 0))=S)(h:∀j u,(List.flatten vals)[j]? =some u->∃a,A=some a/\w.cell? (a.add j)=some u):
 ∀j u,(List.flatten (vals.take k))[j]? =some u->∃a,S=some a/\w.cell? (a.add j)=some u:=by
 intro j u hj;rw[AJ h5]at hj
 have hlt:j<k*5:=by
  have:=(aah.1 hj).1;rw[List.length_take]at this;omega
 rw[List.getElem?_take,if_pos hlt]at hj;obtain⟨a,ha,hc⟩:=h j u hj;refine⟨a.add 0,?_,?_⟩
 ·rw[<- hS,if_neg (by omega),ha]
  rfl
 ·rw[Addr.add_add,Nat.zero_add]
  exact hc
theorem Wh{w:World}{A S:Option Addr}{vals:List (List Value)}(h5:∀v∈vals,v.length=5){n c k:Nat}(hk:k<=n)(hnc:n<=c)(hS:(if c=k then A else A.map (·.add (k*5)))=S)(h:∀j u,(List.flatten vals)[j]? =some u->∃a,A=some a/\w.cell? (a.add j)=some u)(hfl:(List.flatten vals).length=n*5):
 ∀j u,(List.flatten (vals.drop k))[j]? =some u->∃a,S=some a/\w.cell? (a.add j)=some u:=by
 intro j u hj;rw[AO h5]at hj;rw[List.getElem?_drop]at hj;have hlt:=(aah.1 hj).1;obtain⟨a,ha,hc⟩:=h _ u hj;refine⟨a.add (k*5),?_,?_⟩
 ·rw[<- hS,if_neg (by omega),ha]
  rfl
 ·rw[Addr.add_add]
  exact hc
theorem aP.Xf{w:World}{base:Nat}{e:TypeId}{size n c:Nat}{A:Option Addr}{xs:List Value}(h:aP w base e size (.slice A n c) n xs):∀j u,xs[j]? =some u->∃a,A=some a/\w.cell? (a.add j)=some u:=by
 intro j u hj
 have hn:0<n:=by
  rcases Nat.eq_zero_or_pos n with h0|h0
  ·have h1:=h.1
   have h2:=(aah.1 hj).1;rw[h0,Nat.zero_mul]at h1;omega
  ·exact h0
 obtain⟨g,off,cap,hv,-,-,-,-,hc⟩:=h.form hn;cases hv
 exact⟨_,rfl,by rw[Addr.add_lit];exact hc j u hj⟩
theorem Cc{B:Nat}{w w':World}{row:Option Nat}(hg:w.grownBy w' row)(hB:B<=w.heap.size)(hr:∀k,row=some k->B<=k):Below B w w':=((aA.refl (fun g=>B<=g) w).grown hg (fun k hk=>.inl (hr k hk))).toBelow hB (fun _ hg=>hg)
theorem Vy{P:Program}{ops:Array Oper}{Q:Exit->Act->World->Prop}{S T:World->Prop}{ex:List Nat}{k:Nat}{ss:List (Nat×Nat)}{o:Oper}{a:Act}{w:World}{f:FuncId}{args:Array Value}(ho:ops[k]? =some o)(hg:Region.wanted o (yielded ops a.tmps)=true)
 (hr:(execOp a.eval o).run P w= .ok (.enter f args) w) (h:Calls P f args w fun e w'=> ∃v,e= .returned v/\(T w'/\(ex.contains k=false->S w'))/\rU P ops Q S T ex ss (a.put o.dst v) w'):rU P ops Q S T ex ((k,2)::ss) a w:=
 ⟨o,ho,hg,by unfold Oper.wp;rw[hr];exact h.mono (fun e w' ⟨v,he,h1,h2⟩=>by subst he;exact⟨h1,h2⟩)⟩
theorem yf(t:aa)(f g:Nat)(l:List aa):cZ t [] f g l= .node t.kind t.text t.at_ t.end_ (t.kids.take f++l++t.kids.drop g):=by
 cases t
 rw[cZ];rfl
theorem FB(t:aa)(j:Nat)(p:List Nat)(f g:Nat)(l:List aa):cZ t (j::p) f g l= .node t.kind t.text t.at_ t.end_ (xN t.kids j p f g l):=by
 cases t
 rw[cZ];rfl
theorem tY(t:aa)(p:List Nat)(f g:Nat)(l:List aa):(cZ t p f g l).kind=t.kind/\(cZ t p f g l).text=t.text/\(cZ t p f g l).at_=t.at_/\(cZ t p f g l).end_=t.end_:=by
 cases p with
 | nil=>rw[yf];exact⟨rfl,rfl,rfl,rfl⟩
 | cons j p=>rw[FB];exact⟨rfl,rfl,rfl,rfl⟩
theorem Vd(R:Nat->Prop)(l:List aa)(LA:Option Addr)(lc from_ gu:Nat)(hft:from_<=gu)(hll:l.length<=1000000):∀(m:Nat) (p:List Nat) (t u:aa) (A:Option Addr) (c:Nat) (PA:Option Addr) (pc:Nat) (w:World),p.length<m->ai t<=1000000->t.kids.length<=c->aK w w.heap.size A 0 t.kids->p.length<=1000000->p.length<=pc->df 1 nG w w.heap.size PA p->dX t p=some u->gu<=u.kids.length->(∀g,R g->g<w.heap.size)->dO w R LA 0 l ->
 Calls Tryz.prog 51 #[bB t A c,.slice PA p.length pc,.int .i64 (from_:Int),.int .i64 (gu:Int),.slice LA l.length lc] w fun e w'=> ∃A' c',e= .returned (bB (cZ t p from_ gu l) A' c')/\(cZ t p from_ gu l).kids.length<=c'/\dO w' (fun g=>w.heap.size<=g\/R g) A' 0 (cZ t p from_ gu l).kids/\Below w.heap.size w w':=by
 obtain⟨i0,hi0,hz0,hz1,hz2⟩:=info_parts pF;intro m
 induction m with
 | zero=>intro p t u A c PA pc w hm;omega
 | succ m ih=>
  intro p t u A c PA pc w hm hct hcap hk hpl hpc hrow hf hto hB0 hkl;obtain⟨k,x,a,z,n,hk0,hx0,ha0,hzz,hn0,ji⟩:=gD t A c;obtain⟨ln,hln⟩:∃q,l.length=q:=⟨_,rfl⟩
  rw[ji,hln];rw[hln]at hll;obtain⟨W2,hW2⟩:∃W2,(w.alloc (.cells #[.int .i64 k,.string x,.int .i64 a,.int .i64 z,.slice A n c] 24)).alloc (.cells #[.int .i64 0,.string ⟨#[]⟩,.int .i64 0,.int .i64 0,.slice none 0 0] 24)=W2:=⟨_,rfl⟩
  have hb2:Below w.heap.size w W2:=by rw[<- hW2];exact((Below.refl _ w).alloc (aab _) _).alloc (by simp) _
  have rf:ak W2 w.heap.size 24 #[.int .i64 k,.string x,.int .i64 a,.int .i64 z,.slice A n c]:=by rw[<- hW2];exact(ak.new w _ _).alloc _
  have hR2:ak W2 (w.heap.size+1) 24 #[.int .i64 0,.string ⟨#[]⟩,.int .i64 0,.int .i64 0,.slice none 0 0]:=by
   rw[<- hW2];have:=ak.new (w.alloc (.cells #[.int .i64 k,.string x,.int .i64 a,.int .i64 z,.slice A n c] 24)) 24 #[.int .i64 0,.string ⟨#[]⟩,.int .i64 0,.int .i64 0,.slice none 0 0];simpa using this
  have hcopy:=Va 1000000 t A c W2 hct (by omega) hcap (aK.mono hb2.size _ _ _ (aK.below hb2 (aab _) _ _ _ hk));rw[ji]at hcopy;have hnb:n<=1000000:=by have h1:=dU t.kids;have h2:=jO t;omega
  have HCOPY:=kH hcopy;have HB2:=kH hb2;have vS:=kH rf;have HR2:=kH hR2;have fO:=kH ih;have HT:Hid (t.kind=k/\t.text=x/\t.at_=a/\t.end_=z/\t.kids.length=n/\ai t<=1000000):=kH ⟨hk0,hx0,ha0,hzz,hn0,hct⟩;have za:=kH hrow;have HF:=kH hf;have HTO:=kH hto;have HKL:=kH hkl;have HLN:=kH hln;have CK:=kH hB0;have HM:=kH hm
  have Sc:∀A' c',bB t A' c'= .agg #[.int .i64 k,.string x,.int .i64 a,.int .i64 z,.slice A' n c']:=by
   intro A' c';unfold bB;rw[hk0,hx0,ha0,hzz,hn0]
  have Bl:=kH Sc;obtain⟨⟨b0,b1,b2,b3,b4⟩,-⟩:=rf.five;have lb:=rf.lt;obtain⟨pn,hpn⟩:∃q,p.length=q:=⟨_,rfl⟩
  rw[hpn]at hpl hpc⊢;have QG:=kH hpn;clear hk hcopy hb2 rf hR2 ih hk0 hx0 ha0 hzz hn0 ji hrow hf hto hkl hln hB0 hm Sc hpn hct hcap;go_enter Tryz.func51,Tryz.ntmps51
  go_wp2_with (rw[hW2])
  refine HCOPY.out.mono ?_;rintro e w3 ⟨A3,c3,rfl,hK3,hb3⟩;rw[Bl.out];have mr:=vS.out.below hb3 vS.out.lt;obtain⟨W4,l9⟩:∃W4,bZ w3 w.heap.size (.int .i64 k) (.string x) (.int .i64 a) (.int .i64 z) (.slice A3 n c3)=W4:=⟨_,rfl⟩
  have hs4:aA (fun g=>g=w.heap.size) w3 W4:=by rw[<- l9];exact kP
  have Ko:ak W4 w.heap.size 24 #[.int .i64 k,.string x,.int .i64 a,.int .i64 z,.slice A3 n c3]:=by rw[<- l9];exact ak.sI mr _ _ _ _ _
  have fB:ak W4 (w.heap.size+1) 24 #[.int .i64 0,.string ⟨#[]⟩,.int .i64 0,.int .i64 0,.slice none 0 0]:=(HR2.out.below hb3 HR2.out.lt).since hs4 (by omega);have hlt2:w.heap.size+1<W2.heap.size:=HR2.out.lt;have hsz4:W2.heap.size<=W4.heap.size:=aac hb3.size hs4.size
  have hK4:bT W4 W2.heap.size (.slice A3 n c3) n t.kids:=by
   have h5:=HT.out.2.2.2.2.1;rw[h5]at hK3;exact hK3.keeps (fun g cs hP hc=>hs4.block g (aae.1 hc).1 (fun h=>by have h1:W2.heap.size<=g:=hP;omega))
  have hb4:Below w.heap.size w W4:=HB2.out.trans ((hb3.mono (by omega)).trans (hs4.toBelow (by have:=hb3.size;omega) (fun g hg=>by omega)));obtain⟨⟨c0,c1,c2,c3',c4⟩,f0,f1,f2,f3,f4⟩:=mr.five;have l3:=mr.lt;have CF:=kH Ko;have HR4:=kH fB;have El:=kH hK4;have pK:=kH hb4;have HLT2:Hid (w.heap.size+1<W2.heap.size/\W2.heap.size<=W4.heap.size):=kH ⟨hlt2,hsz4⟩;have d4:=Ko.cell 4;have l4:=Ko.lt;unfold bZ at l9;clear hK3 hb3 mr hs4 Ko fB hlt2 hsz4 hK4 hb4 b0 b1 b2 b3 b4 lb hW2 HCOPY
  cases p with
  | nil=>
   have hp0:pn=0:=QG.out.symm;subst hp0;obtain⟨vals,hO4,PR,GX⟩:=El.out;have MK:=bV.NA PR;obtain⟨hvl,hfl,hone,aU⟩:=MK.lens;have htu:t=u:=by have:=HF.out;simpa [dX] using this
   have hton:gu<=n:=by have:=HTO.out;rw[<- htu,HT.out.2.2.2.2.1]at this;exact this
   obtain⟨A9,c9,hsh,hcn,hcm⟩:=hO4.shape;cases hsh
   obtain⟨S1,hS1⟩:∃S1,(if c3=0 then A3 else A3.map (·.add 0))=S1:=⟨_,rfl⟩
   obtain⟨S2,hS2⟩:∃S2,(if c3=gu then A3 else A3.map (·.add (gu*5)))=S2:=⟨_,rfl⟩
   have hsl1:∀W:World,(Instr.slice 22 (.slice A3 n c3) none (some (.int .i64 (from_:Int))) none).run Tryz.prog W= .ok (.slice S1 from_ c3) W:=fun W=>by
    rw[<- hS1];exact EE (P:=Tryz.prog) W 22 24 i0 Tryz.underlying22 hi0 A3 n c3 from_ (by omega)
   have hsl2:∀W:World,(Instr.slice 22 (.slice A3 n c3) (some (.int .i64 (gu:Int))) none none).run Tryz.prog W= .ok (.slice S2 (n - gu) (c3 - gu)) W:=fun W=>by
    rw[<- hS2,<- hz1];exact Ck (P:=Tryz.prog) W 22 24 i0 Tryz.underlying22 hi0 A3 n c3 gu hton
   obtain⟨zt,hVL,hcL⟩:=dO.vals HKL.out;obtain⟨hvlL,hflL,honeL,hfiveL⟩:=hVL.lens;have hbase0:W4.heap.size<=W4.heap.size:=aab _;obtain⟨W5,pI⟩:∃W5,W4.alloc (.cells #[] 24)=W5:=⟨_,rfl⟩
   have hb5:Below W4.heap.size W4 W5:=by rw[<- pI];exact ae _ _
   have hE5:ak W5 W4.heap.size 24 #[]:=by rw[<- pI];exact ak.new _ _ _
   have Kn:aP W5 W4.heap.size 24 5 (.slice (some ⟨W4.heap.size,0,none⟩) 0 0) 0 []:=aP.block (n:=0) (cur:=#[]) (aab _) hE5 (by simp[maxLen]) rfl;have hcell1:∀W,Below W4.heap.size W4 W->∀j u,(List.flatten (vals.take from_))[j]? =some u->∃a,S1=some a/\W.cell? (a.add j)=some u:=fun W hb=>We aU (by omega) hcn hS1 (aP.Xf (hO4.below hb (fun g hg=>(hO4.lt g hg).2)))
   have hcell2:∀W,Below W4.heap.size W4 W->∀j u,(List.flatten zt)[j]? =some u->∃a,LA=some a/\W.cell? (a.add j)=some u:=fun W hb j u hj=>by
    obtain⟨a,ha,hc⟩:=hcL j u hj;refine⟨a,ha,?_⟩;rw[Nat.zero_mul,Nat.zero_add]at hc;have hlt:(a.add j).block<w.heap.size:=World.block_lt_of_cell? w _ hc;exact((pK.out.trans (hb.mono pK.out.size)).cell (p:=a.add j) hlt).trans hc
   have WA:∀W,Below W4.heap.size W4 W->∀j u,(List.flatten (vals.drop gu))[j]? =some u->∃a,S2=some a/\W.cell? (a.add j)=some u:=fun W hb=>Wh aU hton hcn hS2 (aP.Xf (hO4.below hb (fun g hg=>(hO4.lt g hg).2))) (by rw[hfl,GX])
   have hl1:(List.flatten (vals.take from_)).length=from_*5:=by rw[AJ aU,List.length_take,hfl,GX];omega
   have hl2:(List.flatten zt).length=ln*5:=by rw[hflL,HLN.out]
   have hl3:(List.flatten (vals.drop gu)).length=(n - gu)*5:=by rw[AO aU,List.length_drop,hfl,GX];omega
   have ho1:∀u∈List.flatten (vals.take from_),u.oneCell'=true:=fun u hu=>hone u (by rw[AJ aU]at hu;exact List.mem_of_mem_take hu)
   have ho3:∀u∈List.flatten (vals.drop gu),u.oneCell'=true:=fun u hu=>hone u (by rw[AO aU]at hu;exact List.mem_of_mem_drop hu)
   have HC1:Hid ((∀W,Below W4.heap.size W4 W->∀j u,(List.flatten (vals.take from_))[j]? =some u->∃a,S1=some a/\W.cell? (a.add j)=some u)/\(List.flatten (vals.take from_)).length=from_*5/\(∀u∈List.flatten (vals.take from_),u.oneCell'=true)):=kH ⟨hcell1,hl1,ho1⟩;have ug:Hid ((∀W,Below W4.heap.size W4 W->∀j u,(List.flatten zt)[j]? =some u->∃a,LA=some a/\W.cell? (a.add j)=some u)/\(List.flatten zt).length=ln*5/\(∀u∈List.flatten zt,u.oneCell'=true)):=kH ⟨hcell2,hl2,honeL⟩;have La:Hid ((∀W,Below W4.heap.size W4 W->∀j u,(List.flatten (vals.drop gu))[j]? =some u->∃a,S2=some a/\W.cell? (a.add j)=some u)/\(List.flatten (vals.drop gu)).length=(n - gu)*5/\(∀u∈List.flatten (vals.drop gu),u.oneCell'=true)):=kH ⟨WA,hl3,ho3⟩;have iY:=kH MK;have M9:=kH hVL;have zm:=kH Kn;have fT:=kH hb5;have Fs:=CF.out.below hb5 CF.out.lt;have e4:=Fs.cell 4;have l5:=Fs.lt;clear hO4 PR GX MK hvl hfl hone aU hcL hVL hvlL hflL honeL hfiveL hbase0 hb5 hE5 Kn hcell1 hcell2 WA hl1 hl2 hl3 ho1 ho3 Fs;go_wp2_with (first|rw[l9]|rw[pI]|(at_builtin;refine vV _ rfl (.tmp 37) (.tmp 41) _ rfl W4.heap.size 24 i0 _ 5 64 Tryz.underlying22 hi0 hz0 hz1 hz2 rfl (by omega) (.slice (some ⟨W4.heap.size,0,none⟩) 0 0) 0 [] rfl zm.out S1 from_ c3 (List.flatten (vals.take from_)) rfl HC1.out.2.1 (HC1.out.1 _ fT.out) HC1.out.2.2 (by simp only[maxLen];omega) (by omega) fT.out.size ?_;intro vn w6 hown hgrow hat;rw[Nat.zero_add,List.nil_append]at hown;obtain⟨A6,c6,eG,-,-⟩:=hown.shape;subst eG;have HOWN:=kH hown;have nZ:=kH (fT.out.trans (Cc hgrow fT.out.size (fun k hk=>by cases hk;exact aab _)));clear hown hgrow hat)|(at_builtin;refine vV _ rfl (.tmp 43) (.tmp 44) _ rfl W4.heap.size 24 i0 _ 5 64 Tryz.underlying22 hi0 hz0 hz1 hz2 rfl (by omega) (.slice A6 from_ c6) from_ _ rfl HOWN.out LA ln lc (List.flatten zt) rfl ug.out.2.1 (ug.out.1 _ nZ.out) ug.out.2.2 (by simp only[maxLen];omega) (by omega) nZ.out.size ?_;intro vn w7 hown hgrow hat;obtain⟨A7,c7,eG,-,-⟩:=hown.shape;subst eG;have HOWN7:=kH hown;have gT:=kH (nZ.out.trans (Cc hgrow nZ.out.size (fun k hk=>(HOWN.out.lt k hk).1)));have g4:=(CF.out.below gT.out CF.out.lt).cell 4;have l7:=(CF.out.below gT.out CF.out.lt).lt;clear hown hgrow hat)|(at_builtin;refine vV _ rfl (.tmp 46) (.tmp 50) _ rfl W4.heap.size 24 i0 _ 5 64 Tryz.underlying22 hi0 hz0 hz1 hz2 rfl (by omega) (.slice A7 (from_+ln) c7) (from_+ln) _ rfl HOWN7.out S2 (n - gu) (c3 - gu) (List.flatten (vals.drop gu)) rfl La.out.2.1 (La.out.1 _ gT.out) La.out.2.2 (by simp only[maxLen];omega) (by omega) gT.out.size ?_;intro vn w8 hown hgrow hat;obtain⟨A8,c8,eG,hc8,-⟩:=hown.shape;subst eG;have HOWN8:=kH hown;have HCAP8:=kH hc8;have rH:=kH (gT.out.trans (Cc hgrow gT.out.size (fun k hk=>(HOWN7.out.lt k hk).1)));obtain⟨⟨m0,m1,m2,m3,m4⟩,q0,q1,q2,q3,q4⟩:=(CF.out.below rH.out CF.out.lt).five;have lm:=(CF.out.below rH.out CF.out.lt).lt;obtain⟨⟨y0,y1,y2,y3,y4⟩,r0,r1,r2,r3,r4⟩:=(HR4.out.below rH.out HR4.out.lt).five;have lr:=(HR4.out.below rH.out HR4.out.lt).lt;clear hown hgrow hat hc8))
   obtain⟨tot,htot⟩:∃q,from_+ln+(n - gu)=q:=⟨_,rfl⟩
   have hO8:=HOWN8.out;have hc8:=HCAP8.out;rw[htot]at hO8 hc8⊢;have hN8:=CF.out.below rH.out CF.out.lt;have eB:=HR4.out.below rH.out HR4.out.lt;have hlt0:=HLT2.out;have hNs:=hN8.gY 4 (.slice A8 tot c8);have hN9:ak (w8.setCell ⟨w.heap.size,4,none⟩ (.slice A8 tot c8)) w.heap.size 24 #[.int .i64 k,.string x,.int .i64 a,.int .i64 z,.slice A8 tot c8]:=by simpa using hNs
   have fA:=eB.far (p:=⟨w.heap.size,4,none⟩) (show w.heap.size+1≠w.heap.size by omega) (.slice A8 tot c8);obtain⟨Z,hZ⟩:∃Z,bZ (w8.setCell ⟨w.heap.size,4,none⟩ (.slice A8 tot c8)) (w.heap.size+1) (.int .i64 k) (.string x) (.int .i64 a) (.int .i64 z) (.slice A8 tot c8)=Z:=⟨_,rfl⟩
   have D5:aA (fun g=>g=w.heap.size\/g=w.heap.size+1) w8 Z:=by
    rw[<- hZ];exact((aA.refl (fun g=>g=w.heap.size\/g=w.heap.size+1) w8).setCell (p:=⟨w.heap.size,4,none⟩) (.inl (.inl rfl)) _).step (kP (w:=w8.setCell ⟨w.heap.size,4,none⟩ (.slice A8 tot c8)) (g:=w.heap.size+1)) (fun g hg=>.inl (.inr hg))
   have BF:ak Z (w.heap.size+1) 24 #[.int .i64 k,.string x,.int .i64 a,.int .i64 z,.slice A8 tot c8]:=by rw[<- hZ];exact ak.sI fA _ _ _ _ _
   have uE:Below w.heap.size w Z:=(pK.out.trans (rH.out.mono pK.out.size)).trans (D5.toBelow (aac pK.out.size rH.out.size) (fun g hg=>by omega))
   have PZ:aP Z W4.heap.size 24 5 (.slice A8 tot c8) tot (List.flatten (vals.take from_++zt++vals.drop gu)):=by
    rw[List.flatten_append,List.flatten_append];exact hO8.since D5 (fun g hg hq=>by have:=(hO8.lt g hg).1;omega)
   have WH:fD Z (fun g=>w.heap.size<=g\/R g) (t.kids.take from_++l++t.kids.drop gu) (vals.take from_++zt++vals.drop gu):=by
    have hkeep:gJ (fun g=>W2.heap.size<=g/\some g≠(Value.slice A3 n c3).ownBlock) W4 Z:=(gJ.all rH.out).trans (gJ.since D5 (fun g _ hP hq=>by have:=hP.1;omega));have hVt:fD Z (fun g=>w.heap.size<=g\/R g) t.kids vals:=(iY.out.keep hkeep).weak (fun g _ hP=>.inl (by have:=hP.1;omega));have hkeepL:gJ (fun g=>R g) w Z:=gJ.below uE uE.size (fun g hg=>CK.out g hg);have hVl:fD Z (fun g=>w.heap.size<=g\/R g) l zt:=(M9.out.keep hkeepL).weak (fun g _ hP=>.inr hP);exact((hVt.take from_).append hVl).append (hVt.drop gu)
   have hlen:(t.kids.take from_++l++t.kids.drop gu).length=tot:=by
    rw[aam,aam,List.length_take,List.length_drop,HT.out.2.2.2.2.1,HLN.out];omega
   have bC:Hid (∃A' c',Ending.returned (.agg #[.int .i64 k,.string x,.int .i64 a,.int .i64 z,.slice A8 tot c8])= .returned (bB (cZ t [] from_ gu l) A' c')/\(cZ t [] from_ gu l).kids.length<=c'/\dO Z (fun g=>w.heap.size<=g\/R g) A' 0 (cZ t [] from_ gu l).kids/\Below w.heap.size w Z):=by
    refine kH ⟨A8,c8,?_,?_,?_,uE⟩
    ·rw[yf]
     unfold bB;show _=Ending.returned (Value.agg #[.int .i64 t.kind,.string t.text,.int .i64 t.at_,.int .i64 t.end_,.slice A8 (t.kids.take from_++l++t.kids.drop gu).length c8]);rw[hlen,HT.out.1,HT.out.2.1,HT.out.2.2.1,HT.out.2.2.2.1]
    ·rw[yf]
     show(t.kids.take from_++l++t.kids.drop gu).length<=c8;rw[hlen];exact hc8
    ·rw[yf]
     exact dO.OO PZ WH hlen (fun g hg=>.inl (by have:=(PZ.lt g hg).1;omega))
   obtain⟨⟨v0,v1,v2,v3,v4⟩,-⟩:=BF.five;unfold bZ at hZ;clear hO8 hc8 hN8 eB hNs hN9 fA D5 BF uE PZ WH hlen;go_wp2_with (rw[hZ])
   try simp only[Exit.inBlock,Exit.then]
   refine bodyPost_ret (v:=.agg #[.int .i64 k,.string x,.int .i64 a,.int .i64 z,.slice A8 tot c8]) (by simp[results,Tryz.results51,go_sem,v0,v1,v2,v3,v4]) rfl ?_;exact bC.out
  | cons j p=>
   have hpn:pn=p.length+1:=QG.out.symm;subst hpn
   obtain⟨v,hv,hfv⟩:∃v,t.kids[j]? =some v/\dX v p=some u:=by
    have h:=HF.out;rw[dX]at h
    cases hv:t.kids[j]? with
    | none=>rw[hv]at h;cases h
    | some v=>rw[hv]at h;exact⟨v,rfl,h⟩
   have hjn:j<n:=by have:=(aah.1 hv).1;rw[HT.out.2.2.2.2.1]at this;exact this
   obtain⟨vals,hO4,PR,GX⟩:=El.out;have MK:=bV.NA PR;obtain⟨hvl,hfl,hone,aU⟩:=MK.lens;obtain⟨rg,ro,c3b,hA3,hcn,hcm,hrg0,hrg1,-⟩:=hO4.form (by omega);cases hA3
   obtain⟨vc,Mw,hTv⟩:=MK.get j v hv;obtain⟨Av,cv,hvcs,hcv,hKv⟩:=hTv.five;subst hvcs;obtain⟨kv,xv,av,zv,nv,Ka,hxv,hav,hzv,ji,hvv⟩:=gD v Av cv;obtain⟨rb,Mh,WL,hrb,hrc⟩:=za.out 0 j rfl;subst WL;obtain⟨V5,Fg⟩:∃V5,W4.drew=V5:=⟨_,rfl⟩
   have D7:Below w.heap.size w V5:=by rw[<- Fg];exact pK.out.drew
   have hsV:V5.heap.size=W4.heap.size:=by rw[<- Fg];rfl
   have WN:aP V5 W2.heap.size 24 5 (.slice (some ⟨rg,ro,none⟩) n c3) n (List.flatten vals):=by rw[<- Fg];exact hO4.drew
   have hVV:fD V5 (fun g=>W2.heap.size<=g/\some g≠(Value.slice (some ⟨rg,ro,none⟩) n c3).ownBlock) t.kids vals:=by rw[<- Fg];exact fD.keep (w':=W4.drew) (by exact⟨aab _,fun _ _ _=>rfl⟩) MK
   have Qb:ak V5 w.heap.size 24 #[.int .i64 k,.string x,.int .i64 a,.int .i64 z,.slice (some ⟨rg,ro,none⟩) n c3]:=by rw[<- Fg];exact CF.out.drew
   have hRV5:ak V5 (w.heap.size+1) 24 #[.int .i64 0,.string ⟨#[]⟩,.int .i64 0,.int .i64 0,.slice none 0 0]:=by rw[<- Fg];exact HR4.out.drew
   have UW:=WN.kid aU Mw hjn;rw[Ka,hxv,hav,hzv,ji]at UW;obtain⟨t0,t1,t2,t3,t4⟩:=JS UW rfl;have p0:V5.cell? ⟨rb,Mh,none⟩=some (.int .i64 (j:Int)):=(D7.cell (p:=⟨rb,_,none⟩) hrb).trans (by simpa using hrc 0 _ rfl);have n4:=Qb.cell 4;obtain⟨PA2,hPA2⟩:∃q,(if pc=1 then some ⟨rb,Mh,none⟩ else some ⟨rb,Mh+1,none⟩:Option Addr)=q:=⟨_,rfl⟩
   have hslp:∀W:World,(Instr.slice 28 (.slice (some ⟨rb,Mh,none⟩) (p.length+1) pc) (some (.int .i64 1)) none none).run Tryz.prog W= .ok (.slice PA2 p.length (pc - 1)) W:=fun W=>by
    rw[<- hPA2];exact Oj rb Mh p.length pc W
   have hrow2:df 1 nG w w.heap.size PA2 p:=by rw[<- hPA2];exact Re za.out hpc
   have Dn:ai v<=1000000:=by
    have h1:=gP t.kids j v hv;have h2:=iZ t.kids (j+1);have h3:=jO t;have h4:=HT.out.2.2.2.2.2;omega
   have hKvV:aK V5 V5.heap.size Av 0 v.kids:=by
    obtain⟨vc2,hvc2,mP⟩:=hVV.get j v hv;rw[Mw]at hvc2;cases hvc2
    obtain⟨A',c',h1,-,h3⟩:=mP.five;cases h1
    exact dO.at_ _ _ _ h3
   have hcall:=fO.out p v u Av cv PA2 (pc - 1) V5 (by have:=HM.out;simp only[aao]at this;omega) Dn hcv hKvV (by omega) (by omega) ((hrow2.below D7 (aab _)).mono D7.size) hfv HTO.out (fun g hg=>Nat.lt_of_lt_of_le (CK.out g hg) D7.size) (dO.keep (gJ.below D7 D7.size (fun g hg=>CK.out g hg)) _ _ _ HKL.out);rw[hvv,HLN.out]at hcall;obtain⟨hhk,hhx,ME,hhz⟩:=tY v p from_ gu l;have HC:=kH hcall
   have gm:Hid (∀W:World,Below V5.heap.size V5 W->W.cell? ⟨w.heap.size,4,none⟩=some (.slice (some ⟨rg,ro,none⟩) n c3)/\W.cell? ⟨rb,Mh,none⟩=some (.int .i64 (j:Int))/\W.cell? ⟨rg,ro+j*5,none⟩=some (.int .i64 kv)/\W.cell? ⟨rg,ro+j*5+1,none⟩=some (.string xv)/\W.cell? ⟨rg,ro+j*5+2,none⟩=some (.int .i64 av)/\W.cell? ⟨rg,ro+j*5+3,none⟩=some (.int .i64 zv)/\W.cell? ⟨rg,ro+j*5+4,none⟩=some (.slice Av nv cv)):=kH fun W hb=>by
    have hO:=WN.below hb (fun g hg=>(WN.lt g hg).2);have hk:=hO.kid aU Mw hjn;rw[Ka,hxv,hav,hzv,ji]at hk;obtain⟨q0,q1,q2,q3,q4⟩:=JS hk rfl;refine⟨(Qb.below hb Qb.lt).cell 4,?_,q0,q1,q2,q3,q4⟩;exact(hb.cell (p:=⟨rb,Mh,none⟩) (World.block_lt_of_cell? V5 _ p0)).trans p0
   have HOV:=kH WN;have Xu:=kH hVV;have HNV5:=kH Qb;have HRV5:=kH hRV5;have Nj:=kH D7;have HSV:=kH hsV;have HV:Hid (t.kids[j]? =some v/\(cZ v p from_ gu l).kind=kv/\(cZ v p from_ gu l).text=xv/\(cZ v p from_ gu l).at_=av/\(cZ v p from_ gu l).end_=zv):=kH ⟨hv,hhk.trans Ka,hhx.trans hxv,ME.trans hav,hhz.trans hzv⟩;have M9:Hid (vals.length=t.kids.length/\(∀v∈vals,v.length=5)/\W2.heap.size<=rg/\rg<W4.heap.size/\n<=c3):=kH ⟨hvl,aU,hrg0,hrg1,hcn⟩;have hS0:=gm.out V5 (Below.refl _ _);have hjni:(j:Int)<(n:Int):=by omega
   have hj0:¬((j:Int)<0):=by omega
   have hpos:(0:Int)<((p.length+1:Nat):Int):=by omega
   have hposn:¬(((p.length:Nat):Int)+1<=0):=by omega
   clear hv hfv hO4 PR GX MK hvl hfl hone aU Mw hTv hKv Ka hxv hav hzv ji hvv hrc hrb D7 hsV WN hVV Qb hRV5 UW hrow2 Dn hKvV hcall hhk hhx ME hhz hcn hcm hrg0 hrg1 hcv;go_wp2_with (rw[l9])
   refine Ep (fun w'=>w'.cell? ⟨w.heap.size,4,none⟩=some (.slice (some ⟨rg,ro,none⟩) n c3)/\w'.cell? ⟨rb,Mh,none⟩=some (.int .i64 (j:Int))/\w'.cell? ⟨rg,ro+j*5,none⟩=some (.int .i64 kv)/\w'.cell? ⟨rg,ro+j*5+1,none⟩=some (.string xv)/\w'.cell? ⟨rg,ro+j*5+2,none⟩=some (.int .i64 av)/\w'.cell? ⟨rg,ro+j*5+3,none⟩=some (.int .i64 zv)/\w'.cell? ⟨rg,ro+j*5+4,none⟩=some (.slice Av nv cv)) (fun _=>True) [19] [(0,1),(1,1),(2,1),(3,1),(4,1),(5,1),(6,1),(7,1),(8,1),(9,1),(10,1),(11,1),(12,1),(13,1),(14,1),(15,1),(16,1),(17,2),(18,1),(19,2)] (by kernel_rfl) (by kernel_rfl) rfl (by kernel_rfl) ?_;rw[Fg];refine vX (by simp only[aak,aai];rfl) (by rfl) ⟨trivial,hS0⟩ (by intro w' hSw;obtain⟨-,hs1,hs2,hs3,hs4,hs5,hs6,hs7⟩:=hSw;go_simp;rfl) ?_;iterate 16(simp only[Act.put,sA,sZ,sC];refine vX (by simp only[aak,aaj,aai];rfl) (by rfl) ⟨trivial,hS0⟩ (by intro w' hSw;obtain⟨-,hs1,hs2,hs3,hs4,hs5,hs6,hs7⟩:=hSw;go_simp;rfl) ?_)
   simp only[Act.put,sA,sZ,sC];refine Vy (by simp only[aak,aaj,aai];rfl) (by rfl) (by go_simp) (HC.out.mono ?_);rintro e6 w6 ⟨A6,c6,rfl,hc6,yD,hb6⟩;refine⟨_,rfl,⟨trivial,fun _=>gm.out _ hb6⟩,?_⟩;simp only[Act.put,sA,sZ,sC]
   have GN:bB (cZ v p from_ gu l) A6 c6= .agg #[.int .i64 kv,.string xv,.int .i64 av,.int .i64 zv,.slice A6 (cZ v p from_ gu l).kids.length c6]:=by
    unfold bB;rw[HV.out.2.1,HV.out.2.2.1,HV.out.2.2.2.1,HV.out.2.2.2.2]
   obtain⟨n6,uD⟩:∃q,(cZ v p from_ gu l).kids.length=q:=⟨_,rfl⟩
   rw[GN,uD];have ma:=gm.out w6 hb6;refine vX (by simp only[aak,aaj,aai];rfl) (by rfl) ⟨trivial,ma⟩ (by intro w' hSw;obtain⟨-,hs1,hs2,hs3,hs4,hs5,hs6,hs7⟩:=hSw;go_simp;rfl) ?_;simp only[Act.put,sA,sZ,sC];have BG:=HOV.out.below hb6 (fun g hg=>(HOV.out.lt g hg).2);have hrglt:rg<w6.heap.size:=by have h1:=M9.out.2.2.2.1;have h2:=hb6.size;have h3:=HSV.out;omega
   have z0:=wW BG (ro+j*5);have z1:=wW BG (ro+j*5+1);have z2:=wW BG (ro+j*5+2);have z3:=wW BG (ro+j*5+3);have z4:=wW BG (ro+j*5+4);obtain⟨y4,-,y0,y1,y2,y3,y5⟩:=id ma;refine LQ (w':=II w6 rg ro j (.int .i64 kv) (.string xv) (.int .i64 av) (.int .i64 zv) (.slice A6 n6 c6)) (by simp only[aak,aaj,aai];rfl) (by rfl) (by go_simp;rfl) trivial (fun h=>by cases h) ?_;simp only[Act.put];refine NI ?_;obtain⟨Z1,hZ1⟩:∃Z1,II w6 rg ro j (.int .i64 kv) (.string xv) (.int .i64 av) (.int .i64 zv) (.slice A6 n6 c6)=Z1:=⟨_,rfl⟩
   have hs1:aA (fun g=>g=rg) w6 Z1:=by rw[<- hZ1];exact Uc
   have xm:aP Z1 W2.heap.size 24 5 (.slice (some ⟨rg,ro,none⟩) n c3) n (IG (List.flatten vals) j (.int .i64 kv) (.string xv) (.int .i64 av) (.int .i64 zv) (.slice A6 n6 c6)):=by rw[<- hZ1];exact BG.II j hjn _ _ _ _ _
   have hlt0:=HLT2.out;have hrg:=M9.out.2.2.1;have hN1:ak Z1 w.heap.size 24 #[.int .i64 k,.string x,.int .i64 a,.int .i64 z,.slice (some ⟨rg,ro,none⟩) n c3]:=(HNV5.out.below hb6 HNV5.out.lt).since hs1 (by omega);have eP:ak Z1 (w.heap.size+1) 24 #[.int .i64 0,.string ⟨#[]⟩,.int .i64 0,.int .i64 0,.slice none 0 0]:=(HRV5.out.below hb6 HRV5.out.lt).since hs1 (by omega);obtain⟨Z,hZ⟩:∃Z,bZ Z1 (w.heap.size+1) (.int .i64 k) (.string x) (.int .i64 a) (.int .i64 z) (.slice (some ⟨rg,ro,none⟩) n c3)=Z:=⟨_,rfl⟩
   have hs2:aA (fun g=>g=w.heap.size+1) Z1 Z:=by rw[<- hZ];exact kP
   have BF:ak Z (w.heap.size+1) 24 #[.int .i64 k,.string x,.int .i64 a,.int .i64 z,.slice (some ⟨rg,ro,none⟩) n c3]:=by rw[<- hZ];exact ak.sI eP _ _ _ _ _
   have uE:Below w.heap.size w Z:=((Nj.out.trans (hb6.mono Nj.out.size)).trans (hs1.toBelow (aac Nj.out.size hb6.size) (fun g hg=>by omega))).trans (hs2.toBelow (aac (aac Nj.out.size hb6.size) hs1.size) (fun g hg=>by omega))
   have PZ:aP Z W2.heap.size 24 5 (.slice (some ⟨rg,ro,none⟩) n c3) n (List.flatten (vals.set j [.int .i64 kv,.string xv,.int .i64 av,.int .i64 zv,.slice A6 n6 c6])):=by
    rw[<- OE M9.out.2.1 (by rw[M9.out.1,HT.out.2.2.2.2.1];exact hjn)];exact xm.since hs2 (fun g hg hq=>by have:=(xm.lt g hg).1;omega)
   have WJ:lF Z (fun g=>w.heap.size<=g\/R g) (cZ v p from_ gu l) [.int .i64 kv,.string xv,.int .i64 av,.int .i64 zv,.slice A6 n6 c6]:=by
    have h1:=lF.of hc6 yD;rw[HV.out.2.1,HV.out.2.2.1,HV.out.2.2.2.1,HV.out.2.2.2.2,uD]at h1;have hsv:=HSV.out;have hrg1:=M9.out.2.2.2.1;have hbz:=CK.out;have hk1:gJ (fun g=>V5.heap.size<=g\/R g) w6 Z:=(gJ.since hs1 (fun g _ hP hq=>hP.elim (fun h=>by omega) (fun h=>by have:=hbz g h;omega))).trans (gJ.since hs2 (fun g _ hP hq=>hP.elim (fun h=>by omega) (fun h=>by have:=hbz g h;omega)));exact lF.weak (fun g _ hP=>hP.elim (fun h=>.inl (by omega)) .inr) _ _ (lF.keep hk1 _ _ h1)
   have WH:fD Z (fun g=>w.heap.size<=g\/R g) (t.kids.set j (cZ v p from_ gu l)) (vals.set j [.int .i64 kv,.string xv,.int .i64 av,.int .i64 zv,.slice A6 n6 c6]):=by
    refine fD.set WJ j ?_;have hk1:gJ (fun g=>W2.heap.size<=g/\some g≠(Value.slice (some ⟨rg,ro,none⟩) n c3).ownBlock) V5 Z:=((gJ.all hb6).trans (gJ.since hs1 (fun g _ hP hq=>hP.2 (by rw[hq];rfl)))).trans (gJ.since hs2 (fun g _ hP hq=>by have:=hP.1;omega));exact(Xu.out.keep hk1).weak (fun g _ hP=>.inl (by have:=hP.1;omega))
   have hlen:(t.kids.set j (cZ v p from_ gu l)).length=n:=by rw[List.length_set,HT.out.2.2.2.2.1]
   have hcg:cZ t (j::p) from_ gu l= .node t.kind t.text t.at_ t.end_ (t.kids.set j (cZ v p from_ gu l)):=by rw[FB,AX _ _ _ _ _ _ _ HV.out.1]
   have bC:Hid (∃A' c',Ending.returned (.agg #[.int .i64 k,.string x,.int .i64 a,.int .i64 z,.slice (some ⟨rg,ro,none⟩) n c3])= .returned (bB (cZ t (j::p) from_ gu l) A' c')/\(cZ t (j::p) from_ gu l).kids.length<=c'/\dO Z (fun g=>w.heap.size<=g\/R g) A' 0 (cZ t (j::p) from_ gu l).kids/\Below w.heap.size w Z):=by
    refine kH ⟨some ⟨rg,ro,none⟩,c3,?_,?_,?_,uE⟩
    ·rw[hcg]
     unfold bB;show _=Ending.returned (Value.agg #[.int .i64 t.kind,.string t.text,.int .i64 t.at_,.int .i64 t.end_,.slice (some ⟨rg,ro,none⟩) (t.kids.set j (cZ v p from_ gu l)).length c3]);rw[hlen,HT.out.1,HT.out.2.1,HT.out.2.2.1,HT.out.2.2.2.1]
    ·rw[hcg]
     show(t.kids.set j (cZ v p from_ gu l)).length<=c3;rw[hlen];exact M9.out.2.2.2.2
    ·rw[hcg]
     exact dO.OO PZ WH hlen (fun g hg=>.inl (by have:=(PZ.lt g hg).1;omega))
   obtain⟨⟨x0',x1',x2',x3',x4'⟩,-⟩:=hN1.five;obtain⟨⟨u0,u1,u2,u3,u4⟩,r0,r1,r2,r3,r4⟩:=eP.five;have lN1:=hN1.lt;have lR1:=eP.lt;obtain⟨⟨v0,v1,v2,v3,v4⟩,-⟩:=BF.five;unfold bZ at hZ;rw[hZ1];clear hZ1 hs1 xm hN1 eP hs2 BF uE PZ WJ WH hlen hcg BG z0 z1 z2 z3 z4 y4 y0 y1 y2 y3 y5 ma hS0 yD hc6 hb6 GN;go_wp2_with (rw[hZ])
   try simp only[Exit.inBlock,Exit.then]
   refine bodyPost_ret (v:=.agg #[.int .i64 k,.string x,.int .i64 a,.int .i64 z,.slice (some ⟨rg,ro,none⟩) n c3]) (by simp[results,Tryz.results51,go_sem,v0,v1,v2,v3,v4]) rfl ?_;exact bC.out
end Go.Proofs.YtoepemlnlpamlaaGreat
