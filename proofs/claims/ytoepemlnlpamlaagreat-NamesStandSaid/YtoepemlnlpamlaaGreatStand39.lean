/- The law NamesStand holds: for every text and every number the law returns true, and its arguments read as before. No condition. Part 39: Fre1 Fre2 Fre3. -/
import Derived.Test.YtoepemlnlpamlaaGreatStand36
import Derived.Test.YtoepemlnlpamlaaGreatStand38
set_option maxRecDepth 100000
set_option maxHeartbeats 4000000
namespace Go.Proofs.YtoepemlnlpamlaaGreat
open Go.RowKit
def FX(base ob:Nat)(M:Nat->Prop)(w w':World):Prop:=aA (fun g=>(g=ob\/(base<=g/\∃cs fr,w.heap[g]? =some (.cells cs 9 fr)))\/M g) w w'
section
variable {base ob:Nat}{M M':Nat->Prop}{w w1 w':World}
theorem FX.refl(base ob:Nat)(M:Nat->Prop)(w:World):FX base ob M w w:=aA.refl _ _
theorem FX.trans(h:FX base ob M w w1)(k:FX base ob M' w1 w')(hM:∀g,M' g->M g\/w.heap.size<=g):FX base ob M w w':=by
 refine⟨k.os.trans h.os,k.tape.trans h.tape,k.output.trans h.output,aac h.size k.size,fun g hg hn=>?_⟩;have h1:=h.block g hg hn
 have h2:=k.block g (Nat.lt_of_lt_of_le hg h.size) (fun h3=>hn (by
  rcases h3 with(h3| ⟨h4,cs,fr,h5⟩)|h3
  ·exact .inl (.inl h3)
  ·exact .inl (.inr ⟨h4,cs,fr,by rw[<- h1];exact h5⟩)
  ·rcases hM g h3 with h6|h6
   ·exact .inr h6
   ·omega))
 rw[h2,h1]
theorem FX.of_below(hb:Below w.heap.size w w'):FX base ob M w w':=(aA.refl _ _).below hb
theorem FX.oH(h:aA M w w'):FX base ob M w w':=aA.mono h fun _ h1=>.inr h1
theorem FX.low(h:FX base ob M w w'){B:Nat}(hB:B<=w.heap.size)(h1:B<=ob)(h2:B<=base)(hM:∀g,M g->B<=g):Below B w w':=aA.toBelow h hB fun g hg=>by
 rcases hg with(hg|hg)|hg
 ·omega
 ·exact aac h2 hg.1
 ·exact hM g hg
theorem FX.blk(h:FX base ob M w w'){g:Nat}{t:TypeId}{cs:Array Value}(hb:ak w g t cs)(ht:t≠9)(ho:g≠ob)(hM:¬M g):ak w' g t cs:=by
 refine ak.since hb h fun h1=>?_
 rcases h1 with(h1| ⟨-,cs',fr,h1⟩)|h1
 ·exact ho h1
 ·have e2:w.heap[g]? =some (Obj.cells _ _ (0,0)):=hb
  rw[e2]at h1;simp only[aag,Obj.cells.injEq]at h1;exact ht h1.2.1
 ·exact hM h1
theorem FX.Qr(h:FX base ob M w w'){K:Type}[DecidableEq K]{KK:oM K}{r:Nat}{m:List (K×Value)}(ha:aY KK w r m){t:TypeId}{cs:Array Value}(GV:ak w ob t cs)(hM:¬M r):aY KK w' r m:=by
 refine ha.since h fun h1=>?_
 rcases h1 with(h1| ⟨-,cs',fr,h1⟩)|h1
 ·exact ha.qW GV h1
 ·obtain⟨es,ck,ho⟩:=ha.isMap
  rw[ho]at h1;cases h1
 ·exact hM h1
theorem ak.ne_of{g g':Nat}{t t':TypeId}{cs cs':Array Value}(h:ak w g t cs)(h':ak w g' t' cs')(ht:t≠t'):g≠g':=fun e=>by
 have e1:w.heap[g]? =some (Obj.cells _ _ (0,0)):=h;have e2:w.heap[g']? =some (Obj.cells _ _ (0,0)):=h';rw[e,e2]at e1;simp only[aag,Obj.cells.injEq]at e1;exact ht e1.2.1.symm
theorem FX.sc(h:FX base ob M w w'){cs:Array Value}(GV:ak w ob 41 cs)(hMb:∀g t cs,ak w g t cs->¬M g):∀{s:aT}{p:Option Addr}{ms:List Nat},aW w base p s ms->(∀m∈ms,¬M m)->aW w' base p s ms
 | [],_,_,hs,_=>hs
 | _::_,_,_,⟨b,m,p',ms',h1,h2,h3,h4,h5,h6,h7⟩,hms=>by
  subst h2;exact⟨b,m,p',ms',h1,rfl,h3,h4,h.blk h5 (by decide) (h5.ne_of GV (by decide)) (hMb _ _ _ h5),h.Qr h6 GV (hms m (by simp)),FX.sc h GV hMb h7 fun x hx=>hms x (by simp[hx])⟩
end
theorem VL:(Tryz.prog.info? 9).map (fun i=>(i.zero,i.size,i.bytes))=some (some (.string ⟨#[]⟩),1,16):=by kernel_rfl
def oC(base ob:Nat)(out:List ByteArray)(w:World):Prop:=∃A n c,ak w ob 41 #[.slice A n c]/\aP w base 9 1 (.slice A n c) n (out.flatMap fP)
theorem oC.below{base ob:Nat}{out:List ByteArray}{w w':World}(h:oC base ob out w)(hb:Below w.heap.size w w'):oC base ob out w':=by
 obtain⟨A,n,c,h1,h2⟩:=h;exact⟨A,n,c,h1.below hb h1.lt,h2.below hb fun g hg=>(h2.lt g hg).2⟩
def Jc(s:aT)(x:ByteArray)(out:List ByteArray):List ByteArray:=if (eO s x).isSome || nW out x then out else out++[x]
theorem NZ(l:List ByteArray):(l.flatMap fP).length=l.length:=by
 induction l with
 | nil=>rfl
 | cons a l ih=>rw[List.flatMap_cons,aam,ih,aao];simp[fP];omega
theorem add_any(base ob:Nat)(out:List ByteArray)(s:aT)(p:Option Addr)(ms:List Nat)(x:ByteArray)(w:World)(hs:aW w base p s ms)(ho:oC base ob out w)(hb:base<=w.heap.size)(hm:out.length<=1000000):
 Calls Tryz.prog 44 #[.string x,.pointer p,.pointer (some ⟨ob,0,none⟩)] w fun e w'=>e= .returned (.tuple #[])/\oC base ob (Jc s x out) w'/\FX base ob (fun _=>False) w w':=by
 obtain⟨i0,hi0,hz0,hz1,hz2⟩:=info_parts VL;have hf:=I6 base x w s p ms hs;obtain⟨A,n,c,hblk,hown⟩:=ho;have hn:n=out.length:=by have:=hown.1;rw[NZ]at this;omega
 unfold Jc;generalize eO s x=fo at hf⊢
 obtain⟨hb0,hhb⟩:∃q,nW out x=q:=⟨_,rfl⟩
 rw[hhb];have hcon:=Ed A n c out x w (hown.rowAt (cells:=fP) (l:=out) rfl rfl (fun _ _=>rfl) hn.symm) hn.symm (by omega);rw[hhb]at hcon;have c0:=hblk.cell 0;have f0:=hblk.frozen 0;have lo:=hblk.lt;have HF:=kH hf;have HC:=kH hcon;have HB:=kH hblk;have HO:=kH hown;have HN:=kH hn;clear hf hcon hblk hown hhb hs hn
 cases fo with
 | some y=>
  simp only[Option.isSome_some,Bool.true_or,if_true]at HF⊢;go_enter Tryz.func44,Tryz.ntmps44
  go_wp2_with fail
  refine HF.out.mono ?_;rintro e w2 ⟨rfl,hw2⟩;obtain rfl:w=w2:=hw2.symm;go_wp2_with fail
  go_end0
  exact⟨rfl,⟨A,n,c,HB.out,HO.out⟩,FX.refl _ _ _ _⟩
 | none=>
  simp only[Option.isSome_none,Bool.false_or]at HF⊢
  cases hb0 with
  | true=>
   simp only[if_true];go_enter Tryz.func44,Tryz.ntmps44
   go_wp2_with fail
   refine HF.out.mono ?_;rintro e w2 ⟨rfl,hw2⟩;obtain rfl:w=w2:=hw2.symm;go_wp2_with fail
   refine HC.out.mono ?_;rintro e w2 ⟨rfl,hw2⟩;subst hw2;go_wp2_with fail
   go_end0
   exact⟨rfl,⟨A,n,c,HB.out,HO.out⟩,FX.refl _ _ _ _⟩
  | false=>
   simp only[Bool.false_eq_true,if_false];have hnm:n<=1000000:=by have:=HN.out;omega
   go_enter Tryz.func44,Tryz.ntmps44
   go_wp2_with fail
   refine HF.out.mono ?_;rintro e w2 ⟨rfl,hw2⟩;obtain rfl:w=w2:=hw2.symm;go_wp2_with fail
   refine HC.out.mono ?_;rintro e w2 ⟨rfl,hw2⟩;subst hw2;go_wp2_with (at_builtin;go_must (refine dP _ rfl (.tmp 21) (.tmp 23) _ rfl base 9 i0 _ 1 16 Tryz.underlying41 hi0 hz0 hz1 hz2 rfl (.slice A n c) n (out.flatMap fP) rfl (HO.out.alloc _) ⟨_,0,none⟩ 1 1 [.string x] rfl rfl (Db _ _ _ (by go_simp)) (by simp[Value.oneCell']) (by simp only[maxLen];omega) (by omega) (by simp;omega) ?_);intro vn w6 hown hgrow hat;obtain⟨A6,c6,eG,-,-⟩:=hown.shape;subst eG;have HOWN:=kH hown;have pz:=kH hgrow;have BH:=ak.grown (ak.alloc HB.out _) hgrow (fun e1=>HO.out.fe HB.out (by decide) e1.symm);have q4:=BH.cell 0;have q5:=BH.frozen 0;have q6:=BH.lt;have nZ:=kH BH;clear hown hgrow hat BH)
   go_end0
   refine⟨rfl,⟨A6,n+1,c6,?_,?_⟩,?_⟩
   ·have:=nZ.out.gY 0 (.slice A6 (n+1) c6)
    simpa using this
   ·have h1:=HOWN.out.setCell (p:=⟨ob,0,none⟩) (HOWN.out.fe nZ.out (by decide)) (.slice A6 (n+1) c6)
    rw[List.flatMap_append];exact h1
   ·have h0:=HO.out
    refine aA.setCell (S:=fun g=>(g=ob\/(base<=g/\∃cs fr,w.heap[g]? =some (.cells cs 9 fr)))\/False) ((aA.alloc (aA.refl _ w) _).grown pz.out (fun g hg=>.inl (.inl (.inr ?_)))) (p:=⟨ob,0,none⟩) (.inl (.inl (.inl rfl))) _;obtain⟨cur,hc⟩:=h0.obj g hg;exact⟨(h0.lt g hg).1,cur,(0,0),hc⟩
def Nm(S:List (List ByteArray))(s:aT):Prop:=∀y,(S.any fun l=>l.contains y)=(eO s y).isSome
theorem Nm.push{S:List (List ByteArray)}{s:aT}(h:Nm S s):Nm ([]::S) ([]::s):=fun y=>by
 rw[List.any_cons,h y];rfl
theorem Nm.add{l:List ByteArray}{S:List (List ByteArray)}{lay:nA}{s:aT}(h:Nm (l::S) (lay::s))(x:ByteArray):Nm ((l++[x])::S) (dK lay x 0::s):=fun y=>by
 have hy:=h y;rw[List.any_cons,eO]at hy⊢;by_cases e:y=x
 ·have h1:bY (dK lay x 0) y=some 0:=by
   show bG (dK lay x 0) y=some 0;rw[rY,if_pos e]
  have h2:(l++[x]).contains y=true:=by
   rw[List.contains_iff_mem];simp[e]
  rw[h1,h2];rfl
 ·have h1:bY (dK lay x 0) y=bY lay y:=by
   show bG (dK lay x 0) y=bG lay y;rw[rY,if_neg e]
  have h2:(l++[x]).contains y=l.contains y:=by
   rw[Bool.eq_iff_iff,List.contains_iff_mem,List.contains_iff_mem];simp[e]
  rw[h1,h2];exact hy
theorem Nv(l:List ByteArray)(x:ByteArray):nW l x=l.contains x:=by
 unfold nW;rw[Bool.eq_iff_iff,List.contains_iff_mem,List.any_eq_true];constructor
 ·rintro⟨y,hy,h⟩
  rw[beq_iff_eq,ByteArray.toList_eq,ByteArray.toList_eq]at h;rw[<- vC h];exact hy
 ·intro h
  exact⟨x,h,by simp⟩
theorem addF_eq{S:List (List ByteArray)}{s:aT}(h:Nm S s)(x:ByteArray)(out:List ByteArray):Jc s x out=if (S.any fun l=>l.contains x) || out.contains x then out else out++[x]:=by
 unfold Jc;rw[h x,Nv]
theorem Zl(s:aT)(x:ByteArray)(out:List ByteArray):(Jc s x out).length<=out.length+1:=by
 unfold Jc;split
 ·omega
 ·simp
mutual
theorem vB:∀(t:aa) (S:List (List ByteArray)) (out:List ByteArray),(nQ t S out).length<=out.length+ai t
 | .node k x a e kids,S,out=>by
  rw[nQ,ai];refine aac (MP k x kids 0 _ _) ?_;split
  ·split
   ·omega
   ·simp;omega
  ·omega
theorem MP(k:Int)(x:ByteArray):∀(ts:List aa) (i:Nat) (S:List (List ByteArray)) (out:List ByteArray),(uR k x ts i S out).length<=out.length+ag ts
 | [],i,S,out=>by rw[uR,ag];omega
 | t::ts,i,S,out=>by
  rw[qQ,ag];refine aac (MP k x ts (i+1) _ _) ?_;have:=vB t (if k=16/\i=2 then [x]::S else S) out;omega
end
def Vt(B base ob ab vb:Nat)(t:aa):Prop:=
 ∀(S:List (List ByteArray)) (s:aT) (p:Option Addr) (ms:List Nat) (out:List ByteArray) (A:Option Addr) (c:Nat) (w:World),
  aW w base p s ms->Nm S s->aK w B A 0 t.kids->base<=w.heap.size->oC base ob out w ->
  ak w ab 91 #[.func (.func 44) #[] #[.pointer (some ⟨ob,0,none⟩)]]->ak w vb 92 #[.func (.func 47) #[] #[.pointer (some ⟨ab,0,none⟩),.pointer (some ⟨vb,0,none⟩)]]->out.length+ai t<=1000000 ->
  Calls Tryz.prog 47 #[bB t A c,.pointer p,.pointer (some ⟨ab,0,none⟩),.pointer (some ⟨vb,0,none⟩)] w fun e w'=>e= .returned (.tuple #[])/\oC base ob (nQ t S out) w'/\FX base ob (fun _=>False) w w'
theorem oC.blk{base ob:Nat}{out:List ByteArray}{w:World}(h:oC base ob out w):∃cs,ak w ob 41 cs:=by
 obtain⟨A,n,c,h1,-⟩:=h;exact⟨_,h1⟩
theorem oC.oH{base ob:Nat}{out:List ByteArray}{w w':World}{m:Nat}(h:oC base ob out w)(hs:aA (fun g=>g=m) w w')(ho:∃es ck,w.heap[m]? =some (.map es ck)):oC base ob out w':=by
 obtain⟨A,n,c,h1,h2⟩:=h;obtain⟨es,ck,ho⟩:=ho;refine⟨A,n,c,h1.since hs (fun e=>?_),h2.since hs (fun g hg e=>?_)⟩
 ·have:w.heap[ob]? =some (Obj.cells _ _ (0,0)):=h1
  rw[e,ho]at this;cases this
 ·obtain⟨cur,hc⟩:=h2.obj g hg
  rw[e,ho]at hc;cases hc
theorem aW.store{base:Nat}{w w':World}{b m:Nat}{lay lay2:nA}{s:aT}{ms:List Nat}(h:aW w base (some ⟨b,0,none⟩) (lay::s) (m::ms))(hs:aA (fun g=>g=m) w w')(hm:aY jB w' m (jV lay2))(hn:m ∉ ms):aW w' base (some ⟨b,0,none⟩) (lay2::s) (m::ms):=by
 obtain⟨b',m',p2,ms',h1,h2,h3,h4,h5,h6,h7⟩:=h;simp only[List.cons.injEq]at h2;obtain⟨rfl,rfl⟩:=h2;simp only[aag,Addr.mk.injEq,and_true]at h1;subst h1;obtain⟨es,ck,ho⟩:=h6.isMap
 have hcell:∀g t cs,ak w g t cs->g≠m:=fun g t cs hb e=>by
  have:w.heap[g]? =some (Obj.cells _ _ (0,0)):=hb;rw[e,ho]at this;cases this
 have hrest:∀{s:aT}{p:Option Addr}{ms:List Nat},aW w base p s ms->m ∉ ms->aW w' base p s ms:=by
  intro s
  induction s with
  | nil=>exact fun h _=>h
  | cons x s ih=>
   rintro p ms ⟨b,m1,p',ms1,e1,e2,e3,e4,e5,e6,e7⟩ hn;subst e2;rw[List.mem_cons,not_or]at hn;exact⟨b,m1,p',ms1,e1,rfl,e3,e4,e5.since hs (hcell _ _ _ e5),e6.since hs (fun e=>hn.1 e.symm),ih e7 hn.2⟩
 exact⟨b,m,p2,ms,rfl,rfl,h3,h4,h5.since hs (hcell _ _ _ h5),hm,hrest h7 hn⟩
theorem WU(B base ob ab vb:Nat)(hB:B<=base/\B<=ob)(k0:Int)(x0:ByteArray)(a0 z0:Int)(kids:List aa)(hih:∀u∈kids,Vt B base ob ab vb u):Vt B base ob ab vb (.node k0 x0 a0 z0 kids):=by
 intro S s p ms out A c w hs hnm hk hb ho hab hvb hm;obtain⟨n,hn⟩:∃q,kids.length=q:=⟨_,rfl⟩
 unfold bB;have aU:(aa.node k0 x0 a0 z0 kids).kind=k0/\(aa.node k0 x0 a0 z0 kids).text=x0/\(aa.node k0 x0 a0 z0 kids).at_=a0/\(aa.node k0 x0 a0 z0 kids).end_=z0/\(aa.node k0 x0 a0 z0 kids).kids=kids:=⟨rfl,rfl,rfl,rfl,rfl⟩
 rw[aU.1,aU.2.1,aU.2.2.1,aU.2.2.2.1,aU.2.2.2.2,hn];rw[aU.2.2.2.2]at hk;rw[nQ,<- addF_eq hnm];obtain⟨O1,xm⟩:∃q,(if k0=20 then Jc s x0 out else out)=q:=⟨_,rfl⟩
 rw[xm];obtain⟨FIN,Zd⟩:∃q,uR k0 x0 kids 0 ([]::S) O1=q:=⟨_,rfl⟩
 rw[Zd]
 have hml:O1.length+ag kids<=1000000:=by
  rw[ai]at hm;rw[<- xm];split
  ·have:=Zl s x0 out
   omega
  ·omega
 have hnm1:n<=1000000:=by have:=dU kids;omega
 have HOO:=kH xm;have HFI:=kH Zd;have HML:=kH hml;have HS:=kH hs;have HNMM:=kH hnm;have HK:=kH hk;have HO:=kH ho;have HA:=kH hab;have HV:=kH hvb;have HN:=kH hn;have fO:=kH hih;have oZ:Hid (B<=base/\B<=ob/\base<=w.heap.size):=kH ⟨hB.1,hB.2,hb⟩;have HM:Hid (out.length<=1000000):=kH (by omega);have c0:=hab.cell 0;have la:=hab.lt;clear xm Zd hs hnm hk ho hab hvb hn hih hm hml aU hb hB;go_enter Tryz.func47,Tryz.ntmps47
 go_upto_if 11 with fail
 generalize hW1:w.alloc (.cells #[.int .i64 k0,.string x0,.int .i64 a0,.int .i64 z0,.slice A n c] 24)=W1
 have hb1:Below w.heap.size w W1:=by rw[<- hW1];exact ae _ _
 have hN1:ak W1 w.heap.size 24 #[.int .i64 k0,.string x0,.int .i64 a0,.int .i64 z0,.slice A n c]:=by rw[<- hW1];exact ak.new w _ _
 have HB1:=kH hb1;have HN1:=kH hN1;have c1:=hN1.cell 1;have l1:=hN1.lt;have hA1:=HA.out.below hb1 HA.out.lt;have d0:=hA1.cell 0;have d1:=hA1.lt;clear hW1 hb1 hN1 c0 la;go_cut [] (fun wx=>Hid (oC base ob O1 wx)/\Hid (FX base ob (fun _=>False) W1 wx))
 case first=>
  by_cases h20:k0=20
  ·subst h20
   have hadd:=add_any base ob out s p ms x0 W1 (aW.below HB1.out HS.out) (HO.out.below HB1.out) (aac oZ.out.2.2 HB1.out.size) HM.out;have HADD:=kH hadd;clear hadd hA1;go_wp2_with fail
   refine HADD.out.mono ?_;rintro e2 w2 ⟨rfl,h2,h3⟩;have H2:Hid (oC base ob O1 w2):=kH (by rw[<- HOO.out,if_pos (by first|trivial|rfl)];exact h2);have H3:=kH h3;clear h2 h3;go_wp2_with fail
   go_meet
   exact⟨H2,H3⟩
  ·have nM:(k0==20)=false:=by simp[h20]
   have H2:Hid (oC base ob O1 W1):=kH (by rw[<- HOO.out,if_neg h20];exact HO.out.below HB1.out);clear h20 hA1;go_wp2_with fail
   go_meet
   exact⟨H2,kH (FX.refl _ _ _ _)⟩
 case rest=>
  obtain⟨xx,yI⟩:=hcut;obtain⟨cs1,Pf⟩:=(HO.out.below HB1.out).blk;have hsc:=FX.sc yI.out Pf (fun _ _ _ _ h=>h) (aW.below HB1.out HS.out) (fun _ _ h=>h);have hNc:=yI.out.blk HN1.out (by decide) (HN1.out.ne_of Pf (by decide)) (fun h=>h);have hAc:=yI.out.blk hA1 (by decide) (hA1.ne_of Pf (by decide)) (fun h=>h);have hV1:=HV.out.below HB1.out HV.out.lt;have hVc:=yI.out.blk hV1 (by decide) (hV1.ne_of Pf (by decide)) (fun h=>h);have Xz:=kH hsc;have HNC:=kH hNc;have CO:=kH hAc;have HVC:=kH hVc;have HZ:Hid (w.heap.size<=wc.heap.size):=kH (aac HB1.out.size yI.out.size);clear hsc hNc hAc hVc hV1 hA1 Pf d0 d1 c1 l1;go_wp2_with fail
  refine(EU p wc).mono ?_;rintro e3 w3 ⟨b,m,rfl,hbb,hmm,hblk,iF,hbel⟩;have IX:base<=wc.heap.size:=aac oZ.out.2.2 HZ.out;have jE:Hid (aW w3 base (some ⟨b,0,none⟩) ([]::s) (m::ms)):=kH ⟨b,m,p,ms,rfl,rfl,aac IX hbb,aac IX hmm,hblk,iF,Xz.out.below hbel⟩
  have HMN:Hid (m ∉ ms):=kH (fun h=>by
   have h1:∀{s:aT}{p:Option Addr}{ms:List Nat},aW wc base p s ms->∀m∈ms,m<wc.heap.size:=by
    intro s
    induction s with
    | nil=>intro p ms h m hm;rw[h.2]at hm;cases hm
    | cons x s ih=>
     rintro p ms ⟨b,m1,p',ms1,e1,e2,e3,e4,e5,e6,e7⟩ m hm;rw[e2]at hm;rcases List.mem_cons.1 hm with rfl|hm
     ·exact e6.lt
     ·exact ih e7 m hm
   have:=h1 Xz.out m h
   omega)
  have SF:=kH (xx.out.below hbel);have lG:=kH (HNC.out.below hbel HNC.out.lt);have HA3:=kH (CO.out.below hbel CO.out.lt);have fU:=kH (HVC.out.below hbel HVC.out.lt);have HX3:Hid (FX base ob (fun _=>False) w w3):=kH (((FX.of_below HB1.out).trans yI.out (fun g hg=>.inl hg)).trans (FX.of_below (M:=fun _=>False) hbel) (fun g hg=>.inl hg));have SH:Hid (w.heap.size<=m/\w.heap.size<=w3.heap.size/\base<=w3.heap.size/\base<=m):=kH ⟨aac HZ.out hmm,aac HZ.out hbel.size,aac IX hbel.size,aac IX hmm⟩;have n4:=lG.out.cell 4;have ln:=lG.out.lt;clear hblk iF hbel hbb hmm IX;go_wp2_with fail
  clear n4 ln
  go_loopg [22] n (fun gk s22 wr=> ∃(j:Nat) (l:List ByteArray) (lay:nA) (out':List ByteArray),s22= .int .i64 (j:Int)/\j+gk=n/\Hid (aW wr base (some ⟨b,0,none⟩) (lay::s) (m::ms))/\Hid (Nm (l::S) (lay::s))/\Hid (oC base ob out' wr)/\Hid (FX base ob (fun g=>g=m) w3 wr) /\
   Hid (ak wr w.heap.size 24 #[.int .i64 k0,.string x0,.int .i64 a0,.int .i64 z0,.slice A n c])/\Hid (ak wr ab 91 #[.func (.func 44) #[] #[.pointer (some ⟨ob,0,none⟩)]])/\Hid (ak wr vb 92 #[.func (.func 47) #[] #[.pointer (some ⟨ab,0,none⟩),.pointer (some ⟨vb,0,none⟩)]]) /\
   Hid (uR k0 x0 (kids.drop j) j (l::S) out'=FIN)/\Hid (out'.length+ag (kids.drop j)<=1000000))
  case atStart=>exact⟨0,[],[],O1,rfl,by omega,jE,kH HNMM.out.push,SF,kH (FX.refl _ _ _ _),lG,HA3,fU,HFI,HML⟩
  case round=>
   obtain⟨j,l,lay,out',rfl,hj,HSR,xA,HOR,HXR,Hf,HAR,HVR,jg,HLEN⟩:=hrel;by_cases hlt:j<n
   ·have hlt':(j:Int)<(n:Int):=by omega
    have hw:IntKind.i64.wrap ((j:Int)+1)=(j:Int)+1:=IntWalk.i64_in _ (by omega);obtain⟨u,hu⟩:∃u,kids[j]? =some u:=⟨_,aaf (by rw[HN.out];exact hlt)⟩
    have HDR:Hid (kids.drop j=u::kids.drop (j+1)):=kH (by
     obtain⟨h1,h2⟩:=aah.1 hu
     rw[List.drop_eq_getElem_cons h1,h2])
    have hbW:Below B w wr:=(HX3.out.low (aac oZ.out.1 oZ.out.2.2) oZ.out.2.1 oZ.out.1 (fun _ h=>h.elim)).trans (HXR.out.low (aac oZ.out.1 SH.out.2.2.1) oZ.out.2.1 oZ.out.1 (fun g hg=>by rw[hg];exact aac oZ.out.1 SH.out.2.2.2));have hkr:aK wr B A 0 kids:=aK.below hbW (aab _) _ _ _ HK.out;obtain⟨vals,⟨bk,off,hA,hbl,hcs⟩,hT⟩:=hkr.get j u hu;obtain⟨A',c',lh,hK'⟩:=hT.five;subst hA;subst lh;have hsz:w3.heap.size<=wr.heap.size:=HXR.out.size;have hbb:bk<wr.heap.size:=by have:=oZ.out;have:=SH.out;omega
    obtain⟨uk,DY⟩:∃q,u.kind=q:=⟨_,rfl⟩
    obtain⟨ux,DX⟩:∃q,u.text=q:=⟨_,rfl⟩
    obtain⟨ua,GR⟩:∃q,u.at_=q:=⟨_,rfl⟩
    obtain⟨uz,GQ⟩:∃q,u.end_=q:=⟨_,rfl⟩
    obtain⟨un,hun⟩:∃q,u.kids.length=q:=⟨_,rfl⟩
    have hcs':∀q v,[Value.int .i64 uk,.string ux,.int .i64 ua,.int .i64 uz,.slice A' un c'][q]? =some v->wr.cell? ⟨bk,off+j*5+q,none⟩=some v:=fun q v hq=>by
     have:=hcs q v (by rw[DY,DX,GR,GQ,hun];exact hq);rw[show off+(0+j)*5+q=off+j*5+q by omega]at this;exact this
    have t0:wr.cell? ⟨bk,off+j*5,none⟩=some (.int .i64 uk):=by simpa using hcs' 0 _ rfl
    have t1:wr.cell? ⟨bk,off+j*5+1,none⟩=some (.string ux):=by simpa using hcs' 1 _ rfl
    have t2:wr.cell? ⟨bk,off+j*5+2,none⟩=some (.int .i64 ua):=by simpa using hcs' 2 _ rfl
    have t3:wr.cell? ⟨bk,off+j*5+3,none⟩=some (.int .i64 uz):=by simpa using hcs' 3 _ rfl
    have t4:wr.cell? ⟨bk,off+j*5+4,none⟩=some (.slice A' un c'):=by simpa using hcs' 4 _ rfl
    have hmem:u∈kids:=aan hu;have KQ:Hid (u.kind=uk/\u.text=ux):=kH ⟨DY,DX⟩;obtain⟨X,hX⟩:∃X,wr.alloc (.cells #[.int .i64 uk,.string ux,.int .i64 ua,.int .i64 uz,.slice A' un c'] 24)=X:=⟨_,rfl⟩
    have hbX:Below wr.heap.size wr X:=by rw[<- hX];exact ae _ _
    have D8:ak X wr.heap.size 24 #[.int .i64 uk,.string ux,.int .i64 ua,.int .i64 uz,.slice A' un c']:=by rw[<- hX];exact ak.new wr _ _
    have aZ:=kH (Hf.out.below hbX Hf.out.lt);have Lc:=kH (HAR.out.below hbX HAR.out.lt);have CB:=kH (HVR.out.below hbX HVR.out.lt);have Bg:=kH (HSR.out.below hbX);have SE:=kH (HOR.out.below hbX);have Sq:Hid (FX base ob (fun g=>g=m) w3 X):=kH (HXR.out.trans (FX.of_below (M:=fun _=>False) hbX) (fun g hg=>hg.elim));have Su:=kH D8;have fQ:Hid (aK X B A' 0 u.kids):=kH (aK.below hbX (by have:=oZ.out;have:=SH.out;omega) _ _ _ hK');have HXZ:Hid (base<=X.heap.size/\wr.heap.size<X.heap.size):=kH ⟨by have:=SH.out;have:=hbX.size;omega,D8.lt⟩;have HUI:Hid (bB u A' c'= .agg #[.int .i64 uk,.string ux,.int .i64 ua,.int .i64 uz,.slice A' un c']):=kH (by unfold bB;rw[DY,DX,GR,GQ,hun])
    have HLU:Hid (out'.length+ai u<=1000000):=kH (by
     have h1:=HLEN.out;rw[HDR.out,ag]at h1
     omega)
    have HME:=kH hmem;have q0:=aZ.out.cell 0;have q1:=aZ.out.cell 1;have lq:=aZ.out.lt;have y0:=D8.cell 0;have y1:=D8.cell 1;have y2:=D8.cell 2;have y3:=D8.cell 3;have y4:=D8.cell 4;have ly:=D8.lt;have v0:=CB.out.cell 0;have lv:=CB.out.lt;clear hcs hcs' hT hK' hkr hbW hu hmem DY DX GR GQ hun D8 hbX;by_cases h16:k0=16/\j=2
    ·obtain⟨SI,PY⟩:∃SI,[x0]::(l::S)=SI:=⟨_,rfl⟩
     have QE:Hid ((if k0=16/\j=2 then [x0]::(l::S) else l::S)=SI):=kH (by rw[if_pos h16];exact PY);have hg1:(k0==16)=true:=by simp[h16.1]
     have hg2:((j:Int)==2)=true:=by simp[h16.2]
     clear h16;go_wp2_with (rw[hX])
     refine(EU (some ⟨b,0,none⟩) X).mono ?_;rintro e5 w5 ⟨b2,m2,rfl,YX,YF,hblk2,PD,Kh⟩;have hd1:=hblk2.cell 1;have hdl:=hblk2.lt;have Fs:=aZ.out.below Kh aZ.out.lt;have x1:=Fs.cell 1;have lx:=Fs.lt;obtain⟨w6,hrun,dM,ll,qH⟩:=bU (P:=Tryz.prog) (KK:=jB) (t:=70) (kt:=9) (et:=3) Tryz.underlying70 Tryz.underlying9 (PD.drew) x0 (.int .i64 0);change (Instr.mapUpdate 70 (.map (some m2)) (Value.string x0) (.int .i64 0)).run Tryz.prog w5.drew=_ at hrun;have hm6':aY jB w6 m2 (jV [(x0,0)]):=dM;have hs6:aA (fun g=>g=m2) w5 w6:=((aA.refl (fun g=>g=m2) w5).drew).grown ll (fun k hk=>by cases hk;exact .inl rfl);have hb6:Below X.heap.size X w6:=Kh.trans (hs6.toBelow Kh.size (fun g hg=>by rw[hg];exact YF));have hbase:=HXZ.out.1
     have ma:aW w6 base (some ⟨b2,0,none⟩) ([(x0,0)]::(lay::s)) (m2::(m::ms)):=by
      refine aW.store (lay:=[]) ⟨b2,m2,some ⟨b,0,none⟩,m::ms,rfl,rfl,aac hbase YX,aac hbase YF,hblk2,PD,Bg.out.below Kh⟩ hs6 hm6' (fun h=>?_)
      have h1:∀{s:aT}{p:Option Addr}{ms:List Nat},aW X base p s ms->∀m∈ms,m<X.heap.size:=by
       intro s
       induction s with
       | nil=>intro p ms h m hm;rw[h.2]at hm;cases hm
       | cons x s ih=>
        rintro p ms ⟨b,m1,p',ms1,e1,e2,e3,e4,e5,e6,e7⟩ m hm;rw[e2]at hm;rcases List.mem_cons.1 hm with rfl|hm
        ·exact e6.lt
        ·exact ih e7 m hm
      have:=h1 Bg.out m2 h;omega
     have Ei:Hid (aW w6 base (some ⟨b,0,none⟩) (lay::s) (m::ms)):=kH (Bg.out.below hb6);have Bf:=kH (Su.out.below hb6 Su.out.lt);have lV:=kH (aZ.out.below hb6 aZ.out.lt);have En:=kH (Lc.out.below hb6 Lc.out.lt);have zk:=kH (CB.out.below hb6 CB.out.lt);have XJ:=kH (SE.out.below hb6);have HXB:Hid (FX base ob (fun g=>g=m) w3 w6):=kH (Sq.out.trans (FX.of_below (M:=fun _=>False) hb6) (fun g hg=>hg.elim));have hcall:=fO.out u HME.out SI ([(x0,0)]::(lay::s)) (some ⟨b2,0,none⟩) (m2::(m::ms)) out' A' c' w6 ma (by rw[<- PY];exact xA.out.push.add x0) (aK.below hb6 (by have:=oZ.out;have:=HXZ.out;omega) _ _ _ fQ.out) (aac hbase hb6.size) XJ.out En.out zk.out HLU.out;rw[HUI.out]at hcall;have HC:=kH hcall;have z0:=Bf.out.cell 0;have z1:=Bf.out.cell 1;have z2:=Bf.out.cell 2;have z3:=Bf.out.cell 3;have z4:=Bf.out.cell 4;have lz:=Bf.out.lt;have g0:=zk.out.cell 0;have lg:=zk.out.lt;clear hcall ma dM hm6' ll qH hs6 hb6 hblk2 PD Kh YX YF Fs hX PY y0 y1 y2 y3 y4 ly v0 lv q0 q1 lq t0 t1 t2 t3 t4 hbase;go_wp2_with fail
     refine gN (fun w'=>w'.cell? ⟨b2,1,none⟩=some (.map (some m2))/\w'.cell? ⟨w.heap.size,1,none⟩=some (.string x0)) [6] [true,true,true,true,true,true,false] (by kernel_rfl) (by kernel_rfl) rfl (by kernel_rfl) ?_;have hS0:w5.drew.cell? ⟨b2,1,none⟩=some (.map (some m2))/\w5.drew.cell? ⟨w.heap.size,1,none⟩=some (.string x0):=⟨hd1,x1⟩
     iterate 6(refine jL rfl hS0 (by intro w' hSw;obtain⟨hs1,hs2⟩:=hSw;go_simp;rfl) ?_;simp only[Act.put,sA,sZ,sC])
     refine j4 (w':=w6) rfl (by simp[execOp,Act.eval,hrun,Result.andThen]) (by simp) ?_;refine kV ?_;simp only[Act.put];clear hS0 hd1 hdl x1 lx hrun;go_wp2_with fail
     refine HC.out.mono ?_;clear z0 z1 z2 z3 z4 lz g0 lg HC;rintro e7 w7 ⟨rfl,h7,k7⟩;obtain⟨csB,tN⟩:=XJ.out.blk;have hs7:=FX.sc k7 tN (fun _ _ _ _ h=>h) Ei.out (fun _ _ h=>h);have yx:=k7.blk Bf.out (by decide) (Bf.out.ne_of tN (by decide)) (fun h=>h);have sP:=k7.blk lV.out (by decide) (lV.out.ne_of tN (by decide)) (fun h=>h);have Fb:=k7.blk En.out (by decide) (En.out.ne_of tN (by decide)) (fun h=>h);have hv7:=k7.blk zk.out (by decide) (zk.out.ne_of tN (by decide)) (fun h=>h);have hx7:=HXB.out.trans k7 (fun g hg=>hg.elim);have u0:=yx.cell 0;have u1:=yx.cell 1;have lu:=yx.lt;have xe:=kH h7;have Nb:=kH hs7;have xg:=kH sP;have FY:=kH Fb;have lT:=kH hv7;have rC:=kH hx7;by_cases h12:uk=12
     ·subst h12
      obtain⟨b',m',p2,wG,hb',hm',-,-,hsb,hsm,-⟩:=hs7;simp only[List.cons.injEq]at hm';obtain⟨rfl,rfl⟩:=hm';simp only[aag,Addr.mk.injEq,and_true]at hb';subst hb';have d1:=hsb.cell 1;have ld:=hsb.lt;obtain⟨w8,hrun,ed,MF,O0⟩:=bU (P:=Tryz.prog) (KK:=jB) (t:=70) (kt:=9) (et:=3) Tryz.underlying70 Tryz.underlying9 (hsm.drew) ux (.int .i64 0);change (Instr.mapUpdate 70 (.map (some m)) (Value.string ux) (.int .i64 0)).run Tryz.prog w7.drew=_ at hrun;rw[xE]at ed;have jh:aA (fun g=>g=m) w7 w8:=((aA.refl (fun g=>g=m) w7).drew).grown MF (fun k hk=>by cases hk;exact .inl rfl);have Bh:Hid (aW w8 base (some ⟨b,0,none⟩) (dK lay ux 0::s) (m::ms)):=kH (aW.store Nb.out jh ed HMN.out);have yJ:Hid (oC base ob (nQ u SI out') w8):=kH (xe.out.oH jh hsm.isMap);have gW:Hid (FX base ob (fun g=>g=m) w3 w8):=kH (rC.out.trans (FX.oH jh) (fun g hg=>.inl hg))
      have vQ:∀g t cs,ak w7 g t cs->g≠m:=fun g t cs hb e=>by
       obtain⟨es,ck,ho⟩:=hsm.isMap;have:w7.heap[g]? =some (Obj.cells _ _ (0,0)):=hb;rw[e,ho]at this;cases this
      have XH:=kH (xg.out.since jh (vQ _ _ _ xg.out));have XG:=kH (FY.out.since jh (vQ _ _ _ FY.out));have XF:=kH (lT.out.since jh (vQ _ _ _ lT.out));clear hsb hsm ed MF O0 jh vQ h7 sP Fb hv7 hx7 k7;go_wp2_with fail
      refine gN (fun w'=>w'.cell? ⟨b,1,none⟩=some (.map (some m))/\w'.cell? ⟨wr.heap.size,1,none⟩=some (.string ux)) [6] [true,true,true,true,true,true,false] (by kernel_rfl) (by kernel_rfl) rfl (by kernel_rfl) ?_;have hS0:w7.drew.cell? ⟨b,1,none⟩=some (.map (some m))/\w7.drew.cell? ⟨wr.heap.size,1,none⟩=some (.string ux):=⟨d1,u1⟩
      iterate 6(refine jL rfl hS0 (by intro w' hSw;obtain⟨hs1,hs2⟩:=hSw;go_simp;rfl) ?_;simp only[Act.put,sA,sZ,sC])
      refine j4 (w':=w8) rfl (by simp[execOp,Act.eval,hrun,Result.andThen]) (by simp) ?_;refine kV ?_;simp only[Act.put];clear hS0 d1 u0 u1 lu hrun yx;go_wp2_with fail
      go_roundg (gk - 1)
      case measure=>omega
      case rel=>
       refine⟨j+1,l++[ux],dK lay ux 0,nQ u SI out',by simp,by omega,Bh,kH (xA.out.add ux),yJ,gW,XH,XG,XF,kH ?_,kH ?_⟩
       ·rw[<- jg.out,HDR.out,qQ,<- QE.out]
        congr 1
        unfold Jb;rw[if_pos KQ.out.1,KQ.out.2]
       ·have h1:=HLEN.out
        rw[HDR.out,ag]at h1;have h2:=vB u SI out';omega
     ·have nM:(uk==12)=false:=by simp[h12]
      have pq:=kH h12;clear h7 hs7 sP Fb hv7 hx7 k7 yx h12;go_wp2_with fail
      go_roundg (gk - 1)
      case measure=>omega
      case rel=>
       refine⟨j+1,l,lay,nQ u SI out',by simp,by omega,Nb,xA,xe,rC,xg,FY,lT,kH ?_,kH ?_⟩
       ·rw[<- jg.out,HDR.out,qQ,<- QE.out]
        congr 1
        unfold Jb;rw[if_neg (by rw[KQ.out.1];exact pq.out)]
       ·have h1:=HLEN.out
        rw[HDR.out,ag]at h1;have h2:=vB u SI out';omega
    ·obtain⟨SI,PY⟩:∃SI,l::S=SI:=⟨_,rfl⟩
     have QE:Hid ((if k0=16/\j=2 then [x0]::(l::S) else l::S)=SI):=kH (by rw[if_neg h16];exact PY);have Ei:=Bg;have Bf:=Su;have lV:=aZ;have En:=Lc;have zk:=CB;have XJ:=SE;have HXB:=Sq;have hcall:=fO.out u HME.out SI (lay::s) (some ⟨b,0,none⟩) (m::ms) out' A' c' X Bg.out (by rw[<- PY];exact xA.out) fQ.out HXZ.out.1 SE.out Lc.out CB.out HLU.out;rw[HUI.out]at hcall;have HC:=kH hcall
     have hg16:(k0==16)=false\/((k0==16)=true/\((j:Int)==2)=false):=by
      by_cases h1:k0=16
      ·right
       refine⟨by simp[h1],?_⟩;have:j≠2:=fun e=>h16 ⟨h1,e⟩
       simp;omega
      ·left
       simp[h1]
     clear hcall PY h16;rcases hg16 with hg1| ⟨hg1,hg2⟩
     ·go_wp2_with (rw[hX])
      refine HC.out.mono ?_;clear y0 y1 y2 y3 y4 ly v0 lv q0 q1 lq t0 t1 t2 t3 t4 HC hX;rintro e7 w7 ⟨rfl,h7,k7⟩;obtain⟨csB,tN⟩:=XJ.out.blk;have hs7:=FX.sc k7 tN (fun _ _ _ _ h=>h) Ei.out (fun _ _ h=>h);have yx:=k7.blk Bf.out (by decide) (Bf.out.ne_of tN (by decide)) (fun h=>h);have sP:=k7.blk lV.out (by decide) (lV.out.ne_of tN (by decide)) (fun h=>h);have Fb:=k7.blk En.out (by decide) (En.out.ne_of tN (by decide)) (fun h=>h);have hv7:=k7.blk zk.out (by decide) (zk.out.ne_of tN (by decide)) (fun h=>h);have hx7:=HXB.out.trans k7 (fun g hg=>hg.elim);have u0:=yx.cell 0;have u1:=yx.cell 1;have lu:=yx.lt;have xe:=kH h7;have Nb:=kH hs7;have xg:=kH sP;have FY:=kH Fb;have lT:=kH hv7;have rC:=kH hx7;by_cases h12:uk=12
      ·subst h12
       obtain⟨b',m',p2,wG,hb',hm',-,-,hsb,hsm,-⟩:=hs7;simp only[List.cons.injEq]at hm';obtain⟨rfl,rfl⟩:=hm';simp only[aag,Addr.mk.injEq,and_true]at hb';subst hb';have d1:=hsb.cell 1;have ld:=hsb.lt;obtain⟨w8,hrun,ed,MF,O0⟩:=bU (P:=Tryz.prog) (KK:=jB) (t:=70) (kt:=9) (et:=3) Tryz.underlying70 Tryz.underlying9 (hsm.drew) ux (.int .i64 0);change (Instr.mapUpdate 70 (.map (some m)) (Value.string ux) (.int .i64 0)).run Tryz.prog w7.drew=_ at hrun;rw[xE]at ed;have jh:aA (fun g=>g=m) w7 w8:=((aA.refl (fun g=>g=m) w7).drew).grown MF (fun k hk=>by cases hk;exact .inl rfl);have Bh:Hid (aW w8 base (some ⟨b,0,none⟩) (dK lay ux 0::s) (m::ms)):=kH (aW.store Nb.out jh ed HMN.out);have yJ:Hid (oC base ob (nQ u SI out') w8):=kH (xe.out.oH jh hsm.isMap);have gW:Hid (FX base ob (fun g=>g=m) w3 w8):=kH (rC.out.trans (FX.oH jh) (fun g hg=>.inl hg))
       have vQ:∀g t cs,ak w7 g t cs->g≠m:=fun g t cs hb e=>by
        obtain⟨es,ck,ho⟩:=hsm.isMap;have:w7.heap[g]? =some (Obj.cells _ _ (0,0)):=hb;rw[e,ho]at this;cases this
       have XH:=kH (xg.out.since jh (vQ _ _ _ xg.out));have XG:=kH (FY.out.since jh (vQ _ _ _ FY.out));have XF:=kH (lT.out.since jh (vQ _ _ _ lT.out));clear hsb hsm ed MF O0 jh vQ h7 sP Fb hv7 hx7 k7;go_wp2_with fail
       refine gN (fun w'=>w'.cell? ⟨b,1,none⟩=some (.map (some m))/\w'.cell? ⟨wr.heap.size,1,none⟩=some (.string ux)) [6] [true,true,true,true,true,true,false] (by kernel_rfl) (by kernel_rfl) rfl (by kernel_rfl) ?_;have hS0:w7.drew.cell? ⟨b,1,none⟩=some (.map (some m))/\w7.drew.cell? ⟨wr.heap.size,1,none⟩=some (.string ux):=⟨d1,u1⟩
       iterate 6(refine jL rfl hS0 (by intro w' hSw;obtain⟨hs1,hs2⟩:=hSw;go_simp;rfl) ?_;simp only[Act.put,sA,sZ,sC])
       refine j4 (w':=w8) rfl (by simp[execOp,Act.eval,hrun,Result.andThen]) (by simp) ?_;refine kV ?_;simp only[Act.put];clear hS0 d1 u0 u1 lu hrun yx;go_wp2_with fail
       go_roundg (gk - 1)
       case measure=>omega
       case rel=>
        refine⟨j+1,l++[ux],dK lay ux 0,nQ u SI out',by simp,by omega,Bh,kH (xA.out.add ux),yJ,gW,XH,XG,XF,kH ?_,kH ?_⟩
        ·rw[<- jg.out,HDR.out,qQ,<- QE.out]
         congr 1
         unfold Jb;rw[if_pos KQ.out.1,KQ.out.2]
        ·have h1:=HLEN.out
         rw[HDR.out,ag]at h1;have h2:=vB u SI out';omega
      ·have nM:(uk==12)=false:=by simp[h12]
       have pq:=kH h12;clear h7 hs7 sP Fb hv7 hx7 k7 yx h12;go_wp2_with fail
       go_roundg (gk - 1)
       case measure=>omega
       case rel=>
        refine⟨j+1,l,lay,nQ u SI out',by simp,by omega,Nb,xA,xe,rC,xg,FY,lT,kH ?_,kH ?_⟩
        ·rw[<- jg.out,HDR.out,qQ,<- QE.out]
         congr 1
         unfold Jb;rw[if_neg (by rw[KQ.out.1];exact pq.out)]
        ·have h1:=HLEN.out
         rw[HDR.out,ag]at h1;have h2:=vB u SI out';omega
     ·go_wp2_with (rw[hX])
      refine HC.out.mono ?_;clear y0 y1 y2 y3 y4 ly v0 lv q0 q1 lq t0 t1 t2 t3 t4 HC hX;rintro e7 w7 ⟨rfl,h7,k7⟩;obtain⟨csB,tN⟩:=XJ.out.blk;have hs7:=FX.sc k7 tN (fun _ _ _ _ h=>h) Ei.out (fun _ _ h=>h);have yx:=k7.blk Bf.out (by decide) (Bf.out.ne_of tN (by decide)) (fun h=>h);have sP:=k7.blk lV.out (by decide) (lV.out.ne_of tN (by decide)) (fun h=>h);have Fb:=k7.blk En.out (by decide) (En.out.ne_of tN (by decide)) (fun h=>h);have hv7:=k7.blk zk.out (by decide) (zk.out.ne_of tN (by decide)) (fun h=>h);have hx7:=HXB.out.trans k7 (fun g hg=>hg.elim);have u0:=yx.cell 0;have u1:=yx.cell 1;have lu:=yx.lt;have xe:=kH h7;have Nb:=kH hs7;have xg:=kH sP;have FY:=kH Fb;have lT:=kH hv7;have rC:=kH hx7;by_cases h12:uk=12
      ·subst h12
       obtain⟨b',m',p2,wG,hb',hm',-,-,hsb,hsm,-⟩:=hs7;simp only[List.cons.injEq]at hm';obtain⟨rfl,rfl⟩:=hm';simp only[aag,Addr.mk.injEq,and_true]at hb';subst hb';have d1:=hsb.cell 1;have ld:=hsb.lt;obtain⟨w8,hrun,ed,MF,O0⟩:=bU (P:=Tryz.prog) (KK:=jB) (t:=70) (kt:=9) (et:=3) Tryz.underlying70 Tryz.underlying9 (hsm.drew) ux (.int .i64 0);change (Instr.mapUpdate 70 (.map (some m)) (Value.string ux) (.int .i64 0)).run Tryz.prog w7.drew=_ at hrun;rw[xE]at ed;have jh:aA (fun g=>g=m) w7 w8:=((aA.refl (fun g=>g=m) w7).drew).grown MF (fun k hk=>by cases hk;exact .inl rfl);have Bh:Hid (aW w8 base (some ⟨b,0,none⟩) (dK lay ux 0::s) (m::ms)):=kH (aW.store Nb.out jh ed HMN.out);have yJ:Hid (oC base ob (nQ u SI out') w8):=kH (xe.out.oH jh hsm.isMap);have gW:Hid (FX base ob (fun g=>g=m) w3 w8):=kH (rC.out.trans (FX.oH jh) (fun g hg=>.inl hg))
       have vQ:∀g t cs,ak w7 g t cs->g≠m:=fun g t cs hb e=>by
        obtain⟨es,ck,ho⟩:=hsm.isMap;have:w7.heap[g]? =some (Obj.cells _ _ (0,0)):=hb;rw[e,ho]at this;cases this
       have XH:=kH (xg.out.since jh (vQ _ _ _ xg.out));have XG:=kH (FY.out.since jh (vQ _ _ _ FY.out));have XF:=kH (lT.out.since jh (vQ _ _ _ lT.out));clear hsb hsm ed MF O0 jh vQ h7 sP Fb hv7 hx7 k7;go_wp2_with fail
       refine gN (fun w'=>w'.cell? ⟨b,1,none⟩=some (.map (some m))/\w'.cell? ⟨wr.heap.size,1,none⟩=some (.string ux)) [6] [true,true,true,true,true,true,false] (by kernel_rfl) (by kernel_rfl) rfl (by kernel_rfl) ?_;have hS0:w7.drew.cell? ⟨b,1,none⟩=some (.map (some m))/\w7.drew.cell? ⟨wr.heap.size,1,none⟩=some (.string ux):=⟨d1,u1⟩
       iterate 6(refine jL rfl hS0 (by intro w' hSw;obtain⟨hs1,hs2⟩:=hSw;go_simp;rfl) ?_;simp only[Act.put,sA,sZ,sC])
       refine j4 (w':=w8) rfl (by simp[execOp,Act.eval,hrun,Result.andThen]) (by simp) ?_;refine kV ?_;simp only[Act.put];clear hS0 d1 u0 u1 lu hrun yx;go_wp2_with fail
       go_roundg (gk - 1)
       case measure=>omega
       case rel=>
        refine⟨j+1,l++[ux],dK lay ux 0,nQ u SI out',by simp,by omega,Bh,kH (xA.out.add ux),yJ,gW,XH,XG,XF,kH ?_,kH ?_⟩
        ·rw[<- jg.out,HDR.out,qQ,<- QE.out]
         congr 1
         unfold Jb;rw[if_pos KQ.out.1,KQ.out.2]
        ·have h1:=HLEN.out
         rw[HDR.out,ag]at h1;have h2:=vB u SI out';omega
      ·have nM:(uk==12)=false:=by simp[h12]
       have pq:=kH h12;clear h7 hs7 sP Fb hv7 hx7 k7 yx h12;go_wp2_with fail
       go_roundg (gk - 1)
       case measure=>omega
       case rel=>
        refine⟨j+1,l,lay,nQ u SI out',by simp,by omega,Nb,xA,xe,rC,xg,FY,lT,kH ?_,kH ?_⟩
        ·rw[<- jg.out,HDR.out,qQ,<- QE.out]
         congr 1
         unfold Jb;rw[if_neg (by rw[KQ.out.1];exact pq.out)]
        ·have h1:=HLEN.out
         rw[HDR.out,ag]at h1;have h2:=vB u SI out';omega
   ·have hjn:j=n:=by omega
    subst hjn;have hge:¬((j:Int)<(j:Int)):=by omega
    have HE:Hid (oC base ob FIN wr/\FX base ob (fun _=>False) w wr):=kH ⟨by
     have h1:=jg.out;rw[List.drop_eq_nil_of_le (by rw[HN.out];exact aab _),uR]at h1;rw[<- h1]
     exact HOR.out,HX3.out.trans HXR.out (fun g hg=>.inr (by rw[hg];exact SH.out.1))⟩
    go_wp2_with fail
    go_end0
    exact⟨rfl,HE.out.1,HE.out.2⟩
theorem WV(B base ob ab vb:Nat)(hB:B<=base/\B<=ob):∀(n:Nat) (t:aa),ai t<=n->Vt B base ob ab vb t
 | 0,t,h=>by
  have:=su t;omega
 | n+1,.node k x a e kids,h=>WU B base ob ab vb hB k x a e kids fun c hc=>WV B base ob ab vb hB n c (by
  have:=Dx hc;rw[ai]at h
  omega)
theorem ZI(t:aa)(A:Option Addr)(c:Nat)(w:World)(hN:ai t<=1000000)(hk:aK w w.heap.size A 0 t.kids):
 Calls Tryz.prog 20 #[bB t A c] w fun e w'=> ∃v,e= .returned v/\aP w' w.heap.size 9 1 v (nQ t [] []).length ((nQ t [] []).flatMap fP)/\Below w.heap.size w w':=by
 obtain⟨k0,x0,a0,z0,n0,-,-,-,-,-,ji⟩:=gD t A c;rw[ji];obtain⟨Z,hZ⟩:∃Z,nQ t [] []=Z:=⟨_,rfl⟩
 rw[hZ];go_enter Tryz.func20,Tryz.ntmps20
 go_wp2_with fail
 obtain⟨W1,hW1⟩:∃W1,(((w.alloc (.cells #[.int .i64 k0,.string x0,.int .i64 a0,.int .i64 z0,.slice A n0 c] 24)).alloc (.cells #[.slice none 0 0] 41)).alloc (.cells #[.func (.func 44) #[] #[.pointer (some ⟨w.heap.size+1,0,none⟩)]] 91)).alloc (.cells #[.func (.func 47) #[] #[.pointer (some ⟨w.heap.size+1+1,0,none⟩),.pointer (some ⟨w.heap.size+1+1+1,0,none⟩)]] 92)=W1:=⟨_,rfl⟩
 rw[hW1]
 have GV:ak W1 (w.heap.size+1) 41 #[.slice none 0 0]:=by
  rw[<- hW1];have:=((ak.new (w.alloc (.cells #[.int .i64 k0,.string x0,.int .i64 a0,.int .i64 z0,.slice A n0 c] 24)) 41 #[.slice none 0 0]).alloc (.cells #[.func (.func 44) #[] #[.pointer (some ⟨w.heap.size+1,0,none⟩)]] 91)).alloc (.cells #[.func (.func 47) #[] #[.pointer (some ⟨w.heap.size+1+1,0,none⟩),.pointer (some ⟨w.heap.size+1+1+1,0,none⟩)]] 92);simpa using this
 have hab:ak W1 (w.heap.size+1+1) 91 #[.func (.func 44) #[] #[.pointer (some ⟨w.heap.size+1,0,none⟩)]]:=by
  rw[<- hW1];have:=(ak.new ((w.alloc (.cells #[.int .i64 k0,.string x0,.int .i64 a0,.int .i64 z0,.slice A n0 c] 24)).alloc (.cells #[.slice none 0 0] 41)) 91 #[.func (.func 44) #[] #[.pointer (some ⟨w.heap.size+1,0,none⟩)]]).alloc (.cells #[.func (.func 47) #[] #[.pointer (some ⟨w.heap.size+1+1,0,none⟩),.pointer (some ⟨w.heap.size+1+1+1,0,none⟩)]] 92);simpa using this
 have hvb:ak W1 (w.heap.size+1+1+1) 92 #[.func (.func 47) #[] #[.pointer (some ⟨w.heap.size+1+1,0,none⟩),.pointer (some ⟨w.heap.size+1+1+1,0,none⟩)]]:=by
  rw[<- hW1];have:=ak.new (((w.alloc (.cells #[.int .i64 k0,.string x0,.int .i64 a0,.int .i64 z0,.slice A n0 c] 24)).alloc (.cells #[.slice none 0 0] 41)).alloc (.cells #[.func (.func 44) #[] #[.pointer (some ⟨w.heap.size+1,0,none⟩)]] 91)) 92 #[.func (.func 47) #[] #[.pointer (some ⟨w.heap.size+1+1,0,none⟩),.pointer (some ⟨w.heap.size+1+1+1,0,none⟩)]];simpa using this
 have hb1:Below w.heap.size w W1:=by
  rw[<- hW1];exact(((((Below.refl _ w).alloc (aab _) _).alloc (by simp) _).alloc (by simp;omega) _).alloc (by simp;omega) _)
 have hcall:=WV w.heap.size w.heap.size (w.heap.size+1) (w.heap.size+1+1) (w.heap.size+1+1+1) ⟨aab _,by omega⟩ (ai t) t (aab _) [] [] none [] [] A c W1 ⟨rfl,rfl⟩ (fun y=>rfl) (aK.below hb1 (aab _) _ _ _ hk) hb1.size ⟨none,0,0,GV,aP.nil _ _ _ _⟩ hab hvb (by simpa using hN);rw[ji,hZ]at hcall;have HC:=kH hcall;have HB1:=kH hb1;clear hcall hb1 GV hab hvb hW1 ji hZ hk;refine HC.out.mono ?_;rintro e2 w2 ⟨rfl,⟨A2,n2,c2,h2,h3⟩,h4⟩;have hb2:Below w.heap.size w w2:=HB1.out.trans (h4.low HB1.out.size (by omega) (aab _) (fun _ h=>h.elim));have hn2:n2=Z.length:=by have:=h3.1;rw[NZ]at this;omega
 have c0:=h2.cell 0;have l0:=h2.lt;have HO:Hid (aP w2 w.heap.size 9 1 (.slice A2 n2 c2) Z.length (Z.flatMap fP)):=kH (by rw[<- hn2];exact h3);have HB2:=kH hb2;clear h2 h3 h4 hb2 hn2 HC;go_wp2_with fail
 go_ret
 exact⟨_,rfl,HO.out,HB2.out⟩
end Go.Proofs.YtoepemlnlpamlaaGreat
