/- The law NamesResolves holds where what it reads is of bulk at most 1048576: it returns true, and its argument reads as before. Part 41: Fre1 Fre2 Fre3. -/
import Derived.Test.YtoepemlnlpamlaaGreatReso22
import Derived.Test.YtoepemlnlpamlaaGreatReso32
set_option maxRecDepth 100000
set_option maxHeartbeats 4000000
namespace Go.Proofs.YtoepemlnlpamlaaGreat
open Go.RowKit
def FX(base ob:Nat)(M:Nat->Prop)(w w':World):Prop:=aF (fun g=>(g=ob\/(base<=g/\∃cs fr,w.heap[g]? =some (.cells cs 9 fr)))\/M g) w w'
section
variable {base ob:Nat}{M M':Nat->Prop}{w w1 w':World}
theorem FX.refl(base ob:Nat)(M:Nat->Prop)(w:World):FX base ob M w w:=aF.refl _ _
theorem FX.trans(h:FX base ob M w w1)(k:FX base ob M' w1 w')(hM:∀g,M' g->M g\/w.heap.size<=g):FX base ob M w w':=by
 refine⟨k.os.trans h.os,k.tape.trans h.tape,k.output.trans h.output,abF h.size k.size,fun g hg hn=>?_⟩;have h1:=h.block g hg hn
 have h2:=k.block g (Nat.lt_of_lt_of_le hg h.size) (fun h3=>hn (by
  rcases h3 with(h3| ⟨h4,cs,fr,h5⟩)|h3
  ·exact .inl (.inl h3)
  ·exact .inl (.inr ⟨h4,cs,fr,by rw[<- h1];exact h5⟩)
  ·rcases hM g h3 with h6|h6
   ·exact .inr h6
   ·omega))
 rw[h2,h1]
theorem FX.of_below(hb:Below w.heap.size w w'):FX base ob M w w':=(aF.refl _ _).below hb
theorem FX.oo(h:aF M w w'):FX base ob M w w':=aF.mono h fun _ h1=>.inr h1
theorem FX.low(h:FX base ob M w w'){B:Nat}(hB:B<=w.heap.size)(h1:B<=ob)(h2:B<=base)(hM:∀g,M g->B<=g):Below B w w':=aF.toBelow h hB fun g hg=>by
 rcases hg with(hg|hg)|hg
 ·omega
 ·exact abF h2 hg.1
 ·exact hM g hg
theorem FX.blk(h:FX base ob M w w'){g:Nat}{t:TypeId}{cs:Array Value}(hb:ai w g t cs)(ht:t≠9)(ho:g≠ob)(hM:¬M g):ai w' g t cs:=by
 refine ai.since hb h fun h1=>?_
 rcases h1 with(h1| ⟨-,cs',fr,h1⟩)|h1
 ·exact ho h1
 ·have e2:w.heap[g]? =some (Obj.cells _ _ (0,0)):=hb
  rw[e2]at h1;simp only[abJ,Obj.cells.injEq]at h1;exact ht h1.2.1
 ·exact hM h1
theorem FX.RO(h:FX base ob M w w'){K:Type}[DecidableEq K]{KK:oD K}{r:Nat}{m:List (K×Value)}(ha:aY KK w r m){t:TypeId}{cs:Array Value}(IB:ai w ob t cs)(hM:¬M r):aY KK w' r m:=by
 refine ha.since h fun h1=>?_
 rcases h1 with(h1| ⟨-,cs',fr,h1⟩)|h1
 ·exact ha.qZ IB h1
 ·obtain⟨es,ck,ho⟩:=ha.isMap
  rw[ho]at h1;cases h1
 ·exact hM h1
theorem ai.ne_of{g g':Nat}{t t':TypeId}{cs cs':Array Value}(h:ai w g t cs)(h':ai w g' t' cs')(ht:t≠t'):g≠g':=fun e=>by
 have e1:w.heap[g]? =some (Obj.cells _ _ (0,0)):=h;have e2:w.heap[g']? =some (Obj.cells _ _ (0,0)):=h';rw[e,e2]at e1;simp only[abJ,Obj.cells.injEq]at e1;exact ht e1.2.1.symm
theorem FX.sc(h:FX base ob M w w'){cs:Array Value}(IB:ai w ob 41 cs)(hMb:∀g t cs,ai w g t cs->¬M g):∀{s:aQ}{p:Option Addr}{ms:List Nat},bL w base p s ms->(∀m∈ms,¬M m)->bL w' base p s ms
 | [],_,_,hs,_=>hs
 | _::_,_,_,⟨b,m,p',ms',h1,h2,h3,h4,h5,h6,h7⟩,hms=>by
  subst h2;exact⟨b,m,p',ms',h1,rfl,h3,h4,h.blk h5 (by decide) (h5.ne_of IB (by decide)) (hMb _ _ _ h5),h.RO h6 IB (hms m (by simp)),FX.sc h IB hMb h7 fun x hx=>hms x (by simp[hx])⟩
end
theorem XK:(Tryz.prog.info? 9).map (fun i=>(i.zero,i.size,i.bytes))=some (some (.string ⟨#[]⟩),1,16):=by kernel_rfl
def oh(base ob:Nat)(out:List ByteArray)(w:World):Prop:=∃A n c,ai w ob 41 #[.slice A n c]/\aL w base 9 1 (.slice A n c) n (out.flatMap fE)
theorem oh.below{base ob:Nat}{out:List ByteArray}{w w':World}(h:oh base ob out w)(hb:Below w.heap.size w w'):oh base ob out w':=by
 obtain⟨A,n,c,h1,h2⟩:=h;exact⟨A,n,c,h1.below hb h1.lt,h2.below hb fun g hg=>(h2.lt g hg).2⟩
def J9(s:aQ)(x:ByteArray)(out:List ByteArray):List ByteArray:=if (eP s x).isSome || lT out x then out else out++[x]
theorem Py(l:List ByteArray):(l.flatMap fE).length=l.length:=by
 induction l with
 | nil=>rfl
 | cons a l ih=>rw[List.flatMap_cons,abP,ih,abR];simp[fE];omega
theorem add_any(base ob:Nat)(out:List ByteArray)(s:aQ)(p:Option Addr)(ms:List Nat)(x:ByteArray)(w:World)(hs:bL w base p s ms)(ho:oh base ob out w)(hb:base<=w.heap.size)(hm:out.length<=1000000):
 Calls Tryz.prog 44 #[.string x,.pointer p,.pointer (some ⟨ob,0,none⟩)] w fun e w'=>e= .returned (.tuple #[])/\oh base ob (J9 s x out) w'/\FX base ob (fun _=>False) w w':=by
 obtain⟨i0,hi0,hz0,hz1,hz2⟩:=info_parts XK;have hf:=JZ base x w s p ms hs;obtain⟨A,n,c,hblk,hown⟩:=ho;have hn:n=out.length:=by have:=hown.1;rw[Py]at this;omega
 unfold J9;generalize eP s x=fo at hf⊢
 obtain⟨hb0,hhb⟩:∃q,lT out x=q:=⟨_,rfl⟩
 rw[hhb];have hcon:=EN A n c out x w (hown.rowAt (cells:=fE) (l:=out) rfl rfl (fun _ _=>rfl) hn.symm) hn.symm (by omega);rw[hhb]at hcon;have c0:=hblk.cell 0;have f0:=hblk.frozen 0;have lo:=hblk.lt;have HF:=kH hf;have HC:=kH hcon;have HB:=kH hblk;have HO:=kH hown;have HN:=kH hn;clear hf hcon hblk hown hhb hs hn
 cases fo with
 | some y=>
  simp only[Option.isSome_some,Bool.true_or,if_true]at HF⊢;go_enter Tryz.func44,Tryz.ntmps44
  go_wp2_with fail
  refine HF.out.mono ?_;rintro e w2 ⟨rfl,hw2⟩;obtain rfl:w=w2:=hw2.symm;go_wp2_with fail
  go_end0
  exact⟨rfl,⟨A,n,c,HB.out,HO.out⟩,FX.refl _ _ _ _⟩
 | none=>
  simp only[Option.isSome_none,Bool.false_or]at HF⊢
  cases hb0 with
  | true=>
   simp only[if_true];go_enter Tryz.func44,Tryz.ntmps44
   go_wp2_with fail
   refine HF.out.mono ?_;rintro e w2 ⟨rfl,hw2⟩;obtain rfl:w=w2:=hw2.symm;go_wp2_with fail
   refine HC.out.mono ?_;rintro e w2 ⟨rfl,hw2⟩;subst hw2;go_wp2_with fail
   go_end0
   exact⟨rfl,⟨A,n,c,HB.out,HO.out⟩,FX.refl _ _ _ _⟩
  | false=>
   simp only[Bool.false_eq_true,if_false];have hnm:n<=1000000:=by have:=HN.out;omega
   go_enter Tryz.func44,Tryz.ntmps44
   go_wp2_with fail
   refine HF.out.mono ?_;rintro e w2 ⟨rfl,hw2⟩;obtain rfl:w=w2:=hw2.symm;go_wp2_with fail
   refine HC.out.mono ?_;rintro e w2 ⟨rfl,hw2⟩;subst hw2;go_wp2_with (at_builtin;go_must (refine dm _ rfl (.tmp 21) (.tmp 23) _ rfl base 9 i0 _ 1 16 Tryz.underlying41 hi0 hz0 hz1 hz2 rfl (.slice A n c) n (out.flatMap fE) rfl (HO.out.alloc _) ⟨_,0,none⟩ 1 1 [.string x] rfl rfl (DT _ _ _ (by go_simp)) (by simp[Value.oneCell']) (by simp only[maxLen];omega) (by omega) (by simp;omega) ?_);intro vn w6 hown hgrow hat;obtain⟨A6,c6,nC,-,-⟩:=hown.shape;subst nC;have HOWN:=kH hown;have qV:=kH hgrow;have yQ:=ai.grown (ai.alloc HB.out _) hgrow (fun e1=>HO.out.bZ HB.out (by decide) e1.symm);have q4:=yQ.cell 0;have q5:=yQ.frozen 0;have q6:=yQ.lt;have mP:=kH yQ;clear hown hgrow hat yQ)
   go_end0
   refine⟨rfl,⟨A6,n+1,c6,?_,?_⟩,?_⟩
   ·have:=mP.out.fM 0 (.slice A6 (n+1) c6)
    simpa using this
   ·have h1:=HOWN.out.setCell (p:=⟨ob,0,none⟩) (HOWN.out.bZ mP.out (by decide)) (.slice A6 (n+1) c6)
    rw[List.flatMap_append];exact h1
   ·have h0:=HO.out
    refine aF.setCell (S:=fun g=>(g=ob\/(base<=g/\∃cs fr,w.heap[g]? =some (.cells cs 9 fr)))\/False) ((aF.alloc (aF.refl _ w) _).grown qV.out (fun g hg=>.inl (.inl (.inr ?_)))) (p:=⟨ob,0,none⟩) (.inl (.inl (.inl rfl))) _;obtain⟨cur,hc⟩:=h0.obj g hg;exact⟨(h0.lt g hg).1,cur,(0,0),hc⟩
def Nm(S:List (List ByteArray))(s:aQ):Prop:=∀y,(S.any fun l=>l.contains y)=(eP s y).isSome
theorem Nm.push{S:List (List ByteArray)}{s:aQ}(h:Nm S s):Nm ([]::S) ([]::s):=fun y=>by
 rw[List.any_cons,h y];rfl
theorem Nm.add{l:List ByteArray}{S:List (List ByteArray)}{lay:kP}{s:aQ}(h:Nm (l::S) (lay::s))(x:ByteArray):Nm ((l++[x])::S) (cZ lay x 0::s):=fun y=>by
 have hy:=h y;rw[List.any_cons,eP]at hy⊢;by_cases e:y=x
 ·have h1:aT (cZ lay x 0) y=some 0:=by
   show bG (cZ lay x 0) y=some 0;rw[nE,if_pos e]
  have h2:(l++[x]).contains y=true:=by
   rw[List.contains_iff_mem];simp[e]
  rw[h1,h2];rfl
 ·have h1:aT (cZ lay x 0) y=aT lay y:=by
   show bG (cZ lay x 0) y=bG lay y;rw[nE,if_neg e]
  have h2:(l++[x]).contains y=l.contains y:=by
   rw[Bool.eq_iff_iff,List.contains_iff_mem,List.contains_iff_mem];simp[e]
  rw[h1,h2];exact hy
theorem OT(l:List ByteArray)(x:ByteArray):lT l x=l.contains x:=by
 unfold lT;rw[Bool.eq_iff_iff,List.contains_iff_mem,List.any_eq_true];constructor
 ·rintro⟨y,hy,h⟩
  rw[beq_iff_eq,ByteArray.toList_eq,ByteArray.toList_eq]at h;rw[<- mE h];exact hy
 ·intro h
  exact⟨x,h,by simp⟩
theorem addF_eq{S:List (List ByteArray)}{s:aQ}(h:Nm S s)(x:ByteArray)(out:List ByteArray):J9 s x out=if (S.any fun l=>l.contains x) || out.contains x then out else out++[x]:=by
 unfold J9;rw[h x,OT]
theorem abh(s:aQ)(x:ByteArray)(out:List ByteArray):(J9 s x out).length<=out.length+1:=by
 unfold J9;split
 ·omega
 ·simp
mutual
theorem vJ:∀(t:ae) (S:List (List ByteArray)) (out:List ByteArray),(nI t S out).length<=out.length+au t
 | .node k x a e kids,S,out=>by
  rw[nI,au];refine abF (Oc k x kids 0 _ _) ?_;split
  ·split
   ·omega
   ·simp;omega
  ·omega
theorem Oc(k:Int)(x:ByteArray):∀(ts:List ae) (i:Nat) (S:List (List ByteArray)) (out:List ByteArray),(uW k x ts i S out).length<=out.length+aG ts
 | [],i,S,out=>by rw[uW,aG];omega
 | t::ts,i,S,out=>by
  rw[qL,aG];refine abF (Oc k x ts (i+1) _ _) ?_;have:=vJ t (if k=16/\i=2 then [x]::S else S) out;omega
end
def Xr(B base ob ab vb:Nat)(t:ae):Prop:=
 ∀(S:List (List ByteArray)) (s:aQ) (p:Option Addr) (ms:List Nat) (out:List ByteArray) (A:Option Addr) (c:Nat) (w:World),
  bL w base p s ms->Nm S s->aK w B A 0 t.kids->base<=w.heap.size->oh base ob out w ->
  ai w ab 91 #[.func (.func 44) #[] #[.pointer (some ⟨ob,0,none⟩)]]->ai w vb 92 #[.func (.func 47) #[] #[.pointer (some ⟨ab,0,none⟩),.pointer (some ⟨vb,0,none⟩)]]->out.length+au t<=1000000 ->
  Calls Tryz.prog 47 #[bD t A c,.pointer p,.pointer (some ⟨ab,0,none⟩),.pointer (some ⟨vb,0,none⟩)] w fun e w'=>e= .returned (.tuple #[])/\oh base ob (nI t S out) w'/\FX base ob (fun _=>False) w w'
theorem oh.blk{base ob:Nat}{out:List ByteArray}{w:World}(h:oh base ob out w):∃cs,ai w ob 41 cs:=by
 obtain⟨A,n,c,h1,-⟩:=h;exact⟨_,h1⟩
theorem oh.oo{base ob:Nat}{out:List ByteArray}{w w':World}{m:Nat}(h:oh base ob out w)(hs:aF (fun g=>g=m) w w')(ho:∃es ck,w.heap[m]? =some (.map es ck)):oh base ob out w':=by
 obtain⟨A,n,c,h1,h2⟩:=h;obtain⟨es,ck,ho⟩:=ho;refine⟨A,n,c,h1.since hs (fun e=>?_),h2.since hs (fun g hg e=>?_)⟩
 ·have:w.heap[ob]? =some (Obj.cells _ _ (0,0)):=h1
  rw[e,ho]at this;cases this
 ·obtain⟨cur,hc⟩:=h2.obj g hg
  rw[e,ho]at hc;cases hc
theorem bL.store{base:Nat}{w w':World}{b m:Nat}{lay lay2:kP}{s:aQ}{ms:List Nat}(h:bL w base (some ⟨b,0,none⟩) (lay::s) (m::ms))(hs:aF (fun g=>g=m) w w')(hm:aY jg w' m (jC lay2))(hn:m ∉ ms):bL w' base (some ⟨b,0,none⟩) (lay2::s) (m::ms):=by
 obtain⟨b',m',p2,ms',h1,h2,h3,h4,h5,h6,h7⟩:=h;simp only[List.cons.injEq]at h2;obtain⟨rfl,rfl⟩:=h2;simp only[abJ,Addr.mk.injEq,and_true]at h1;subst h1;obtain⟨es,ck,ho⟩:=h6.isMap
 have hcell:∀g t cs,ai w g t cs->g≠m:=fun g t cs hb e=>by
  have:w.heap[g]? =some (Obj.cells _ _ (0,0)):=hb;rw[e,ho]at this;cases this
 have hrest:∀{s:aQ}{p:Option Addr}{ms:List Nat},bL w base p s ms->m ∉ ms->bL w' base p s ms:=by
  intro s
  induction s with
  | nil=>exact fun h _=>h
  | cons x s ih=>
   rintro p ms ⟨b,m1,p',ms1,e1,e2,e3,e4,e5,e6,e7⟩ hn;subst e2;rw[List.mem_cons,not_or]at hn;exact⟨b,m1,p',ms1,e1,rfl,e3,e4,e5.since hs (hcell _ _ _ e5),e6.since hs (fun e=>hn.1 e.symm),ih e7 hn.2⟩
 exact⟨b,m,p2,ms,rfl,rfl,h3,h4,h5.since hs (hcell _ _ _ h5),hm,hrest h7 hn⟩
theorem YW(B base ob ab vb:Nat)(hB:B<=base/\B<=ob)(k0:Int)(x0:ByteArray)(a0 z0:Int)(kids:List ae)(hih:∀u∈kids,Xr B base ob ab vb u):Xr B base ob ab vb (.node k0 x0 a0 z0 kids):=by
 intro S s p ms out A c w hs hnm hk hb ho hab hvb hm;obtain⟨n,hn⟩:∃q,kids.length=q:=⟨_,rfl⟩
 unfold bD;have sI:(ae.node k0 x0 a0 z0 kids).kind=k0/\(ae.node k0 x0 a0 z0 kids).text=x0/\(ae.node k0 x0 a0 z0 kids).at_=a0/\(ae.node k0 x0 a0 z0 kids).end_=z0/\(ae.node k0 x0 a0 z0 kids).kids=kids:=⟨rfl,rfl,rfl,rfl,rfl⟩
 rw[sI.1,sI.2.1,sI.2.2.1,sI.2.2.2.1,sI.2.2.2.2,hn];rw[sI.2.2.2.2]at hk;rw[nI,<- addF_eq hnm];obtain⟨O1,yP⟩:∃q,(if k0=20 then J9 s x0 out else out)=q:=⟨_,rfl⟩
 rw[yP];obtain⟨FIN,aa1⟩:∃q,uW k0 x0 kids 0 ([]::S) O1=q:=⟨_,rfl⟩
 rw[aa1]
 have hml:O1.length+aG kids<=1000000:=by
  rw[au]at hm;rw[<- yP];split
  ·have:=abh s x0 out
   omega
  ·omega
 have hnm1:n<=1000000:=by have:=kV kids;omega
 have HOO:=kH yP;have HFI:=kH aa1;have HML:=kH hml;have HS:=kH hs;have HNMM:=kH hnm;have HK:=kH hk;have HO:=kH ho;have HA:=kH hab;have HV:=kH hvb;have HN:=kH hn;have fD:=kH hih;have oK:Hid (B<=base/\B<=ob/\base<=w.heap.size):=kH ⟨hB.1,hB.2,hb⟩;have HM:Hid (out.length<=1000000):=kH (by omega);have c0:=hab.cell 0;have la:=hab.lt;clear yP aa1 hs hnm hk ho hab hvb hn hih hm hml sI hb hB;go_enter Tryz.func47,Tryz.ntmps47
 go_upto_if 11 with fail
 generalize hW1:w.alloc (.cells #[.int .i64 k0,.string x0,.int .i64 a0,.int .i64 z0,.slice A n c] 24)=W1
 have hb1:Below w.heap.size w W1:=by rw[<- hW1];exact ag _ _
 have hN1:ai W1 w.heap.size 24 #[.int .i64 k0,.string x0,.int .i64 a0,.int .i64 z0,.slice A n c]:=by rw[<- hW1];exact ai.new w _ _
 have HB1:=kH hb1;have HN1:=kH hN1;have c1:=hN1.cell 1;have l1:=hN1.lt;have hA1:=HA.out.below hb1 HA.out.lt;have d0:=hA1.cell 0;have d1:=hA1.lt;clear hW1 hb1 hN1 c0 la;go_cut [] (fun wx=>Hid (oh base ob O1 wx)/\Hid (FX base ob (fun _=>False) W1 wx))
 case first=>
  by_cases h20:k0=20
  ·subst h20
   have hadd:=add_any base ob out s p ms x0 W1 (bL.below HB1.out HS.out) (HO.out.below HB1.out) (abF oK.out.2.2 HB1.out.size) HM.out;have HADD:=kH hadd;clear hadd hA1;go_wp2_with fail
   refine HADD.out.mono ?_;rintro e2 w2 ⟨rfl,h2,h3⟩;have H2:Hid (oh base ob O1 w2):=kH (by rw[<- HOO.out,if_pos (by first|trivial|rfl)];exact h2);have H3:=kH h3;clear h2 h3;go_wp2_with fail
   go_meet
   exact⟨H2,H3⟩
  ·have oG:(k0==20)=false:=by simp[h20]
   have H2:Hid (oh base ob O1 W1):=kH (by rw[<- HOO.out,if_neg h20];exact HO.out.below HB1.out);clear h20 hA1;go_wp2_with fail
   go_meet
   exact⟨H2,kH (FX.refl _ _ _ _)⟩
 case rest=>
  obtain⟨uy,yU⟩:=hcut;obtain⟨cs1,QW⟩:=(HO.out.below HB1.out).blk;have hsc:=FX.sc yU.out QW (fun _ _ _ _ h=>h) (bL.below HB1.out HS.out) (fun _ _ h=>h);have hNc:=yU.out.blk HN1.out (by decide) (HN1.out.ne_of QW (by decide)) (fun h=>h);have hAc:=yU.out.blk hA1 (by decide) (hA1.ne_of QW (by decide)) (fun h=>h);have hV1:=HV.out.below HB1.out HV.out.lt;have hVc:=yU.out.blk hV1 (by decide) (hV1.ne_of QW (by decide)) (fun h=>h);have Zu:=kH hsc;have HNC:=kH hNc;have Dw:=kH hAc;have HVC:=kH hVc;have HZ:Hid (w.heap.size<=wc.heap.size):=kH (abF HB1.out.size yU.out.size);clear hsc hNc hAc hVc hV1 hA1 QW d0 d1 c1 l1;go_wp2_with fail
  refine(FJ p wc).mono ?_;rintro e3 w3 ⟨b,m,rfl,hbb,hmm,hblk,ik,hbel⟩;have JP:base<=wc.heap.size:=abF oK.out.2.2 HZ.out;have iQ:Hid (bL w3 base (some ⟨b,0,none⟩) ([]::s) (m::ms)):=kH ⟨b,m,p,ms,rfl,rfl,abF JP hbb,abF JP hmm,hblk,ik,Zu.out.below hbel⟩
  have HMN:Hid (m ∉ ms):=kH (fun h=>by
   have h1:∀{s:aQ}{p:Option Addr}{ms:List Nat},bL wc base p s ms->∀m∈ms,m<wc.heap.size:=by
    intro s
    induction s with
    | nil=>intro p ms h m hm;rw[h.2]at hm;cases hm
    | cons x s ih=>
     rintro p ms ⟨b,m1,p',ms1,e1,e2,e3,e4,e5,e6,e7⟩ m hm;rw[e2]at hm;rcases List.mem_cons.1 hm with rfl|hm
     ·exact e6.lt
     ·exact ih e7 m hm
   have:=h1 Zu.out m h
   omega)
  have IV:=kH (uy.out.below hbel);have jH:=kH (HNC.out.below hbel HNC.out.lt);have HA3:=kH (Dw.out.below hbel Dw.out.lt);have fI:=kH (HVC.out.below hbel HVC.out.lt);have HX3:Hid (FX base ob (fun _=>False) w w3):=kH (((FX.of_below HB1.out).trans yU.out (fun g hg=>.inl hg)).trans (FX.of_below (M:=fun _=>False) hbel) (fun g hg=>.inl hg));have UC:Hid (w.heap.size<=m/\w.heap.size<=w3.heap.size/\base<=w3.heap.size/\base<=m):=kH ⟨abF HZ.out hmm,abF HZ.out hbel.size,abF JP hbel.size,abF JP hmm⟩;have n4:=jH.out.cell 4;have ln:=jH.out.lt;clear hblk ik hbel hbb hmm JP;go_wp2_with fail
  clear n4 ln
  go_loopg [22] n (fun gk s22 wr=> ∃(j:Nat) (l:List ByteArray) (lay:kP) (out':List ByteArray),s22= .int .i64 (j:Int)/\j+gk=n/\Hid (bL wr base (some ⟨b,0,none⟩) (lay::s) (m::ms))/\Hid (Nm (l::S) (lay::s))/\Hid (oh base ob out' wr)/\Hid (FX base ob (fun g=>g=m) w3 wr) /\
   Hid (ai wr w.heap.size 24 #[.int .i64 k0,.string x0,.int .i64 a0,.int .i64 z0,.slice A n c])/\Hid (ai wr ab 91 #[.func (.func 44) #[] #[.pointer (some ⟨ob,0,none⟩)]])/\Hid (ai wr vb 92 #[.func (.func 47) #[] #[.pointer (some ⟨ab,0,none⟩),.pointer (some ⟨vb,0,none⟩)]]) /\
   Hid (uW k0 x0 (kids.drop j) j (l::S) out'=FIN)/\Hid (out'.length+aG (kids.drop j)<=1000000))
  case atStart=>exact⟨0,[],[],O1,rfl,by omega,iQ,kH HNMM.out.push,IV,kH (FX.refl _ _ _ _),jH,HA3,fI,HFI,HML⟩
  case round=>
   obtain⟨j,l,lay,out',rfl,hj,HSR,qP,HOR,HXR,HNR,HAR,HVR,iw,HLEN⟩:=hrel;by_cases hlt:j<n
   ·have hlt':(j:Int)<(n:Int):=by omega
    have hw:IntKind.i64.wrap ((j:Int)+1)=(j:Int)+1:=IntWalk.i64_in _ (by omega);obtain⟨u,hu⟩:∃u,kids[j]? =some u:=⟨_,abI (by rw[HN.out];exact hlt)⟩
    have HDR:Hid (kids.drop j=u::kids.drop (j+1)):=kH (by
     obtain⟨h1,h2⟩:=abK.1 hu
     rw[List.drop_eq_getElem_cons h1,h2])
    have hbW:Below B w wr:=(HX3.out.low (abF oK.out.1 oK.out.2.2) oK.out.2.1 oK.out.1 (fun _ h=>h.elim)).trans (HXR.out.low (abF oK.out.1 UC.out.2.2.1) oK.out.2.1 oK.out.1 (fun g hg=>by rw[hg];exact abF oK.out.1 UC.out.2.2.2));have hkr:aK wr B A 0 kids:=aK.below hbW (abE _) _ _ _ HK.out;obtain⟨vals,⟨bk,off,hA,hbl,hcs⟩,hT⟩:=hkr.get j u hu;obtain⟨A',c',lQ,hK'⟩:=hT.five;subst hA;subst lQ;have hsz:w3.heap.size<=wr.heap.size:=HXR.out.size;have hbb:bk<wr.heap.size:=by have:=oK.out;have:=UC.out;omega
    obtain⟨uk,AA⟩:∃q,u.kind=q:=⟨_,rfl⟩
    obtain⟨ux,Ay⟩:∃q,u.text=q:=⟨_,rfl⟩
    obtain⟨ua,Da⟩:∃q,u.at_=q:=⟨_,rfl⟩
    obtain⟨uz,Iw⟩:∃q,u.end_=q:=⟨_,rfl⟩
    obtain⟨un,hun⟩:∃q,u.kids.length=q:=⟨_,rfl⟩
    have hcs':∀q v,[Value.int .i64 uk,.string ux,.int .i64 ua,.int .i64 uz,.slice A' un c'][q]? =some v->wr.cell? ⟨bk,off+j*5+q,none⟩=some v:=fun q v hq=>by
     have:=hcs q v (by rw[AA,Ay,Da,Iw,hun];exact hq);rw[show off+(0+j)*5+q=off+j*5+q by omega]at this;exact this
    have t0:wr.cell? ⟨bk,off+j*5,none⟩=some (.int .i64 uk):=by simpa using hcs' 0 _ rfl
    have t1:wr.cell? ⟨bk,off+j*5+1,none⟩=some (.string ux):=by simpa using hcs' 1 _ rfl
    have t2:wr.cell? ⟨bk,off+j*5+2,none⟩=some (.int .i64 ua):=by simpa using hcs' 2 _ rfl
    have t3:wr.cell? ⟨bk,off+j*5+3,none⟩=some (.int .i64 uz):=by simpa using hcs' 3 _ rfl
    have t4:wr.cell? ⟨bk,off+j*5+4,none⟩=some (.slice A' un c'):=by simpa using hcs' 4 _ rfl
    have hmem:u∈kids:=abQ hu;have Mo:Hid (u.kind=uk/\u.text=ux):=kH ⟨AA,Ay⟩;obtain⟨X,hX⟩:∃X,wr.alloc (.cells #[.int .i64 uk,.string ux,.int .i64 ua,.int .i64 uz,.slice A' un c'] 24)=X:=⟨_,rfl⟩
    have hbX:Below wr.heap.size wr X:=by rw[<- hX];exact ag _ _
    have LG:ai X wr.heap.size 24 #[.int .i64 uk,.string ux,.int .i64 ua,.int .i64 uz,.slice A' un c']:=by rw[<- hX];exact ai.new wr _ _
    have bF:=kH (HNR.out.below hbX HNR.out.lt);have MI:=kH (HAR.out.below hbX HAR.out.lt);have Dp:=kH (HVR.out.below hbX HVR.out.lt);have Bf:=kH (HSR.out.below hbX);have HOX:=kH (HOR.out.below hbX);have HXX:Hid (FX base ob (fun g=>g=m) w3 X):=kH (HXR.out.trans (FX.of_below (M:=fun _=>False) hbX) (fun g hg=>hg.elim));have HUX:=kH LG;have mH:Hid (aK X B A' 0 u.kids):=kH (aK.below hbX (by have:=oK.out;have:=UC.out;omega) _ _ _ hK');have HXZ:Hid (base<=X.heap.size/\wr.heap.size<X.heap.size):=kH ⟨by have:=UC.out;have:=hbX.size;omega,LG.lt⟩;have HUI:Hid (bD u A' c'= .agg #[.int .i64 uk,.string ux,.int .i64 ua,.int .i64 uz,.slice A' un c']):=kH (by unfold bD;rw[AA,Ay,Da,Iw,hun])
    have HLU:Hid (out'.length+au u<=1000000):=kH (by
     have h1:=HLEN.out;rw[HDR.out,aG]at h1
     omega)
    have HME:=kH hmem;have q0:=bF.out.cell 0;have q1:=bF.out.cell 1;have lq:=bF.out.lt;have y0:=LG.cell 0;have y1:=LG.cell 1;have y2:=LG.cell 2;have y3:=LG.cell 3;have y4:=LG.cell 4;have ly:=LG.lt;have v0:=Dp.out.cell 0;have lv:=Dp.out.lt;clear hcs hcs' hT hK' hkr hbW hu hmem AA Ay Da Iw hun LG hbX;by_cases h16:k0=16/\j=2
    ·obtain⟨SI,Rt⟩:∃SI,[x0]::(l::S)=SI:=⟨_,rfl⟩
     have Sb:Hid ((if k0=16/\j=2 then [x0]::(l::S) else l::S)=SI):=kH (by rw[if_pos h16];exact Rt);have hg1:(k0==16)=true:=by simp[h16.1]
     have hg2:((j:Int)==2)=true:=by simp[h16.2]
     clear h16;go_wp2_with (rw[hX])
     refine(FJ (some ⟨b,0,none⟩) X).mono ?_;rintro e5 w5 ⟨b2,m2,rfl,aaP,aaz,hblk2,Rh,LC⟩;have hd1:=hblk2.cell 1;have hdl:=hblk2.lt;have hN5:=bF.out.below LC bF.out.lt;have x1:=hN5.cell 1;have lx:=hN5.lt;obtain⟨w6,hrun,gQ,Q6,hz6⟩:=fF (P:=Tryz.prog) (KK:=jg) (t:=70) (kt:=9) (et:=3) Tryz.underlying70 Tryz.underlying9 (Rh.drew) x0 (.int .i64 0);change (Instr.mapUpdate 70 (.map (some m2)) (Value.string x0) (.int .i64 0)).run Tryz.prog w5.drew=_ at hrun;have hm6':aY jg w6 m2 (jC [(x0,0)]):=gQ;have hs6:aF (fun g=>g=m2) w5 w6:=((aF.refl (fun g=>g=m2) w5).drew).grown Q6 (fun k hk=>by cases hk;exact .inl rfl);have hb6:Below X.heap.size X w6:=LC.trans (hs6.toBelow LC.size (fun g hg=>by rw[hg];exact aaz));have hbase:=HXZ.out.1
     have tJ:bL w6 base (some ⟨b2,0,none⟩) ([(x0,0)]::(lay::s)) (m2::(m::ms)):=by
      refine bL.store (lay:=[]) ⟨b2,m2,some ⟨b,0,none⟩,m::ms,rfl,rfl,abF hbase aaP,abF hbase aaz,hblk2,Rh,Bf.out.below LC⟩ hs6 hm6' (fun h=>?_)
      have h1:∀{s:aQ}{p:Option Addr}{ms:List Nat},bL X base p s ms->∀m∈ms,m<X.heap.size:=by
       intro s
       induction s with
       | nil=>intro p ms h m hm;rw[h.2]at hm;cases hm
       | cons x s ih=>
        rintro p ms ⟨b,m1,p',ms1,e1,e2,e3,e4,e5,e6,e7⟩ m hm;rw[e2]at hm;rcases List.mem_cons.1 hm with rfl|hm
        ·exact e6.lt
        ·exact ih e7 m hm
      have:=h1 Bf.out m2 h;omega
     have ET:Hid (bL w6 base (some ⟨b,0,none⟩) (lay::s) (m::ms)):=kH (Bf.out.below hb6);have yV:=kH (HUX.out.below hb6 HUX.out.lt);have lD:=kH (bF.out.below hb6 bF.out.lt);have EZ:=kH (MI.out.below hb6 MI.out.lt);have vW:=kH (Dp.out.below hb6 Dp.out.lt);have ZA:=kH (HOX.out.below hb6);have HXB:Hid (FX base ob (fun g=>g=m) w3 w6):=kH (HXX.out.trans (FX.of_below (M:=fun _=>False) hb6) (fun g hg=>hg.elim));have hcall:=fD.out u HME.out SI ([(x0,0)]::(lay::s)) (some ⟨b2,0,none⟩) (m2::(m::ms)) out' A' c' w6 tJ (by rw[<- Rt];exact qP.out.push.add x0) (aK.below hb6 (by have:=oK.out;have:=HXZ.out;omega) _ _ _ mH.out) (abF hbase hb6.size) ZA.out EZ.out vW.out HLU.out;rw[HUI.out]at hcall;have HC:=kH hcall;have z0:=yV.out.cell 0;have z1:=yV.out.cell 1;have z2:=yV.out.cell 2;have z3:=yV.out.cell 3;have z4:=yV.out.cell 4;have lz:=yV.out.lt;have g0:=vW.out.cell 0;have lg:=vW.out.lt;clear hcall tJ gQ hm6' Q6 hz6 hs6 hb6 hblk2 Rh LC aaP aaz hN5 hX Rt y0 y1 y2 y3 y4 ly v0 lv q0 q1 lq t0 t1 t2 t3 t4 hbase;go_wp2_with fail
     refine dY (fun w'=>w'.cell? ⟨b2,1,none⟩=some (.map (some m2))/\w'.cell? ⟨w.heap.size,1,none⟩=some (.string x0)) [6] [true,true,true,true,true,true,false] (by kernel_rfl) (by kernel_rfl) rfl (by kernel_rfl) ?_;have hS0:w5.drew.cell? ⟨b2,1,none⟩=some (.map (some m2))/\w5.drew.cell? ⟨w.heap.size,1,none⟩=some (.string x0):=⟨hd1,x1⟩
     iterate 6(refine gP rfl hS0 (by intro w' hSw;obtain⟨hs1,hs2⟩:=hSw;go_simp;rfl) ?_;simp only[Act.put,sA,sZ,sC])
     refine gZ (w':=w6) rfl (by simp[execOp,Act.eval,hrun,Result.andThen]) (by simp) ?_;refine iT ?_;simp only[Act.put];clear hS0 hd1 hdl x1 lx hrun;go_wp2_with fail
     refine HC.out.mono ?_;clear z0 z1 z2 z3 z4 lz g0 lg HC;rintro e7 w7 ⟨rfl,h7,k7⟩;obtain⟨csB,tY⟩:=ZA.out.blk;have hs7:=FX.sc k7 tY (fun _ _ _ _ h=>h) ET.out (fun _ _ h=>h);have yJ:=k7.blk yV.out (by decide) (yV.out.ne_of tY (by decide)) (fun h=>h);have xI:=k7.blk lD.out (by decide) (lD.out.ne_of tY (by decide)) (fun h=>h);have FU:=k7.blk EZ.out (by decide) (EZ.out.ne_of tY (by decide)) (fun h=>h);have hv7:=k7.blk vW.out (by decide) (vW.out.ne_of tY (by decide)) (fun h=>h);have hx7:=HXB.out.trans k7 (fun g hg=>hg.elim);have u0:=yJ.cell 0;have u1:=yJ.cell 1;have lu:=yJ.lt;have xK:=kH h7;have Oy:=kH hs7;have xE:=kH xI;have GJ:=kH FU;have lh:=kH hv7;have rF:=kH hx7;by_cases h12:uk=12
     ·subst h12
      obtain⟨b',m',p2,wL,hb',hm',-,-,hsb,hsm,-⟩:=hs7;simp only[List.cons.injEq]at hm';obtain⟨rfl,rfl⟩:=hm';simp only[abJ,Addr.mk.injEq,and_true]at hb';subst hb';have d1:=hsb.cell 1;have ld:=hsb.lt;obtain⟨w8,hrun,dS,NU,QL⟩:=fF (P:=Tryz.prog) (KK:=jg) (t:=70) (kt:=9) (et:=3) Tryz.underlying70 Tryz.underlying9 (hsm.drew) ux (.int .i64 0);change (Instr.mapUpdate 70 (.map (some m)) (Value.string ux) (.int .i64 0)).run Tryz.prog w7.drew=_ at hrun;rw[xO]at dS;have jQ:aF (fun g=>g=m) w7 w8:=((aF.refl (fun g=>g=m) w7).drew).grown NU (fun k hk=>by cases hk;exact .inl rfl);have Bg:Hid (bL w8 base (some ⟨b,0,none⟩) (cZ lay ux 0::s) (m::ms)):=kH (bL.store Oy.out jQ dS HMN.out);have yX:Hid (oh base ob (nI u SI out') w8):=kH (xK.out.oo jQ hsm.isMap);have iM:Hid (FX base ob (fun g=>g=m) w3 w8):=kH (rF.out.trans (FX.oo jQ) (fun g hg=>.inl hg))
      have tZ:∀g t cs,ai w7 g t cs->g≠m:=fun g t cs hb e=>by
       obtain⟨es,ck,ho⟩:=hsm.isMap;have:w7.heap[g]? =some (Obj.cells _ _ (0,0)):=hb;rw[e,ho]at this;cases this
      have Zy:=kH (xE.out.since jQ (tZ _ _ _ xE.out));have Zx:=kH (GJ.out.since jQ (tZ _ _ _ GJ.out));have Zw:=kH (lh.out.since jQ (tZ _ _ _ lh.out));clear hsb hsm dS NU QL jQ tZ h7 xI FU hv7 hx7 k7;go_wp2_with fail
      refine dY (fun w'=>w'.cell? ⟨b,1,none⟩=some (.map (some m))/\w'.cell? ⟨wr.heap.size,1,none⟩=some (.string ux)) [6] [true,true,true,true,true,true,false] (by kernel_rfl) (by kernel_rfl) rfl (by kernel_rfl) ?_;have hS0:w7.drew.cell? ⟨b,1,none⟩=some (.map (some m))/\w7.drew.cell? ⟨wr.heap.size,1,none⟩=some (.string ux):=⟨d1,u1⟩
      iterate 6(refine gP rfl hS0 (by intro w' hSw;obtain⟨hs1,hs2⟩:=hSw;go_simp;rfl) ?_;simp only[Act.put,sA,sZ,sC])
      refine gZ (w':=w8) rfl (by simp[execOp,Act.eval,hrun,Result.andThen]) (by simp) ?_;refine iT ?_;simp only[Act.put];clear hS0 d1 u0 u1 lu hrun yJ;go_wp2_with fail
      go_roundg (gk - 1)
      case measure=>omega
      case rel=>
       refine⟨j+1,l++[ux],cZ lay ux 0,nI u SI out',by simp,by omega,Bg,kH (qP.out.add ux),yX,iM,Zy,Zx,Zw,kH ?_,kH ?_⟩
       ·rw[<- iw.out,HDR.out,qL,<- Sb.out]
        congr 1
        unfold J8;rw[if_pos Mo.out.1,Mo.out.2]
       ·have h1:=HLEN.out
        rw[HDR.out,aG]at h1;have h2:=vJ u SI out';omega
     ·have oG:(uk==12)=false:=by simp[h12]
      have oV:=kH h12;clear h7 hs7 xI FU hv7 hx7 k7 yJ h12;go_wp2_with fail
      go_roundg (gk - 1)
      case measure=>omega
      case rel=>
       refine⟨j+1,l,lay,nI u SI out',by simp,by omega,Oy,qP,xK,rF,xE,GJ,lh,kH ?_,kH ?_⟩
       ·rw[<- iw.out,HDR.out,qL,<- Sb.out]
        congr 1
        unfold J8;rw[if_neg (by rw[Mo.out.1];exact oV.out)]
       ·have h1:=HLEN.out
        rw[HDR.out,aG]at h1;have h2:=vJ u SI out';omega
    ·obtain⟨SI,Rt⟩:∃SI,l::S=SI:=⟨_,rfl⟩
     have Sb:Hid ((if k0=16/\j=2 then [x0]::(l::S) else l::S)=SI):=kH (by rw[if_neg h16];exact Rt);have ET:=Bf;have yV:=HUX;have lD:=bF;have EZ:=MI;have vW:=Dp;have ZA:=HOX;have HXB:=HXX;have hcall:=fD.out u HME.out SI (lay::s) (some ⟨b,0,none⟩) (m::ms) out' A' c' X Bf.out (by rw[<- Rt];exact qP.out) mH.out HXZ.out.1 HOX.out MI.out Dp.out HLU.out;rw[HUI.out]at hcall;have HC:=kH hcall
     have hg16:(k0==16)=false\/((k0==16)=true/\((j:Int)==2)=false):=by
      by_cases h1:k0=16
      ·right
       refine⟨by simp[h1],?_⟩;have:j≠2:=fun e=>h16 ⟨h1,e⟩
       simp;omega
      ·left
       simp[h1]
     clear hcall Rt h16;rcases hg16 with hg1| ⟨hg1,hg2⟩
     ·go_wp2_with (rw[hX])
      refine HC.out.mono ?_;clear y0 y1 y2 y3 y4 ly v0 lv q0 q1 lq t0 t1 t2 t3 t4 HC hX;rintro e7 w7 ⟨rfl,h7,k7⟩;obtain⟨csB,tY⟩:=ZA.out.blk;have hs7:=FX.sc k7 tY (fun _ _ _ _ h=>h) ET.out (fun _ _ h=>h);have yJ:=k7.blk yV.out (by decide) (yV.out.ne_of tY (by decide)) (fun h=>h);have xI:=k7.blk lD.out (by decide) (lD.out.ne_of tY (by decide)) (fun h=>h);have FU:=k7.blk EZ.out (by decide) (EZ.out.ne_of tY (by decide)) (fun h=>h);have hv7:=k7.blk vW.out (by decide) (vW.out.ne_of tY (by decide)) (fun h=>h);have hx7:=HXB.out.trans k7 (fun g hg=>hg.elim);have u0:=yJ.cell 0;have u1:=yJ.cell 1;have lu:=yJ.lt;have xK:=kH h7;have Oy:=kH hs7;have xE:=kH xI;have GJ:=kH FU;have lh:=kH hv7;have rF:=kH hx7;by_cases h12:uk=12
      ·subst h12
       obtain⟨b',m',p2,wL,hb',hm',-,-,hsb,hsm,-⟩:=hs7;simp only[List.cons.injEq]at hm';obtain⟨rfl,rfl⟩:=hm';simp only[abJ,Addr.mk.injEq,and_true]at hb';subst hb';have d1:=hsb.cell 1;have ld:=hsb.lt;obtain⟨w8,hrun,dS,NU,QL⟩:=fF (P:=Tryz.prog) (KK:=jg) (t:=70) (kt:=9) (et:=3) Tryz.underlying70 Tryz.underlying9 (hsm.drew) ux (.int .i64 0);change (Instr.mapUpdate 70 (.map (some m)) (Value.string ux) (.int .i64 0)).run Tryz.prog w7.drew=_ at hrun;rw[xO]at dS;have jQ:aF (fun g=>g=m) w7 w8:=((aF.refl (fun g=>g=m) w7).drew).grown NU (fun k hk=>by cases hk;exact .inl rfl);have Bg:Hid (bL w8 base (some ⟨b,0,none⟩) (cZ lay ux 0::s) (m::ms)):=kH (bL.store Oy.out jQ dS HMN.out);have yX:Hid (oh base ob (nI u SI out') w8):=kH (xK.out.oo jQ hsm.isMap);have iM:Hid (FX base ob (fun g=>g=m) w3 w8):=kH (rF.out.trans (FX.oo jQ) (fun g hg=>.inl hg))
       have tZ:∀g t cs,ai w7 g t cs->g≠m:=fun g t cs hb e=>by
        obtain⟨es,ck,ho⟩:=hsm.isMap;have:w7.heap[g]? =some (Obj.cells _ _ (0,0)):=hb;rw[e,ho]at this;cases this
       have Zy:=kH (xE.out.since jQ (tZ _ _ _ xE.out));have Zx:=kH (GJ.out.since jQ (tZ _ _ _ GJ.out));have Zw:=kH (lh.out.since jQ (tZ _ _ _ lh.out));clear hsb hsm dS NU QL jQ tZ h7 xI FU hv7 hx7 k7;go_wp2_with fail
       refine dY (fun w'=>w'.cell? ⟨b,1,none⟩=some (.map (some m))/\w'.cell? ⟨wr.heap.size,1,none⟩=some (.string ux)) [6] [true,true,true,true,true,true,false] (by kernel_rfl) (by kernel_rfl) rfl (by kernel_rfl) ?_;have hS0:w7.drew.cell? ⟨b,1,none⟩=some (.map (some m))/\w7.drew.cell? ⟨wr.heap.size,1,none⟩=some (.string ux):=⟨d1,u1⟩
       iterate 6(refine gP rfl hS0 (by intro w' hSw;obtain⟨hs1,hs2⟩:=hSw;go_simp;rfl) ?_;simp only[Act.put,sA,sZ,sC])
       refine gZ (w':=w8) rfl (by simp[execOp,Act.eval,hrun,Result.andThen]) (by simp) ?_;refine iT ?_;simp only[Act.put];clear hS0 d1 u0 u1 lu hrun yJ;go_wp2_with fail
       go_roundg (gk - 1)
       case measure=>omega
       case rel=>
        refine⟨j+1,l++[ux],cZ lay ux 0,nI u SI out',by simp,by omega,Bg,kH (qP.out.add ux),yX,iM,Zy,Zx,Zw,kH ?_,kH ?_⟩
        ·rw[<- iw.out,HDR.out,qL,<- Sb.out]
         congr 1
         unfold J8;rw[if_pos Mo.out.1,Mo.out.2]
        ·have h1:=HLEN.out
         rw[HDR.out,aG]at h1;have h2:=vJ u SI out';omega
      ·have oG:(uk==12)=false:=by simp[h12]
       have oV:=kH h12;clear h7 hs7 xI FU hv7 hx7 k7 yJ h12;go_wp2_with fail
       go_roundg (gk - 1)
       case measure=>omega
       case rel=>
        refine⟨j+1,l,lay,nI u SI out',by simp,by omega,Oy,qP,xK,rF,xE,GJ,lh,kH ?_,kH ?_⟩
        ·rw[<- iw.out,HDR.out,qL,<- Sb.out]
         congr 1
         unfold J8;rw[if_neg (by rw[Mo.out.1];exact oV.out)]
        ·have h1:=HLEN.out
         rw[HDR.out,aG]at h1;have h2:=vJ u SI out';omega
     ·go_wp2_with (rw[hX])
      refine HC.out.mono ?_;clear y0 y1 y2 y3 y4 ly v0 lv q0 q1 lq t0 t1 t2 t3 t4 HC hX;rintro e7 w7 ⟨rfl,h7,k7⟩;obtain⟨csB,tY⟩:=ZA.out.blk;have hs7:=FX.sc k7 tY (fun _ _ _ _ h=>h) ET.out (fun _ _ h=>h);have yJ:=k7.blk yV.out (by decide) (yV.out.ne_of tY (by decide)) (fun h=>h);have xI:=k7.blk lD.out (by decide) (lD.out.ne_of tY (by decide)) (fun h=>h);have FU:=k7.blk EZ.out (by decide) (EZ.out.ne_of tY (by decide)) (fun h=>h);have hv7:=k7.blk vW.out (by decide) (vW.out.ne_of tY (by decide)) (fun h=>h);have hx7:=HXB.out.trans k7 (fun g hg=>hg.elim);have u0:=yJ.cell 0;have u1:=yJ.cell 1;have lu:=yJ.lt;have xK:=kH h7;have Oy:=kH hs7;have xE:=kH xI;have GJ:=kH FU;have lh:=kH hv7;have rF:=kH hx7;by_cases h12:uk=12
      ·subst h12
       obtain⟨b',m',p2,wL,hb',hm',-,-,hsb,hsm,-⟩:=hs7;simp only[List.cons.injEq]at hm';obtain⟨rfl,rfl⟩:=hm';simp only[abJ,Addr.mk.injEq,and_true]at hb';subst hb';have d1:=hsb.cell 1;have ld:=hsb.lt;obtain⟨w8,hrun,dS,NU,QL⟩:=fF (P:=Tryz.prog) (KK:=jg) (t:=70) (kt:=9) (et:=3) Tryz.underlying70 Tryz.underlying9 (hsm.drew) ux (.int .i64 0);change (Instr.mapUpdate 70 (.map (some m)) (Value.string ux) (.int .i64 0)).run Tryz.prog w7.drew=_ at hrun;rw[xO]at dS;have jQ:aF (fun g=>g=m) w7 w8:=((aF.refl (fun g=>g=m) w7).drew).grown NU (fun k hk=>by cases hk;exact .inl rfl);have Bg:Hid (bL w8 base (some ⟨b,0,none⟩) (cZ lay ux 0::s) (m::ms)):=kH (bL.store Oy.out jQ dS HMN.out);have yX:Hid (oh base ob (nI u SI out') w8):=kH (xK.out.oo jQ hsm.isMap);have iM:Hid (FX base ob (fun g=>g=m) w3 w8):=kH (rF.out.trans (FX.oo jQ) (fun g hg=>.inl hg))
       have tZ:∀g t cs,ai w7 g t cs->g≠m:=fun g t cs hb e=>by
        obtain⟨es,ck,ho⟩:=hsm.isMap;have:w7.heap[g]? =some (Obj.cells _ _ (0,0)):=hb;rw[e,ho]at this;cases this
       have Zy:=kH (xE.out.since jQ (tZ _ _ _ xE.out));have Zx:=kH (GJ.out.since jQ (tZ _ _ _ GJ.out));have Zw:=kH (lh.out.since jQ (tZ _ _ _ lh.out));clear hsb hsm dS NU QL jQ tZ h7 xI FU hv7 hx7 k7;go_wp2_with fail
       refine dY (fun w'=>w'.cell? ⟨b,1,none⟩=some (.map (some m))/\w'.cell? ⟨wr.heap.size,1,none⟩=some (.string ux)) [6] [true,true,true,true,true,true,false] (by kernel_rfl) (by kernel_rfl) rfl (by kernel_rfl) ?_;have hS0:w7.drew.cell? ⟨b,1,none⟩=some (.map (some m))/\w7.drew.cell? ⟨wr.heap.size,1,none⟩=some (.string ux):=⟨d1,u1⟩
       iterate 6(refine gP rfl hS0 (by intro w' hSw;obtain⟨hs1,hs2⟩:=hSw;go_simp;rfl) ?_;simp only[Act.put,sA,sZ,sC])
       refine gZ (w':=w8) rfl (by simp[execOp,Act.eval,hrun,Result.andThen]) (by simp) ?_;refine iT ?_;simp only[Act.put];clear hS0 d1 u0 u1 lu hrun yJ;go_wp2_with fail
       go_roundg (gk - 1)
       case measure=>omega
       case rel=>
        refine⟨j+1,l++[ux],cZ lay ux 0,nI u SI out',by simp,by omega,Bg,kH (qP.out.add ux),yX,iM,Zy,Zx,Zw,kH ?_,kH ?_⟩
        ·rw[<- iw.out,HDR.out,qL,<- Sb.out]
         congr 1
         unfold J8;rw[if_pos Mo.out.1,Mo.out.2]
        ·have h1:=HLEN.out
         rw[HDR.out,aG]at h1;have h2:=vJ u SI out';omega
      ·have oG:(uk==12)=false:=by simp[h12]
       have oV:=kH h12;clear h7 hs7 xI FU hv7 hx7 k7 yJ h12;go_wp2_with fail
       go_roundg (gk - 1)
       case measure=>omega
       case rel=>
        refine⟨j+1,l,lay,nI u SI out',by simp,by omega,Oy,qP,xK,rF,xE,GJ,lh,kH ?_,kH ?_⟩
        ·rw[<- iw.out,HDR.out,qL,<- Sb.out]
         congr 1
         unfold J8;rw[if_neg (by rw[Mo.out.1];exact oV.out)]
        ·have h1:=HLEN.out
         rw[HDR.out,aG]at h1;have h2:=vJ u SI out';omega
   ·have hjn:j=n:=by omega
    subst hjn;have hge:¬((j:Int)<(j:Int)):=by omega
    have HE:Hid (oh base ob FIN wr/\FX base ob (fun _=>False) w wr):=kH ⟨by
     have h1:=iw.out;rw[List.drop_eq_nil_of_le (by rw[HN.out];exact abE _),uW]at h1;rw[<- h1]
     exact HOR.out,HX3.out.trans HXR.out (fun g hg=>.inr (by rw[hg];exact UC.out.1))⟩
    go_wp2_with fail
    go_end0
    exact⟨rfl,HE.out.1,HE.out.2⟩
theorem YX(B base ob ab vb:Nat)(hB:B<=base/\B<=ob):∀(n:Nat) (t:ae),au t<=n->Xr B base ob ab vb t
 | 0,t,h=>by
  have:=nJ t;omega
 | n+1,.node k x a e kids,h=>YW B base ob ab vb hB k x a e kids fun c hc=>YX B base ob ab vb hB n c (by
  have:=Ep hc;rw[au]at h
  omega)
theorem abC(t:ae)(A:Option Addr)(c:Nat)(w:World)(hN:au t<=1000000)(hk:aK w w.heap.size A 0 t.kids):
 Calls Tryz.prog 20 #[bD t A c] w fun e w'=> ∃v,e= .returned v/\aL w' w.heap.size 9 1 v (nI t [] []).length ((nI t [] []).flatMap fE)/\Below w.heap.size w w':=by
 obtain⟨k0,x0,a0,z0,n0,-,-,-,-,-,kX⟩:=fq t A c;rw[kX];obtain⟨Z,hZ⟩:∃Z,nI t [] []=Z:=⟨_,rfl⟩
 rw[hZ];go_enter Tryz.func20,Tryz.ntmps20
 go_wp2_with fail
 obtain⟨W1,hW1⟩:∃W1,(((w.alloc (.cells #[.int .i64 k0,.string x0,.int .i64 a0,.int .i64 z0,.slice A n0 c] 24)).alloc (.cells #[.slice none 0 0] 41)).alloc (.cells #[.func (.func 44) #[] #[.pointer (some ⟨w.heap.size+1,0,none⟩)]] 91)).alloc (.cells #[.func (.func 47) #[] #[.pointer (some ⟨w.heap.size+1+1,0,none⟩),.pointer (some ⟨w.heap.size+1+1+1,0,none⟩)]] 92)=W1:=⟨_,rfl⟩
 rw[hW1]
 have IB:ai W1 (w.heap.size+1) 41 #[.slice none 0 0]:=by
  rw[<- hW1];have:=((ai.new (w.alloc (.cells #[.int .i64 k0,.string x0,.int .i64 a0,.int .i64 z0,.slice A n0 c] 24)) 41 #[.slice none 0 0]).alloc (.cells #[.func (.func 44) #[] #[.pointer (some ⟨w.heap.size+1,0,none⟩)]] 91)).alloc (.cells #[.func (.func 47) #[] #[.pointer (some ⟨w.heap.size+1+1,0,none⟩),.pointer (some ⟨w.heap.size+1+1+1,0,none⟩)]] 92);simpa using this
 have hab:ai W1 (w.heap.size+1+1) 91 #[.func (.func 44) #[] #[.pointer (some ⟨w.heap.size+1,0,none⟩)]]:=by
  rw[<- hW1];have:=(ai.new ((w.alloc (.cells #[.int .i64 k0,.string x0,.int .i64 a0,.int .i64 z0,.slice A n0 c] 24)).alloc (.cells #[.slice none 0 0] 41)) 91 #[.func (.func 44) #[] #[.pointer (some ⟨w.heap.size+1,0,none⟩)]]).alloc (.cells #[.func (.func 47) #[] #[.pointer (some ⟨w.heap.size+1+1,0,none⟩),.pointer (some ⟨w.heap.size+1+1+1,0,none⟩)]] 92);simpa using this
 have hvb:ai W1 (w.heap.size+1+1+1) 92 #[.func (.func 47) #[] #[.pointer (some ⟨w.heap.size+1+1,0,none⟩),.pointer (some ⟨w.heap.size+1+1+1,0,none⟩)]]:=by
  rw[<- hW1];have:=ai.new (((w.alloc (.cells #[.int .i64 k0,.string x0,.int .i64 a0,.int .i64 z0,.slice A n0 c] 24)).alloc (.cells #[.slice none 0 0] 41)).alloc (.cells #[.func (.func 44) #[] #[.pointer (some ⟨w.heap.size+1,0,none⟩)]] 91)) 92 #[.func (.func 47) #[] #[.pointer (some ⟨w.heap.size+1+1,0,none⟩),.pointer (some ⟨w.heap.size+1+1+1,0,none⟩)]];simpa using this
 have hb1:Below w.heap.size w W1:=by
  rw[<- hW1];exact(((((Below.refl _ w).alloc (abE _) _).alloc (by simp) _).alloc (by simp;omega) _).alloc (by simp;omega) _)
 have hcall:=YX w.heap.size w.heap.size (w.heap.size+1) (w.heap.size+1+1) (w.heap.size+1+1+1) ⟨abE _,by omega⟩ (au t) t (abE _) [] [] none [] [] A c W1 ⟨rfl,rfl⟩ (fun y=>rfl) (aK.below hb1 (abE _) _ _ _ hk) hb1.size ⟨none,0,0,IB,aL.nil _ _ _ _⟩ hab hvb (by simpa using hN);rw[kX,hZ]at hcall;have HC:=kH hcall;have HB1:=kH hb1;clear hcall hb1 IB hab hvb hW1 kX hZ hk;refine HC.out.mono ?_;rintro e2 w2 ⟨rfl,⟨A2,n2,c2,h2,h3⟩,h4⟩;have hb2:Below w.heap.size w w2:=HB1.out.trans (h4.low HB1.out.size (by omega) (abE _) (fun _ h=>h.elim));have hn2:n2=Z.length:=by have:=h3.1;rw[Py]at this;omega
 have c0:=h2.cell 0;have l0:=h2.lt;have HO:Hid (aL w2 w.heap.size 9 1 (.slice A2 n2 c2) Z.length (Z.flatMap fE)):=kH (by rw[<- hn2];exact h3);have HB2:=kH hb2;clear h2 h3 h4 hb2 hn2 HC;go_wp2_with fail
 go_ret
 exact⟨_,rfl,HO.out,HB2.out⟩
end Go.Proofs.YtoepemlnlpamlaaGreat
