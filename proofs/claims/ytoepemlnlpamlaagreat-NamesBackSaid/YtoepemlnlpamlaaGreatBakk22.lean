/- The law NamesBack holds for every text and every number: it returns true, and its arguments read as before. No condition. Part 22: Shaped Ord4 At2 At3. -/
import Derived.Test.YtoepemlnlpamlaaGreatBakk02
import Derived.Test.YtoepemlnlpamlaaGreatBakk19
import Derived.Test.YtoepemlnlpamlaaGreatBakk21
set_option maxRecDepth 100000
set_option maxHeartbeats 4000000
namespace Go.Proofs.YtoepemlnlpamlaaGreat
open Go.RowKit Go.Shelf
attribute [local go_sem] Oper.semAt_some
def TZ(t:aa):Bool:=match t.kids with|k::_=>dC k.text| []=>false
def fJ(t:aa):Bool:=match lJ t.kind with|none=>false|some sh=>rW sh t&&(if t.kind=4 then TZ t else true)
def gJ(t:aa):Bool:=(dV t).all fJ
def iJ(t:aa):Bool:=decide (t.kind=2)&&gJ t
theorem Ot(y:ByteArray)(l:Array UInt8):(y.toList==l.toList)=decide (y=⟨l⟩):=by
 rw[ByteArray.toList_eq];obtain⟨d⟩:=y;rw[Bool.eq_iff_iff];simp
theorem NP(y:ByteArray):dC y=(y.toList==[105,110,116] || y.toList==[98,111,111,108]):=by
 unfold dC;rw[<- Ot,<- Ot]
theorem TN(w:World):(zeroValue 197).run Tryz.prog w= .ok (.agg #[.nilFunc,.slice none 0 0,.nilFunc,.int .i64 0]) w:=by go_simp
theorem Ug{k:Int}{sh:vN}(h:lJ k=some sh):sh.kids.length<=10:=by
 cases k with
 | negSucc n=>cases h
 | ofNat n=>
  have h2:sP n=some sh:=h;unfold sP at h2;split at h2<;>first|(cases h2;done)|(cases h2;simp;done)
theorem Uf(t:aa)(A:Option Addr)(c:Nat)(w:World)(hm:ah t<=1000000000)(hk:aD w w.heap.size A 0 t.kids):
 Calls Tryz.prog 76 #[aX t A c] w fun e w'=>e= .returned (.bool (gJ t))/\Below w.heap.size w w':=by
 refine(callsIn_wide (n:=6)).1 ?_;have yt:=fun w'=>MP t A c w'
 unfold aX at yt⊢;refine callsIn_of_wp_marks Tryz.func76 rfl trivial ?_ rfl;simp only[Tryz.ntmps76,List.size_toArray,aaQ,List.length_nil,Nat.reduceAdd,Nat.reduceSub,Array.replicate_succ,Array.replicate_zero,List.push_toArray,List.append_toArray,List.nil_append,List.cons_append];have ZF:=ai.new w 24 #[.int .i64 t.kind,.string t.text,.int .i64 t.at_,.int .i64 t.end_,.slice A t.kids.length c];have hb0:=af w (.cells #[.int .i64 t.kind,.string t.text,.int .i64 t.at_,.int .i64 t.end_,.slice A t.kids.length c] 24)
 have SL:=(Ue (w.alloc (.cells #[.int .i64 t.kind,.string t.text,.int .i64 t.at_,.int .i64 t.end_,.slice A t.kids.length c] 24))).mono (R':=fun e w1=> ∃r,e= .returned (.map (some r))/\Jk w1 r/\Below w.heap.size w w1/\w.heap.size<w1.heap.size /\
  w1.cell? ⟨w.heap.size,0,none⟩=some (.int .i64 t.kind)/\w1.cell? ⟨w.heap.size,1,none⟩=some (.string t.text)/\w1.cell? ⟨w.heap.size,2,none⟩=some (.int .i64 t.at_)/\w1.cell? ⟨w.heap.size,3,none⟩=some (.int .i64 t.end_)/\w1.cell? ⟨w.heap.size,4,none⟩=some (.slice A t.kids.length c))
  (fun e w1 ⟨r,h1,h2,h3⟩=>by
   have h4:=ZF.below h3 ZF.lt
   exact⟨r,h1,h2,hb0.trans (h3.mono (by simp)),h4.lt,h4.cell 0,h4.cell 1,h4.cell 2,h4.cell 3,h4.cell 4⟩)
 clear ZF hb0;gi_wp2_with (refine⟨trivial,?_⟩;gi_at_call 141;refine(callsIn_wide.2 SL).mono ?_;clear SL;rintro e w1 ⟨r,rfl,hsh,hb1,hlt1,c0,c1,c2,c3,c4⟩)
 refine⟨trivial,?_⟩;gi_at_call 142
 refine(callsIn_wide.2 (yt _)).mono ?_;rintro e w' ⟨rfl,rfl⟩;gi_wp2
 have hM1:ai (w1.alloc (.cells #[.map (some r)] 191)) w1.heap.size 191 #[.map (some r)]:=ai.new w1 _ _;generalize hW2:w1.alloc (.cells #[.map (some r)] 191)=W2 at hM1⊢
 have hb2:Below w1.heap.size w1 W2:=by rw[<- hW2];exact af _ _
 have hs2:W2.heap.size=w1.heap.size+1:=by rw[<- hW2];simp
 have hO3:ai (W2.alloc (.cells #[.bool true] 4)) (w1.heap.size+1) 4 #[.bool true]:=by rw[<- hs2];exact ai.new W2 _ _
 generalize hW3:W2.alloc (.cells #[.bool true] 4)=W3 at hO3⊢
 have hb3:Below W2.heap.size W2 W3:=by rw[<- hW3];exact af _ _
 have hs3:W3.heap.size=w1.heap.size+2:=by rw[<- hW3];simp[hs2]
 have hN4:ai (W3.alloc (.cells #[.int .i64 t.kind,.string t.text,.int .i64 t.at_,.int .i64 t.end_,.slice A t.kids.length c] 24)) (w1.heap.size+1+1) 24 #[.int .i64 t.kind,.string t.text,.int .i64 t.at_,.int .i64 t.end_,.slice A t.kids.length c]:=by rw[show w1.heap.size+1+1=W3.heap.size by omega];exact ai.new W3 _ _
 generalize lV:W3.alloc (.cells #[.int .i64 t.kind,.string t.text,.int .i64 t.at_,.int .i64 t.end_,.slice A t.kids.length c] 24)=W4 at hN4⊢
 have hb4:Below W3.heap.size W3 W4:=by rw[<- lV];exact af _ _
 have hs4:W4.heap.size=w1.heap.size+3:=by rw[<- lV];simp[hs3]
 have hM4:=(hM1.below hb3 hM1.lt).below hb4 (by omega);have hO4:=hO3.below hb4 hO3.lt;have lD:Below w1.heap.size w1 W4:=(hb2.trans (hb3.mono (by omega))).trans (hb4.mono (by omega));have hk4:=aD.below (hb1.trans (lD.mono (by omega))) (aaD _) _ _ _ hk;clear hW2 hW3 lV hb2 hb3 hb4 hs2 hs3 hM1 hO3 hk yt c0 c1 c2 c3 c4;have h1:1<=6:=by omega
 refine wpIn_rangeFunc_ownH rfl h1 (gf:=199) (lb:=#[.pointer (some ⟨w1.heap.size+1+1,0,none⟩)]) rfl trivial (enters_of Tryz.func199 (by kernel_rfl) rfl)
  (GA Fence.wide rfl (6 - 1) trivial trivial rfl (w1.heap.size+1+1) w.heap.size (w1.heap.size+3) 1000000000 (by omega) (aaD _) W4 W4 t A c hm hk4 (fG.refl _ _ _) (by omega) hN4) fG.trans (fun W l o o' _ h hc _=>fG.putObj o' h hc) (Below.refl _ _) (fun _=>rfl)
  (fun pre W=>(ai W w1.heap.size 191 #[.map (some r)]/\ai W (w1.heap.size+1) 4 #[.bool (pre.all fun x=>fJ x.t)])/\(Below w1.heap.size w1 W/\Below w.heap.size W4 W))
  (fun _ _ _=>False)
  (OwnFrom.and (OwnFrom.and (xX _ _ _ _) (xX _ _ _ _)) (OwnFrom.and (ownFrom_below (aaD _) (by omega)) (ownFrom_below (by omega) (by omega))))
  (fun _ _ _ _ _ hs _ _=>hs)
  ⟨⟨hM4,hO4⟩,lD,Below.refl _ _⟩
  (fun x a' W=> ∃Bx,w1.heap.size+3<=Bx/\ai W Bx 24 #[.int .i64 x.t.kind,.string x.t.text,.int .i64 x.t.at_,.int .i64 x.t.end_,.slice x.A x.t.kids.length x.c] /\
   a'= { tmps:=#[.agg #[.int .i64 t.kind,.string t.text,.int .i64 t.at_,.int .i64 t.end_,.slice A t.kids.length c],.pointer (some ⟨w.heap.size,0,none⟩),.bool false,.pointer (some ⟨w1.heap.size,0,none⟩),.pointer (some ⟨w1.heap.size+1,0,none⟩),.pointer (some ⟨Bx,0,none⟩),undef,undef,.map (some r),.agg #[.int .i64 t.kind,.string t.text,.int .i64 t.at_,.int .i64 t.end_,.slice A t.kids.length c],
    .func (.func 199) #[] #[.pointer (some ⟨w1.heap.size+1+1,0,none⟩)],aX x.t x.A x.c,undef,undef,undef,undef,undef,undef,undef,undef,undef,undef,undef,undef,undef,undef,undef,undef,undef,undef,undef,undef,undef,undef,undef,undef,undef,undef,undef,undef,undef,undef,undef,undef,undef,undef,undef,undef,undef],defers:=[] })
  (fun x a' s X Y row hs hg hr=>by
   obtain⟨Bx,h2,h3,h4⟩:=hs
   exact⟨Bx,h2,xX (β:=Unit) W4.heap.size Bx _ (fun _=> #[.int .i64 x.t.kind,.string x.t.text,.int .i64 x.t.at_,.int .i64 x.t.end_,.slice x.A x.t.kids.length x.c]) () X Y row h3 hg hr,h4⟩) ?assign ?body ?done ?stop
 case assign=>
  rintro l pre x W K ⟨⟨hi1,hi2⟩,hi3,hi4⟩ hK;unfold aX at hK⊢;gi_wp2
  have EO:=hi4.size;exact hK _ _ ((KeepsOthers.alloc _ _).from _) (fG.of_below (af _ _) rfl) ⟨⟨hi1.alloc _,hi2.alloc _⟩,hi3.trans ((af _ _).mono hi3.size),hi4.trans ((af _ _).mono (by omega))⟩ ⟨W.heap.size,by omega,ai.new W _ _,rfl⟩
 case body=>
  rintro l pre x a' W hl ⟨r0,hr0⟩ ⟨⟨hi1,hi2⟩,hi3,hi4⟩ ⟨Bx,hBx,bX,rfl⟩ hlt;have hxk:=x.kids;obtain⟨xk,Ve⟩:∃q,x.t.kind=q:=⟨_,rfl⟩
  obtain⟨xt,hxt0⟩:∃q,x.t.text=q:=⟨_,rfl⟩
  obtain⟨xa,hxa0⟩:∃q,x.t.at_=q:=⟨_,rfl⟩
  obtain⟨xz,hxz0⟩:∃q,x.t.end_=q:=⟨_,rfl⟩
  obtain⟨xn,Vd⟩:∃q,x.t.kids.length=q:=⟨_,rfl⟩
  unfold aX;rw[Ve,hxt0,hxa0,hxz0,Vd]at bX⊢;obtain⟨m,hmap,hm1,hm2⟩:=hsh;have hmW:=hmap.below hi3 hmap.lt;have hlk:=Ay (P:=Tryz.prog) (KK:=kF) (t:=191) (kt:=3) (et:=197) Tryz.underlying191 Tryz.underlying3 TN hmW xk;have d0:=bX.cell 0;have d1:=bX.cell 1;have d2:=bX.cell 2;have d3:=bX.cell 3;have d4:=bX.cell 4;have dl:=bX.lt;have o0:=hi2.cell 0;have of:=hi2.frozen 0;have ol:=hi2.lt;have m0:=hi1.cell 0;have ml:=hi1.lt;obtain⟨pb,hpb⟩:∃b,(pre.all fun x=>fJ x.t)=b:=⟨_,rfl⟩
  rw[hpb]at o0
  have hend:∀W' b,az (fun g=>g=w1.heap.size+1) W W'->ai W' (w1.heap.size+1) 4 #[.bool b]->b=(pb&&fJ x.t) ->
   KeepsFrom W4.heap.size W W'/\fG w.heap.size (w1.heap.size+3) W W'/\(ai W' w1.heap.size 191 #[.map (some r)]/\ai W' (w1.heap.size+1) 4 #[.bool ((pre++[x]).all fun x=>fJ x.t)])/\Below w1.heap.size w1 W'/\Below w.heap.size W4 W':=fun W' b h1 h2 h3=>by
   refine⟨⟨h1.size,fun g o hg ho _=>(h1.block g (aaG.1 ho).1 (by omega)).trans ho⟩,⟨h1.size,fun g o hg ho _=>(h1.block g (aaG.1 ho).1 (by omega)).trans ho⟩,⟨hi1.since h1 (by omega),?_⟩,hi3.trans (h1.toBelow hi3.size (by omega)),hi4.trans (h1.toBelow (aaE (by omega) hi4.size) (by omega))⟩;rw[h3]at h2;simpa [hpb] using h2
  have HST:Hid (∀X u,az (fun g=>g=w1.heap.size+1) W X->az (fun g=>g=w1.heap.size+1) W (X.setCell ⟨w1.heap.size+1,0,none⟩ u)):=kH (fun X u h=>h.setCell (.inl rfl) u);have Mo:=kH (And.intro hi3 hi4);have aV:=kH hend;have HI2:=kH hi2
  have HSH:Hid (ng m xk=none->fJ x.t=false):=kH (fun hl=>by
   unfold fJ;rw[Ve]
   cases hsm:lJ xk with
   | none=>rfl
   | some sh=>
    have:=hm2 xk (by rw[hsm];rfl);rw[hl]at this
    cases this)
  have HVS:Hid (∀v,ng m xk=some v->∃sh,lJ xk=some sh/\qf w1 v sh):=kH (fun v hv=>hm1 _ (Xc hv));clear hend hi2 hm1 hm2 hi1 hi3 hi4 hmap hmW hM4 hO4 lD hk4 hN4
  cases hlo:ng m xk with
  | none=>
   rw[hlo]at hlk;simp only[Option.getD_none,Option.isSome_none]at hlk;have hlk1:(Instr.lookup 191 (.map (some r)) (.int .i64 xk) true).run Tryz.prog W= .ok (.tuple #[.agg #[.nilFunc,.slice none 0 0,.nilFunc,.int .i64 0],.bool false]) W:=hlk;have Hd:=kH hlo;clear hlk hlo;cases pb<;>gi_wp2_with (refine⟨trivial,?_⟩;go_at_K)
   all_goals exact aV.out _ false ((HST.out _ _ (az.refl _ _)).alloc _) (ai.alloc (by simpa using HI2.out.fU 0 (.bool false)) _) (by first|rfl|(rw[HSH.out Hd.out];rfl))
  | some v=>
   rw[hlo]at hlk;simp only[Option.getD_some,Option.isSome_some]at hlk;have hlk1:(Instr.lookup 191 (.map (some r)) (.int .i64 xk) true).run Tryz.prog W= .ok (.tuple #[v,.bool true]) W:=hlk;obtain⟨sh,hsm,hsa⟩:=HVS.out v hlo;have Zg:=hsa;obtain⟨tv,Ak,ck,lv,hv,htext,hrow,hlist⟩:=hsa;obtain⟨ft,ct,e1,hent,hcall⟩:=htext
   have hlv:lv= .nilFunc\/∃f c,lv= .func (Fn.func f) #[] c:=by
    cases hl:sh.list with
    | none=>rw[hl]at hlist;exact .inl hlist
    | some p=>rw[hl]at hlist;obtain⟨f,c,h,_⟩:=hlist;exact .inr ⟨f,c,h⟩
   subst e1;clear hlk hent hcall hrow hlist HSH HVS;cases pb
   case false=>
    clear Zg;subst hv;have Hd:=kH hlo;have La:=kH hsm;clear hlo hsm;rcases hlv with rfl| ⟨f,c,rfl⟩
    all_goals gi_wp2_with (refine⟨trivial,?_⟩;go_at_K)
    all_goals exact aV.out _ false ((HST.out _ _ (az.refl _ _)).alloc _) (ai.alloc (by simpa using HI2.out.fU 0 (.bool false)) _) rfl
   case true=>
    obtain⟨fb,DK⟩:∃b,rW sh x.t=b:=⟨_,rfl⟩
    have hlz:=kC x.t.kids;have hce:=tN x.t;have hsm2:=x.small
    have hfit:∀Wa,Below W.heap.size W Wa->Calls Tryz.prog 143 #[v,.agg #[.int .i64 xk,.string xt,.int .i64 xa,.int .i64 xz,.slice x.A xn x.c]] Wa fun e W5=>(e= .returned (.bool fb)/\W5.cell? ⟨w1.heap.size+1,0,none⟩=some (.bool true)/\W5.frozen? ⟨w1.heap.size+1,0,none⟩=false/\w1.heap.size+1<W5.heap.size/\Bx<W5.heap.size /\
     W5.cell? ⟨Bx,0,none⟩=some (.int .i64 xk)/\W5.cell? ⟨Bx,4,none⟩=some (.slice x.A xn x.c)/\Hid (az (fun g=>g=w1.heap.size+1) W W5/\ai W5 (w1.heap.size+1) 4 #[.bool true]/\Below w.heap.size W4 W5)):=fun Wa hWa=>by
     have hbW:=Mo.out.1.trans (hWa.mono Mo.out.1.size);have h:=Z0 sh v x.t x.A x.c Wa w.heap.size (aaE (by omega) hbW.size) (Zg.kc (KC.of_below hbW) hbW.size) (aD.below (Mo.out.2.trans (hWa.mono (aaE (by omega) Mo.out.2.size))) (aaD _) _ _ _ hxk) (by omega) (Ug hsm);unfold aX at h;rw[Ve,hxt0,hxa0,hxz0,Vd,DK]at h;refine h.mono ?_;rintro e W5 ⟨h1,h2⟩;have h3:Below W.heap.size W W5:=hWa.trans (h2.mono hWa.size);have h4:=HI2.out.below h3 HI2.out.lt;rw[hpb]at h4;have h5:=bX.below h3 bX.lt;exact⟨h1,h4.cell 0,h4.frozen 0,h4.lt,h5.lt,h5.cell 0,h5.cell 4,kH ⟨(az.refl _ _).below h3,h4,Mo.out.2.trans (h3.mono (aaE (by omega) Mo.out.2.size))⟩⟩
    have Yy:=kH DK;have Hd:=kH hlo;have La:=kH hsm;have HXK:=kH hxk;subst hv;have Kn:=hfit (W.alloc (.cells #[.func (Fn.func ft) #[] ct,.slice Ak sh.kids.length ck,lv,.int .i64 sh.most] 197)) (af _ _);clear hlo hsm Zg hlz hce hsm2 DK hfit hxk bX
    have hfn:fJ x.t=(fb&&(if xk=4 then TZ x.t else true)):=by
     unfold fJ;rw[Ve,La.out];show(rW sh x.t&&_)=_;rw[Yy.out]
    have Hf:=kH hfn;clear hfn;by_cases hsp:fb=true/\xk=4
    case neg=>
     have hres:fb=(true&&fJ x.t):=by
      rw[Hf.out];cases fb
      ·rfl
      ·have:xk≠4:=fun h=>hsp ⟨rfl,h⟩
       simp[this]
     have aM:=kH hres;clear hres;rcases hlv with rfl| ⟨f,c,rfl⟩
     all_goals gi_wp2_with (refine⟨trivial,?_⟩;gi_at_call 143;refine(CallsIn.inRound l (callsIn_wide.2 Kn)).mono ?_;clear Kn;rintro e W5 ⟨rfl,o1,of1,ol1,bl1,e0,e4,H5⟩)
     all_goals first
      | exact aV.out _ _ (HST.out _ _ H5.out.1) (by simpa using H5.out.2.1.fU 0 _) aM.out
      | (exfalso;simp_all;done)
    case pos=>
     obtain⟨rfl,rfl⟩:=hsp
     obtain⟨y,b,off,hA,hbl,hcs,hty⟩:∃y b off,x.A=some ⟨b,off,none⟩/\b<w.heap.size/\W4.cell? ⟨b,off+1,none⟩=some (.string y)/\xn=1/\TZ x.t=dC y:=by
      have hxk:=HXK.out;have DK:=Yy.out
      have hl1:xn=1:=by
       have h1:some ⟨cZ,[dF [9]],none,0⟩=some sh:=La.out;cases h1
       unfold rW qB at DK;simp only[aaF,decide_eq_true_eq]at DK;have:=DK.1.2;simp at this;omega
      unfold TZ
      cases hks:x.t.kids with
      | nil=>rw[hks]at Vd;simp at Vd;omega
      | cons kt ks=>
       rw[hks]at hxk;obtain⟨⟨b,off,vals,h1,h2,h3,h4⟩,-⟩:=hxk;obtain⟨A',c',h5,-⟩:=h4.five;subst h5;exact⟨kt.text,b,off,h1,h2,by simpa using h3 1 _ rfl,hl1,rfl⟩
     obtain⟨hn1,hty⟩:=hty;have HFN2:Hid (fJ x.t=dC y):=kH (by rw[Hf.out];simpa using hty);have HC:=kH hcs;clear hcs hty;rw[hA,hn1]at Kn
     have hfit3:=Kn.mono (R':=fun e W5=>e= .returned (.bool true)/\W5.cell? ⟨b,off+1,none⟩=some (.string y)/\b<W5.heap.size/\W5.cell? ⟨w1.heap.size+1,0,none⟩=some (.bool true)/\W5.frozen? ⟨w1.heap.size+1,0,none⟩=false/\w1.heap.size+1<W5.heap.size/\Bx<W5.heap.size /\
      W5.cell? ⟨Bx,0,none⟩=some (.int .i64 4)/\W5.cell? ⟨Bx,4,none⟩=some (.slice (some ⟨b,off,none⟩) 1 x.c)/\Hid (az (fun g=>g=w1.heap.size+1) W W5/\ai W5 (w1.heap.size+1) 4 #[.bool true]/\Below w.heap.size W4 W5))
      (fun e W5 ⟨h1,h2,h3,h4,h5,h6,h7,h8⟩=>⟨h1,(h8.out.2.2.cell (p:=⟨b,_,none⟩) hbl).trans HC.out,by omega,h2,h3,h4,h5,h6,h7,h8⟩)
     clear Kn;rcases hlv with rfl| ⟨f,c,rfl⟩
     all_goals gi_wp2_with (refine⟨trivial,?_⟩;gi_at_call 143;refine(CallsIn.inRound l (callsIn_wide.2 hfit3)).mono ?_;clear hfit3;rintro e W5 ⟨rfl,k1,kl,o1,of1,ol1,bl1,e0,e4,H5⟩)
     all_goals
      rename_i hyi
      exact aV.out _ _ (HST.out _ _ (HST.out _ _ H5.out.1)) (by simpa using(H5.out.2.1.fU 0 (.bool true)).fU 0 _) (by rw[HFN2.out,NP];simp[hyi])
 case done=>
  rintro D ys W hD hys ⟨⟨hi1,hi2⟩,hi3,hi4⟩ hK;have c0:=hi2.cell 0;have hK':=kH hK;have HF:=kH (hb1.trans (hi3.mono (by omega)));have hD2:w.heap.size<=D:=by omega
  have hall:(ys.all fun x=>fJ x.t)=gJ t:=by
   unfold gJ;rw[<- hys,List.all_map];rfl
  rw[hall]at c0;clear hi1 hi2 hi3 hi4 hK hys hM4 hO4 lD hk4 hN4 hsh hb1;gi_wp2
  refine⟨by simp,.inl ⟨_,_,rfl,run_takeDeferred hK'.out,?_⟩⟩;refine⟨_,results_tmp rfl _ _ _,?_⟩;exact⟨rfl,HF.out.trans (belowK_b (w:=w) (aaD _) W D _ _ hD2 hK'.out rfl rfl)⟩
 case stop=>
  rintro D c pre W _ _ h _;exact h.elim
theorem Nr(t:aa)(A:Option Addr)(c:Nat)(w:World)(hm:ah t<=1000000000)(hk:aD w w.heap.size A 0 t.kids):
 Calls Tryz.prog 40 #[aX t A c] w fun e w'=>e= .returned (.bool (iJ t))/\Below w.heap.size w w':=by
 obtain⟨q,hq⟩:∃q,iJ t=q:=⟨_,rfl⟩
 have hsh:=Uf t A c (w.alloc (.cells #[.int .i64 t.kind,.string t.text,.int .i64 t.at_,.int .i64 t.end_,.slice A t.kids.length c] 24)) hm (aD.mono (by simp) _ _ _ (aD.below (af _ _) (aaD _) _ _ _ hk));have hb0:=af w (.cells #[.int .i64 t.kind,.string t.text,.int .i64 t.at_,.int .i64 t.end_,.slice A t.kids.length c] 24);have PG:=hsh.mono (R':=fun e w'=>e= .returned (.bool (gJ t))/\Below w.heap.size w w') (fun e w' ⟨h1,h2⟩=>⟨h1,hb0.trans (h2.mono (by simp))⟩);unfold aX at PG⊢;rw[hq];unfold iJ at hq;obtain⟨k,hk0⟩:∃q,t.kind=q:=⟨_,rfl⟩
 obtain⟨x,hx0⟩:∃q,t.text=q:=⟨_,rfl⟩
 obtain⟨a,ha0⟩:∃q,t.at_=q:=⟨_,rfl⟩
 obtain⟨z,hz0⟩:∃q,t.end_=q:=⟨_,rfl⟩
 obtain⟨n,hn0⟩:∃q,t.kids.length=q:=⟨_,rfl⟩
 obtain⟨sb,hsb⟩:∃q,gJ t=q:=⟨_,rfl⟩
 rw[hk0,hx0,ha0,hz0,hn0]at PG hb0⊢;rw[hsb]at PG hq;rw[hk0]at hq;have HB0:=kH hb0;have HQ:=kH hq;clear hk hsh hk0 hx0 ha0 hz0 hn0 hsb hq hm hb0;by_cases h2:k=2
 ·subst h2
  go_enter Tryz.func40,Tryz.ntmps40
  go_wp2_with fail
  refine PG.mono ?_;rintro e w2 ⟨rfl,hb⟩;go_wp2_with fail
  go_ret
  exact⟨OP (by rw[<- HQ.out];simp),hb⟩
 ·clear PG
  go_enter Tryz.func40,Tryz.ntmps40
  go_wp2_with fail
  go_ret
  exact⟨OP (by rw[<- HQ.out];simp[h2]),HB0.out⟩
end Go.Proofs.YtoepemlnlpamlaaGreat
namespace Go.Proofs.YtoepemlnlpamlaaGreat
theorem ni(sh:vN):∀(ts:List aa) (i:Nat),fA sh i ts=true->∀c∈ts,∃p,(sh.list=some p\/p∈sh.kids)/\p c.kind=true
 | [],_,_,c,hc=>by cases hc
 | t::ts,i,h,c,hc=>by
  rw[fA,aaF]at h;rcases List.mem_cons.1 hc with rfl|hc
  ·have h1:=h.1
   unfold yh at h1
   cases hl:sh.list with
   | some p=>rw[hl]at h1;exact⟨p,.inl rfl,h1⟩
   | none=>
    rw[hl]at h1
    cases hp:sh.kids[i]? with
    | none=>rw[hp]at h1;cases h1
    | some p=>rw[hp]at h1;exact⟨p,.inr (aaP hp),h1⟩
  ·exact ni sh ts (i+1) h.2 c hc
def zi(p:Int->Bool):Prop:=∀k,p k=true->k≠2/\k≠3/\k≠4/\k≠5
theorem CU:zi fq:=fun k h=>by unfold fq at h;simp only[Bool.or_eq_true,decide_eq_true_eq]at h;omega
theorem U8:zi sI:=fun k h=>by unfold sI at h;simp only[aaF,decide_eq_true_eq]at h;omega
theorem rR:zi bA:=fun k h=>by unfold bA at h;simp only[aaF,decide_eq_true_eq]at h;omega
theorem Bu:zi mU:=fun k h=>by unfold mU at h;simp only[Bool.or_eq_true,decide_eq_true_eq]at h;omega
theorem qy{p:Int->Bool}(h:zi p):zi (jE p):=fun k hk=>by
 unfold jE at hk;simp only[Bool.or_eq_true,decide_eq_true_eq]at hk;rcases hk with hk|hk
 ·omega
 ·exact h k hk
theorem sV{l:List Int}(h:∀y∈l,y≠2/\y≠3/\y≠4/\y≠5):zi (dF l):=fun k hk=>by
 unfold dF at hk;rw[List.any_eq_true]at hk;obtain⟨y,hy,hk⟩:=hk;rw[decide_eq_true_eq]at hk;subst hk;exact h _ hy
theorem Bj{k:Int}{sh:vN}(h:lJ k=some sh)(h2:k≠2)(h3:k≠3):(∀p,sh.list=some p->zi p)/\∀p∈sh.kids,zi p:=by
 cases k with
 | negSucc n=>cases h
 | ofNat n=>
  have h5:sP n=some sh:=h;have n2:n≠2:=fun e=>h2 (by rw[e];rfl)
  have n3:n≠3:=fun e=>h3 (by rw[e];rfl)
  clear h h2 h3;unfold sP at h5;split at h5<;>first|(cases h5;done)|(exact absurd rfl n2)|(exact absurd rfl n3)|skip
  all_goals
   cases h5
   refine⟨?_,?_⟩
   ·intro p hp
    first
     | (cases hp;done)
     | (cases hp;first|exact U8|exact rR|exact sV (by decide))
   ·intro p hp
    first
     | (cases hp;done)
     | (simp only[List.mem_cons,List.not_mem_nil,or_false]at hp
        first
         | (rcases hp with rfl|rfl|rfl<;>first|exact rR|exact Bu|exact sV (by decide)|exact qy CU|exact qy rR|exact qy (sV (by decide)))
         | (rcases hp with rfl|rfl<;>first|exact rR|exact Bu|exact sV (by decide)|exact qy CU|exact qy rR|exact qy (sV (by decide)))
         | (subst hp;first|exact rR|exact Bu|exact sV (by decide)|exact qy CU|exact qy rR|exact qy (sV (by decide))))
theorem iL{t:aa}(h:fJ t=true):∃sh,lJ t.kind=some sh/\rW sh t=true:=by
 unfold fJ at h
 cases hs:lJ t.kind with
 | none=>rw[hs]at h;cases h
 | some sh=>
  rw[hs]at h;rw[aaF]at h;exact⟨sh,rfl,h.1⟩
theorem ko{sh:vN}{t:aa}(h:rW sh t=true):sh.text t.text=true/\qB sh t.kids.length=true/\fA sh 0 t.kids=true:=by
 unfold rW at h;rw[aaF,aaF]at h;exact⟨h.1.1,h.1.2,h.2⟩
theorem jA(t:aa):gJ t=(fJ t&&(dh t.kids).all fJ):=by
 unfold gJ;rw[EC,List.all_cons]
mutual
theorem Vb:∀(t:aa),gJ t=true->(t.kind≠2/\t.kind≠3/\t.kind≠4/\t.kind≠5)->K7 t=true
 | .node k x a e kids,h,hk=>by
  rw[jA,aaF]at h;obtain⟨sh,hs,hf⟩:=iL h.1;obtain⟨-,hc,oq⟩:=ko hf;have hk':k≠2/\k≠3/\k≠4/\k≠5:=hk;have hs':lJ k=some sh:=hs;obtain⟨hi1,hi2⟩:=Bj hs' hk'.1 hk'.2.1;rw[K7];simp only[aaF,Bool.or_eq_true,decide_eq_true_eq];refine⟨⟨⟨hk',?_⟩,?_⟩,xV kids h.2 fun c hc=>?_⟩
  ·by_cases h12:k=12
   ·subst h12
    right
    have:some _=some sh:=hs';cases this
    simpa [qB,aa.kids] using hc
   ·exact .inl h12
  ·by_cases h16:k=16
   ·subst h16
    right
    have:some _=some sh:=hs';cases this
    simpa [qB,aa.kids] using hc
   ·exact .inl h16
  ·obtain⟨p,hp,hpk⟩:=ni sh kids 0 oq c hc
   rcases hp with hp|hp
   ·exact hi1 p hp _ hpk
   ·exact hi2 p hp _ hpk
theorem xV:∀(ts:List aa),(dh ts).all fJ=true->(∀c∈ts,c.kind≠2/\c.kind≠3/\c.kind≠4/\c.kind≠5)->uJ ts=true
 | [],_,_=>by rw[uJ]
 | t::ts,h,hc=>by
  rw[dh,List.all_append,aaF]at h;rw[uJ,aaF];exact⟨Vb t h.1 (hc t (by simp)),xV ts h.2 fun c hx=>hc c (by simp[hx])⟩
end
theorem UY{ts:List aa}(h:(dh ts).all fJ=true):∀c∈ts,gJ c=true:=by
 induction ts with
 | nil=>intro c hc;cases hc
 | cons t ts ih=>
  rw[dh,List.all_append,aaF]at h;intro c hc;rcases List.mem_cons.1 hc with rfl|hc
  ·exact h.1
  ·exact ih h.2 c hc
theorem jZ{t:aa}(h:gJ t=true):∀c∈t.kids,gJ c=true:=by
 rw[jA,aaF]at h;exact UY h.2
theorem Rx(t:aa)(h:gJ t=true)(hk:t.kind=3\/t.kind=5):vD t=true:=by
 have oJ:=jZ h;have hn:=h;rw[jA,aaF]at hn;obtain⟨sh,hs,hf⟩:=iL hn.1;obtain⟨-,hc,oq⟩:=ko hf;have hmem:=ni sh t.kids 0 oq;obtain⟨k,x,a,e,kids⟩:=t;rw[vD,Bool.or_eq_true,aaF,aaF,aaF,decide_eq_true_eq,decide_eq_true_eq,decide_eq_true_eq];rcases hk with hk|hk
 ·left
  have hk':k=3:=hk;subst hk';have he:some _=some sh:=hs;cases he
  refine⟨rfl,List.all_eq_true.2 fun f hf=>?_⟩;rw[aaF,decide_eq_true_eq]
  have Ta:f.kind=4:=by
   obtain⟨p,hp,hpk⟩:=hmem f hf;rcases hp with hp|hp
   ·cases hp
    simpa [dF] using hpk
   ·cases hp
  refine⟨Ta,?_⟩;have DF:=oJ f hf;have hsk:=jZ DF;rw[jA,aaF]at DF;obtain⟨sh,hs,hff⟩:=iL DF.1;obtain⟨-,hc,oq⟩:=ko hff;refine xV _ DF.2 fun c hc=>?_
  rw[Ta]at hs;obtain⟨h1,h2⟩:=Bj hs (by decide) (by decide);obtain⟨p,hp,hpk⟩:=ni sh f.kids 0 oq c hc;rcases hp with hp|hp
  ·exact h1 p hp _ hpk
  ·exact h2 p hp _ hpk
 ·right
  have hk':k=5:=hk;subst hk';have he:some _=some sh:=hs;obtain⟨h1,h2⟩:=Bj hs (show(5:Int)≠2 by decide) (show(5:Int)≠3 by decide);cases he
  refine⟨⟨rfl,by simpa [qB,aa.kids] using hc⟩,xV _ hn.2 fun c hc=>?_⟩;obtain⟨p,hp,hpk⟩:=hmem c hc;rcases hp with hp|hp
  ·exact h1 p hp _ hpk
  ·exact h2 p hp _ hpk
theorem Cw{t:aa}(h:iJ t=true):t.kind=2/\∀k∈t.kids,vD k=true:=by
 unfold iJ at h;rw[aaF,decide_eq_true_eq]at h;refine⟨h.1,fun k hk=>?_⟩;have hsh:=jZ h.2 k hk;have hn:=h.2;rw[jA,aaF]at hn;obtain⟨sh,hs,hf⟩:=iL hn.1;obtain⟨-,hc,oq⟩:=ko hf;obtain⟨p,hp,hpk⟩:=ni sh t.kids 0 oq k hk;rw[h.1]at hs;have he:some _=some sh:=hs;cases he
 rcases hp with hp|hp
 ·cases hp
  have:k.kind=3\/k.kind=5:=by simpa [dF] using hpk
  exact Rx k hsh this
 ·cases hp
mutual
def xe:aa->Bool
 | .node k _ _ _ kids=>(decide (k<2) || decide (8<k))&&(decide (k≠12) || decide (kids.length=2))&&(decide (k≠16) || decide (kids.length=3))&&(decide (k=11) || kids.all fun c=>decide (c.kind≠12))&&nK kids
def nK:List aa->Bool
 | []=>true
 | t::ts=>xe t&&nK ts
end
theorem AJ{k:Int}{x:ByteArray}{a e:Int}{kids:List aa}(h:xe (.node k x a e kids)=true):
 (k<2\/8<k)/\(k=12->kids.length=2)/\(k=16->kids.length=3)/\(k≠11->∀c∈kids,c.kind≠12)/\nK kids=true:=by
 rw[xe]at h;simp only[aaF,Bool.or_eq_true,decide_eq_true_eq,List.all_eq_true]at h;obtain⟨⟨⟨⟨h1,h2⟩,h3⟩,h4⟩,h5⟩:=h;exact⟨h1,fun e=>h2.resolve_left (by simp[e]),fun e=>h3.resolve_left (by simp[e]),fun e=>h4.resolve_left e,h5⟩
theorem R9(s:aK)(l:jr):(fP s l).tail=s.tail:=by cases s<;>rfl
def rY(G:aW)(t:aa)(s:aK)(n:Nat):jr:=if (bV s t.text).isSome || (aN G.globals t.text).isSome then [] else [(t.text,(n:Int))]
theorem zC(G:aW)(r:RS)(c:Int)(n:Nat)(t:aa)(s:aK):(aA G r c n t ([]::s)).2.headD []=rY G t s n:=by
 unfold aA rY;have h:bV ([]::s) t.text=bV s t.text:=rfl;rw[h];split<;>rfl
mutual
theorem Gn(G:aW):∀(t:aa) (i:Bool) (s:aK) (r:RS),xe t=true->(aF G i t s r).2=if t.kind=12 then fP s (rY G t s r.next) else s
 | .node k x a e kids,i,s,r,hin=>by
  obtain⟨hk,h12,h16,hno,hks⟩:=(AJ hin)
  have n3:k≠3:=by omega
  have n4:k≠4:=by omega
  have n5:k≠5:=by omega
  have n78:¬(k=7\/k=8):=by omega
  rw[bY];rw[if_neg n3,if_neg n4,if_neg n5,if_neg n78];show _=if k=12 then _ else _
  by_cases h11:k=11
  ·rw[if_pos h11,if_neg (show k≠12 by omega)]
   exact yZ G kids i 0 kids.length ([]::s) _ hks
  rw[if_neg h11];by_cases pG:k=12
  ·rw[if_pos pG,if_pos pG]
   rw[jo G kids i 0 2 s _ hks (hno h11),zC]
  rw[if_neg pG,if_neg pG];by_cases qI:k=16
  ·rw[if_pos qI]
   show(ae G i kids 2 1 _ _).2.tail=s;rw[jo G kids i 2 1 _ _ hks (hno h11),jo G kids i 0 2 s _ hks (hno h11)];rfl
  rw[if_neg qI];exact jo G kids i 0 kids.length s _ hks (hno h11)
theorem jo(G:aW):∀(ts:List aa) (i:Bool) (f n:Nat) (s:aK) (r:RS),nK ts=true->(∀c∈ts,c.kind≠12)->(ae G i ts f n s r).2=s
 | [],_,_,_,_,_,_,_=>by rw[ae]
 | t::ts,i,f+1,n,s,r,hin,hno=>by
  rw[nK,aaF]at hin;rw[ae]
  exact jo G ts i f n s r hin.2 fun c hc=>hno c (by simp[hc])
 | t::ts,i,0,0,s,r,_,_=>by rw[ae]
 | t::ts,i,0,n+1,s,r,hin,hno=>by
  rw[nK,aaF]at hin;rw[ae];rw[jo G ts i 0 n _ _ hin.2 fun c hc=>hno c (by simp[hc]),Gn G t i s r hin.1,if_neg (hno t (by simp))]
theorem yZ(G:aW):∀(ts:List aa) (i:Bool) (f n:Nat) (s:aK) (r:RS),nK ts=true->(ae G i ts f n s r).2.tail=s.tail
 | [],_,_,_,_,_,_=>by rw[ae]
 | t::ts,i,f+1,n,s,r,hin=>by
  rw[nK,aaF]at hin;rw[ae];exact yZ G ts i f n s r hin.2
 | t::ts,i,0,0,s,r,_=>by rw[ae]
 | t::ts,i,0,n+1,s,r,hin=>by
  rw[nK,aaF]at hin;rw[ae];rw[yZ G ts i 0 n _ _ hin.2,Gn G t i s r hin.1];split
  ·exact R9 _ _
  ·rfl
end
mutual
theorem CO(G:aW):∀(t:aa) (i:Bool) (s:aK) (r:RS),xe t=true->(aF G i t s r).1.next=r.next+ah t
 | .node k x a e kids,i,s,r,hin=>by
  have hint:∀(t:aa),xe t=true->True:=fun _ _=>trivial
  obtain⟨hk,h12,h16,hno,hks⟩:=(AJ hin)
  have n3:k≠3:=by omega
  have n4:k≠4:=by omega
  have n5:k≠5:=by omega
  have n78:¬(k=7\/k=8):=by omega
  have hv:∀c s',(aA G (aC r i (aj (ak s))) c r.next (.node k x a e kids) s').1.next=r.next+1:=fun c s'=>by
   unfold aA;split<;>rfl
  have hu:∀tq,(fC (aC r i (aj (ak s))) r.next (.node k x a e kids) tq).next=r.next+1:=fun tq=>by cases tq<;>rfl
  have hall:∀s' (u:RS),u.next=r.next+1->(ae G i kids 0 kids.length s' u).1.next=r.next+ah (.node k x a e kids):=fun s' u h=>by
   rw[mZ G kids i 0 kids.length s' u hks,h,ah];simp;omega
  rw[bY];rw[if_neg n3,if_neg n4,if_neg n5,if_neg n78];split
  ·exact hall _ _ rfl
  split
  ·rename_i _ pG
   have hl:=h12 pG;have:=hall s (aA G (aC r i (aj (ak s))) 4 r.next (.node k x a e kids) ([]::s)).1 (hv _ _);rw[hl]at this;exact this
  split
  ·rename_i _ _ qI
   have hl:=h16 qI
   match kids,hl,hks with
   | [b,c,d],_,hks=>
    rw[mZ G [b,c,d] i 2 1 _ _ hks];show(ae G i [b,c,d] 0 2 s _).1.next+_=_;rw[mZ G [b,c,d] i 0 2 s _ hks];show(aA G (aC r i (aj (ak s))) 5 r.next (.node k x a e [b,c,d]) ([]::s)).1.next+_+_=_;rw[hv];simp[ah,ag];omega
  ·refine hall _ _ ?_
   unfold gH;split
   ·exact hu _
   split
   ·exact hu _
   split
   ·exact hu _
   split
   ·exact hu _
   split
   ·exact hu _
   ·rfl
theorem mZ(G:aW):∀(ts:List aa) (i:Bool) (f n:Nat) (s:aK) (r:RS),nK ts=true->(ae G i ts f n s r).1.next=r.next+ag ((ts.drop f).take n)
 | [],_,_,_,_,_,_=>by rw[ae];simp[ag]
 | t::ts,i,f+1,n,s,r,hin=>by
  rw[nK,aaF]at hin;rw[ae,List.drop_succ_cons];exact mZ G ts i f n s r hin.2
 | t::ts,i,0,0,s,r,_=>by rw[ae];simp[ag]
 | t::ts,i,0,n+1,s,r,hin=>by
  rw[nK,aaF]at hin;rw[ae];rw[mZ G ts i 0 n _ _ hin.2,CO G t i s r hin.1];simp[ag];omega
end
def oO(r q:RS):Prop:=q.aO.length=r.aO.length
theorem oO.split{a b c:RS}(h1:nS a b)(h2:nS b c)(h:oO a c):oO a b/\oO b c:=by
 obtain⟨l1,e1,_⟩:=h1.aO;obtain⟨l2,e2,_⟩:=h2.aO;unfold oO at*;rw[e2,e1]at h;simp at h;rw[e2,e1];simp[h]
structure uu (s:aK) (r:RS):Prop where
 nodup:(s.flatten.map (·.1)).Nodup
 decl:∀y∈s.flatten,∃d∈r.ds,d.node=y.2/\d.name=y.1
theorem uu.mono{s:aK}{r q:RS}(h:uu s r)(k:nS r q):uu s q:=by
 obtain⟨l,e,_⟩:=k.ds;exact⟨h.nodup,fun y hy=>by obtain⟨d,hd,h1⟩:=h.decl y hy;exact⟨d,by rw[e];exact List.mem_append_left _ hd,h1⟩⟩
theorem za{K V:Type}[DecidableEq K]:∀{l:List (K×V)}{k:K},bJ l k=none->k ∉ l.map (·.1)
 | [],_,_=>by simp
 | x::l,k,h=>by
  rw[bJ]at h;by_cases hk:k=x.1
  ·rw[if_pos hk]at h;cases h
  ·rw[if_neg hk]at h
   rw[List.map_cons,List.mem_cons];exact fun h1=>h1.elim hk (za h)
theorem KF:∀{s:aK}{x:ByteArray},bV s x=none->x ∉ s.flatten.map (·.1)
 | [],_,_=>by simp
 | l::s,x,h=>by
  rw[bV]at h
  cases hl:aN l x with
  | some k=>rw[hl]at h;cases h
  | none=>
   rw[hl]at h;have h1:=za (show bJ l x=none from hl);have h2:=KF (show bV s x=none from h);rw[List.flatten_cons,List.map_append,List.mem_append];exact fun h3=>h3.elim h1 h2
theorem Cz{K V:Type}[DecidableEq K]:∀{l:List (K×V)}{k:K}(v:V),k ∉ l.map (·.1)->cO l k v=l++[(k,v)]
 | [],_,_,_=>rfl
 | x::l,k,v,h=>by
  rw[List.map_cons,List.mem_cons]at h;have hk:k≠x.1:=fun e=>h (.inl e)
  rw[cO,if_neg hk,Cz v fun h1=>h (.inr h1)];rfl
theorem uu.var{s:aK}{r:RS}(h:uu s r){x:ByteArray}{n:Int}(hf:bV s x=none)(hd:∃d∈r.ds,d.node=n/\d.name=x):uu (fP s [(x,n)]) r/\uu ([(x,n)]::s) r:=by
 have hx:=KF hf
 have h2:uu ([(x,n)]::s) r:=⟨by rw[List.flatten_cons,List.map_append];exact List.nodup_cons.2 ⟨hx,h.nodup⟩,fun y hy=>by
  rw[List.flatten_cons,List.mem_append]at hy;rcases hy with hy|hy
  ·rw[List.mem_singleton]at hy
   subst hy;exact hd
  ·exact h.decl y hy⟩
 refine⟨?_,h2⟩
 cases s with
 | nil=>exact h
 | cons l s=>
  have hl:x ∉ l.map (·.1):=fun h1=>hx (by rw[List.flatten_cons,List.map_append];exact List.mem_append_left _ h1)
  have e:fP (l::s) [(x,n)]=(l++[(x,n)])::s:=by
   show(cO l x n)::s=_;rw[Cz _ hl]
  rw[e];refine⟨?_,fun y hy=>h2.decl y ?_⟩
  ·have hn:=h2.nodup
   rw[List.flatten_cons,List.flatten_cons]at hn;rw[List.flatten_cons];refine((List.Perm.map _ ?_).nodup_iff).1 hn;rw[<- List.append_assoc];exact List.perm_append_comm.append_right _
  ·rw[List.flatten_cons]at hy
   rw[List.flatten_cons,List.flatten_cons];simp only[List.mem_append,List.mem_singleton]at hy⊢;rcases hy with(hy|hy)|hy
   ·exact .inr (.inl hy)
   ·exact .inl hy
   ·exact .inr (.inr hy)
theorem El{G:aW}{r:RS}{i:Bool}{v:List Int}{c:Int}{t:aa}{s:aK}(h:oO r (aA G (aC r i v) c r.next t s).1):
 bV s t.text=none/\aN G.globals t.text=none/\aA G (aC r i v) c r.next t s=(iR (aC r i v) c r.next t,fP s [(t.text,(r.next:Int))]):=by
 unfold aA at h⊢;split at h
 ·unfold oO oI aC at h
  simp at h
 ·rename_i hb
  rw[if_neg hb];rw[Bool.or_eq_true,not_or]at hb;exact⟨by simpa using hb.1,by simpa using hb.2,rfl⟩
theorem LM(r:RS)(i:Bool)(v:List Int):nS r (aC r i v):=iD.none_ r i v
theorem YY(r:RS)(i:Bool)(v:List Int)(c:Int)(t:aa):nS r (iR (aC r i v) c r.next t):=iD.decl r i v c t
theorem zl(G:aW)(r:RS)(i:Bool)(v:List Int)(c:Int)(t:aa)(s:aK):nS r (aA G (aC r i v) c r.next t s).1:=iD.nz G r i v c t s
theorem BU(r:RS)(i:Bool)(v:List Int)(t:aa)(tq:Option Int):nS r (fC (aC r i v) r.next t tq):=iD.Cv r i v t tq
theorem OI(G:aW)(s:aK)(r:RS)(i:Bool)(v:List Int)(t:aa):nS r (gH G s r (aC r i v) t):=by
 unfold gH;split
 ·exact BU _ _ _ _ _
 split
 ·exact BU _ _ _ _ _
 split
 ·exact BU _ _ _ _ _
 split
 ·exact BU _ _ _ _ _
 split
 ·exact BU _ _ _ _ _
 ·exact LM _ _ _
theorem Ww(G:aW)(s:aK)(r:RS)(i:Bool)(v:List Int)(t:aa):(gH G s r (aC r i v) t).next=r.next+1:=by
 have hu:∀tq,(fC (aC r i v) r.next t tq).next=r.next+1:=fun tq=>by cases tq<;>rfl
 unfold gH;split
 ·exact hu _
 split
 ·exact hu _
 split
 ·exact hu _
 split
 ·exact hu _
 split
 ·exact hu _
 ·rfl
theorem Sd(G:aW)(k:Int)(x:ByteArray)(a e:Int)(kids:List aa)(i:Bool)(s:aK)(r:RS)(hin:xe (.node k x a e kids)=true):
 aF G i (.node k x a e kids) s r=
  if k=11 then((ae G i kids 0 kids.length ([]::s) (aC r i (aj (ak s)))).1,s)
  else if k=12 then((ae G i kids 0 kids.length s (aA G (aC r i (aj (ak s))) 4 r.next (.node k x a e kids) ([]::s)).1).1,fP s (rY G (.node k x a e kids) s r.next))
  else if k=16 then((ae G i kids 2 1 (rY G (.node k x a e kids) s r.next::s) (ae G i kids 0 2 s (aA G (aC r i (aj (ak s))) 5 r.next (.node k x a e kids) ([]::s)).1).1).1,s)
  else((ae G i kids 0 kids.length s (gH G s r (aC r i (aj (ak s))) (.node k x a e kids))).1,s):=by
 obtain⟨hk,h12,h16,hno,hks⟩:=(AJ hin)
 have n3:k≠3:=by omega
 have n4:k≠4:=by omega
 have n5:k≠5:=by omega
 have n78:¬(k=7\/k=8):=by omega
 rw[bY];rw[if_neg n3,if_neg n4,if_neg n5,if_neg n78];by_cases h11:k=11
 ·rw[if_pos h11,if_pos h11]
  refine Prod.ext rfl ?_;exact yZ G kids i 0 kids.length ([]::s) _ hks
 rw[if_neg h11,if_neg h11];by_cases pG:k=12
 ·rw[if_pos pG,if_pos pG,h12 pG]
  refine Prod.ext rfl ?_;show fP (ae G i kids 0 2 s _).2 _=_;rw[jo G kids i 0 2 s _ hks (hno h11),zC]
 rw[if_neg pG,if_neg pG];by_cases qI:k=16
 ·rw[if_pos qI,if_pos qI]
  rw[jo G kids i 0 2 s _ hks (hno h11),zC];refine Prod.ext rfl ?_;show(ae G i kids 2 1 _ _).2.tail=s;rw[jo G kids i 2 1 _ _ hks (hno h11)];rfl
 rw[if_neg qI,if_neg qI];refine Prod.ext rfl ?_;exact jo G kids i 0 kids.length s _ hks (hno h11)
theorem vU{G:aW}{t:aa}{s:aK}{n:Nat}(h1:bV s t.text=none)(h2:aN G.globals t.text=none):rY G t s n=[(t.text,(n:Int))]:=by
 unfold rY;rw[h1,h2];rfl
end Go.Proofs.YtoepemlnlpamlaaGreat
