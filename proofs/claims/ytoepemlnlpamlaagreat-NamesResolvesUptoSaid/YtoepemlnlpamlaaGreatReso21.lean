/- The law NamesResolves holds where what it reads is of bulk at most 1048576: it returns true, and its argument reads as before. Part 21: Shaped Ord4 At2 At3 At4. -/
import Derived.Test.YtoepemlnlpamlaaGreatReso02
import Derived.Test.YtoepemlnlpamlaaGreatReso18
import Derived.Test.YtoepemlnlpamlaaGreatReso20
set_option maxRecDepth 100000
set_option maxHeartbeats 4000000
namespace Go.Proofs.YtoepemlnlpamlaaGreat
open Go.RowKit Go.Shelf
attribute [local go_sem] Oper.semAt_some
def Ca(t:ae):Bool:=match t.kids with|k::_=>dJ k.text| []=>false
def eX(t:ae):Bool:=match lK t.kind with|none=>false|some sh=>nY sh t&&(if t.kind=4 then Ca t else true)
def fJ(t:ae):Bool:=(bY t).all eX
def iJ(t:ae):Bool:=decide (t.kind=2)&&fJ t
theorem Pq(y:ByteArray)(l:Array UInt8):(y.toList==l.toList)=decide (y=⟨l⟩):=by
 rw[ByteArray.toList_eq];obtain⟨d⟩:=y;rw[Bool.eq_iff_iff];simp
theorem OQ(y:ByteArray):dJ y=(y.toList==[105,110,116] || y.toList==[98,111,111,108]):=by
 unfold dJ;rw[<- Pq,<- Pq]
theorem UO(w:World):(zeroValue 197).run Tryz.prog w= .ok (.agg #[.nilFunc,.slice none 0 0,.nilFunc,.int .i64 0]) w:=by go_simp
theorem U8{k:Int}{sh:xJ}(h:lK k=some sh):sh.kids.length<=10:=by
 cases k with
 | negSucc n=>cases h
 | ofNat n=>
  have h2:nM n=some sh:=h;unfold nM at h2;split at h2<;>first|(cases h2;done)|(cases h2;simp;done)
theorem U7(t:ae)(A:Option Addr)(c:Nat)(w:World)(hm:au t<=1000000000)(hk:aK w w.heap.size A 0 t.kids):
 Calls Tryz.prog 76 #[bD t A c] w fun e w'=>e= .returned (.bool (fJ t))/\Below w.heap.size w w':=by
 refine(callsIn_wide (n:=6)).1 ?_;have yM:=fun w'=>NC t A c w'
 unfold bD at yM⊢;refine callsIn_of_wp_marks Tryz.func76 rfl trivial ?_ rfl;simp only[Tryz.ntmps76,List.size_toArray,abR,List.length_nil,Nat.reduceAdd,Nat.reduceSub,Array.replicate_succ,Array.replicate_zero,List.push_toArray,List.append_toArray,List.nil_append,List.cons_append];have AO:=ai.new w 24 #[.int .i64 t.kind,.string t.text,.int .i64 t.at_,.int .i64 t.end_,.slice A t.kids.length c];have hb0:=ag w (.cells #[.int .i64 t.kind,.string t.text,.int .i64 t.at_,.int .i64 t.end_,.slice A t.kids.length c] 24)
 have TS:=(U6 (w.alloc (.cells #[.int .i64 t.kind,.string t.text,.int .i64 t.at_,.int .i64 t.end_,.slice A t.kids.length c] 24))).mono (R':=fun e w1=> ∃r,e= .returned (.map (some r))/\Ke w1 r/\Below w.heap.size w w1/\w.heap.size<w1.heap.size /\
  w1.cell? ⟨w.heap.size,0,none⟩=some (.int .i64 t.kind)/\w1.cell? ⟨w.heap.size,1,none⟩=some (.string t.text)/\w1.cell? ⟨w.heap.size,2,none⟩=some (.int .i64 t.at_)/\w1.cell? ⟨w.heap.size,3,none⟩=some (.int .i64 t.end_)/\w1.cell? ⟨w.heap.size,4,none⟩=some (.slice A t.kids.length c))
  (fun e w1 ⟨r,h1,h2,h3⟩=>by
   have h4:=AO.below h3 AO.lt
   exact⟨r,h1,h2,hb0.trans (h3.mono (by simp)),h4.lt,h4.cell 0,h4.cell 1,h4.cell 2,h4.cell 3,h4.cell 4⟩)
 clear AO hb0;gi_wp2_with (refine⟨trivial,?_⟩;gi_at_call 141;refine(callsIn_wide.2 TS).mono ?_;clear TS;rintro e w1 ⟨r,rfl,hsh,hb1,hlt1,c0,c1,c2,c3,c4⟩)
 refine⟨trivial,?_⟩;gi_at_call 142
 refine(callsIn_wide.2 (yM _)).mono ?_;rintro e w' ⟨rfl,rfl⟩;gi_wp2
 have hM1:ai (w1.alloc (.cells #[.map (some r)] 191)) w1.heap.size 191 #[.map (some r)]:=ai.new w1 _ _;generalize hW2:w1.alloc (.cells #[.map (some r)] 191)=W2 at hM1⊢
 have hb2:Below w1.heap.size w1 W2:=by rw[<- hW2];exact ag _ _
 have hs2:W2.heap.size=w1.heap.size+1:=by rw[<- hW2];simp
 have hO3:ai (W2.alloc (.cells #[.bool true] 4)) (w1.heap.size+1) 4 #[.bool true]:=by rw[<- hs2];exact ai.new W2 _ _
 generalize hW3:W2.alloc (.cells #[.bool true] 4)=W3 at hO3⊢
 have hb3:Below W2.heap.size W2 W3:=by rw[<- hW3];exact ag _ _
 have hs3:W3.heap.size=w1.heap.size+2:=by rw[<- hW3];simp[hs2]
 have Uh:ai (W3.alloc (.cells #[.int .i64 t.kind,.string t.text,.int .i64 t.at_,.int .i64 t.end_,.slice A t.kids.length c] 24)) (w1.heap.size+1+1) 24 #[.int .i64 t.kind,.string t.text,.int .i64 t.at_,.int .i64 t.end_,.slice A t.kids.length c]:=by rw[show w1.heap.size+1+1=W3.heap.size by omega];exact ai.new W3 _ _
 generalize lW:W3.alloc (.cells #[.int .i64 t.kind,.string t.text,.int .i64 t.at_,.int .i64 t.end_,.slice A t.kids.length c] 24)=W4 at Uh⊢
 have hb4:Below W3.heap.size W3 W4:=by rw[<- lW];exact ag _ _
 have hs4:W4.heap.size=w1.heap.size+3:=by rw[<- lW];simp[hs3]
 have hM4:=(hM1.below hb3 hM1.lt).below hb4 (by omega);have hO4:=hO3.below hb4 hO3.lt;have dO:Below w1.heap.size w1 W4:=(hb2.trans (hb3.mono (by omega))).trans (hb4.mono (by omega));have hk4:=aK.below (hb1.trans (dO.mono (by omega))) (abE _) _ _ _ hk;clear hW2 hW3 lW hb2 hb3 hb4 hs2 hs3 hM1 hO3 hk yM c0 c1 c2 c3 c4;have h1:1<=6:=by omega
 refine wpIn_rangeFunc_ownH rfl h1 (gf:=199) (lb:=#[.pointer (some ⟨w1.heap.size+1+1,0,none⟩)]) rfl trivial (enters_of Tryz.func199 (by kernel_rfl) rfl)
  (Ig Fence.wide rfl (6 - 1) trivial trivial rfl (w1.heap.size+1+1) w.heap.size (w1.heap.size+3) 1000000000 (by omega) (abE _) W4 W4 t A c hm hk4 (gy.refl _ _ _) (by omega) Uh) gy.trans (fun W l o o' _ h hc _=>gy.putObj o' h hc) (Below.refl _ _) (fun _=>rfl)
  (fun pre W=>(ai W w1.heap.size 191 #[.map (some r)]/\ai W (w1.heap.size+1) 4 #[.bool (pre.all fun x=>eX x.t)])/\(Below w1.heap.size w1 W/\Below w.heap.size W4 W))
  (fun _ _ _=>False)
  (OwnFrom.and (OwnFrom.and (yC _ _ _ _) (yC _ _ _ _)) (OwnFrom.and (ownFrom_below (abE _) (by omega)) (ownFrom_below (by omega) (by omega))))
  (fun _ _ _ _ _ hs _ _=>hs)
  ⟨⟨hM4,hO4⟩,dO,Below.refl _ _⟩
  (fun x a' W=> ∃Bx,w1.heap.size+3<=Bx/\ai W Bx 24 #[.int .i64 x.t.kind,.string x.t.text,.int .i64 x.t.at_,.int .i64 x.t.end_,.slice x.A x.t.kids.length x.c] /\
   a'= { tmps:=#[.agg #[.int .i64 t.kind,.string t.text,.int .i64 t.at_,.int .i64 t.end_,.slice A t.kids.length c],.pointer (some ⟨w.heap.size,0,none⟩),.bool false,.pointer (some ⟨w1.heap.size,0,none⟩),.pointer (some ⟨w1.heap.size+1,0,none⟩),.pointer (some ⟨Bx,0,none⟩),undef,undef,.map (some r),.agg #[.int .i64 t.kind,.string t.text,.int .i64 t.at_,.int .i64 t.end_,.slice A t.kids.length c],
    .func (.func 199) #[] #[.pointer (some ⟨w1.heap.size+1+1,0,none⟩)],bD x.t x.A x.c,undef,undef,undef,undef,undef,undef,undef,undef,undef,undef,undef,undef,undef,undef,undef,undef,undef,undef,undef,undef,undef,undef,undef,undef,undef,undef,undef,undef,undef,undef,undef,undef,undef,undef,undef,undef,undef],defers:=[] })
  (fun x a' s X Y row hs hg hr=>by
   obtain⟨Bx,h2,h3,h4⟩:=hs
   exact⟨Bx,h2,yC (β:=Unit) W4.heap.size Bx _ (fun _=> #[.int .i64 x.t.kind,.string x.t.text,.int .i64 x.t.at_,.int .i64 x.t.end_,.slice x.A x.t.kids.length x.c]) () X Y row h3 hg hr,h4⟩) ?assign ?body ?done ?stop
 case assign=>
  rintro l pre x W K ⟨⟨hi1,hi2⟩,hi3,hi4⟩ hK;unfold bD at hK⊢;gi_wp2
  have FO:=hi4.size;exact hK _ _ ((KeepsOthers.alloc _ _).from _) (gy.of_below (ag _ _) rfl) ⟨⟨hi1.alloc _,hi2.alloc _⟩,hi3.trans ((ag _ _).mono hi3.size),hi4.trans ((ag _ _).mono (by omega))⟩ ⟨W.heap.size,by omega,ai.new W _ _,rfl⟩
 case body=>
  rintro l pre x a' W hl ⟨r0,hr0⟩ ⟨⟨hi1,hi2⟩,hi3,hi4⟩ ⟨Bx,hBx,bX,rfl⟩ hlt;have hxk:=x.kids;obtain⟨xk,Wd⟩:∃q,x.t.kind=q:=⟨_,rfl⟩
  obtain⟨xt,hxt0⟩:∃q,x.t.text=q:=⟨_,rfl⟩
  obtain⟨xa,hxa0⟩:∃q,x.t.at_=q:=⟨_,rfl⟩
  obtain⟨xz,hxz0⟩:∃q,x.t.end_=q:=⟨_,rfl⟩
  obtain⟨xn,VZ⟩:∃q,x.t.kids.length=q:=⟨_,rfl⟩
  unfold bD;rw[Wd,hxt0,hxa0,hxz0,VZ]at bX⊢;obtain⟨m,hmap,hm1,hm2⟩:=hsh;have hmW:=hmap.below hi3 hmap.lt;have hlk:=Bw (P:=Tryz.prog) (KK:=kC) (t:=191) (kt:=3) (et:=197) Tryz.underlying191 Tryz.underlying3 UO hmW xk;have d0:=bX.cell 0;have d1:=bX.cell 1;have d2:=bX.cell 2;have d3:=bX.cell 3;have d4:=bX.cell 4;have dl:=bX.lt;have o0:=hi2.cell 0;have of:=hi2.frozen 0;have ol:=hi2.lt;have m0:=hi1.cell 0;have ml:=hi1.lt;obtain⟨pb,hpb⟩:∃b,(pre.all fun x=>eX x.t)=b:=⟨_,rfl⟩
  rw[hpb]at o0
  have hend:∀W' b,aF (fun g=>g=w1.heap.size+1) W W'->ai W' (w1.heap.size+1) 4 #[.bool b]->b=(pb&&eX x.t) ->
   KeepsFrom W4.heap.size W W'/\gy w.heap.size (w1.heap.size+3) W W'/\(ai W' w1.heap.size 191 #[.map (some r)]/\ai W' (w1.heap.size+1) 4 #[.bool ((pre++[x]).all fun x=>eX x.t)])/\Below w1.heap.size w1 W'/\Below w.heap.size W4 W':=fun W' b h1 h2 h3=>by
   refine⟨⟨h1.size,fun g o hg ho _=>(h1.block g (abH.1 ho).1 (by omega)).trans ho⟩,⟨h1.size,fun g o hg ho _=>(h1.block g (abH.1 ho).1 (by omega)).trans ho⟩,⟨hi1.since h1 (by omega),?_⟩,hi3.trans (h1.toBelow hi3.size (by omega)),hi4.trans (h1.toBelow (abF (by omega) hi4.size) (by omega))⟩;rw[h3]at h2;simpa [hpb] using h2
  have HST:Hid (∀X u,aF (fun g=>g=w1.heap.size+1) W X->aF (fun g=>g=w1.heap.size+1) W (X.setCell ⟨w1.heap.size+1,0,none⟩ u)):=kH (fun X u h=>h.setCell (.inl rfl) u);have Nc:=kH (And.intro hi3 hi4);have aO:=kH hend;have HI2:=kH hi2
  have Uy:Hid (nD m xk=none->eX x.t=false):=kH (fun hl=>by
   unfold eX;rw[Wd]
   cases hsm:lK xk with
   | none=>rfl
   | some sh=>
    have:=hm2 xk (by rw[hsm];rfl);rw[hl]at this
    cases this)
  have HVS:Hid (∀v,nD m xk=some v->∃sh,lK xk=some sh/\ql w1 v sh):=kH (fun v hv=>hm1 _ (Yf hv));clear hend hi2 hm1 hm2 hi1 hi3 hi4 hmap hmW hM4 hO4 dO hk4 Uh
  cases hlo:nD m xk with
  | none=>
   rw[hlo]at hlk;simp only[Option.getD_none,Option.isSome_none]at hlk;have hlk1:(Instr.lookup 191 (.map (some r)) (.int .i64 xk) true).run Tryz.prog W= .ok (.tuple #[.agg #[.nilFunc,.slice none 0 0,.nilFunc,.int .i64 0],.bool false]) W:=hlk;have IY:=kH hlo;clear hlk hlo;cases pb<;>gi_wp2_with (refine⟨trivial,?_⟩;go_at_K)
   all_goals exact aO.out _ false ((HST.out _ _ (aF.refl _ _)).alloc _) (ai.alloc (by simpa using HI2.out.fM 0 (.bool false)) _) (by first|rfl|(rw[Uy.out IY.out];rfl))
  | some v=>
   rw[hlo]at hlk;simp only[Option.getD_some,Option.isSome_some]at hlk;have hlk1:(Instr.lookup 191 (.map (some r)) (.int .i64 xk) true).run Tryz.prog W= .ok (.tuple #[v,.bool true]) W:=hlk;obtain⟨sh,hsm,hsa⟩:=HVS.out v hlo;have aat:=hsa;obtain⟨tv,Ak,ck,lv,hv,htext,hrow,hlist⟩:=hsa;obtain⟨ft,ct,e1,hent,hcall⟩:=htext
   have hlv:lv= .nilFunc\/∃f c,lv= .func (Fn.func f) #[] c:=by
    cases hl:sh.list with
    | none=>rw[hl]at hlist;exact .inl hlist
    | some p=>rw[hl]at hlist;obtain⟨f,c,h,_⟩:=hlist;exact .inr ⟨f,c,h⟩
   subst e1;clear hlk hent hcall hrow hlist Uy HVS;cases pb
   case false=>
    clear aat;subst hv;have IY:=kH hlo;have pV:=kH hsm;clear hlo hsm;rcases hlv with rfl| ⟨f,c,rfl⟩
    all_goals gi_wp2_with (refine⟨trivial,?_⟩;go_at_K)
    all_goals exact aO.out _ false ((HST.out _ _ (aF.refl _ _)).alloc _) (ai.alloc (by simpa using HI2.out.fM 0 (.bool false)) _) rfl
   case true=>
    obtain⟨fb,NV⟩:∃b,nY sh x.t=b:=⟨_,rfl⟩
    have hlz:=kV x.t.kids;have hce:=um x.t;have hsm2:=x.small
    have hfit:∀Wa,Below W.heap.size W Wa->Calls Tryz.prog 143 #[v,.agg #[.int .i64 xk,.string xt,.int .i64 xa,.int .i64 xz,.slice x.A xn x.c]] Wa fun e W5=>(e= .returned (.bool fb)/\W5.cell? ⟨w1.heap.size+1,0,none⟩=some (.bool true)/\W5.frozen? ⟨w1.heap.size+1,0,none⟩=false/\w1.heap.size+1<W5.heap.size/\Bx<W5.heap.size /\
     W5.cell? ⟨Bx,0,none⟩=some (.int .i64 xk)/\W5.cell? ⟨Bx,4,none⟩=some (.slice x.A xn x.c)/\Hid (aF (fun g=>g=w1.heap.size+1) W W5/\ai W5 (w1.heap.size+1) 4 #[.bool true]/\Below w.heap.size W4 W5)):=fun Wa hWa=>by
     have hbW:=Nc.out.1.trans (hWa.mono Nc.out.1.size);have h:=aa7 sh v x.t x.A x.c Wa w.heap.size (abF (by omega) hbW.size) (aat.kc (KC.of_below hbW) hbW.size) (aK.below (Nc.out.2.trans (hWa.mono (abF (by omega) Nc.out.2.size))) (abE _) _ _ _ hxk) (by omega) (U8 hsm);unfold bD at h;rw[Wd,hxt0,hxa0,hxz0,VZ,NV]at h;refine h.mono ?_;rintro e W5 ⟨h1,h2⟩;have h3:Below W.heap.size W W5:=hWa.trans (h2.mono hWa.size);have h4:=HI2.out.below h3 HI2.out.lt;rw[hpb]at h4;have h5:=bX.below h3 bX.lt;exact⟨h1,h4.cell 0,h4.frozen 0,h4.lt,h5.lt,h5.cell 0,h5.cell 4,kH ⟨(aF.refl _ _).below h3,h4,Nc.out.2.trans (h3.mono (abF (by omega) Nc.out.2.size))⟩⟩
    have HFB:=kH NV;have IY:=kH hlo;have pV:=kH hsm;have HXK:=kH hxk;subst hv;have Lx:=hfit (W.alloc (.cells #[.func (Fn.func ft) #[] ct,.slice Ak sh.kids.length ck,lv,.int .i64 sh.most] 197)) (ag _ _);clear hlo hsm aat hlz hce hsm2 NV hfit hxk bX
    have hfn:eX x.t=(fb&&(if xk=4 then Ca x.t else true)):=by
     unfold eX;rw[Wd,pV.out];show(nY sh x.t&&_)=_;rw[HFB.out]
    have I5:=kH hfn;clear hfn;by_cases hsp:fb=true/\xk=4
    case neg=>
     have hres:fb=(true&&eX x.t):=by
      rw[I5.out];cases fb
      ·rfl
      ·have:xk≠4:=fun h=>hsp ⟨rfl,h⟩
       simp[this]
     have aM:=kH hres;clear hres;rcases hlv with rfl| ⟨f,c,rfl⟩
     all_goals gi_wp2_with (refine⟨trivial,?_⟩;gi_at_call 143;refine(CallsIn.inRound l (callsIn_wide.2 Lx)).mono ?_;clear Lx;rintro e W5 ⟨rfl,o1,of1,ol1,bl1,e0,e4,H5⟩)
     all_goals first
      | exact aO.out _ _ (HST.out _ _ H5.out.1) (by simpa using H5.out.2.1.fM 0 _) aM.out
      | (exfalso;simp_all;done)
    case pos=>
     obtain⟨rfl,rfl⟩:=hsp
     obtain⟨y,b,off,hA,hbl,hcs,hty⟩:∃y b off,x.A=some ⟨b,off,none⟩/\b<w.heap.size/\W4.cell? ⟨b,off+1,none⟩=some (.string y)/\xn=1/\Ca x.t=dJ y:=by
      have hxk:=HXK.out;have NV:=HFB.out
      have hl1:xn=1:=by
       have h1:some ⟨cO,[bR [9]],none,0⟩=some sh:=pV.out;cases h1
       unfold nY qB at NV;simp only[abG,decide_eq_true_eq]at NV;have:=NV.1.2;simp at this;omega
      unfold Ca
      cases hks:x.t.kids with
      | nil=>rw[hks]at VZ;simp at VZ;omega
      | cons kt ks=>
       rw[hks]at hxk;obtain⟨⟨b,off,vals,h1,h2,h3,h4⟩,-⟩:=hxk;obtain⟨A',c',h5,-⟩:=h4.five;subst h5;exact⟨kt.text,b,off,h1,h2,by simpa using h3 1 _ rfl,hl1,rfl⟩
     obtain⟨hn1,hty⟩:=hty;have HFN2:Hid (eX x.t=dJ y):=kH (by rw[I5.out];simpa using hty);have HC:=kH hcs;clear hcs hty;rw[hA,hn1]at Lx
     have hfit3:=Lx.mono (R':=fun e W5=>e= .returned (.bool true)/\W5.cell? ⟨b,off+1,none⟩=some (.string y)/\b<W5.heap.size/\W5.cell? ⟨w1.heap.size+1,0,none⟩=some (.bool true)/\W5.frozen? ⟨w1.heap.size+1,0,none⟩=false/\w1.heap.size+1<W5.heap.size/\Bx<W5.heap.size /\
      W5.cell? ⟨Bx,0,none⟩=some (.int .i64 4)/\W5.cell? ⟨Bx,4,none⟩=some (.slice (some ⟨b,off,none⟩) 1 x.c)/\Hid (aF (fun g=>g=w1.heap.size+1) W W5/\ai W5 (w1.heap.size+1) 4 #[.bool true]/\Below w.heap.size W4 W5))
      (fun e W5 ⟨h1,h2,h3,h4,h5,h6,h7,h8⟩=>⟨h1,(h8.out.2.2.cell (p:=⟨b,_,none⟩) hbl).trans HC.out,by omega,h2,h3,h4,h5,h6,h7,h8⟩)
     clear Lx;rcases hlv with rfl| ⟨f,c,rfl⟩
     all_goals gi_wp2_with (refine⟨trivial,?_⟩;gi_at_call 143;refine(CallsIn.inRound l (callsIn_wide.2 hfit3)).mono ?_;clear hfit3;rintro e W5 ⟨rfl,k1,kl,o1,of1,ol1,bl1,e0,e4,H5⟩)
     all_goals
      rename_i hyi
      exact aO.out _ _ (HST.out _ _ (HST.out _ _ H5.out.1)) (by simpa using(H5.out.2.1.fM 0 (.bool true)).fM 0 _) (by rw[HFN2.out,OQ];simp[hyi])
 case done=>
  rintro D ys W hD hys ⟨⟨hi1,hi2⟩,hi3,hi4⟩ hK;have c0:=hi2.cell 0;have hK':=kH hK;have HF:=kH (hb1.trans (hi3.mono (by omega)));have hD2:w.heap.size<=D:=by omega
  have hall:(ys.all fun x=>eX x.t)=fJ t:=by
   unfold fJ;rw[<- hys,List.all_map];rfl
  rw[hall]at c0;clear hi1 hi2 hi3 hi4 hK hys hM4 hO4 dO hk4 Uh hsh hb1;gi_wp2
  refine⟨by simp,.inl ⟨_,_,rfl,run_takeDeferred hK'.out,?_⟩⟩;refine⟨_,results_tmp rfl _ _ _,?_⟩;exact⟨rfl,HF.out.trans (belowK_b (w:=w) (abE _) W D _ _ hD2 hK'.out rfl rfl)⟩
 case stop=>
  rintro D c pre W _ _ h _;exact h.elim
theorem Ot(t:ae)(A:Option Addr)(c:Nat)(w:World)(hm:au t<=1000000000)(hk:aK w w.heap.size A 0 t.kids):
 Calls Tryz.prog 40 #[bD t A c] w fun e w'=>e= .returned (.bool (iJ t))/\Below w.heap.size w w':=by
 obtain⟨q,hq⟩:∃q,iJ t=q:=⟨_,rfl⟩
 have hsh:=U7 t A c (w.alloc (.cells #[.int .i64 t.kind,.string t.text,.int .i64 t.at_,.int .i64 t.end_,.slice A t.kids.length c] 24)) hm (aK.mono (by simp) _ _ _ (aK.below (ag _ _) (abE _) _ _ _ hk));have hb0:=ag w (.cells #[.int .i64 t.kind,.string t.text,.int .i64 t.at_,.int .i64 t.end_,.slice A t.kids.length c] 24);have Co:=hsh.mono (R':=fun e w'=>e= .returned (.bool (fJ t))/\Below w.heap.size w w') (fun e w' ⟨h1,h2⟩=>⟨h1,hb0.trans (h2.mono (by simp))⟩);unfold bD at Co⊢;rw[hq];unfold iJ at hq;obtain⟨k,hk0⟩:∃q,t.kind=q:=⟨_,rfl⟩
 obtain⟨x,hx0⟩:∃q,t.text=q:=⟨_,rfl⟩
 obtain⟨a,ha0⟩:∃q,t.at_=q:=⟨_,rfl⟩
 obtain⟨z,hz0⟩:∃q,t.end_=q:=⟨_,rfl⟩
 obtain⟨n,hn0⟩:∃q,t.kids.length=q:=⟨_,rfl⟩
 obtain⟨sb,hsb⟩:∃q,fJ t=q:=⟨_,rfl⟩
 rw[hk0,hx0,ha0,hz0,hn0]at Co hb0⊢;rw[hsb]at Co hq;rw[hk0]at hq;have HB0:=kH hb0;have HQ:=kH hq;clear hk hsh hk0 hx0 ha0 hz0 hn0 hsb hq hm hb0;by_cases h2:k=2
 ·subst h2
  go_enter Tryz.func40,Tryz.ntmps40
  go_wp2_with fail
  refine Co.mono ?_;rintro e w2 ⟨rfl,hb⟩;go_wp2_with fail
  go_ret
  exact⟨Ah (by rw[<- HQ.out];simp),hb⟩
 ·clear Co
  go_enter Tryz.func40,Tryz.ntmps40
  go_wp2_with fail
  go_ret
  exact⟨Ah (by rw[<- HQ.out];simp[h2]),HB0.out⟩
end Go.Proofs.YtoepemlnlpamlaaGreat
namespace Go.Proofs.YtoepemlnlpamlaaGreat
theorem nG(sh:xJ):∀(ts:List ae) (i:Nat),df sh i ts=true->∀c∈ts,∃p,(sh.list=some p\/p∈sh.kids)/\p c.kind=true
 | [],_,_,c,hc=>by cases hc
 | t::ts,i,h,c,hc=>by
  rw[df,abG]at h;rcases List.mem_cons.1 hc with rfl|hc
  ·have h1:=h.1
   unfold ko at h1
   cases hl:sh.list with
   | some p=>rw[hl]at h1;exact⟨p,.inl rfl,h1⟩
   | none=>
    rw[hl]at h1
    cases hp:sh.kids[i]? with
    | none=>rw[hp]at h1;cases h1
    | some p=>rw[hp]at h1;exact⟨p,.inr (abQ hp),h1⟩
  ·exact nG sh ts (i+1) h.2 c hc
def zN(p:Int->Bool):Prop:=∀k,p k=true->k≠2/\k≠3/\k≠4/\k≠5
theorem DX:zN di:=fun k h=>by unfold di at h;simp only[Bool.or_eq_true,decide_eq_true_eq]at h;omega
theorem VU:zN kG:=fun k h=>by unfold kG at h;simp only[abG,decide_eq_true_eq]at h;omega
theorem sH:zN aP:=fun k h=>by unfold aP at h;simp only[abG,decide_eq_true_eq]at h;omega
theorem Cn:zN jh:=fun k h=>by unfold jh at h;simp only[Bool.or_eq_true,decide_eq_true_eq]at h;omega
theorem qz{p:Int->Bool}(h:zN p):zN (gG p):=fun k hk=>by
 unfold gG at hk;simp only[Bool.or_eq_true,decide_eq_true_eq]at hk;rcases hk with hk|hk
 ·omega
 ·exact h k hk
theorem tX{l:List Int}(h:∀y∈l,y≠2/\y≠3/\y≠4/\y≠5):zN (bR l):=fun k hk=>by
 unfold bR at hk;rw[List.any_eq_true]at hk;obtain⟨y,hy,hk⟩:=hk;rw[decide_eq_true_eq]at hk;subst hk;exact h _ hy
theorem Ce{k:Int}{sh:xJ}(h:lK k=some sh)(h2:k≠2)(h3:k≠3):(∀p,sh.list=some p->zN p)/\∀p∈sh.kids,zN p:=by
 cases k with
 | negSucc n=>cases h
 | ofNat n=>
  have h5:nM n=some sh:=h;have n2:n≠2:=fun e=>h2 (by rw[e];rfl)
  have n3:n≠3:=fun e=>h3 (by rw[e];rfl)
  clear h h2 h3;unfold nM at h5;split at h5<;>first|(cases h5;done)|(exact absurd rfl n2)|(exact absurd rfl n3)|skip
  all_goals
   cases h5
   refine⟨?_,?_⟩
   ·intro p hp
    first
     | (cases hp;done)
     | (cases hp;first|exact VU|exact sH|exact tX (by decide))
   ·intro p hp
    first
     | (cases hp;done)
     | (simp only[List.mem_cons,List.not_mem_nil,or_false]at hp
        first
         | (rcases hp with rfl|rfl|rfl<;>first|exact sH|exact Cn|exact tX (by decide)|exact qz DX|exact qz sH|exact qz (tX (by decide)))
         | (rcases hp with rfl|rfl<;>first|exact sH|exact Cn|exact tX (by decide)|exact qz DX|exact qz sH|exact qz (tX (by decide)))
         | (subst hp;first|exact sH|exact Cn|exact tX (by decide)|exact qz DX|exact qz sH|exact qz (tX (by decide))))
theorem jL{t:ae}(h:eX t=true):∃sh,lK t.kind=some sh/\nY sh t=true:=by
 unfold eX at h
 cases hs:lK t.kind with
 | none=>rw[hs]at h;cases h
 | some sh=>
  rw[hs]at h;rw[abG]at h;exact⟨sh,rfl,h.1⟩
theorem mD{sh:xJ}{t:ae}(h:nY sh t=true):sh.text t.text=true/\qB sh t.kids.length=true/\df sh 0 t.kids=true:=by
 unfold nY at h;rw[abG,abG]at h;exact⟨h.1.1,h.1.2,h.2⟩
theorem jV(t:ae):fJ t=(eX t&&(dN t.kids).all eX):=by
 unfold fJ;rw[BD,List.all_cons]
mutual
theorem VY:∀(t:ae),fJ t=true->(t.kind≠2/\t.kind≠3/\t.kind≠4/\t.kind≠5)->Dn t=true
 | .node k x a e kids,h,hk=>by
  rw[jV,abG]at h;obtain⟨sh,hs,hf⟩:=jL h.1;obtain⟨-,hc,oG⟩:=mD hf;have hk':k≠2/\k≠3/\k≠4/\k≠5:=hk;have hs':lK k=some sh:=hs;obtain⟨hi1,hi2⟩:=Ce hs' hk'.1 hk'.2.1;rw[Dn];simp only[abG,Bool.or_eq_true,decide_eq_true_eq];refine⟨⟨⟨hk',?_⟩,?_⟩,yz kids h.2 fun c hc=>?_⟩
  ·by_cases h12:k=12
   ·subst h12
    right
    have:some _=some sh:=hs';cases this
    simpa [qB,ae.kids] using hc
   ·exact .inl h12
  ·by_cases h16:k=16
   ·subst h16
    right
    have:some _=some sh:=hs';cases this
    simpa [qB,ae.kids] using hc
   ·exact .inl h16
  ·obtain⟨p,hp,hpk⟩:=nG sh kids 0 oG c hc
   rcases hp with hp|hp
   ·exact hi1 p hp _ hpk
   ·exact hi2 p hp _ hpk
theorem yz:∀(ts:List ae),(dN ts).all eX=true->(∀c∈ts,c.kind≠2/\c.kind≠3/\c.kind≠4/\c.kind≠5)->lV ts=true
 | [],_,_=>by rw[lV]
 | t::ts,h,hc=>by
  rw[dN,List.all_append,abG]at h;rw[lV,abG];exact⟨VY t h.1 (hc t (by simp)),yz ts h.2 fun c hx=>hc c (by simp[hx])⟩
end
theorem VK{ts:List ae}(h:(dN ts).all eX=true):∀c∈ts,fJ c=true:=by
 induction ts with
 | nil=>intro c hc;cases hc
 | cons t ts ih=>
  rw[dN,List.all_append,abG]at h;intro c hc;rcases List.mem_cons.1 hc with rfl|hc
  ·exact h.1
  ·exact ih h.2 c hc
theorem jW{t:ae}(h:fJ t=true):∀c∈t.kids,fJ c=true:=by
 rw[jV,abG]at h;exact VK h.2
theorem SH(t:ae)(h:fJ t=true)(hk:t.kind=3\/t.kind=5):uu t=true:=by
 have nH:=jW h;have hn:=h;rw[jV,abG]at hn;obtain⟨sh,hs,hf⟩:=jL hn.1;obtain⟨-,hc,oG⟩:=mD hf;have hmem:=nG sh t.kids 0 oG;obtain⟨k,x,a,e,kids⟩:=t;rw[uu,Bool.or_eq_true,abG,abG,abG,decide_eq_true_eq,decide_eq_true_eq,decide_eq_true_eq];rcases hk with hk|hk
 ·left
  have hk':k=3:=hk;subst hk';have he:some _=some sh:=hs;cases he
  refine⟨rfl,List.all_eq_true.2 fun f hf=>?_⟩;rw[abG,decide_eq_true_eq]
  have Ua:f.kind=4:=by
   obtain⟨p,hp,hpk⟩:=hmem f hf;rcases hp with hp|hp
   ·cases hp
    simpa [bR] using hpk
   ·cases hp
  refine⟨Ua,?_⟩;have hsf:=nH f hf;have hsk:=jW hsf;rw[jV,abG]at hsf;obtain⟨sh,hs,FT⟩:=jL hsf.1;obtain⟨-,hc,oG⟩:=mD FT;refine yz _ hsf.2 fun c hc=>?_
  rw[Ua]at hs;obtain⟨h1,h2⟩:=Ce hs (by decide) (by decide);obtain⟨p,hp,hpk⟩:=nG sh f.kids 0 oG c hc;rcases hp with hp|hp
  ·exact h1 p hp _ hpk
  ·exact h2 p hp _ hpk
 ·right
  have hk':k=5:=hk;subst hk';have he:some _=some sh:=hs;obtain⟨h1,h2⟩:=Ce hs (show(5:Int)≠2 by decide) (show(5:Int)≠3 by decide);cases he
  refine⟨⟨rfl,by simpa [qB,ae.kids] using hc⟩,yz _ hn.2 fun c hc=>?_⟩;obtain⟨p,hp,hpk⟩:=hmem c hc;rcases hp with hp|hp
  ·exact h1 p hp _ hpk
  ·exact h2 p hp _ hpk
theorem KA{t:ae}(h:iJ t=true):t.kind=2/\∀k∈t.kids,uu k=true:=by
 unfold iJ at h;rw[abG,decide_eq_true_eq]at h;refine⟨h.1,fun k hk=>?_⟩;have hsh:=jW h.2 k hk;have hn:=h.2;rw[jV,abG]at hn;obtain⟨sh,hs,hf⟩:=jL hn.1;obtain⟨-,hc,oG⟩:=mD hf;obtain⟨p,hp,hpk⟩:=nG sh t.kids 0 oG k hk;rw[h.1]at hs;have he:some _=some sh:=hs;cases he
 rcases hp with hp|hp
 ·cases hp
  have:k.kind=3\/k.kind=5:=by simpa [bR] using hpk
  exact SH k hsh this
 ·cases hp
mutual
def ES:ae->Bool
 | .node k _ _ _ kids=>(decide (k<2) || decide (8<k))&&(decide (k≠12) || decide (kids.length=2))&&(decide (k≠16) || decide (kids.length=3))&&(decide (k=11) || kids.all fun c=>decide (c.kind≠12))&&tH kids
def tH:List ae->Bool
 | []=>true
 | t::ts=>ES t&&tH ts
end
theorem BH{k:Int}{x:ByteArray}{a e:Int}{kids:List ae}(h:ES (.node k x a e kids)=true):
 (k<2\/8<k)/\(k=12->kids.length=2)/\(k=16->kids.length=3)/\(k≠11->∀c∈kids,c.kind≠12)/\tH kids=true:=by
 rw[ES]at h;simp only[abG,Bool.or_eq_true,decide_eq_true_eq,List.all_eq_true]at h;obtain⟨⟨⟨⟨h1,h2⟩,h3⟩,h4⟩,h5⟩:=h;exact⟨h1,fun e=>h2.resolve_left (by simp[e]),fun e=>h3.resolve_left (by simp[e]),fun e=>h4.resolve_left e,h5⟩
theorem R7{ts:List ae}:tH ts=true->∀t∈ts,ES t=true:=by
 induction ts with
 | nil=>intro _ t h;cases h
 | cons a ts ih=>
  intro h t ht;rw[tH,abG]at h;rcases List.mem_cons.1 ht with rfl|ht
  ·exact h.1
  ·exact ih h.2 t ht
theorem Xb(s:aQ):kr s []=s:=by cases s<;>rfl
theorem Tt(s:aQ)(l:kP):(kr s l).tail=s.tail:=by cases s<;>rfl
def wF(G:bf)(t:ae)(s:aQ)(n:Nat):kP:=if (eP s t.text).isSome || (aT G.globals t.text).isSome then [] else [(t.text,(n:Int))]
theorem zY(G:bf)(r:RS)(c:Int)(n:Nat)(t:ae)(s:aQ):(aD G r c n t ([]::s)).2.headD []=wF G t s n:=by
 unfold aD wF;have h:eP ([]::s) t.text=eP s t.text:=rfl;rw[h];split<;>rfl
mutual
theorem Hr(G:bf):∀(t:ae) (i:Bool) (s:aQ) (r:RS),ES t=true->(aJ G i t s r).2=if t.kind=12 then kr s (wF G t s r.next) else s
 | .node k x a e kids,i,s,r,hin=>by
  obtain⟨hk,h12,h16,hno,hks⟩:=(BH hin)
  have n3:k≠3:=by omega
  have n4:k≠4:=by omega
  have n5:k≠5:=by omega
  have n78:¬(k=7\/k=8):=by omega
  rw[dh];rw[if_neg n3,if_neg n4,if_neg n5,if_neg n78];show _=if k=12 then _ else _
  by_cases h11:k=11
  ·rw[if_pos h11,if_neg (show k≠12 by omega)]
   exact zC G kids i 0 kids.length ([]::s) _ hks
  rw[if_neg h11];by_cases pO:k=12
  ·rw[if_pos pO,if_pos pO]
   rw[jM G kids i 0 2 s _ hks (hno h11),zY]
  rw[if_neg pO,if_neg pO];by_cases pM:k=16
  ·rw[if_pos pM]
   show(ah G i kids 2 1 _ _).2.tail=s;rw[jM G kids i 2 1 _ _ hks (hno h11),jM G kids i 0 2 s _ hks (hno h11)];rfl
  rw[if_neg pM];exact jM G kids i 0 kids.length s _ hks (hno h11)
theorem jM(G:bf):∀(ts:List ae) (i:Bool) (f n:Nat) (s:aQ) (r:RS),tH ts=true->(∀c∈ts,c.kind≠12)->(ah G i ts f n s r).2=s
 | [],_,_,_,_,_,_,_=>by rw[ah]
 | t::ts,i,f+1,n,s,r,hin,hno=>by
  rw[tH,abG]at hin;rw[ah]
  exact jM G ts i f n s r hin.2 fun c hc=>hno c (by simp[hc])
 | t::ts,i,0,0,s,r,_,_=>by rw[ah]
 | t::ts,i,0,n+1,s,r,hin,hno=>by
  rw[tH,abG]at hin;rw[ah];rw[jM G ts i 0 n _ _ hin.2 fun c hc=>hno c (by simp[hc]),Hr G t i s r hin.1,if_neg (hno t (by simp))]
theorem zC(G:bf):∀(ts:List ae) (i:Bool) (f n:Nat) (s:aQ) (r:RS),tH ts=true->(ah G i ts f n s r).2.tail=s.tail
 | [],_,_,_,_,_,_=>by rw[ah]
 | t::ts,i,f+1,n,s,r,hin=>by
  rw[tH,abG]at hin;rw[ah];exact zC G ts i f n s r hin.2
 | t::ts,i,0,0,s,r,_=>by rw[ah]
 | t::ts,i,0,n+1,s,r,hin=>by
  rw[tH,abG]at hin;rw[ah];rw[zC G ts i 0 n _ _ hin.2,Hr G t i s r hin.1];split
  ·exact Tt _ _
  ·rfl
end
theorem Ld{K V:Type}[DecidableEq K]:∀{l:List (K×V)}{k:K},bG l k=none->k ∉ l.map (·.1)
 | [],_,_=>by simp
 | x::l,k,h=>by
  rw[bG]at h;by_cases hk:k=x.1
  ·rw[if_pos hk]at h;cases h
  ·rw[if_neg hk]at h
   rw[List.map_cons,List.mem_cons];exact fun h1=>h1.elim hk (Ld h)
theorem LP:∀{s:aQ}{x:ByteArray},eP s x=none->x ∉ s.flatten.map (·.1)
 | [],_,_=>by simp
 | l::s,x,h=>by
  rw[eP]at h
  cases hl:aT l x with
  | some k=>rw[hl]at h;cases h
  | none=>
   rw[hl]at h;have h1:=Ld (show bG l x=none from hl);have h2:=LP (show eP s x=none from h);rw[List.flatten_cons,List.map_append,List.mem_append];exact fun h3=>h3.elim h1 h2
theorem PR{K V:Type}[DecidableEq K]:∀{l:List (K×V)}{k:K}(v:V),k ∉ l.map (·.1)->cZ l k v=l++[(k,v)]
 | [],_,_,_=>rfl
 | x::l,k,v,h=>by
  rw[List.map_cons,List.mem_cons]at h;have hk:k≠x.1:=fun e=>h (.inl e)
  rw[cZ,if_neg hk,PR v fun h1=>h (.inr h1)];rfl
theorem MQ(r:RS)(i:Bool)(v:List Int):qc r (aC r i v):=rO.none_ r i v
theorem MP(G:bf)(r:RS)(i:Bool)(v:List Int)(c:Int)(t:ae)(s:aQ):qc r (aD G (aC r i v) c r.next t s).1:=rO.nL G r i v c t s
theorem CW(r:RS)(i:Bool)(v:List Int)(t:ae)(tq:Option Int):qc r (gT (aC r i v) r.next t tq):=rO.DC r i v t tq
theorem PZ(G:bf)(s:aQ)(r:RS)(i:Bool)(v:List Int)(t:ae):qc r (iN G s r (aC r i v) t):=by
 unfold iN;split
 ·exact CW _ _ _ _ _
 split
 ·exact CW _ _ _ _ _
 split
 ·exact CW _ _ _ _ _
 split
 ·exact CW _ _ _ _ _
 split
 ·exact CW _ _ _ _ _
 ·exact MQ _ _ _
theorem Bu(G:bf)(s:aQ)(r:RS)(i:Bool)(v:List Int)(t:ae):(iN G s r (aC r i v) t).next=r.next+1:=by
 have hu:∀tq,(gT (aC r i v) r.next t tq).next=r.next+1:=fun tq=>by cases tq<;>rfl
 unfold iN;split
 ·exact hu _
 split
 ·exact hu _
 split
 ·exact hu _
 split
 ·exact hu _
 split
 ·exact hu _
 ·rfl
theorem visit_B(G:bf)(k:Int)(x:ByteArray)(a e:Int)(kids:List ae)(i:Bool)(s:aQ)(r:RS)(hin:ES (.node k x a e kids)=true):
 aJ G i (.node k x a e kids) s r=
  if k=11 then((ah G i kids 0 kids.length ([]::s) (aC r i (aj (ak s)))).1,s)
  else if k=12 then((ah G i kids 0 kids.length s (aD G (aC r i (aj (ak s))) 4 r.next (.node k x a e kids) ([]::s)).1).1,kr s (wF G (.node k x a e kids) s r.next))
  else if k=16 then((ah G i kids 2 1 (wF G (.node k x a e kids) s r.next::s) (ah G i kids 0 2 s (aD G (aC r i (aj (ak s))) 5 r.next (.node k x a e kids) ([]::s)).1).1).1,s)
  else((ah G i kids 0 kids.length s (iN G s r (aC r i (aj (ak s))) (.node k x a e kids))).1,s):=by
 obtain⟨hk,h12,h16,hno,hks⟩:=(BH hin)
 have n3:k≠3:=by omega
 have n4:k≠4:=by omega
 have n5:k≠5:=by omega
 have n78:¬(k=7\/k=8):=by omega
 rw[dh];rw[if_neg n3,if_neg n4,if_neg n5,if_neg n78];by_cases h11:k=11
 ·rw[if_pos h11,if_pos h11]
  refine Prod.ext rfl ?_;exact zC G kids i 0 kids.length ([]::s) _ hks
 rw[if_neg h11,if_neg h11];by_cases pO:k=12
 ·rw[if_pos pO,if_pos pO,h12 pO]
  refine Prod.ext rfl ?_;show kr (ah G i kids 0 2 s _).2 _=_;rw[jM G kids i 0 2 s _ hks (hno h11),zY]
 rw[if_neg pO,if_neg pO];by_cases pM:k=16
 ·rw[if_pos pM,if_pos pM]
  rw[jM G kids i 0 2 s _ hks (hno h11),zY];refine Prod.ext rfl ?_;show(ah G i kids 2 1 _ _).2.tail=s;rw[jM G kids i 2 1 _ _ hks (hno h11)];rfl
 rw[if_neg pM,if_neg pM];refine Prod.ext rfl ?_;exact jM G kids i 0 kids.length s _ hks (hno h11)
def P8(p:Int->Bool):Prop:=∀k,p k=true->(k<2\/8<k)
def mO(p:Int->Bool):Prop:=∀k,p k=true->k≠12
theorem MS:P8 di:=fun k h=>by unfold di at h;simp only[Bool.or_eq_true,decide_eq_true_eq]at h;omega
theorem p8_stmt:P8 kG:=fun k h=>by unfold kG at h;simp only[abG,decide_eq_true_eq]at h;omega
theorem xQ:P8 aP:=fun k h=>by unfold aP at h;simp only[abG,decide_eq_true_eq]at h;omega
theorem JC:P8 jh:=fun k h=>by unfold jh at h;simp only[Bool.or_eq_true,decide_eq_true_eq]at h;omega
theorem wI{p:Int->Bool}(h:P8 p):P8 (gG p):=fun k hk=>by
 unfold gG at hk;simp only[Bool.or_eq_true,decide_eq_true_eq]at hk;rcases hk with hk|hk
 ·omega
 ·exact h k hk
theorem CY{l:List Int}(h:∀y∈l,y<2\/8<y):P8 (bR l):=fun k hk=>by
 unfold bR at hk;rw[List.any_eq_true]at hk;obtain⟨y,hy,hk⟩:=hk;rw[decide_eq_true_eq]at hk;subst hk;exact h _ hy
theorem JD:mO di:=fun k h=>by unfold di at h;simp only[Bool.or_eq_true,decide_eq_true_eq]at h;omega
theorem vE:mO aP:=fun k h=>by unfold aP at h;simp only[abG,decide_eq_true_eq]at h;omega
theorem Fy:mO jh:=fun k h=>by unfold jh at h;simp only[Bool.or_eq_true,decide_eq_true_eq]at h;omega
theorem uE{p:Int->Bool}(h:mO p):mO (gG p):=fun k hk=>by
 unfold gG at hk;simp only[Bool.or_eq_true,decide_eq_true_eq]at hk;rcases hk with hk|hk
 ·omega
 ·exact h k hk
theorem zQ{l:List Int}(h:∀y∈l,y≠12):mO (bR l):=fun k hk=>by
 unfold bR at hk;rw[List.any_eq_true]at hk;obtain⟨y,hy,hk⟩:=hk;rw[decide_eq_true_eq]at hk;subst hk;exact h _ hy
theorem XM{k:Int}{sh:xJ}(h:lK k=some sh)(h2:k<2\/8<k):(∀p,sh.list=some p->P8 p/\(k≠11->mO p))/\∀p∈sh.kids,P8 p/\mO p:=by
 cases k with
 | negSucc n=>cases h
 | ofNat n=>
  have h5:nM n=some sh:=h
  have n2:n<2\/8<n:=by
   rcases h2 with h2|h2
   ·have:(n:Int)<2:=h2
    omega
   ·have:(8:Int)<n:=h2
    omega
  have e11:(Int.ofNat n≠11)->n≠11:=fun h e=>h (by rw[e];rfl)
  clear h h2;unfold nM at h5;split at h5<;>first|(cases h5;done)|(exfalso;omega)|skip
  all_goals
   cases h5
   refine⟨?_,?_⟩
   ·intro p hp
    first
     | (cases hp;done)
     | (cases hp;first|exact⟨xQ,fun _=>vE⟩|exact⟨p8_stmt,fun h=>absurd rfl (e11 h)⟩)
   ·intro p hp
    first
     | (cases hp;done)
     | (simp only[List.mem_cons,List.not_mem_nil,or_false]at hp
        first
         | (rcases hp with rfl|rfl|rfl<;>first|exact⟨xQ,vE⟩|exact⟨JC,Fy⟩|exact⟨CY (by decide),zQ (by decide)⟩|exact⟨wI MS,uE JD⟩|exact⟨wI xQ,uE vE⟩|exact⟨wI (CY (by decide)),uE (zQ (by decide))⟩)
         | (rcases hp with rfl|rfl<;>first|exact⟨xQ,vE⟩|exact⟨JC,Fy⟩|exact⟨CY (by decide),zQ (by decide)⟩|exact⟨wI MS,uE JD⟩|exact⟨wI xQ,uE vE⟩|exact⟨wI (CY (by decide)),uE (zQ (by decide))⟩)
         | (subst hp;first|exact⟨xQ,vE⟩|exact⟨JC,Fy⟩|exact⟨CY (by decide),zQ (by decide)⟩|exact⟨wI MS,uE JD⟩|exact⟨wI xQ,uE vE⟩|exact⟨wI (CY (by decide)),uE (zQ (by decide))⟩))
mutual
theorem Ll:∀(t:ae),fJ t=true->(t.kind<2\/8<t.kind)->ES t=true
 | .node k x a e kids,h,hk=>by
  rw[jV,abG]at h;obtain⟨sh,hs,hf⟩:=jL h.1;obtain⟨-,hc,oG⟩:=mD hf;have hk':k<2\/8<k:=hk;have hs':lK k=some sh:=hs;obtain⟨hi1,hi2⟩:=XM hs' hk';have hmem:=nG sh kids 0 oG;rw[ES];simp only[abG,Bool.or_eq_true,decide_eq_true_eq,List.all_eq_true];refine⟨⟨⟨⟨hk',?_⟩,?_⟩,?_⟩,Ir kids h.2 fun c hc=>?_⟩
  ·by_cases h12:k=12
   ·subst h12
    right
    have:some _=some sh:=hs';cases this
    simpa [qB,ae.kids] using hc
   ·exact .inl h12
  ·by_cases h16:k=16
   ·subst h16
    right
    have:some _=some sh:=hs';cases this
    simpa [qB,ae.kids] using hc
   ·exact .inl h16
  ·by_cases h11:k=11
   ·exact .inl h11
   ·right
    intro c hc;obtain⟨p,hp,hpk⟩:=hmem c hc;rcases hp with hp|hp
    ·exact(hi1 p hp).2 h11 _ hpk
    ·exact(hi2 p hp).2 _ hpk
  ·obtain⟨p,hp,hpk⟩:=hmem c hc
   rcases hp with hp|hp
   ·exact(hi1 p hp).1 _ hpk
   ·exact(hi2 p hp).1 _ hpk
theorem Ir:∀(ts:List ae),(dN ts).all eX=true->(∀c∈ts,c.kind<2\/8<c.kind)->tH ts=true
 | [],_,_=>by rw[tH]
 | t::ts,h,hc=>by
  rw[dN,List.all_append,abG]at h;rw[tH,abG];exact⟨Ll t h.1 (hc t (by simp)),Ir ts h.2 fun c hx=>hc c (by simp[hx])⟩
end
end Go.Proofs.YtoepemlnlpamlaaGreat
