/- The law NamesVisibleAt holds where what it reads is of bulk at most 1048576: it returns true, and its arguments read as before. Part 21: Shaped Ord4 At2 At3 At4. -/
import Derived.Test.YtoepemlnlpamlaaGreatVisa02
import Derived.Test.YtoepemlnlpamlaaGreatVisa18
import Derived.Test.YtoepemlnlpamlaaGreatVisa20
set_option maxRecDepth 100000
set_option maxHeartbeats 4000000
namespace Go.Proofs.YtoepemlnlpamlaaGreat
open Go.RowKit Go.Shelf
attribute [local go_sem] Oper.semAt_some
def CX(t:ae):Bool:=match t.kids with|k::_=>dM k.text| []=>false
def fC(t:ae):Bool:=match mf t.kind with|none=>false|some sh=>oJ sh t&&(if t.kind=4 then CX t else true)
def fP(t:ae):Bool:=(bT t).all fC
def jC(t:ae):Bool:=decide (t.kind=2)&&fP t
theorem QB(y:ByteArray)(l:Array UInt8):(y.toList==l.toList)=decide (y=⟨l⟩):=by
 rw[ByteArray.toList_eq];obtain⟨d⟩:=y;rw[Bool.eq_iff_iff];simp
theorem PZ(y:ByteArray):dM y=(y.toList==[105,110,116] || y.toList==[98,111,111,108]):=by
 unfold dM;rw[<- QB,<- QB]
theorem Wn(w:World):(zeroValue 197).run Tryz.prog w= .ok (.agg #[.nilFunc,.slice none 0 0,.nilFunc,.int .i64 0]) w:=by go_simp
theorem WI{k:Int}{B:yx}(h:mf k=some B):B.kids.length<=10:=by
 cases k with
 | negSucc n=>cases h
 | ofNat n=>
  have A:oh n=some B:=h;unfold oh at A;split at A<;>first|(cases A;done)|(cases A;simp;done)
theorem WH(t:ae)(A:Option Addr)(c:Nat)(w:World)(hm:ai t<=1000000000)(hk:aJ w w.heap.size A 0 t.kids):
 Calls Tryz.prog 76 #[aZ t A c] w fun e w'=>e= .returned (.bool (fP t))/\Below w.heap.size w w':=by
 refine(callsIn_wide (n:=6)).1 ?_;have zw:=fun w'=>OD t A c w'
 unfold aZ at zw⊢;refine callsIn_of_wp_marks Tryz.func76 rfl trivial ?_ rfl;simp only[Tryz.ntmps76,List.size_toArray,aao,List.length_nil,Nat.reduceAdd,Nat.reduceSub,Array.replicate_succ,Array.replicate_zero,List.push_toArray,List.append_toArray,List.nil_append,List.cons_append];have BI:=aj.new w 24 #[.int .i64 t.kind,.string t.text,.int .i64 t.at_,.int .i64 t.end_,.slice A t.kids.length c];have hb0:=ag w (.cells #[.int .i64 t.kind,.string t.text,.int .i64 t.at_,.int .i64 t.end_,.slice A t.kids.length c] 24)
 have Vb:=(WG (w.alloc (.cells #[.int .i64 t.kind,.string t.text,.int .i64 t.at_,.int .i64 t.end_,.slice A t.kids.length c] 24))).mono (R':=fun e B=> ∃r,e= .returned (.map (some r))/\Li B r/\Below w.heap.size w B/\w.heap.size<B.heap.size /\
  B.cell? ⟨w.heap.size,0,none⟩=some (.int .i64 t.kind)/\B.cell? ⟨w.heap.size,1,none⟩=some (.string t.text)/\B.cell? ⟨w.heap.size,2,none⟩=some (.int .i64 t.at_)/\B.cell? ⟨w.heap.size,3,none⟩=some (.int .i64 t.end_)/\B.cell? ⟨w.heap.size,4,none⟩=some (.slice A t.kids.length c))
  (fun e B ⟨r,H,Z,O⟩=>by
   have L:=BI.below O BI.lt
   exact⟨r,H,Z,hb0.trans (O.mono (by simp)),L.lt,L.cell 0,L.cell 1,L.cell 2,L.cell 3,L.cell 4⟩)
 clear BI hb0;gi_wp2_with (refine⟨trivial,?_⟩;gi_at_call 141;refine(callsIn_wide.2 Vb).mono ?_;clear Vb;rintro e B ⟨r,rfl,hsh,hb1,hlt1,c0,c1,c2,c3,c4⟩)
 refine⟨trivial,?_⟩;gi_at_call 142
 refine(callsIn_wide.2 (zw _)).mono ?_;rintro e w' ⟨rfl,rfl⟩;gi_wp2
 have hM1:aj (B.alloc (.cells #[.map (some r)] 191)) B.heap.size 191 #[.map (some r)]:=aj.new B _ _;generalize hW2:B.alloc (.cells #[.map (some r)] 191)=W2 at hM1⊢
 have hb2:Below B.heap.size B W2:=by rw[<- hW2];exact ag _ _
 have hs2:W2.heap.size=B.heap.size+1:=by rw[<- hW2];simp
 have hO3:aj (W2.alloc (.cells #[.bool true] 4)) (B.heap.size+1) 4 #[.bool true]:=by rw[<- hs2];exact aj.new W2 _ _
 generalize hW3:W2.alloc (.cells #[.bool true] 4)=W3 at hO3⊢
 have hb3:Below W2.heap.size W2 W3:=by rw[<- hW3];exact ag _ _
 have hs3:W3.heap.size=B.heap.size+2:=by rw[<- hW3];simp[hs2]
 have Vu:aj (W3.alloc (.cells #[.int .i64 t.kind,.string t.text,.int .i64 t.at_,.int .i64 t.end_,.slice A t.kids.length c] 24)) (B.heap.size+1+1) 24 #[.int .i64 t.kind,.string t.text,.int .i64 t.at_,.int .i64 t.end_,.slice A t.kids.length c]:=by rw[show B.heap.size+1+1=W3.heap.size by omega];exact aj.new W3 _ _
 generalize kS:W3.alloc (.cells #[.int .i64 t.kind,.string t.text,.int .i64 t.at_,.int .i64 t.end_,.slice A t.kids.length c] 24)=W4 at Vu⊢
 have hb4:Below W3.heap.size W3 W4:=by rw[<- kS];exact ag _ _
 have hs4:W4.heap.size=B.heap.size+3:=by rw[<- kS];simp[hs3]
 have hM4:=(hM1.below hb3 hM1.lt).below hb4 (by omega);have hO4:=hO3.below hb4 hO3.lt;have cO:Below B.heap.size B W4:=(hb2.trans (hb3.mono (by omega))).trans (hb4.mono (by omega));have hk4:=aJ.below (hb1.trans (cO.mono (by omega))) (aab _) _ _ _ hk;clear hW2 hW3 kS hb2 hb3 hb4 hs2 hs3 hM1 hO3 hk zw c0 c1 c2 c3 c4;have H:1<=6:=by omega
 refine wpIn_rangeFunc_ownH rfl H (gf:=199) (lb:=#[.pointer (some ⟨B.heap.size+1+1,0,none⟩)]) rfl trivial (enters_of Tryz.func199 (by kernel_rfl) rfl)
  (Je Fence.wide rfl (6 - 1) trivial trivial rfl (B.heap.size+1+1) w.heap.size (B.heap.size+3) 1000000000 (by omega) (aab _) W4 W4 t A c hm hk4 (gB.refl _ _ _) (by omega) Vu) gB.trans (fun W l o o' _ h hc _=>gB.putObj o' h hc) (Below.refl _ _) (fun _=>rfl)
  (fun V W=>(aj W B.heap.size 191 #[.map (some r)]/\aj W (B.heap.size+1) 4 #[.bool (V.all fun x=>fC x.t)])/\(Below B.heap.size B W/\Below w.heap.size W4 W))
  (fun _ _ _=>False)
  (OwnFrom.and (OwnFrom.and (zb _ _ _ _) (zb _ _ _ _)) (OwnFrom.and (ownFrom_below (aab _) (by omega)) (ownFrom_below (by omega) (by omega))))
  (fun _ _ _ _ _ hs _ _=>hs)
  ⟨⟨hM4,hO4⟩,cO,Below.refl _ _⟩
  (fun x a' W=> ∃T,B.heap.size+3<=T/\aj W T 24 #[.int .i64 x.t.kind,.string x.t.text,.int .i64 x.t.at_,.int .i64 x.t.end_,.slice x.A x.t.kids.length x.c] /\
   a'= { tmps:=#[.agg #[.int .i64 t.kind,.string t.text,.int .i64 t.at_,.int .i64 t.end_,.slice A t.kids.length c],.pointer (some ⟨w.heap.size,0,none⟩),.bool false,.pointer (some ⟨B.heap.size,0,none⟩),.pointer (some ⟨B.heap.size+1,0,none⟩),.pointer (some ⟨T,0,none⟩),undef,undef,.map (some r),.agg #[.int .i64 t.kind,.string t.text,.int .i64 t.at_,.int .i64 t.end_,.slice A t.kids.length c],
    .func (.func 199) #[] #[.pointer (some ⟨B.heap.size+1+1,0,none⟩)],aZ x.t x.A x.c,undef,undef,undef,undef,undef,undef,undef,undef,undef,undef,undef,undef,undef,undef,undef,undef,undef,undef,undef,undef,undef,undef,undef,undef,undef,undef,undef,undef,undef,undef,undef,undef,undef,undef,undef,undef,undef],defers:=[] })
  (fun x a' s X Y row hs hg hr=>by
   obtain⟨T,Z,O,L⟩:=hs
   exact⟨T,Z,zb (β:=Unit) W4.heap.size T _ (fun _=> #[.int .i64 x.t.kind,.string x.t.text,.int .i64 x.t.at_,.int .i64 x.t.end_,.slice x.A x.t.kids.length x.c]) () X Y row O hg hr,L⟩) ?assign ?body ?done ?stop
 case assign=>
  rintro l V x W K ⟨⟨M,G⟩,E,I⟩ hK;unfold aZ at hK⊢;gi_wp2
  have GI:=I.size;exact hK _ _ ((KeepsOthers.alloc _ _).from _) (gB.of_below (ag _ _) rfl) ⟨⟨M.alloc _,G.alloc _⟩,E.trans ((ag _ _).mono E.size),I.trans ((ag _ _).mono (by omega))⟩ ⟨W.heap.size,by omega,aj.new W _ _,rfl⟩
 case body=>
  rintro l V x a' W hl ⟨r0,hr0⟩ ⟨⟨M,G⟩,E,I⟩ ⟨T,hBx,bX,rfl⟩ hlt;have U:=x.kids;obtain⟨S,XJ⟩:∃q,x.t.kind=q:=⟨_,rfl⟩
  obtain⟨xt,hxt0⟩:∃q,x.t.text=q:=⟨_,rfl⟩
  obtain⟨xa,hxa0⟩:∃q,x.t.at_=q:=⟨_,rfl⟩
  obtain⟨xz,hxz0⟩:∃q,x.t.end_=q:=⟨_,rfl⟩
  obtain⟨xn,XI⟩:∃q,x.t.kids.length=q:=⟨_,rfl⟩
  unfold aZ;rw[XJ,hxt0,hxa0,hxz0,XI]at bX⊢;obtain⟨m,j,hm1,hm2⟩:=hsh;have hmW:=j.below E j.lt;have N:=Ct (P:=Tryz.prog) (KK:=kX) (t:=191) (kt:=3) (et:=197) Tryz.underlying191 Tryz.underlying3 Wn hmW S;have d0:=bX.cell 0;have d1:=bX.cell 1;have d2:=bX.cell 2;have d3:=bX.cell 3;have d4:=bX.cell 4;have dl:=bX.lt;have o0:=G.cell 0;have of:=G.frozen 0;have ol:=G.lt;have m0:=M.cell 0;have ml:=M.lt;obtain⟨pb,hpb⟩:∃b,(V.all fun x=>fC x.t)=b:=⟨_,rfl⟩
  rw[hpb]at o0
  have hend:∀W' b,aF (fun g=>g=B.heap.size+1) W W'->aj W' (B.heap.size+1) 4 #[.bool b]->b=(pb&&fC x.t) ->
   KeepsFrom W4.heap.size W W'/\gB w.heap.size (B.heap.size+3) W W'/\(aj W' B.heap.size 191 #[.map (some r)]/\aj W' (B.heap.size+1) 4 #[.bool ((V++[x]).all fun x=>fC x.t)])/\Below B.heap.size B W'/\Below w.heap.size W4 W':=fun W' b H Z O=>by
   refine⟨⟨H.size,fun g o hg ho _=>(H.block g (aae.1 ho).1 (by omega)).trans ho⟩,⟨H.size,fun g o hg ho _=>(H.block g (aae.1 ho).1 (by omega)).trans ho⟩,⟨M.since H (by omega),?_⟩,E.trans (H.toBelow E.size (by omega)),I.trans (H.toBelow (aac (by omega) I.size) (by omega))⟩;rw[O]at Z;simpa [hpb] using Z
  have z:Hid (∀X u,aF (fun g=>g=B.heap.size+1) W X->aF (fun g=>g=B.heap.size+1) W (X.setCell ⟨B.heap.size+1,0,none⟩ u)):=kH (fun X u h=>h.setCell (.inl rfl) u);have Ob:=kH (And.intro E I);have aO:=kH hend;have HI2:=kH G
  have VO:Hid (nV m S=none->fC x.t=false):=kH (fun hl=>by
   unfold fC;rw[XJ]
   cases Q:mf S with
   | none=>rfl
   | some sh=>
    have:=hm2 S (by rw[Q];rfl);rw[hl]at this
    cases this)
  have HVS:Hid (∀v,nV m S=some v->∃sh,mf S=some sh/\qH B v sh):=kH (fun v hv=>hm1 _ (Zt hv));clear hend G hm1 hm2 M E I j hmW hM4 hO4 cO hk4 Vu
  cases J:nV m S with
  | none=>
   rw[J]at N;simp only[Option.getD_none,Option.isSome_none]at N;have hlk1:(Instr.lookup 191 (.map (some r)) (.int .i64 S) true).run Tryz.prog W= .ok (.tuple #[.agg #[.nilFunc,.slice none 0 0,.nilFunc,.int .i64 0],.bool false]) W:=N;have yz:=kH J;clear N J;cases pb<;>gi_wp2_with (refine⟨trivial,?_⟩;go_at_K)
   all_goals exact aO.out _ false ((z.out _ _ (aF.refl _ _)).alloc _) (aj.alloc (by simpa using HI2.out.gu 0 (.bool false)) _) (by first|rfl|(rw[VO.out yz.out];rfl))
  | some v=>
   rw[J]at N;simp only[Option.getD_some,Option.isSome_some]at N;have hlk1:(Instr.lookup 191 (.map (some r)) (.int .i64 S) true).run Tryz.prog W= .ok (.tuple #[v,.bool true]) W:=N;obtain⟨sh,Q,hsa⟩:=HVS.out v J;have d:=hsa;obtain⟨tv,Ak,ck,lv,hv,htext,hrow,F⟩:=hsa;obtain⟨ft,ct,e1,hent,hcall⟩:=htext
   have hlv:lv= .nilFunc\/∃f c,lv= .func (Fn.func f) #[] c:=by
    cases hl:sh.list with
    | none=>rw[hl]at F;exact .inl F
    | some p=>rw[hl]at F;obtain⟨f,c,h,_⟩:=F;exact .inr ⟨f,c,h⟩
   subst e1;clear N hent hcall hrow F VO HVS;cases pb
   case false=>
    clear d;subst hv;have yz:=kH J;have qm:=kH Q;clear J Q;rcases hlv with rfl| ⟨f,c,rfl⟩
    all_goals gi_wp2_with (refine⟨trivial,?_⟩;go_at_K)
    all_goals exact aO.out _ false ((z.out _ _ (aF.refl _ _)).alloc _) (aj.alloc (by simpa using HI2.out.gu 0 (.bool false)) _) rfl
   case true=>
    obtain⟨fb,OZ⟩:∃b,oJ sh x.t=b:=⟨_,rfl⟩
    have hlz:=jO x.t.kids;have hce:=pO x.t;have hsm2:=x.small
    have hfit:∀Wa,Below W.heap.size W Wa->Calls Tryz.prog 143 #[v,.agg #[.int .i64 S,.string xt,.int .i64 xa,.int .i64 xz,.slice x.A xn x.c]] Wa fun e C=>(e= .returned (.bool fb)/\C.cell? ⟨B.heap.size+1,0,none⟩=some (.bool true)/\C.frozen? ⟨B.heap.size+1,0,none⟩=false/\B.heap.size+1<C.heap.size/\T<C.heap.size /\
     C.cell? ⟨T,0,none⟩=some (.int .i64 S)/\C.cell? ⟨T,4,none⟩=some (.slice x.A xn x.c)/\Hid (aF (fun g=>g=B.heap.size+1) W C/\aj C (B.heap.size+1) 4 #[.bool true]/\Below w.heap.size W4 C)):=fun Wa hWa=>by
     have hbW:=Ob.out.1.trans (hWa.mono Ob.out.1.size);have h:=fits_any sh v x.t x.A x.c Wa w.heap.size (aac (by omega) hbW.size) (d.kc (KC.of_below hbW) hbW.size) (aJ.below (Ob.out.2.trans (hWa.mono (aac (by omega) Ob.out.2.size))) (aab _) _ _ _ U) (by omega) (WI Q);unfold aZ at h;rw[XJ,hxt0,hxa0,hxz0,XI,OZ]at h;refine h.mono ?_;rintro e C ⟨H,Z⟩;have O:Below W.heap.size W C:=hWa.trans (Z.mono hWa.size);have L:=HI2.out.below O HI2.out.lt;rw[hpb]at L;have h5:=bX.below O bX.lt;exact⟨H,L.cell 0,L.frozen 0,L.lt,h5.lt,h5.cell 0,h5.cell 4,kH ⟨(aF.refl _ _).below O,L,Ob.out.2.trans (O.mono (aac (by omega) Ob.out.2.size))⟩⟩
    have HFB:=kH OZ;have yz:=kH J;have qm:=kH Q;have HXK:=kH U;subst hv;have MG:=hfit (W.alloc (.cells #[.func (Fn.func ft) #[] ct,.slice Ak sh.kids.length ck,lv,.int .i64 sh.most] 197)) (ag _ _);clear J Q d hlz hce hsm2 OZ hfit U bX
    have hfn:fC x.t=(fb&&(if S=4 then CX x.t else true)):=by
     unfold fC;rw[XJ,qm.out];show(oJ sh x.t&&_)=_;rw[HFB.out]
    have JL:=kH hfn;clear hfn;by_cases hsp:fb=true/\S=4
    case neg=>
     have hres:fb=(true&&fC x.t):=by
      rw[JL.out];cases fb
      ·rfl
      ·have:S≠4:=fun h=>hsp ⟨rfl,h⟩
       simp[this]
     have aN:=kH hres;clear hres;rcases hlv with rfl| ⟨f,c,rfl⟩
     all_goals gi_wp2_with (refine⟨trivial,?_⟩;gi_at_call 143;refine(CallsIn.inRound l (callsIn_wide.2 MG)).mono ?_;clear MG;rintro e C ⟨rfl,o1,of1,ol1,bl1,e0,e4,H5⟩)
     all_goals first
      | exact aO.out _ _ (z.out _ _ H5.out.1) (by simpa using H5.out.2.1.gu 0 _) aN.out
      | (exfalso;simp_all;done)
    case pos=>
     obtain⟨rfl,rfl⟩:=hsp
     obtain⟨y,b,R,hA,hbl,hcs,hty⟩:∃y b R,x.A=some ⟨b,R,none⟩/\b<w.heap.size/\W4.cell? ⟨b,R+1,none⟩=some (.string y)/\xn=1/\CX x.t=dM y:=by
      have U:=HXK.out;have OZ:=HFB.out
      have hl1:xn=1:=by
       have H:some ⟨df,[bS [9]],none,0⟩=some sh:=qm.out;cases H
       unfold oJ qQ at OZ;simp only[aad,decide_eq_true_eq]at OZ;have:=OZ.1.2;simp at this;omega
      unfold CX
      cases hks:x.t.kids with
      | nil=>rw[hks]at XI;simp at XI;omega
      | cons kt ks=>
       rw[hks]at U;obtain⟨⟨b,R,vals,H,Z,O,L⟩,-⟩:=U;obtain⟨A',c',h5,-⟩:=L.five;subst h5;exact⟨kt.text,b,R,H,Z,by simpa using O 1 _ rfl,hl1,rfl⟩
     obtain⟨hn1,hty⟩:=hty;have HFN2:Hid (fC x.t=dM y):=kH (by rw[JL.out];simpa using hty);have HC:=kH hcs;clear hcs hty;rw[hA,hn1]at MG
     have k:=MG.mono (R':=fun e C=>e= .returned (.bool true)/\C.cell? ⟨b,R+1,none⟩=some (.string y)/\b<C.heap.size/\C.cell? ⟨B.heap.size+1,0,none⟩=some (.bool true)/\C.frozen? ⟨B.heap.size+1,0,none⟩=false/\B.heap.size+1<C.heap.size/\T<C.heap.size /\
      C.cell? ⟨T,0,none⟩=some (.int .i64 4)/\C.cell? ⟨T,4,none⟩=some (.slice (some ⟨b,R,none⟩) 1 x.c)/\Hid (aF (fun g=>g=B.heap.size+1) W C/\aj C (B.heap.size+1) 4 #[.bool true]/\Below w.heap.size W4 C))
      (fun e C ⟨H,Z,O,L,h5,h6,h7,h8⟩=>⟨H,(h8.out.2.2.cell (p:=⟨b,_,none⟩) hbl).trans HC.out,by omega,Z,O,L,h5,h6,h7,h8⟩)
     clear MG;rcases hlv with rfl| ⟨f,c,rfl⟩
     all_goals gi_wp2_with (refine⟨trivial,?_⟩;gi_at_call 143;refine(CallsIn.inRound l (callsIn_wide.2 k)).mono ?_;clear k;rintro e C ⟨rfl,k1,kl,o1,of1,ol1,bl1,e0,e4,H5⟩)
     all_goals
      rename_i hyi
      exact aO.out _ _ (z.out _ _ (z.out _ _ H5.out.1)) (by simpa using(H5.out.2.1.gu 0 (.bool true)).gu 0 _) (by rw[HFN2.out,PZ];simp[hyi])
 case done=>
  rintro D ys W hD hys ⟨⟨M,G⟩,E,I⟩ hK;have c0:=G.cell 0;have hK':=kH hK;have HF:=kH (hb1.trans (E.mono (by omega)));have hD2:w.heap.size<=D:=by omega
  have hall:(ys.all fun x=>fC x.t)=fP t:=by
   unfold fP;rw[<- hys,List.all_map];rfl
  rw[hall]at c0;clear M G E I hK hys hM4 hO4 cO hk4 Vu hsh hb1;gi_wp2
  refine⟨by simp,.inl ⟨_,_,rfl,run_takeDeferred hK'.out,?_⟩⟩;refine⟨_,results_tmp rfl _ _ _,?_⟩;exact⟨rfl,HF.out.trans (belowK_b (w:=w) (aab _) W D _ _ hD2 hK'.out rfl rfl)⟩
 case stop=>
  rintro D c V W _ _ h _;exact h.elim
theorem Po(t:ae)(A:Option Addr)(c:Nat)(w:World)(P:ai t<=1000000000)(O:aJ w w.heap.size A 0 t.kids):
 Calls Tryz.prog 40 #[aZ t A c] w fun e w'=>e= .returned (.bool (jC t))/\Below w.heap.size w w':=by
 obtain⟨q,D⟩:∃q,jC t=q:=⟨_,rfl⟩
 have I:=WH t A c (w.alloc (.cells #[.int .i64 t.kind,.string t.text,.int .i64 t.at_,.int .i64 t.end_,.slice A t.kids.length c] 24)) P (aJ.mono (by simp) _ _ _ (aJ.below (ag _ _) (aab _) _ _ _ O));have B:=ag w (.cells #[.int .i64 t.kind,.string t.text,.int .i64 t.at_,.int .i64 t.end_,.slice A t.kids.length c] 24);have E:=I.mono (R':=fun e w'=>e= .returned (.bool (fP t))/\Below w.heap.size w w') (fun e w' ⟨Q,L⟩=>⟨Q,B.trans (L.mono (by simp))⟩);unfold aZ at E⊢;rw[D];unfold jC at D;obtain⟨k,C⟩:∃q,t.kind=q:=⟨_,rfl⟩
 obtain⟨x,J⟩:∃q,t.text=q:=⟨_,rfl⟩
 obtain⟨a,F⟩:∃q,t.at_=q:=⟨_,rfl⟩
 obtain⟨z,K⟩:∃q,t.end_=q:=⟨_,rfl⟩
 obtain⟨n,G⟩:∃q,t.kids.length=q:=⟨_,rfl⟩
 obtain⟨S,H⟩:∃q,fP t=q:=⟨_,rfl⟩
 rw[C,J,F,K,G]at E B⊢;rw[H]at E D;rw[C]at D;have M:=kH B;have N:=kH D;clear O I C J F K G H D P B;by_cases L:k=2
 ·subst L
  go_in
  go_wp2_with fail
  refine E.mono ?_;rintro e T ⟨rfl,R⟩;go_wp2_with fail
  go_ret
  exact⟨Bu (by rw[<- N.out];simp),R⟩
 ·clear E
  go_in
  go_wp2_with fail
  go_ret
  exact⟨Bu (by rw[<- N.out];simp[L]),M.out⟩
end Go.Proofs.YtoepemlnlpamlaaGreat
namespace Go.Proofs.YtoepemlnlpamlaaGreat
theorem nX(B:yx):∀(ts:List ae) (i:Nat),dm B i ts=true->∀c∈ts,∃p,(B.list=some p\/p∈B.kids)/\p c.kind=true
 | [],_,_,c,C=>by cases C
 | t::ts,i,h,c,C=>by
  rw[dm,aad]at h;rcases List.mem_cons.1 C with rfl|C
  ·have A:=h.1
   unfold kR at A
   cases E:B.list with
   | some p=>rw[E]at A;exact⟨p,.inl rfl,A⟩
   | none=>
    rw[E]at A
    cases D:B.kids[i]? with
    | none=>rw[D]at A;cases A
    | some p=>rw[D]at A;exact⟨p,.inr (aan D),A⟩
  ·exact nX B ts (i+1) h.2 c C
def AR(p:Int->Bool):Prop:=∀k,p k=true->k≠2/\k≠3/\k≠4/\k≠5
theorem EI:AR dC:=fun k h=>by unfold dC at h;simp only[Bool.or_eq_true,decide_eq_true_eq]at h;omega
theorem XE:AR ll:=fun k h=>by unfold ll at h;simp only[aad,decide_eq_true_eq]at h;omega
theorem tH:AR aQ:=fun k h=>by unfold aQ at h;simp only[aad,decide_eq_true_eq]at h;omega
theorem Dj:AR jv:=fun k h=>by unfold jv at h;simp only[Bool.or_eq_true,decide_eq_true_eq]at h;omega
theorem qO{p:Int->Bool}(h:AR p):AR (gL p):=fun k A=>by
 unfold gL at A;simp only[Bool.or_eq_true,decide_eq_true_eq]at A;rcases A with A|A
 ·omega
 ·exact h k A
theorem uG{l:List Int}(h:∀y∈l,y≠2/\y≠3/\y≠4/\y≠5):AR (bS l):=fun k A=>by
 unfold bS at A;rw[List.any_eq_true]at A;obtain⟨y,B,A⟩:=A;rw[decide_eq_true_eq]at A;subst A;exact h _ B
theorem C8{k:Int}{C:yx}(h:mf k=some C)(D:k≠2)(E:k≠3):(∀p,C.list=some p->AR p)/\∀p∈C.kids,AR p:=by
 cases k with
 | negSucc n=>cases h
 | ofNat n=>
  have B:oh n=some C:=h;have F:n≠2:=fun e=>D (by rw[e];rfl)
  have G:n≠3:=fun e=>E (by rw[e];rfl)
  clear h D E;unfold oh at B;split at B<;>first|(cases B;done)|(exact absurd rfl F)|(exact absurd rfl G)|skip
  all_goals
   cases B
   refine⟨?_,?_⟩
   ·intro p A
    first
     | (cases A;done)
     | (cases A;first|exact XE|exact tH|exact uG (by decide))
   ·intro p A
    first
     | (cases A;done)
     | (simp only[List.mem_cons,List.not_mem_nil,or_false]at A
        first
         | (rcases A with rfl|rfl|rfl<;>first|exact tH|exact Dj|exact uG (by decide)|exact qO EI|exact qO tH|exact qO (uG (by decide)))
         | (rcases A with rfl|rfl<;>first|exact tH|exact Dj|exact uG (by decide)|exact qO EI|exact qO tH|exact qO (uG (by decide)))
         | (subst A;first|exact tH|exact Dj|exact uG (by decide)|exact qO EI|exact qO tH|exact qO (uG (by decide))))
theorem jZ{t:ae}(h:fC t=true):∃A,mf t.kind=some A/\oJ A t=true:=by
 unfold fC at h
 cases B:mf t.kind with
 | none=>rw[B]at h;cases h
 | some A=>
  rw[B]at h;rw[aad]at h;exact⟨A,rfl,h.1⟩
theorem mX{A:yx}{t:ae}(h:oJ A t=true):A.text t.text=true/\qQ A t.kids.length=true/\dm A 0 t.kids=true:=by
 unfold oJ at h;rw[aad,aad]at h;exact⟨h.1.1,h.1.2,h.2⟩
theorem kC(t:ae):fP t=(fC t&&(dz t.kids).all fC):=by
 unfold fP;rw[wQ,List.all_cons]
mutual
theorem XH:∀(t:ae),fP t=true->(t.kind≠2/\t.kind≠3/\t.kind≠4/\t.kind≠5)->Ei t=true
 | .node k x a e kids,h,hk=>by
  rw[kC,aad]at h;obtain⟨H,L,K⟩:=jZ h.1;obtain⟨-,G,M⟩:=mX K;have A:k≠2/\k≠3/\k≠4/\k≠5:=hk;have B:mf k=some H:=L;obtain⟨I,J⟩:=C8 B A.1 A.2.1;rw[Ei];simp only[aad,Bool.or_eq_true,decide_eq_true_eq];refine⟨⟨⟨A,?_⟩,?_⟩,y7 kids h.2 fun c G=>?_⟩
  ·by_cases C:k=12
   ·subst C
    right
    have:some _=some H:=B;cases this
    simpa [qQ,ae.kids] using G
   ·exact .inl C
  ·by_cases D:k=16
   ·subst D
    right
    have:some _=some H:=B;cases this
    simpa [qQ,ae.kids] using G
   ·exact .inl D
  ·obtain⟨p,E,F⟩:=nX H kids 0 M c G
   rcases E with E|E
   ·exact I p E _ F
   ·exact J p E _ F
theorem y7:∀(ts:List ae),(dz ts).all fC=true->(∀c∈ts,c.kind≠2/\c.kind≠3/\c.kind≠4/\c.kind≠5)->mH ts=true
 | [],_,_=>by rw[mH]
 | t::ts,h,hc=>by
  rw[dz,List.all_append,aad]at h;rw[mH,aad];exact⟨XH t h.1 (hc t (by simp)),y7 ts h.2 fun c A=>hc c (by simp[A])⟩
end
theorem Xu{ts:List ae}(h:(dz ts).all fC=true):∀c∈ts,fP c=true:=by
 induction ts with
 | nil=>intro c A;cases A
 | cons t ts ih=>
  rw[dz,List.all_append,aad]at h;intro c A;rcases List.mem_cons.1 A with rfl|A
  ·exact h.1
  ·exact ih h.2 c A
theorem jG{t:ae}(h:fP t=true):∀c∈t.kids,fP c=true:=by
 rw[kC,aad]at h;exact Xu h.2
theorem Um(t:ae)(h:fP t=true)(H:t.kind=3\/t.kind=5):uP t=true:=by
 have T:=jG h;have N:=h;rw[kC,aad]at N;obtain⟨I,G,J⟩:=jZ N.1;obtain⟨-,F,O⟩:=mX J;have D:=nX I t.kids 0 O;obtain⟨k,x,a,e,Q⟩:=t;rw[uP,Bool.or_eq_true,aad,aad,aad,decide_eq_true_eq,decide_eq_true_eq,decide_eq_true_eq];rcases H with H|H
 ·left
  have E:k=3:=H;subst E;have M:some _=some I:=G;cases M
  refine⟨rfl,List.all_eq_true.2 fun f J=>?_⟩;rw[aad,decide_eq_true_eq]
  have P:f.kind=4:=by
   obtain⟨p,A,B⟩:=D f J;rcases A with A|A
   ·cases A
    simpa [bS] using B
   ·cases A
  refine⟨P,?_⟩;have C:=T f J;have S:=jG C;rw[kC,aad]at C;obtain⟨I,G,R⟩:=jZ C.1;obtain⟨-,F,O⟩:=mX R;refine y7 _ C.2 fun c F=>?_
  rw[P]at G;obtain⟨K,L⟩:=C8 G (by decide) (by decide);obtain⟨p,A,B⟩:=nX I f.kids 0 O c F;rcases A with A|A
  ·exact K p A _ B
  ·exact L p A _ B
 ·right
  have E:k=5:=H;subst E;have M:some _=some I:=G;obtain⟨K,L⟩:=C8 G (show(5:Int)≠2 by decide) (show(5:Int)≠3 by decide);cases M
  refine⟨⟨rfl,by simpa [qQ,ae.kids] using F⟩,y7 _ N.2 fun c F=>?_⟩;obtain⟨p,A,B⟩:=D c F;rcases A with A|A
  ·exact K p A _ B
  ·exact L p A _ B
theorem LK{t:ae}(h:jC t=true):t.kind=2/\∀k∈t.kids,uP k=true:=by
 unfold jC at h;rw[aad,decide_eq_true_eq]at h;refine⟨h.1,fun k D=>?_⟩;have C:=jG h.2 k D;have E:=h.2;rw[kC,aad]at E;obtain⟨G,F,I⟩:=jZ E.1;obtain⟨-,K,J⟩:=mX I;obtain⟨p,A,B⟩:=nX G t.kids 0 J k D;rw[h.1]at F;have H:some _=some G:=F;cases H
 rcases A with A|A
 ·cases A
  have:k.kind=3\/k.kind=5:=by simpa [bS] using B
  exact Um k C this
 ·cases A
mutual
def FP:ae->Bool
 | .node k _ _ _ kids=>(decide (k<2) || decide (8<k))&&(decide (k≠12) || decide (kids.length=2))&&(decide (k≠16) || decide (kids.length=3))&&(decide (k=11) || kids.all fun c=>decide (c.kind≠12))&&um kids
def um:List ae->Bool
 | []=>true
 | t::ts=>FP t&&um ts
end
theorem CB{k:Int}{x:ByteArray}{a e:Int}{A:List ae}(h:FP (.node k x a e A)=true):
 (k<2\/8<k)/\(k=12->A.length=2)/\(k=16->A.length=3)/\(k≠11->∀c∈A,c.kind≠12)/\um A=true:=by
 rw[FP]at h;simp only[aad,Bool.or_eq_true,decide_eq_true_eq,List.all_eq_true]at h;obtain⟨⟨⟨⟨B,C⟩,D⟩,E⟩,F⟩:=h;exact⟨B,fun e=>C.resolve_left (by simp[e]),fun e=>D.resolve_left (by simp[e]),fun e=>E.resolve_left e,F⟩
theorem TF{ts:List ae}:um ts=true->∀t∈ts,FP t=true:=by
 induction ts with
 | nil=>intro _ t h;cases h
 | cons a ts ih=>
  intro h t A;rw[um,aad]at h;rcases List.mem_cons.1 A with rfl|A
  ·exact h.1
  ·exact ih h.2 t A
theorem Yw(s:aS):kT s []=s:=by cases s<;>rfl
theorem UK(s:aS)(l:lH):(kT s l).tail=s.tail:=by cases s<;>rfl
def xm(G:bC)(t:ae)(s:aS)(n:Nat):lH:=if (fe s t.text).isSome || (aU G.globals t.text).isSome then [] else [(t.text,(n:Int))]
theorem Bg(G:bC)(r:RS)(c:Int)(n:Nat)(t:ae)(s:aS):(aH G r c n t ([]::s)).2.headD []=xm G t s n:=by
 unfold aH xm;have h:fe ([]::s) t.text=fe s t.text:=rfl;rw[h];split<;>rfl
mutual
theorem I1(G:bC):∀(t:ae) (i:Bool) (s:aS) (r:RS),FP t=true->(aM G i t s r).2=if t.kind=12 then kT s (xm G t s r.next) else s
 | .node k x a e kids,i,s,r,hin=>by
  obtain⟨M,H,I,C,B⟩:=(CB hin)
  have J:k≠3:=by omega
  have K:k≠4:=by omega
  have L:k≠5:=by omega
  have E:¬(k=7\/k=8):=by omega
  rw[dx];rw[if_neg J,if_neg K,if_neg L,if_neg E];show _=if k=12 then _ else _
  by_cases A:k=11
  ·rw[if_pos A,if_neg (show k≠12 by omega)]
   exact Aj G kids i 0 kids.length ([]::s) _ B
  rw[if_neg A];by_cases D:k=12
  ·rw[if_pos D,if_pos D]
   rw[j3 G kids i 0 2 s _ B (C A),Bg]
  rw[if_neg D,if_neg D];by_cases F:k=16
  ·rw[if_pos F]
   show(ah G i kids 2 1 _ _).2.tail=s;rw[j3 G kids i 2 1 _ _ B (C A),j3 G kids i 0 2 s _ B (C A)];rfl
  rw[if_neg F];exact j3 G kids i 0 kids.length s _ B (C A)
theorem j3(G:bC):∀(ts:List ae) (i:Bool) (f n:Nat) (s:aS) (r:RS),um ts=true->(∀c∈ts,c.kind≠12)->(ah G i ts f n s r).2=s
 | [],_,_,_,_,_,_,_=>by rw[ah]
 | t::ts,i,f+1,n,s,r,hin,hno=>by
  rw[um,aad]at hin;rw[ah]
  exact j3 G ts i f n s r hin.2 fun c A=>hno c (by simp[A])
 | t::ts,i,0,0,s,r,_,_=>by rw[ah]
 | t::ts,i,0,n+1,s,r,hin,hno=>by
  rw[um,aad]at hin;rw[ah];rw[j3 G ts i 0 n _ _ hin.2 fun c A=>hno c (by simp[A]),I1 G t i s r hin.1,if_neg (hno t (by simp))]
theorem Aj(G:bC):∀(ts:List ae) (i:Bool) (f n:Nat) (s:aS) (r:RS),um ts=true->(ah G i ts f n s r).2.tail=s.tail
 | [],_,_,_,_,_,_=>by rw[ah]
 | t::ts,i,f+1,n,s,r,hin=>by
  rw[um,aad]at hin;rw[ah];exact Aj G ts i f n s r hin.2
 | t::ts,i,0,0,s,r,_=>by rw[ah]
 | t::ts,i,0,n+1,s,r,hin=>by
  rw[um,aad]at hin;rw[ah];rw[Aj G ts i 0 n _ _ hin.2,I1 G t i s r hin.1];split
  ·exact UK _ _
  ·rfl
end
theorem Mq{K V:Type}[DecidableEq K]:∀{l:List (K×V)}{k:K},bE l k=none->k ∉ l.map (·.1)
 | [],_,_=>by simp
 | x::l,k,h=>by
  rw[bE]at h;by_cases A:k=x.1
  ·rw[if_pos A]at h;cases h
  ·rw[if_neg A]at h
   rw[List.map_cons,List.mem_cons];exact fun B=>B.elim A (Mq h)
theorem MR:∀{s:aS}{x:ByteArray},fe s x=none->x ∉ s.flatten.map (·.1)
 | [],_,_=>by simp
 | l::s,x,h=>by
  rw[fe]at h
  cases A:aU l x with
  | some k=>rw[A]at h;cases h
  | none=>
   rw[A]at h;have B:=Mq (show bE l x=none from A);have C:=MR (show fe s x=none from h);rw[List.flatten_cons,List.map_append,List.mem_append];exact fun D=>D.elim B C
theorem QT{K V:Type}[DecidableEq K]:∀{l:List (K×V)}{k:K}(v:V),k ∉ l.map (·.1)->dh l k v=l++[(k,v)]
 | [],_,_,_=>rfl
 | x::l,k,v,h=>by
  rw[List.map_cons,List.mem_cons]at h;have B:k≠x.1:=fun e=>h (.inl e)
  rw[dh,if_neg B,QT v fun A=>h (.inr A)];rfl
theorem NJ(r:RS)(i:Bool)(v:List Int):qB r (aG r i v):=sD.none_ r i v
theorem NI(G:bC)(r:RS)(i:Bool)(v:List Int)(c:Int)(t:ae)(s:aS):qB r (aH G (aG r i v) c r.next t s).1:=sD.og G r i v c t s
theorem DV(r:RS)(i:Bool)(v:List Int)(t:ae)(A:Option Int):qB r (gV (aG r i v) r.next t A):=sD.Ev r i v t A
theorem QX(G:bC)(s:aS)(r:RS)(i:Bool)(v:List Int)(t:ae):qB r (iR G s r (aG r i v) t):=by
 unfold iR;split
 ·exact DV _ _ _ _ _
 split
 ·exact DV _ _ _ _ _
 split
 ·exact DV _ _ _ _ _
 split
 ·exact DV _ _ _ _ _
 split
 ·exact DV _ _ _ _ _
 ·exact NJ _ _ _
theorem Cr(G:bC)(s:aS)(r:RS)(i:Bool)(v:List Int)(t:ae):(iR G s r (aG r i v) t).next=r.next+1:=by
 have A:∀B,(gV (aG r i v) r.next t B).next=r.next+1:=fun B=>by cases B<;>rfl
 unfold iR;split
 ·exact A _
 split
 ·exact A _
 split
 ·exact A _
 split
 ·exact A _
 split
 ·exact A _
 ·rfl
theorem visit_B(G:bC)(k:Int)(x:ByteArray)(a e:Int)(A:List ae)(i:Bool)(s:aS)(r:RS)(I:FP (.node k x a e A)=true):
 aM G i (.node k x a e A) s r=
  if k=11 then((ah G i A 0 A.length ([]::s) (aG r i (ak (ay s)))).1,s)
  else if k=12 then((ah G i A 0 A.length s (aH G (aG r i (ak (ay s))) 4 r.next (.node k x a e A) ([]::s)).1).1,kT s (xm G (.node k x a e A) s r.next))
  else if k=16 then((ah G i A 2 1 (xm G (.node k x a e A) s r.next::s) (ah G i A 0 2 s (aH G (aG r i (ak (ay s))) 5 r.next (.node k x a e A) ([]::s)).1).1).1,s)
  else((ah G i A 0 A.length s (iR G s r (aG r i (ak (ay s))) (.node k x a e A))).1,s):=by
 obtain⟨O,H,K,D,C⟩:=(CB I)
 have L:k≠3:=by omega
 have M:k≠4:=by omega
 have N:k≠5:=by omega
 have J:¬(k=7\/k=8):=by omega
 rw[dx];rw[if_neg L,if_neg M,if_neg N,if_neg J];by_cases B:k=11
 ·rw[if_pos B,if_pos B]
  refine Prod.ext rfl ?_;exact Aj G A i 0 A.length ([]::s) _ C
 rw[if_neg B,if_neg B];by_cases E:k=12
 ·rw[if_pos E,if_pos E,H E]
  refine Prod.ext rfl ?_;show kT (ah G i A 0 2 s _).2 _=_;rw[j3 G A i 0 2 s _ C (D B),Bg]
 rw[if_neg E,if_neg E];by_cases F:k=16
 ·rw[if_pos F,if_pos F]
  rw[j3 G A i 0 2 s _ C (D B),Bg];refine Prod.ext rfl ?_;show(ah G i A 2 1 _ _).2.tail=s;rw[j3 G A i 2 1 _ _ C (D B)];rfl
 rw[if_neg F,if_neg F];refine Prod.ext rfl ?_;exact j3 G A i 0 A.length s _ C (D B)
def P8(p:Int->Bool):Prop:=∀k,p k=true->(k<2\/8<k)
def nH(p:Int->Bool):Prop:=∀k,p k=true->k≠12
theorem NL:P8 dC:=fun k h=>by unfold dC at h;simp only[Bool.or_eq_true,decide_eq_true_eq]at h;omega
theorem p8_stmt:P8 ll:=fun k h=>by unfold ll at h;simp only[aad,decide_eq_true_eq]at h;omega
theorem yF:P8 aQ:=fun k h=>by unfold aQ at h;simp only[aad,decide_eq_true_eq]at h;omega
theorem Kq:P8 jv:=fun k h=>by unfold jv at h;simp only[Bool.or_eq_true,decide_eq_true_eq]at h;omega
theorem xy{p:Int->Bool}(h:P8 p):P8 (gL p):=fun k A=>by
 unfold gL at A;simp only[Bool.or_eq_true,decide_eq_true_eq]at A;rcases A with A|A
 ·omega
 ·exact h k A
theorem DX{l:List Int}(h:∀y∈l,y<2\/8<y):P8 (bS l):=fun k A=>by
 unfold bS at A;rw[List.any_eq_true]at A;obtain⟨y,B,A⟩:=A;rw[decide_eq_true_eq]at A;subst A;exact h _ B
theorem Kr:nH dC:=fun k h=>by unfold dC at h;simp only[Bool.or_eq_true,decide_eq_true_eq]at h;omega
theorem wD:nH aQ:=fun k h=>by unfold aQ at h;simp only[aad,decide_eq_true_eq]at h;omega
theorem Gq:nH jv:=fun k h=>by unfold jv at h;simp only[Bool.or_eq_true,decide_eq_true_eq]at h;omega
theorem uU{p:Int->Bool}(h:nH p):nH (gL p):=fun k A=>by
 unfold gL at A;simp only[Bool.or_eq_true,decide_eq_true_eq]at A;rcases A with A|A
 ·omega
 ·exact h k A
theorem AX{l:List Int}(h:∀y∈l,y≠12):nH (bS l):=fun k A=>by
 unfold bS at A;rw[List.any_eq_true]at A;obtain⟨y,B,A⟩:=A;rw[decide_eq_true_eq]at A;subst A;exact h _ B
theorem Y6{k:Int}{D:yx}(h:mf k=some D)(B:k<2\/8<k):(∀p,D.list=some p->P8 p/\(k≠11->nH p))/\∀p∈D.kids,P8 p/\nH p:=by
 cases k with
 | negSucc n=>cases h
 | ofNat n=>
  have C:oh n=some D:=h
  have F:n<2\/8<n:=by
   rcases B with B|B
   ·have:(n:Int)<2:=B
    omega
   ·have:(8:Int)<n:=B
    omega
  have E:(Int.ofNat n≠11)->n≠11:=fun h e=>h (by rw[e];rfl)
  clear h B;unfold oh at C;split at C<;>first|(cases C;done)|(exfalso;omega)|skip
  all_goals
   cases C
   refine⟨?_,?_⟩
   ·intro p A
    first
     | (cases A;done)
     | (cases A;first|exact⟨yF,fun _=>wD⟩|exact⟨p8_stmt,fun h=>absurd rfl (E h)⟩)
   ·intro p A
    first
     | (cases A;done)
     | (simp only[List.mem_cons,List.not_mem_nil,or_false]at A
        first
         | (rcases A with rfl|rfl|rfl<;>first|exact⟨yF,wD⟩|exact⟨Kq,Gq⟩|exact⟨DX (by decide),AX (by decide)⟩|exact⟨xy NL,uU Kr⟩|exact⟨xy yF,uU wD⟩|exact⟨xy (DX (by decide)),uU (AX (by decide))⟩)
         | (rcases A with rfl|rfl<;>first|exact⟨yF,wD⟩|exact⟨Kq,Gq⟩|exact⟨DX (by decide),AX (by decide)⟩|exact⟨xy NL,uU Kr⟩|exact⟨xy yF,uU wD⟩|exact⟨xy (DX (by decide)),uU (AX (by decide))⟩)
         | (subst A;first|exact⟨yF,wD⟩|exact⟨Kq,Gq⟩|exact⟨DX (by decide),AX (by decide)⟩|exact⟨xy NL,uU Kr⟩|exact⟨xy yF,uU wD⟩|exact⟨xy (DX (by decide)),uU (AX (by decide))⟩))
mutual
theorem Mw:∀(t:ae),fP t=true->(t.kind<2\/8<t.kind)->FP t=true
 | .node k x a e kids,h,hk=>by
  rw[kC,aad]at h;obtain⟨L,N,M⟩:=jZ h.1;obtain⟨-,E,O⟩:=mX M;have K:k<2\/8<k:=hk;have D:mf k=some L:=N;obtain⟨I,J⟩:=Y6 D K;have C:=nX L kids 0 O;rw[FP];simp only[aad,Bool.or_eq_true,decide_eq_true_eq,List.all_eq_true];refine⟨⟨⟨⟨K,?_⟩,?_⟩,?_⟩,Jo kids h.2 fun c E=>?_⟩
  ·by_cases G:k=12
   ·subst G
    right
    have:some _=some L:=D;cases this
    simpa [qQ,ae.kids] using E
   ·exact .inl G
  ·by_cases H:k=16
   ·subst H
    right
    have:some _=some L:=D;cases this
    simpa [qQ,ae.kids] using E
   ·exact .inl H
  ·by_cases F:k=11
   ·exact .inl F
   ·right
    intro c E;obtain⟨p,A,B⟩:=C c E;rcases A with A|A
    ·exact(I p A).2 F _ B
    ·exact(J p A).2 _ B
  ·obtain⟨p,A,B⟩:=C c E
   rcases A with A|A
   ·exact(I p A).1 _ B
   ·exact(J p A).1 _ B
theorem Jo:∀(ts:List ae),(dz ts).all fC=true->(∀c∈ts,c.kind<2\/8<c.kind)->um ts=true
 | [],_,_=>by rw[um]
 | t::ts,h,hc=>by
  rw[dz,List.all_append,aad]at h;rw[um,aad];exact⟨Mw t h.1 (hc t (by simp)),Jo ts h.2 fun c A=>hc c (by simp[A])⟩
end
end Go.Proofs.YtoepemlnlpamlaaGreat
