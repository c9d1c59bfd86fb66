/- Collect agrees with the reference. Part 15: ColP5 Rs1 Small LawR ColC1 LawO1. -/
import Derived.Test.YtoepemlnlpamlaaGreatColl13
import Derived.Test.YtoepemlnlpamlaaGreatColl14
set_option maxRecDepth 100000
set_option maxHeartbeats 16000000
namespace Go.Proofs.YtoepemlnlpamlaaGreat
open Go.RowKit
theorem rYz(C:CM)(t:ae)(n:Nat)(r:Int):rY C t n r 0=([],r):=rfl
def VA(b g q:Nat)(k:Int)(x:ByteArray)(a z:Int)(T:Option Addr)(m c:Nat)(W:World):Prop:=
 W.cell? ⟨b,0,none⟩=some (.int .i64 k)/\W.cell? ⟨b,1,none⟩=some (.string x)/\W.cell? ⟨b,2,none⟩=some (.int .i64 a)/\W.cell? ⟨b,3,none⟩=some (.int .i64 z)/\W.cell? ⟨b,4,none⟩=some (.slice T m c) /\
 W.cell? ⟨g,0,none⟩=some (.int .i64 1)/\W.cell? ⟨g,1,none⟩=some (.int .i64 0)/\W.cell? ⟨g,2,none⟩=some (.string ⟨#[]⟩)/\W.cell? ⟨g+1,0,none⟩=some (.int .i64 2)/\W.cell? ⟨g+1,1,none⟩=some (.int .i64 0)/\W.cell? ⟨g+1,2,none⟩=some (.string ⟨#[]⟩) /\
 b<W.heap.size/\g<W.heap.size/\g+1<W.heap.size/\q<W.heap.size
def VK(vb vo:Nat)(l:Int)(kb ko:Nat)(y:ae)(U:Option Addr)(uc:Nat)(W:World):Prop:=
 W.cell? ⟨vb,vo,none⟩=some (.int .i64 l)/\W.cell? ⟨kb,ko,none⟩=some (.int .i64 y.kind)/\W.cell? ⟨kb,ko+1,none⟩=some (.string y.text)/\W.cell? ⟨kb,ko+2,none⟩=some (.int .i64 y.at_)/\W.cell? ⟨kb,ko+3,none⟩=some (.int .i64 y.end_)/\W.cell? ⟨kb,ko+4,none⟩=some (.slice U y.kids.length uc)/\vb<W.heap.size/\kb<W.heap.size
theorem Qx{E:CE}{C:CM}{B:Nat}{W3:World}{V T:Option Addr}{vn vc lo n:Nat}{t:ae}(M:aG W3 lo 3 1 (.slice V vn vc) vn (bL (bR t.kids (n+1))))(X:aD W3 B T 0 t.kids)(N:(Value.slice V vn vc).ownBlock≠some E.cb)(L:PH E C B W3)(y:0<t.kids.length):
 ∃I J A H,V=some ⟨I,J,none⟩/\T=some ⟨A,H,none⟩/\∀i,i<t.kids.length->∃U uc,∀W,CX E.base E.cb W3 W->VK I (J+i) (nk t n i) A (H+i*5) (kd t i) U uc W:=by
 have v:t.kids.length=vn:=by have:=M.1;rw[Nat.mul_one]at this;unfold bL at this;rw[List.length_map,yY]at this;exact this
 obtain⟨I,J,vq,G,-,-,-,Z,Y⟩:=M.form (by omega);simp only[Value.slice.injEq,true_and]at G;obtain⟨rfl,rfl⟩:=G;obtain⟨A,H,-,-,R,F,-⟩:=kZ X (gq y);refine⟨I,J,A,H,rfl,R,fun i S=>?_⟩;obtain⟨O,P,U,uc,Q,-,u,r,l,j,f,Bp⟩:=kZ X (gq S);obtain⟨rfl,rfl⟩:A=O/\H=P:=by rw[R]at Q;simpa using Q
 have d:W3.cell? ⟨I,J+i,none⟩=some (.int .i64 (nk t n i)):=Y i _ (by unfold bL;rw[List.getElem?_map,DC S];rfl);refine⟨U,uc,fun W K=>?_⟩;have D:∀(o:Nat),W.cell? ⟨A,o,none⟩=W3.cell? ⟨A,o,none⟩:=fun o=>(K.low L.bw L.cb L.base).cell (p:=⟨A,o,none⟩) F
 exact⟨(K.Ev M (by decide) N _).trans d,(D _).trans u,(D _).trans r,(D _).trans l,(D _).trans j,(D _).trans f,Nat.lt_of_lt_of_le Z K.size,Nat.lt_of_lt_of_le (Nat.lt_of_lt_of_le F L.bw) K.size⟩
section
variable {E:CE}{C:CM}{B:Nat}{W3:World}{V T:Option Addr}{vn vc lo n m:Nat}{t:ae}{b g q c:Nat}{k a z:Int}{x:ByteArray}
theorem GJ(P:∀W,CX E.base E.cb W3 W->VA b g q k x a z T m c W)(Q:aG W3 lo 3 1 (.slice V vn vc) vn (bL (bR t.kids (n+1))))(R:aD W3 B T 0 t.kids)(I:(Value.slice V vn vc).ownBlock≠some E.cb)(S:PH E C B W3)(U:t.kids.length=m)(X:t.kids.length=vn)(L:0<t.kids.length):
 ∃F G A D H K O,V=some ⟨F,G,none⟩/\T=some ⟨A,D,none⟩/\Hid (nk t n 0=O)/\Hid (∀W,CX E.base E.cb W3 W->VA b g q k x a z (some ⟨A,D,none⟩) m c W/\VK F G O A D (kd t 0) H K W)/\0<m/\0<vn/\(0:Int)<(m:Int)/\(0:Int)<(vn:Int):=by
 obtain⟨F,G,A,D,rfl,rfl,J⟩:=Qx Q R I S L;obtain⟨H,K,M⟩:=J 0 L;simp only[Nat.add_zero,Nat.zero_mul]at M;exact⟨F,G,A,D,H,K,_,rfl,rfl,kH rfl,kH fun W N=>⟨P W N,M W N⟩,by omega,by omega,by omega,by omega⟩
theorem Qy(U:∀W,CX E.base E.cb W3 W->VA b g q k x a z T m c W)(X:aG W3 lo 3 1 (.slice V vn vc) vn (bL (bR t.kids (n+1))))(Y:aD W3 B T 0 t.kids)(M:(Value.slice V vn vc).ownBlock≠some E.cb)(Z:PH E C B W3)(y:t.kids.length=m)(v:t.kids.length=vn)(S:1<t.kids.length):
 ∃G H A D J N Q K I R,V=some ⟨G,H,none⟩/\T=some ⟨A,D,none⟩/\Hid (nk t n 0=Q/\nk t n 1=R)/\Hid (∀W,CX E.base E.cb W3 W->VA b g q k x a z (some ⟨A,D,none⟩) m c W/\VK G H Q A D (kd t 0) J N W/\VK G (H+1) R A (D+5) (kd t 1) K I W)/\0<m/\0<vn/\(0:Int)<(m:Int)/\(0:Int)<(vn:Int)/\1<m/\1<vn/\(1:Int)<(m:Int)/\(1:Int)<(vn:Int):=by
 obtain⟨G,H,A,D,rfl,rfl,F⟩:=Qx X Y M Z (by omega);obtain⟨J,N,O⟩:=F 0 (by omega);obtain⟨K,I,P⟩:=F 1 S;simp only[Nat.add_zero,Nat.zero_mul,Nat.one_mul]at O P;exact⟨G,H,A,D,J,N,_,K,I,_,rfl,rfl,kH ⟨rfl,rfl⟩,kH fun W L=>⟨U W L,O W L,P W L⟩,by omega,by omega,by omega,by omega,by omega,by omega,by omega,by omega⟩
end
section
variable {E:CE}{o:List bD}{nx rs:Int}{W W3:World}(h:PC E o nx rs W/\CX E.base E.cb W3 W) (hb:E.base<=W3.heap.size) (hl:o.length<=1000000)
include h hb hl
theorem BM(v D F:Int)(G:ByteArray)(k:Int)(x:ByteArray)(a z:Int)(A:Option Addr)(n c:Nat):Calls Tryz.prog 107 #[.pointer (some ⟨E.cb,0,none⟩),.int .i64 v,.agg #[.int .i64 D,.int .i64 F,.string G],.agg #[.int .i64 k,.string x,.int .i64 a,.int .i64 z,.slice A n c]] W fun e w'=>e= .returned (.tuple #[])/\Hid (PC E (o++[⟨0,v,0,D,F,G,a,z⟩]) nx rs w'/\CX E.base E.cb W3 w'):=
 (oh E o nx rs W h.1 hl (aca hb h.2.size) v D F G k x a z A n c).mono fun e w' ⟨H,I,J⟩=>⟨H,kH ⟨I,h.2.trans J⟩⟩
theorem Kt(v u:Int)(k:Int)(x:ByteArray)(a z:Int)(A:Option Addr)(n c:Nat):Calls Tryz.prog 106 #[.pointer (some ⟨E.cb,0,none⟩),.int .i64 v,.int .i64 u,.agg #[.int .i64 k,.string x,.int .i64 a,.int .i64 z,.slice A n c]] W fun e w'=>e= .returned (.tuple #[])/\Hid (PC E (o++[⟨1,v,u,0,0,⟨#[]⟩,a,z⟩]) nx rs w'/\CX E.base E.cb W3 w'):=
 (Cq E o nx rs W h.1 hl (aca hb h.2.size) v u k x a z A n c).mono fun e w' ⟨D,F,G⟩=>⟨D,kH ⟨F,h.2.trans G⟩⟩
theorem UK{C:CM}{B:Nat}(G:PH E C B W3)(n:Nat)(t:ae)(T:Option Addr)(d:Nat):Calls Tryz.prog 105 #[.pointer (some ⟨E.cb,0,none⟩),.int .i64 (n:Int),aO t T d] W fun e w'=>e= .returned (.tuple #[])/\Hid (PC E (o++xG C n t) nx rs w'/\CX E.base E.cb W3 w'):=
 (Rq E C B o nx rs W h.1 (G.cx h.2) (aca hb h.2.size) n t T d hl).mono fun e w' ⟨A,D,F⟩=>⟨A,kH ⟨D,h.2.trans F⟩⟩
theorem yT(v D:Int)(y:ae)(A:Option Addr)(c:Nat):Calls Tryz.prog 107 #[.pointer (some ⟨E.cb,0,none⟩),.int .i64 v,.agg #[.int .i64 D,.int .i64 0,.string ⟨#[]⟩],.agg #[.int .i64 y.kind,.string y.text,.int .i64 y.at_,.int .i64 y.end_,.slice A y.kids.length c]] W fun e w'=>e= .returned (.tuple #[])/\Hid (PC E (o++[fV v D 0 ⟨#[]⟩ y]) nx rs w'/\CX E.base E.cb W3 w'):=
 BM h hb hl v D 0 ⟨#[]⟩ _ _ _ _ _ _ _
omit hb hl
theorem zw.drew:PC E o nx rs W.drew/\CX E.base E.cb W3 W.drew:=
 ⟨h.1.below ((Below.refl _ _).drew),h.2.trans (CX.of_below ((Below.refl _ _).drew))⟩
end
theorem zw.ten{E:CE}{o:List bD}{nx rs:Int}{W W3:World}(h:PC E o nx rs W/\CX E.base E.cb W3 W):(∀v:Int,PC E o nx v (W.setCell ⟨E.cb,10,none⟩ (.int .i64 v))/\CX E.base E.cb W3 (W.setCell ⟨E.cb,10,none⟩ (.int .i64 v)))/\W.cell? ⟨E.cb,10,none⟩=some (.int .i64 rs)/\W.frozen? ⟨E.cb,10,none⟩=false/\E.cb<W.heap.size:=by
 refine⟨fun v=>⟨h.1.cell10 _,h.2.setc _ _⟩,?_⟩;obtain⟨D,F,A,-⟩:=h.1;exact⟨A.cell 10,A.frozen 10,A.lt⟩
theorem Ol{P:Program}{f:FuncId}{args:Array Value}{W:World}{v:Ending}{A B:World->Prop}(h:Calls P f args W fun e w'=>e=v/\A w'/\B w'):Calls P f args W fun e w'=>e=v/\Hid (A w'/\B w'):=h.mono fun e w' ⟨D,F,G⟩=>⟨D,kH ⟨F,G⟩⟩
theorem mP{P:Program}{A:Array Oper}{Q:Exit->Act->World->Prop}{S:World->Prop}{k:Nat}{o:Oper}{a:Act}{w:World}{f:FuncId}{args:Array Value}{v:Value}{R:World->Prop}(I:Region.wanted o (yielded A a.tmps)=true)
 (J:(execOp a.eval o).run P w= .ok (.enter f args) w) (h:Calls P f args w fun e w'=>e= .returned v/\R w') (H:∀w',R w'->S w') (G:∀w',R w'->Q .normal (a.put o.dst v) w'):qa P A (NoPanic Q) S [] k [false] [o] a w:=
 dG I J (h.mono fun e w' ⟨F,D⟩=>⟨v,F,fun _=>H _ D,fT (G _ D)⟩)
theorem UM(E:CE)(C:CM)(B:Nat)(hC:yD C)(sz:Nat)(ih:abL E C B sz):abL E C B (sz+1):=by
 intro t n rs out w T c ck h hR al ht oJ hN;obtain⟨k,x,a,z,m,c8,hx,ha,hz,hm,dH⟩:=aW t T c;have lc:E.cb<w.heap.size:=by obtain⟨oA,oc,hC,-⟩:=h;exact hC.lt
 have cz:=jk t;have c5:=(hC.sub n t ht).2;rw[aad];obtain⟨W0, bc⟩:=ag ((w.alloc (.cells #[.int .i64 k,.string x,.int .i64 a,.int .i64 z,.slice T m c] 24)));have bd:Below w.heap.size w W0:=by rw[<- bc];exact ai _ _
 have ba:PC E out (n:Int) rs W0:=h.below bd;have c2:ah W0 w.heap.size 24 #[.int .i64 k,.string x,.int .i64 a,.int .i64 z,.slice T m c]:=by rw[<- bc];exact ah.new _ _ _
 obtain⟨W1, aw⟩:=ag (W0.setCell ⟨E.cb,9,none⟩ (.int .i64 ((n:Int)+1)));have bo:CX E.base E.cb w W1:=by rw[<- aw];exact(CX.of_below bd).setc _ _
 have bZ:Hid (SP E C B w #[.int .i64 k,.string x,.int .i64 a,.int .i64 z,.slice T m c] out ((n+1:Nat):Int) rs W1):=kH ⟨by rw[<- aw];exact ba.cell9 _,bo,by rw[<- aw];exact c2.far (by show w.heap.size≠E.cb;omega) _,hR.cx bo,lc,al⟩;have au:aD W1 B T 0 t.kids:=aD.below (bo.low hR.bw hR.cb hR.base) (ab9 _) _ _ _ oJ;have r9:=CO t T c n W1 (by omega) (aD.mono bZ.out.ph.bw _ _ _ au);rw[dH]at r9⊢;have Dk:=kH r9;have zD:=kH au;have cY:IntKind.i64.wrap ((n:Int)+1)=(n:Int)+1:=IntWalk.i64_in _ (by omega);have A:Hid (t.kind=k/\t.text=x/\t.at_=a/\t.end_=z/\t.kids.length=m/\C.N[n]? =some t/\aO t T c= .agg #[.int .i64 k,.string x,.int .i64 a,.int .i64 z,.slice T m c]/\aB t<=sz+1/\out.length+4*aB t+8<=1000000/\dJ t=true/\yD C/\n+aB t<=200000):=kH ⟨c8,hx,ha,hz,hm,ht,dH,ck,hN,hC.sh t (acn ht),hC,c5⟩;have jo:=kH ih;have c9:W0.cell? ⟨E.cb,9,none⟩=some (.int .i64 (n:Int)):=by obtain⟨oA,oc,hC,-⟩:=ba;exact hC.cell 9
 have f9:W0.frozen? ⟨E.cb,9,none⟩=false:=by obtain⟨oA,oc,hC,-⟩:=ba;exact hC.frozen 9
 have l9:E.cb<W0.heap.size:=Nat.lt_of_lt_of_le lc bd.size;clear c5 ih h hR al ht oJ hN c8 hx ha hz hm dH cz bd ba c2 bo au r9 hC ck;go_in
 go_upto_region 3 with(first|rw[bc]|rw[aw])
 clear bc aw c9 f9 l9;have F:=bZ.out.bx.cell 0;have H:=bZ.out.bx.cell 1;have I:=bZ.out.bx.cell 2;have J:=bZ.out.bx.cell 3;have G:=bZ.out.bx.cell 4;have D:=bZ.out.bx.lt;go_wp2_with fail
 refine Dk.out.mono ?_;rintro e w2 ⟨V,vn,vc,rfl,qj,bG,av⟩;obtain⟨g6, vO⟩:=ag w2.heap.size;obtain⟨W3, ax⟩:=ag ((w2.alloc (.cells #[.int .i64 1,.int .i64 0,.string ⟨#[]⟩] 108)).alloc (.cells #[.int .i64 2,.int .i64 0,.string ⟨#[]⟩] 108));have bh:Below w2.heap.size w2 W3:=by rw[<- ax];exact(ai w2 _).alloc (by simp) _
 have h6:ah W3 g6 108 #[.int .i64 1,.int .i64 0,.string ⟨#[]⟩]:=by rw[<- ax,<- vO];exact(ah.new w2 _ _).alloc _
 have h7:ah W3 (g6+1) 108 #[.int .i64 2,.int .i64 0,.string ⟨#[]⟩]:=by
  rw[<- ax,<- vO];have:=ah.new (w2.alloc (.cells #[.int .i64 1,.int .i64 0,.string ⟨#[]⟩] 108)) 108 #[.int .i64 2,.int .i64 0,.string ⟨#[]⟩];simpa using this
 have b8:=(bZ.out.below av).below bh;have bs:=bG.below bh (fun g hg=>(bG.lt g hg).2);have c6:aD W3 B T 0 t.kids:=aD.below bh (aca bZ.out.ph.bw av.size) _ _ _ (aD.below av bZ.out.ph.bw _ _ _ zD.out);have v:Hid (SP E C B w #[.int .i64 k,.string x,.int .i64 a,.int .i64 z,.slice T m c] out ((n+1:Nat):Int) rs W3):=kH b8;have HB:Hid (ah W3 g6 108 #[.int .i64 1,.int .i64 0,.string ⟨#[]⟩]/\ah W3 (g6+1) 108 #[.int .i64 2,.int .i64 0,.string ⟨#[]⟩]/\aG W3 W1.heap.size 3 1 (.slice V vn vc) vn (bL (bR t.kids (n+1)))/\aD W3 B T 0 t.kids/\t.kids.length=vn/\E.cb≠g6/\E.cb≠g6+1/\(Value.slice V vn vc).ownBlock≠some E.cb):=kH ⟨h6,h7,bs,c6,qj,by have:=b8.cb;have:=bZ.out.cx.size;have:=av.size;omega,by have:=b8.cb;have:=bZ.out.cx.size;have:=av.size;omega,by obtain⟨oA,oc,hC,-⟩:=b8.pc;exact bs.bB hC (by decide)⟩;have br:=kH (And.intro ax vO);clear vO ax bh h6 h7 b8 bs c6 qj bG av H I J G F D;go_upto_region 5 with fail
 rw[br.out.1,br.out.2];clear br;have F:=v.out.bx.cell 0;have D:=v.out.bx.lt;go_upto_block 0 with fail
 go_cut [] (fun wx=>Hid (PC E (out++bH C t n (kT t n rs)) ((n+1:Nat):Int) (kT t n rs) wx/\CX E.base E.cb w wx/\ah wx w.heap.size 24 #[.int .i64 k,.string x,.int .i64 a,.int .i64 z,.slice T m c]/\PH E C B wx/\aD wx B T 0 t.kids))
 case first=>
  have fI:Hid (∀X r W,kT t n rs=r->bH C t n (kT t n rs)=X->PC E (out++X) ((n+1:Nat):Int) r W->CX E.base E.cb W3 W->Hid (PC E (out++bH C t n (kT t n rs)) ((n+1:Nat):Int) (kT t n rs) W/\CX E.base E.cb w W/\ah W w.heap.size 24 #[.int .i64 k,.string x,.int .i64 a,.int .i64 z,.slice T m c]/\PH E C B W/\aD W B T 0 t.kids)):=kH fun X r W h5 h3 h1 h2=>kH ⟨by
   rw[h3,h5]
   exact h1,v.out.cx.trans h2,h2.blk v.out.bx (by decide) (by have:=v.out.cb;omega),v.out.ph.cx h2,aD.below (h2.low v.out.ph.bw v.out.ph.cb v.out.ph.base) (ab9 _) _ _ _ HB.out.2.2.2.1⟩
  have rR:Hid (k≠5->kT t n rs=rs):=kH fun h=>by
   unfold kT;rw[A.out.1,if_neg h]
  have HP:Hid (t.at_=a/\t.end_=z):=kH ⟨A.out.2.2.1,A.out.2.2.2.1⟩;have uB:Hid (E.cb<W3.heap.size):=kH (by have:=v.out.cb;have:=v.out.bx.lt;omega);have sK:Hid (out.length+8<=1000000):=kH (by have:=A.out.2.2.2.2.2.2.2.2.1;have:=jk t;omega)
  have p9:Hid (∀W,CX E.base E.cb W3 W->VA w.heap.size g6 E.cb k x a z T m c W):=kH fun W hW=>by
   have f1:=hW.blk v.out.bx (by decide) (by have:=v.out.cb;omega);have f2:=hW.blk HB.out.1 (by decide) HB.out.2.2.2.2.2.1.symm;have f3:=hW.blk HB.out.2.1 (by decide) HB.out.2.2.2.2.2.2.1.symm;exact⟨f1.cell 0,f1.cell 1,f1.cell 2,f1.cell 3,f1.cell 4,f2.cell 0,f2.cell 1,f2.cell 2,f3.cell 0,f3.cell 1,f3.cell 2,f1.lt,f2.lt,f3.lt,by have:=v.out.cb;have:=v.out.bx.lt;have:=hW.size;omega⟩
  have gQ:Hid (PC E out ((n+1:Nat):Int) rs W3/\CX E.base E.cb W3 W3):=kH ⟨v.out.pc,CX.refl _ _ _⟩;clear F D;obtain⟨sh,hs,-⟩:=fM A.out.2.2.2.2.2.2.2.2.2.1;rw[A.out.1]at hs;have cg:=KH hs;replace cg:(k=0\/k=2\/k=3\/k=6\/k=9\/k=10\/k=11)\/(k=4\/k=7\/k=8)\/(k=14\/k=15\/k=18)\/(k=19\/k=27)\/k=5\/k=12\/k=13\/k=16\/k=17\/k=20\/k=21\/k=22\/k=23\/k=24\/k=25\/k=26\/k=28\/k=29:=by omega
  clear hs;rcases cg with hk|hk|hk|hk|hk|hk|hk|hk|hk|hk|hk|hk|hk|hk|hk|hk|hk|hk
  ·rcases hk with hk|hk|hk|hk|hk|hk|hk
   all_goals
    as_aux_lemma=>
     subst hk;obtain⟨F,H,I,J,G,K,L,M,Q,R,S,D,P,Z,O⟩:=p9.out _ gQ.out.2;go_wp2_with fail
     go_meet
     exact fI.out ([]) _ _ (rR.out (by decide)) (by unfold bH gL;simp only[A.out.1];rfl) (by simpa [fV,j4,HP.out] using gQ.out.1) gQ.out.2
  ·rcases hk with hk|hk|hk
   all_goals
    as_aux_lemma=>
     subst hk;obtain⟨vb,vo,kb,ko,U0,qh,l0,hV,hT,HL,HA,a8,zM,zO,zN⟩:=GJ p9.out HB.out.2.2.1 HB.out.2.2.2.1 HB.out.2.2.2.2.2.2.2 v.out.ph A.out.2.2.2.2.1 HB.out.2.2.2.2.1 (by first|(rw[gV (sh:=⟨bO,[bA [9]],none,0⟩) A.out.2.2.2.2.2.2.2.2.2.1 (by rw[A.out.1];rfl) rfl];decide)|(rw[gV (sh:=⟨bO,[eU bU],none,0⟩) A.out.2.2.2.2.2.2.2.2.2.1 (by rw[A.out.1];rfl) rfl];decide));subst hV hT;obtain⟨⟨F,H,I,J,G,K,L,M,Q,R,S,D,P,Z,O⟩,v0,l,p1,p2,p3,p4,vl,j⟩:=HA.out _ gQ.out.2;go_wp2_with fail
     refine(UK gQ.out v.out.le (by have:=sK.out;first|omega|(simp;omega)) v.out.ph n (kd t 0) U0 qh).mono ?_;rintro e w5 ⟨rfl,u⟩;clear F H I J G K L M Q R S D P Z O v0 l p1 p2 p3 p4 vl j;obtain⟨⟨F,H,I,J,G,K,L,M,Q,R,S,D,P,Z,O⟩,v0,l,p1,p2,p3,p4,vl,j⟩:=HA.out _ u.out.2;go_wp2_with fail
     go_meet
     exact fI.out (xG C n (kd t 0)) _ _ (rR.out (by decide)) (by unfold bH gL;simp only[A.out.1,HL.out];rfl) (by simpa [fV,j4,HP.out] using u.out.1) u.out.2
  ·rcases hk with hk|hk|hk
   all_goals
    as_aux_lemma=>
     subst hk;obtain⟨vb,vo,kb,ko,U0,qh,l0,hV,hT,HL,HA,a8,zM,zO,zN⟩:=GJ p9.out HB.out.2.2.1 HB.out.2.2.2.1 HB.out.2.2.2.2.2.2.2 v.out.ph A.out.2.2.2.2.1 HB.out.2.2.2.2.1 (by first|(rw[gV (sh:=⟨dM,[aN,bA [11],eU (bA [11,14])],none,0⟩) A.out.2.2.2.2.2.2.2.2.2.1 (by rw[A.out.1];rfl) rfl];decide)|(rw[gV (sh:=⟨dM,[aN,bA [11]],none,0⟩) A.out.2.2.2.2.2.2.2.2.2.1 (by rw[A.out.1];rfl) rfl];decide)|(rw[gV (sh:=⟨dM,[aN],none,0⟩) A.out.2.2.2.2.2.2.2.2.2.1 (by rw[A.out.1];rfl) rfl];decide));subst hV hT;obtain⟨⟨F,H,I,J,G,K,L,M,Q,R,S,D,P,Z,O⟩,v0,l,p1,p2,p3,p4,vl,j⟩:=HA.out _ gQ.out.2;go_wp2_with fail
     clear F H I J G K L M Q R S D P Z O v0 l p1 p2 p3 p4 vl j;have HD:=kH (zw.drew gQ.out);refine bF (CX E.base E.cb W3) [] [true,true,true,true,true,true,true,true,true,false] (by kernel_rfl) (by kernel_rfl) rfl (by kernel_rfl) ?_
     iterate 9
      refine bC (by rfl) HD.out.2 (by intro w' h;obtain⟨⟨F,H,I,J,G,K,L,M,Q,R,S,D,P,Z,O⟩,v0,l,p1,p2,p3,p4,vl,j⟩:=HA.out _ h;go_simp;rfl) ?_;simp only[Act.put,sA,sZ,sC]
     refine mP (by rfl) (by go_simp) (yT HD.out v.out.le (by have:=sK.out;first|omega|(simp;omega)) l0 2 (kd t 0) U0 qh) (fun _ h=>h.out.2) ?_;intro w5 u;obtain⟨⟨F,H,I,J,G,K,L,M,Q,R,S,D,P,Z,O⟩,v0,l,p1,p2,p3,p4,vl,j⟩:=HA.out _ u.out.2;simp only[Act.put];go_wp2_with fail
     clear HD;go_meet
     exact fI.out ([fV l0 2 0 ⟨#[]⟩ (kd t 0)]) _ _ (rR.out (by decide)) (by unfold bH gL;simp only[A.out.1,HL.out];rfl) (by simpa [fV,j4,HP.out] using u.out.1) u.out.2
  ·rcases hk with hk|hk
   all_goals
    as_aux_lemma=>
     subst hk;have a7:=Za E C B _ _ _ W3 gQ.out.1 v.out.ph v.out.le A.out.2.2.2.2.2.2.2.2.2.2.1 n t A.out.2.2.2.2.2.1 (by rw[A.out.1];decide) T c HB.out.2.2.2.1 V vn vc _ HB.out.2.2.1 (by have:=A.out.2.2.2.2.2.2.2.2.1;have:=dO t.kids;have:=eY t;omega);rw[A.out.2.2.2.2.2.2.1]at a7;have tN:=kH (Ol a7);clear a7;obtain⟨F,H,I,J,G,K,L,M,Q,R,S,D,P,Z,O⟩:=p9.out _ gQ.out.2;go_wp2_with fail
     refine tN.out.mono ?_;rintro e w5 ⟨rfl,u⟩;clear F H I J G K L M Q R S D P Z O;obtain⟨F,H,I,J,G,K,L,M,Q,R,S,D,P,Z,O⟩:=p9.out _ u.out.2;go_wp2_with fail
     go_meet
     exact fI.out (uS C t n) _ _ (rR.out (by decide)) (by unfold bH;rw[A.out.1];rfl) u.out.1 u.out.2
  ·as_aux_lemma=>
    subst hk;obtain⟨vb,vo,kb,ko,U0,qh,l0,U1,Fw,l1,hV,hT,HL,HA,a8,zM,zO,zN,bm,VD,VV,VE⟩:=Qy p9.out HB.out.2.2.1 HB.out.2.2.2.1 HB.out.2.2.2.2.2.2.2 v.out.ph A.out.2.2.2.2.1 HB.out.2.2.2.2.1 (by rw[gV (sh:=⟨bO,[bA [6],eU bU,bA [11]],none,0⟩) A.out.2.2.2.2.2.2.2.2.2.1 (by rw[A.out.1];rfl) rfl];decide);subst hV hT;obtain⟨⟨F,H,I,J,G,K,L,M,Q,R,S,D,P,Z,O⟩,⟨v0,l,p1,p2,p3,p4,vl,j⟩,v1,r0,r1,r2,r3,r4,-⟩:=HA.out _ gQ.out.2;go_wp2_with fail
    refine(UK gQ.out v.out.le (by have:=sK.out;first|omega|(simp;omega)) v.out.ph n (kd t 1) U1 Fw).mono ?_;rintro e w5 ⟨rfl,u⟩;obtain⟨W6, xK⟩:=ag (w5.setCell ⟨E.cb,10,none⟩ (.int .i64 (-1)));obtain⟨h6,q0,q1,q2⟩:=zw.ten u.out;have eQ:=kH (h6 (-1));rw[xK]at eQ;clear F H I J G K L M Q R S D P Z O v0 l p1 p2 p3 p4 vl j v1 r0 r1 r2 r3 r4;clear h6;obtain⟨⟨F,H,I,J,G,K,L,M,Q,R,S,D,P,Z,O⟩,⟨v0,l,p1,p2,p3,p4,vl,j⟩,v1,r0,r1,r2,r3,r4,-⟩:=HA.out _ eQ.out.2;obtain⟨k1, au⟩:=ag ((kd t 1).kind);rw[au]at r0;by_cases bu:k1=0
    ·subst bu
     go_wp2_with (rw[xK])
     go_meet
     exact fI.out (xG C n (kd t 1)) (-1) _ (by unfold kT;rw[A.out.1,au];rfl) (by unfold bH;rw[A.out.1];rfl) eQ.out.1 eQ.out.2
    have WB:(k1 !=0)=true:=by simpa using bu
    obtain⟨h6,s0,s1,s2⟩:=zw.ten eQ.out;have ru:=kH (h6 n);clear h6;go_wp2_with (rw[xK])
    go_meet
    exact fI.out (xG C n (kd t 1)) (n:Int) _ (by unfold kT;rw[A.out.1,au];exact if_pos bu) (by unfold bH;rw[A.out.1];rfl) ru.out.1 ru.out.2
  ·as_aux_lemma=>
    subst hk;obtain⟨vb,vo,kb,ko,U0,qh,l0,U1,Fw,l1,hV,hT,HL,HA,a8,zM,zO,zN,bm,VD,VV,VE⟩:=Qy p9.out HB.out.2.2.1 HB.out.2.2.2.1 HB.out.2.2.2.2.2.2.2 v.out.ph A.out.2.2.2.2.1 HB.out.2.2.2.2.1 (by rw[gV (sh:=⟨bO,[eU bU,aN],none,0⟩) A.out.2.2.2.2.2.2.2.2.2.1 (by rw[A.out.1];rfl) rfl];decide);subst hV hT;obtain⟨⟨F,H,I,J,G,K,L,M,Q,R,S,D,P,Z,O⟩,⟨v0,l,p1,p2,p3,p4,vl,j⟩,v1,r0,r1,r2,r3,r4,-⟩:=HA.out _ gQ.out.2;go_wp2_with fail
    refine(UK gQ.out v.out.le (by have:=sK.out;first|omega|(simp;omega)) v.out.ph n (kd t 0) U0 qh).mono ?_;rintro e w5 ⟨rfl,u⟩;clear F H I J G K L M Q R S D P Z O v0 l p1 p2 p3 p4 vl j v1 r0 r1 r2 r3 r4;obtain⟨⟨F,H,I,J,G,K,L,M,Q,R,S,D,P,Z,O⟩,⟨v0,l,p1,p2,p3,p4,vl,j⟩,v1,r0,r1,r2,r3,r4,-⟩:=HA.out _ u.out.2;go_wp2_with fail
    clear F H I J G K L M Q R S D P Z O v0 l p1 p2 p3 p4 vl j v1 r0 r1 r2 r3 r4;have HD:=kH (zw.drew u.out);refine bF (CX E.base E.cb W3) [] [true,true,true,true,true,true,false] (by kernel_rfl) (by kernel_rfl) rfl (by kernel_rfl) ?_
    iterate 6
     refine bC (by rfl) HD.out.2 (by intro w' h;obtain⟨⟨F,H,I,J,G,K,L,M,Q,R,S,D,P,Z,O⟩,⟨v0,l,p1,p2,p3,p4,vl,j⟩,v1,r0,r1,r2,r3,r4,-⟩:=HA.out _ h;go_simp;rfl) ?_;simp only[Act.put,sA,sZ,sC]
    refine mP (by rfl) (by go_simp) (Kt HD.out v.out.le (by have:=sK.out;have:=Ii C n (kd t 0);rw[acm];omega) (n:Int) l1 12 x a z (some ⟨kb,ko,none⟩) m c) (fun _ h=>h.out.2) ?_;intro w6 eQ;obtain⟨⟨F,H,I,J,G,K,L,M,Q,R,S,D,P,Z,O⟩,⟨v0,l,p1,p2,p3,p4,vl,j⟩,v1,r0,r1,r2,r3,r4,-⟩:=HA.out _ eQ.out.2;simp only[Act.put];go_wp2_with fail
    clear HD;go_meet
    exact fI.out (xG C n (kd t 0)++[j4 n l1 t]) _ _ (rR.out (by decide)) (by unfold bH gL;simp only[A.out.1,HL.out];rfl) (by simpa [fV,j4,HP.out] using eQ.out.1) eQ.out.2
  ·as_aux_lemma=>
    subst hk;obtain⟨vb,vo,kb,ko,U0,qh,l0,U1,Fw,l1,hV,hT,HL,HA,a8,zM,zO,zN,bm,VD,VV,VE⟩:=Qy p9.out HB.out.2.2.1 HB.out.2.2.2.1 HB.out.2.2.2.2.2.2.2 v.out.ph A.out.2.2.2.2.1 HB.out.2.2.2.2.1 (by rw[gV (sh:=⟨dM,[iC,aN],none,0⟩) A.out.2.2.2.2.2.2.2.2.2.1 (by rw[A.out.1];rfl) rfl];decide);subst hV hT;obtain⟨⟨F,H,I,J,G,K,L,M,Q,R,S,D,P,Z,O⟩,⟨v0,l,p1,p2,p3,p4,vl,j⟩,v1,r0,r1,r2,r3,r4,-⟩:=HA.out _ gQ.out.2;go_wp2_with fail
    clear F H I J G K L M Q R S D P Z O v0 l p1 p2 p3 p4 vl j v1 r0 r1 r2 r3 r4;have HD:=kH (zw.drew gQ.out);refine bF (CX E.base E.cb W3) [] [true,true,true,true,true,true,true,true,false] (by kernel_rfl) (by kernel_rfl) rfl (by kernel_rfl) ?_
    iterate 8
     refine bC (by rfl) HD.out.2 (by intro w' h;obtain⟨⟨F,H,I,J,G,K,L,M,Q,R,S,D,P,Z,O⟩,⟨v0,l,p1,p2,p3,p4,vl,j⟩,v1,r0,r1,r2,r3,r4,-⟩:=HA.out _ h;go_simp;rfl) ?_;simp only[Act.put,sA,sZ,sC]
    refine mP (by rfl) (by go_simp) (Kt HD.out v.out.le (by have:=sK.out;first|omega|(simp;omega)) l0 l1 13 x a z (some ⟨kb,ko,none⟩) m c) (fun _ h=>h.out.2) ?_;intro w5 u;obtain⟨⟨F,H,I,J,G,K,L,M,Q,R,S,D,P,Z,O⟩,⟨v0,l,p1,p2,p3,p4,vl,j⟩,v1,r0,r1,r2,r3,r4,-⟩:=HA.out _ u.out.2;simp only[Act.put];go_wp2_with fail
    clear HD;go_meet
    exact fI.out ([j4 l0 l1 t]) _ _ (rR.out (by decide)) (by unfold bH gL;simp only[A.out.1,HL.out];rfl) (by simpa [fV,j4,HP.out] using u.out.1) u.out.2
  ·as_aux_lemma=>
    subst hk;obtain⟨vb,vo,kb,ko,U0,qh,l0,U1,Fw,l1,hV,hT,HL,HA,a8,zM,zO,zN,bm,VD,VV,VE⟩:=Qy p9.out HB.out.2.2.1 HB.out.2.2.2.1 HB.out.2.2.2.2.2.2.2 v.out.ph A.out.2.2.2.2.1 HB.out.2.2.2.2.1 (by rw[gV (sh:=⟨bO,[aN,aN,bA [11]],none,0⟩) A.out.2.2.2.2.2.2.2.2.2.1 (by rw[A.out.1];rfl) rfl];decide);subst hV hT;obtain⟨⟨F,H,I,J,G,K,L,M,Q,R,S,D,P,Z,O⟩,⟨v0,l,p1,p2,p3,p4,vl,j⟩,v1,r0,r1,r2,r3,r4,-⟩:=HA.out _ gQ.out.2;go_wp2_with fail
    refine(BM gQ.out v.out.le (by have:=sK.out;first|omega|(simp;omega)) (n:Int) 1 0 ⟨#[]⟩ _ _ _ _ _ _ _).mono ?_;rintro e w5 ⟨rfl,u⟩;clear F H I J G K L M Q R S D P Z O v0 l p1 p2 p3 p4 vl j v1 r0 r1 r2 r3 r4;obtain⟨⟨F,H,I,J,G,K,L,M,Q,R,S,D,P,Z,O⟩,⟨v0,l,p1,p2,p3,p4,vl,j⟩,v1,r0,r1,r2,r3,r4,-⟩:=HA.out _ u.out.2;go_wp2_with fail
    clear F H I J G K L M Q R S D P Z O v0 l p1 p2 p3 p4 vl j v1 r0 r1 r2 r3 r4;have HD:=kH (zw.drew u.out);refine bF (CX E.base E.cb W3) [] [true,true,true,true,true,true,true,true,true,false] (by kernel_rfl) (by kernel_rfl) rfl (by kernel_rfl) ?_
    iterate 9
     refine bC (by rfl) HD.out.2 (by intro w' h;obtain⟨⟨F,H,I,J,G,K,L,M,Q,R,S,D,P,Z,O⟩,⟨v0,l,p1,p2,p3,p4,vl,j⟩,v1,r0,r1,r2,r3,r4,-⟩:=HA.out _ h;go_simp;rfl) ?_;simp only[Act.put,sA,sZ,sC]
    refine mP (by rfl) (by go_simp) (yT HD.out v.out.le (by have:=sK.out;first|omega|(simp;omega)) l0 1 (kd t 0) U0 qh) (fun _ h=>h.out.2) ?_;intro w6 eQ;obtain⟨⟨F,H,I,J,G,K,L,M,Q,R,S,D,P,Z,O⟩,⟨v0,l,p1,p2,p3,p4,vl,j⟩,v1,r0,r1,r2,r3,r4,-⟩:=HA.out _ eQ.out.2;simp only[Act.put];go_wp2_with fail
    clear HD;clear F H I J G K L M Q R S D P Z O v0 l p1 p2 p3 p4 vl j v1 r0 r1 r2 r3 r4;have HD:=kH (zw.drew eQ.out);refine bF (CX E.base E.cb W3) [] [true,true,true,true,true,true,true,true,true,false] (by kernel_rfl) (by kernel_rfl) rfl (by kernel_rfl) ?_
    iterate 9
     refine bC (by rfl) HD.out.2 (by intro w' h;obtain⟨⟨F,H,I,J,G,K,L,M,Q,R,S,D,P,Z,O⟩,⟨v0,l,p1,p2,p3,p4,vl,j⟩,v1,r0,r1,r2,r3,r4,-⟩:=HA.out _ h;go_simp;rfl) ?_;simp only[Act.put,sA,sZ,sC]
    refine mP (by rfl) (by go_simp) (yT HD.out v.out.le (by have:=sK.out;first|omega|(simp;omega)) l1 1 (kd t 1) U1 Fw) (fun _ h=>h.out.2) ?_;intro w7 ru;obtain⟨⟨F,H,I,J,G,K,L,M,Q,R,S,D,P,Z,O⟩,⟨v0,l,p1,p2,p3,p4,vl,j⟩,v1,r0,r1,r2,r3,r4,-⟩:=HA.out _ ru.out.2;simp only[Act.put];go_wp2_with fail
    clear HD;go_meet
    exact fI.out ([fV (n:Int) 1 0 ⟨#[]⟩ t,fV l0 1 0 ⟨#[]⟩ (kd t 0),fV l1 1 0 ⟨#[]⟩ (kd t 1)]) _ _ (rR.out (by decide)) (by unfold bH gL;simp only[A.out.1,HL.out];rfl) (by simpa [fV,j4,HP.out] using ru.out.1) ru.out.2
  ·as_aux_lemma=>
    subst hk;have UC:Hid (bH C t n (kT t n rs)=if (kd t 0).kind≠0/\0<=rs then [j4 (nk t n 0) rs t] else []):=kH (by unfold bH kT;rw[A.out.1];rfl);obtain⟨-,q0,-⟩:=zw.ten gQ.out;obtain⟨vb,vo,kb,ko,U0,qh,l0,hV,hT,HL,HA,a8,zM,zO,zN⟩:=GJ p9.out HB.out.2.2.1 HB.out.2.2.2.1 HB.out.2.2.2.2.2.2.2 v.out.ph A.out.2.2.2.2.1 HB.out.2.2.2.2.1 (by rw[gV (sh:=⟨dM,[eU aN],none,0⟩) A.out.2.2.2.2.2.2.2.2.2.1 (by rw[A.out.1];rfl) rfl];decide);subst hV hT;obtain⟨⟨F,H,I,J,G,K,L,M,Q,R,S,D,P,Z,O⟩,v0,l,p1,p2,p3,p4,vl,j⟩:=HA.out _ gQ.out.2;obtain⟨k0, bk⟩:=ag ((kd t 0).kind);have Ib:=kH bk;rw[bk]at l;by_cases bt:k0=0
    ·subst bt
     go_wp2_with fail
     go_meet
     exact fI.out [] _ _ (rR.out (by decide)) (by rw[UC.out,if_neg (by rw[Ib.out];simp)]) (by simpa using gQ.out.1) gQ.out.2
    have cr:(k0 !=0)=true:=by simpa using bt
    by_cases ct:0<=rs
    ·rw[<- bk]at l
     clear bk;have cJ:=l;rw[Ib.out]at l;go_wp2_with fail
     clear F H I J G K L M Q R S D P Z O v0 l p1 p2 p3 p4 vl j;clear cJ q0;have HD:=kH (zw.drew gQ.out);refine bF (fun W=>CX E.base E.cb W3 W/\W.cell? ⟨E.cb,10,none⟩=some (.int .i64 rs)) [] [true,true,true,true,true,true,true,true,true,false] (by kernel_rfl) (by kernel_rfl) rfl (by kernel_rfl) ?_;have af:=And.intro HD.out.2 (zw.ten HD.out).2.1
     iterate 9
      refine bC (by rfl) af (by intro w' h;obtain⟨⟨F,H,I,J,G,K,L,M,Q,R,S,D,P,Z,O⟩,v0,l,p1,p2,p3,p4,vl,j⟩:=HA.out _ h.1;have h9:=h.2;go_simp;rfl) ?_;simp only[Act.put,sA,sZ,sC]
     refine mP (by rfl) (by go_simp) (Kt HD.out v.out.le (by have:=sK.out;first|omega|(simp;omega)) l0 rs 17 x a z (some ⟨kb,ko,none⟩) m c) (fun _ h=>⟨h.out.2,(zw.ten h.out).2.1⟩) ?_;intro w5 u;simp only[Act.put];clear af;go_wp2_with fail
     go_meet
     exact fI.out [j4 l0 rs t] _ _ (rR.out (by decide)) (by rw[UC.out,HL.out,if_pos ⟨by rw[Ib.out];exact bt,ct⟩]) (by simpa [j4,HP.out] using u.out.1) u.out.2
    go_wp2_with fail
    go_meet
    exact fI.out [] _ _ (rR.out (by decide)) (by rw[UC.out,if_neg (fun h=>by have:=h.2;omega)]) (by simpa using gQ.out.1) gQ.out.2
  ·as_aux_lemma=>
    subst hk;obtain⟨hu,hd⟩:=A.out.2.2.2.2.2.2.2.2.2.2.1.used A.out.2.2.2.2.2.1;rcases hd with hd| ⟨q,m1,d,y,hd,jr,az,aq,-,-,-,-,-,-,ad⟩
    ·have b7:C.us[n]? =some (-1):=by
      rcases hu.cases with h| ⟨q,d,h1,-⟩
      ·exact h.2
      rw[hd]at h1;cases h1
     have HD:=kH (And.intro hd b7);clear hd b7 hu;obtain⟨F,H,I,J,G,K,L,M,Q,R,S,D,P,Z,O⟩:=p9.out _ gQ.out.2;go_wp2_with fail
     refine(Mo E _ _ _ W3 gQ.out.1 C.us B v.out.ph.bw v.out.ph.us v.out.ph.un n (-1) HD.out.2 (by omega)).mono ?_;rintro e w5 ⟨rfl,a1⟩;have a6:=a1.trans ((ai w5 (.cells #[.int .i64 0,.string ⟨#[]⟩,.int .i64 0,.int .i64 0] 49)).mono a1.size);have u:=kH (And.intro (gQ.out.1.below a6) (gQ.out.2.trans (CX.of_below a6)));clear F H I J G K L M Q R S D P Z O;clear a1 a6;go_wp2_with fail
     go_meet
     exact fI.out [] _ _ (rR.out (by decide)) (by unfold bH;rw[A.out.1,HD.out.1];rfl) (by simpa using u.out.1) u.out.2
    obtain⟨dk, ay⟩:=ag d.kind;obtain⟨dx, Aa⟩:=ag d.name;obtain⟨dw, ar⟩:=ag d.owner;have a7:=JC E _ _ _ W3 gQ.out.1 C.us C.ds B v.out.ph.bw v.out.ph.us v.out.ph.un v.out.ph.ds v.out.ph.dn n q d jr az;rw[ay,Aa,aq,ar]at a7;have tN:=kH a7;have HD:Hid (oW C n=some d/\d.node=(m1:Int)/\d.owner=dw/\(t.kind=22->uT C.N d.owner)):=kH ⟨hd,aq,ar,ad⟩;clear a7 hu hd jr az aq ad ay Aa ar;obtain⟨F,H,I,J,G,K,L,M,Q,R,S,D,P,Z,O⟩:=p9.out _ gQ.out.2;go_wp2_with fail
    refine tN.out.mono ?_;rintro e w5 ⟨rfl,a1⟩;obtain⟨g8, GV⟩:=ag w5.heap.size;obtain⟨W6, xK⟩:=ag (w5.alloc (.cells #[.int .i64 dk,.string dx,.int .i64 (m1:Int),.int .i64 dw] 49));have a6:Below W3.heap.size W3 W6:=by rw[<- xK];exact a1.trans ((ai _ _).mono a1.size)
    have h8:ah W6 g8 49 #[.int .i64 dk,.string dx,.int .i64 (m1:Int),.int .i64 dw]:=by rw[<- xK,<- GV];exact ah.new _ _ _
    have N8:g8≠E.cb:=by have:=uB.out;have:=a1.size;omega
    have H8:=kH (And.intro h8 N8);have u:Hid (PC E out ((n+1:Nat):Int) rs W6/\CX E.base E.cb W3 W6):=kH ⟨gQ.out.1.below a6,gQ.out.2.trans (CX.of_below a6)⟩;clear F H I J G K L M Q R S D P Z O;have RP:=kH (And.intro xK GV);clear xK GV a1 a6 h8 N8;go_upto_region 36 with fail
    rw[RP.out.1,RP.out.2];clear RP;obtain⟨F,H,I,J,G,K,L,M,Q,R,S,D,P,Z,O⟩:=p9.out _ u.out.2;have d2:=H8.out.1.cell 2;have d3:=H8.out.1.cell 3;have dl:=H8.out.1.lt;go_wp2_with fail
    refine(Kt u.out v.out.le (by have:=sK.out;first|omega|(simp;omega)) (n:Int) (m1:Int) _ _ _ _ _ _ _).mono ?_;rintro e w7 ⟨rfl,eQ⟩;clear F H I J G K L M Q R S D P Z O;obtain⟨F,H,I,J,G,K,L,M,Q,R,S,D,P,Z,O⟩:=p9.out _ eQ.out.2;go_wp2_with fail
    go_meet
    exact fI.out [j4 n (m1:Int) t] _ _ (rR.out (by decide)) (by unfold bH;rw[A.out.1,HD.out.1];show [j4 _ d.node t]=_;rw[HD.out.2.1]) (by simpa [j4,HP.out] using eQ.out.1) eQ.out.2
  ·as_aux_lemma=>
    subst hk;obtain⟨vb,vo,kb,ko,U0,qh,l0,U1,Fw,l1,hV,hT,HL,HA,a8,zM,zO,zN,bm,VD,VV,VE⟩:=Qy p9.out HB.out.2.2.1 HB.out.2.2.2.1 HB.out.2.2.2.2.2.2.2 v.out.ph A.out.2.2.2.2.1 HB.out.2.2.2.2.1 (by rw[gV (sh:=⟨dM,[bA [20],aN],none,0⟩) A.out.2.2.2.2.2.2.2.2.2.1 (by rw[A.out.1];rfl) rfl];decide);subst hV hT;obtain⟨⟨F,H,I,J,G,K,L,M,Q,R,S,D,P,Z,O⟩,⟨v0,l,p1,p2,p3,p4,vl,j⟩,v1,r0,r1,r2,r3,r4,-⟩:=HA.out _ gQ.out.2;go_wp2_with fail
    clear F H I J G K L M Q R S D P Z O v0 l p1 p2 p3 p4 vl j v1 r0 r1 r2 r3 r4;have HD:=kH (zw.drew gQ.out);refine bF (CX E.base E.cb W3) [] [true,true,true,true,true,true,true,true,true,false] (by kernel_rfl) (by kernel_rfl) rfl (by kernel_rfl) ?_
    iterate 9
     refine bC (by rfl) HD.out.2 (by intro w' h;obtain⟨⟨F,H,I,J,G,K,L,M,Q,R,S,D,P,Z,O⟩,⟨v0,l,p1,p2,p3,p4,vl,j⟩,v1,r0,r1,r2,r3,r4,-⟩:=HA.out _ h;go_simp;rfl) ?_;simp only[Act.put,sA,sZ,sC]
    refine mP (by rfl) (by go_simp) (yT HD.out v.out.le (by have:=sK.out;first|omega|(simp;omega)) l0 5 (kd t 0) U0 qh) (fun _ h=>h.out.2) ?_;intro w5 u;obtain⟨⟨F,H,I,J,G,K,L,M,Q,R,S,D,P,Z,O⟩,⟨v0,l,p1,p2,p3,p4,vl,j⟩,v1,r0,r1,r2,r3,r4,-⟩:=HA.out _ u.out.2;simp only[Act.put];go_wp2_with fail
    clear HD;clear F H I J G K L M Q R S D P Z O v0 l p1 p2 p3 p4 vl j v1 r0 r1 r2 r3 r4;have HD:=kH (zw.drew u.out);refine bF (CX E.base E.cb W3) [] [true,true,true,true,true,true,true,true,true,false] (by kernel_rfl) (by kernel_rfl) rfl (by kernel_rfl) ?_
    iterate 9
     refine bC (by rfl) HD.out.2 (by intro w' h;obtain⟨⟨F,H,I,J,G,K,L,M,Q,R,S,D,P,Z,O⟩,⟨v0,l,p1,p2,p3,p4,vl,j⟩,v1,r0,r1,r2,r3,r4,-⟩:=HA.out _ h;go_simp;rfl) ?_;simp only[Act.put,sA,sZ,sC]
    refine mP (by rfl) (by go_simp) (yT HD.out v.out.le (by have:=sK.out;first|omega|(simp;omega)) l1 1 (kd t 1) U1 Fw) (fun _ h=>h.out.2) ?_;intro w6 eQ;obtain⟨⟨F,H,I,J,G,K,L,M,Q,R,S,D,P,Z,O⟩,⟨v0,l,p1,p2,p3,p4,vl,j⟩,v1,r0,r1,r2,r3,r4,-⟩:=HA.out _ eQ.out.2;simp only[Act.put];go_wp2_with fail
    clear HD;refine(BM eQ.out v.out.le (by have:=sK.out;first|omega|(simp;omega)) (n:Int) 1 0 ⟨#[]⟩ _ _ _ _ _ _ _).mono ?_;rintro e w7 ⟨rfl,ru⟩;clear F H I J G K L M Q R S D P Z O v0 l p1 p2 p3 p4 vl j v1 r0 r1 r2 r3 r4;obtain⟨⟨F,H,I,J,G,K,L,M,Q,R,S,D,P,Z,O⟩,⟨v0,l,p1,p2,p3,p4,vl,j⟩,v1,r0,r1,r2,r3,r4,-⟩:=HA.out _ ru.out.2;go_wp2_with fail
    go_meet
    exact fI.out ([fV l0 5 0 ⟨#[]⟩ (kd t 0),fV l1 1 0 ⟨#[]⟩ (kd t 1),fV (n:Int) 1 0 ⟨#[]⟩ t]) _ _ (rR.out (by decide)) (by unfold bH gL;simp only[A.out.1,HL.out];rfl) (by simpa [fV,j4,HP.out] using ru.out.1) ru.out.2
  ·as_aux_lemma=>
    subst hk;obtain⟨hu,hd⟩:=A.out.2.2.2.2.2.2.2.2.2.2.1.used A.out.2.2.2.2.2.1;rcases hd with hd| ⟨q,m1,d,y,hd,jr,az,aq,-,-,-,-,-,-,ad⟩
    ·have b7:C.us[n]? =some (-1):=by
      rcases hu.cases with h| ⟨q,d,h1,-⟩
      ·exact h.2
      rw[hd]at h1;cases h1
     have HD:=kH (And.intro hd b7);clear hd b7 hu;obtain⟨vb,vo,kb,ko,U0,qh,l0,hV,hT,HL,HA,a8,zM,zO,zN⟩:=GJ p9.out HB.out.2.2.1 HB.out.2.2.2.1 HB.out.2.2.2.2.2.2.2 v.out.ph A.out.2.2.2.2.1 HB.out.2.2.2.2.1 (by rw[gV (sh:=⟨bO,[bA [20]],none,0⟩) A.out.2.2.2.2.2.2.2.2.2.1 (by rw[A.out.1];rfl) rfl];decide);subst hV hT;obtain⟨⟨F,H,I,J,G,K,L,M,Q,R,S,D,P,Z,O⟩,v0,l,p1,p2,p3,p4,vl,j⟩:=HA.out _ gQ.out.2;go_wp2_with fail
     refine(Mo E _ _ _ W3 gQ.out.1 C.us B v.out.ph.bw v.out.ph.us v.out.ph.un n (-1) HD.out.2 (by omega)).mono ?_;rintro e w5 ⟨rfl,a1⟩;have a6:=a1.trans ((ai w5 (.cells #[.int .i64 0,.string ⟨#[]⟩,.int .i64 0,.int .i64 0] 49)).mono a1.size);have u:=kH (And.intro (gQ.out.1.below a6) (gQ.out.2.trans (CX.of_below a6)));clear F H I J G K L M Q R S D P Z O v0 l p1 p2 p3 p4 vl j;clear a1 a6;go_wp2_with fail
     go_meet
     exact fI.out [] _ _ (rR.out (by decide)) (by unfold bH;rw[A.out.1,HD.out.1];rfl) (by simpa using u.out.1) u.out.2
    obtain⟨dk, ay⟩:=ag d.kind;obtain⟨dx, Aa⟩:=ag d.name;obtain⟨dw, ar⟩:=ag d.owner;have a7:=JC E _ _ _ W3 gQ.out.1 C.us C.ds B v.out.ph.bw v.out.ph.us v.out.ph.un v.out.ph.ds v.out.ph.dn n q d jr az;rw[ay,Aa,aq,ar]at a7;have tN:=kH a7;have HD:Hid (oW C n=some d/\d.node=(m1:Int)/\d.owner=dw/\(t.kind=22->uT C.N d.owner)):=kH ⟨hd,aq,ar,ad⟩;clear a7 hu hd jr az aq ad ay Aa ar;obtain⟨vb,vo,kb,ko,U0,qh,l0,hV,hT,HL,HA,a8,zM,zO,zN⟩:=GJ p9.out HB.out.2.2.1 HB.out.2.2.2.1 HB.out.2.2.2.2.2.2.2 v.out.ph A.out.2.2.2.2.1 HB.out.2.2.2.2.1 (by rw[gV (sh:=⟨bO,[bA [20]],none,0⟩) A.out.2.2.2.2.2.2.2.2.2.1 (by rw[A.out.1];rfl) rfl];decide);subst hV hT;obtain⟨⟨F,H,I,J,G,K,L,M,Q,R,S,D,P,Z,O⟩,v0,l,p1,p2,p3,p4,vl,j⟩:=HA.out _ gQ.out.2;go_wp2_with fail
    refine tN.out.mono ?_;rintro e w5 ⟨rfl,a1⟩;obtain⟨g8, GV⟩:=ag w5.heap.size;obtain⟨W6, xK⟩:=ag (w5.alloc (.cells #[.int .i64 dk,.string dx,.int .i64 (m1:Int),.int .i64 dw] 49));have a6:Below W3.heap.size W3 W6:=by rw[<- xK];exact a1.trans ((ai _ _).mono a1.size)
    have h8:ah W6 g8 49 #[.int .i64 dk,.string dx,.int .i64 (m1:Int),.int .i64 dw]:=by rw[<- xK,<- GV];exact ah.new _ _ _
    have N8:g8≠E.cb:=by have:=uB.out;have:=a1.size;omega
    have H8:=kH (And.intro h8 N8);have u:Hid (PC E out ((n+1:Nat):Int) rs W6/\CX E.base E.cb W3 W6):=kH ⟨gQ.out.1.below a6,gQ.out.2.trans (CX.of_below a6)⟩;clear F H I J G K L M Q R S D P Z O v0 l p1 p2 p3 p4 vl j;have RP:=kH (And.intro xK GV);clear xK GV a1 a6 h8 N8;go_upto_region 44 with fail
    rw[RP.out.1,RP.out.2];clear RP;obtain⟨⟨F,H,I,J,G,K,L,M,Q,R,S,D,P,Z,O⟩,v0,l,p1,p2,p3,p4,vl,j⟩:=HA.out _ u.out.2;have d2:=H8.out.1.cell 2;have d3:=H8.out.1.cell 3;have dl:=H8.out.1.lt;go_wp2_with fail
    clear F H I J G K L M Q R S D P Z O v0 l p1 p2 p3 p4 vl j;obtain⟨om,ho,cc⟩:=HD.out.2.2.2 A.out.1;obtain⟨y2,bT⟩:∃y2,C.N[om]? =some y2:=⟨_,ace cc⟩
    have cA:dw=(om:Int):=by rw[<- HD.out.2.2.1];exact ho
    subst cA
    have c4:(Ad C d.owner).text=y2.text:=by
     unfold Ad;rw[ho,List.getD_eq_getElem?_getD];show((C.N[om]?).getD tz).text=_;rw[bT];rfl
    have HY:=kH (And.intro bT c4);have HS:Hid (∀W,CX E.base E.cb W6 W->_/\W.cell? ⟨g8,3,none⟩=some (.int .i64 (om:Int))):=kH fun W hW=>⟨HA.out _ (u.out.2.trans hW),(hW.blk H8.out.1 (by decide) H8.out.2).cell 3⟩
    clear d2 d3 dl ho cc bT c4;have ab:Below W6.heap.size W6 W6.drew:=(Below.refl _ _).drew;have af:CX E.base E.cb W6 W6.drew:=CX.of_below ab;refine mO (CX E.base E.cb W6) [] (.soft 0 (.soft 1 (.soft 2 (.soft 3 (.soft 4 (.soft 5 (.soft 6 (.soft 10 (.hard 7 (.soft 8 (.soft 9 (.hard 11 .done)))))))))))) (by kernel_rfl) (by kernel_rfl) rfl (by kernel_rfl) ?_
    iterate 8
     refine dX (by simp only[acj,aci,ach];rfl) (by rfl) af (by intro w' h;obtain⟨⟨⟨F,H,I,J,G,K,L,M,Q,R,S,D,P,Z,O⟩,v0,l,p1,p2,p3,p4,vl,j⟩,h9⟩:=HS.out _ h;go_simp;rfl) ?_;simp only[Act.put,sA,sZ,sC]
    obtain⟨b9,an,bn,cd,cf⟩:=v.out.ph.rt;have b6:=v.out.ph.cx u.out.2;have ca:aD W6.drew B E.rA 0 b9.kids:=aD.below ((u.out.2.trans (CX.of_below ab)).low v.out.ph.bw v.out.ph.cb v.out.ph.base) (ab9 _) _ _ _ cd;refine cB (ig (by simp only[acj,aci,ach];rfl) (by rfl) (by go_simp) ((Nz E _ _ _ W6.drew (u.out.1.below ab) b9 an B b6.bw ca cf om y2 (by rw[<- bn];exact HY.out.1)).mono ?_));rintro e w7 ⟨Y,yc,rfl,-,jP⟩;have tu:Below W6.heap.size W6 w7:=ab.trans (jP.mono ab.size);have FV:CX E.base E.cb W6 w7:=CX.of_below tu;unfold aO;refine⟨_,rfl,fun _=>FV,?_⟩;simp only[Act.put,sA,sZ,sC]
    iterate 2
     refine dX (by simp only[acj,aci,ach];rfl) (by rfl) FV (by intro w' h;obtain⟨⟨⟨F,H,I,J,G,K,L,M,Q,R,S,D,P,Z,O⟩,v0,l,p1,p2,p3,p4,vl,j⟩,h9⟩:=HS.out _ h;go_simp;rfl) ?_;simp only[Act.put,sA,sZ,sC]
    refine cB (ig (by simp only[acj,aci,ach];rfl) (by rfl) (by go_simp) ((oh E _ _ _ w7 (u.out.1.below tu) (by have:=sK.out;first|omega|(simp;omega)) (aca v.out.le (aca u.out.2.size tu.size)) l0 4 0 y2.text 22 x a z (some ⟨kb,ko,none⟩) m c).mono ?_));rintro e w8 ⟨rfl,hP,hX⟩;have NV:CX E.base E.cb W6 w8:=(CX.of_below tu).trans hX;refine⟨_,rfl,fun _=>NV,?_⟩;simp only[Act.put,sA,sZ,sC];refine kR ?_;have eQ:=kH (And.intro hP (u.out.2.trans NV));have h8:=NV.blk H8.out.1 (by decide) H8.out.2;have d2:=h8.cell 2;have dl:=h8.lt;clear af ab hP hX NV jP tu FV h8 an bn cd cf b6 ca;obtain⟨⟨F,H,I,J,G,K,L,M,Q,R,S,D,P,Z,O⟩,v0,l,p1,p2,p3,p4,vl,j⟩:=HA.out _ eQ.out.2;go_wp2_with fail
    refine(Kt eQ.out v.out.le (by have:=sK.out;first|omega|(simp;omega)) (n:Int) (m1:Int) _ _ _ _ _ _ _).mono ?_;rintro e w9 ⟨rfl,ru⟩;clear F H I J G K L M Q R S D P Z O v0 l p1 p2 p3 p4 vl j;obtain⟨⟨F,H,I,J,G,K,L,M,Q,R,S,D,P,Z,O⟩,v0,l,p1,p2,p3,p4,vl,j⟩:=HA.out _ ru.out.2;go_wp2_with fail
    go_meet
    exact fI.out [fV l0 4 0 y2.text t,j4 n (m1:Int) t] _ _ (rR.out (by decide)) (by unfold bH;rw[A.out.1,HD.out.1,HL.out];show [fV _ 4 0 (Ad C d.owner).text t,j4 _ d.node t]=_;rw[HY.out.2,HD.out.2.1]) (by simpa [fV,j4,HP.out] using ru.out.1) ru.out.2
  ·as_aux_lemma=>
    subst hk;obtain⟨vb,vo,kb,ko,U0,qh,l0,hV,hT,HL,HA,a8,zM,zO,zN⟩:=GJ p9.out HB.out.2.2.1 HB.out.2.2.2.1 HB.out.2.2.2.2.2.2.2 v.out.ph A.out.2.2.2.2.1 HB.out.2.2.2.2.1 (by rw[gV (sh:=⟨dM,[bA [20]],none,0⟩) A.out.2.2.2.2.2.2.2.2.2.1 (by rw[A.out.1];rfl) rfl];decide);subst hV hT;obtain⟨⟨F,H,I,J,G,K,L,M,Q,R,S,D,P,Z,O⟩,v0,l,p1,p2,p3,p4,vl,j⟩:=HA.out _ gQ.out.2;go_wp2_with fail
    clear F H I J G K L M Q R S D P Z O v0 l p1 p2 p3 p4 vl j;have HD:=kH (zw.drew gQ.out);refine bF (CX E.base E.cb W3) [] [true,true,true,true,true,true,true,true,true,false] (by kernel_rfl) (by kernel_rfl) rfl (by kernel_rfl) ?_
    iterate 9
     refine bC (by rfl) HD.out.2 (by intro w' h;obtain⟨⟨F,H,I,J,G,K,L,M,Q,R,S,D,P,Z,O⟩,v0,l,p1,p2,p3,p4,vl,j⟩:=HA.out _ h;go_simp;rfl) ?_;simp only[Act.put,sA,sZ,sC]
    refine mP (by rfl) (by go_simp) (yT HD.out v.out.le (by have:=sK.out;first|omega|(simp;omega)) l0 5 (kd t 0) U0 qh) (fun _ h=>h.out.2) ?_;intro w5 u;obtain⟨⟨F,H,I,J,G,K,L,M,Q,R,S,D,P,Z,O⟩,v0,l,p1,p2,p3,p4,vl,j⟩:=HA.out _ u.out.2;simp only[Act.put];go_wp2_with fail
    clear HD;refine(BM u.out v.out.le (by have:=sK.out;first|omega|(simp;omega)) (n:Int) 1 0 ⟨#[]⟩ _ _ _ _ _ _ _).mono ?_;rintro e w6 ⟨rfl,eQ⟩;clear F H I J G K L M Q R S D P Z O v0 l p1 p2 p3 p4 vl j;obtain⟨⟨F,H,I,J,G,K,L,M,Q,R,S,D,P,Z,O⟩,v0,l,p1,p2,p3,p4,vl,j⟩:=HA.out _ eQ.out.2;go_wp2_with fail
    go_meet
    exact fI.out ([fV l0 5 0 ⟨#[]⟩ (kd t 0),fV (n:Int) 1 0 ⟨#[]⟩ t]) _ _ (rR.out (by decide)) (by unfold bH gL;simp only[A.out.1,HL.out];rfl) (by simpa [fV,j4,HP.out] using eQ.out.1) eQ.out.2
  ·as_aux_lemma=>
    subst hk;obtain⟨F,H,I,J,G,K,L,M,Q,R,S,D,P,Z,O⟩:=p9.out _ gQ.out.2;go_wp2_with fail
    refine(BM gQ.out v.out.le (by have:=sK.out;first|omega|(simp;omega)) (n:Int) 1 0 ⟨#[]⟩ _ _ _ _ _ _ _).mono ?_;rintro e w5 ⟨rfl,u⟩;clear F H I J G K L M Q R S D P Z O;obtain⟨F,H,I,J,G,K,L,M,Q,R,S,D,P,Z,O⟩:=p9.out _ u.out.2;go_wp2_with fail
    go_meet
    exact fI.out ([fV (n:Int) 1 0 ⟨#[]⟩ t]) _ _ (rR.out (by decide)) (by unfold bH gL;simp only[A.out.1];rfl) (by simpa [fV,j4,HP.out] using u.out.1) u.out.2
  ·as_aux_lemma=>
    subst hk;obtain⟨F,H,I,J,G,K,L,M,Q,R,S,D,P,Z,O⟩:=p9.out _ gQ.out.2;go_wp2_with fail
    refine(BM gQ.out v.out.le (by have:=sK.out;first|omega|(simp;omega)) (n:Int) 2 0 ⟨#[]⟩ _ _ _ _ _ _ _).mono ?_;rintro e w5 ⟨rfl,u⟩;clear F H I J G K L M Q R S D P Z O;obtain⟨F,H,I,J,G,K,L,M,Q,R,S,D,P,Z,O⟩:=p9.out _ u.out.2;go_wp2_with fail
    go_meet
    exact fI.out ([fV (n:Int) 2 0 ⟨#[]⟩ t]) _ _ (rR.out (by decide)) (by unfold bH gL;simp only[A.out.1];rfl) (by simpa [fV,j4,HP.out] using u.out.1) u.out.2
  ·as_aux_lemma=>
    subst hk;obtain⟨F,H,I,J,G,K,L,M,Q,R,S,D,P,Z,O⟩:=p9.out _ gQ.out.2;go_wp2_with fail
    clear F H I J G K L M Q R S D P Z O;go_loopg [12,13,274] m (fun gk da db bX wr=> ∃i:Nat,i+gk=m/\bX= .int .i64 (i:Int)/\Hid (PC E (out++BZ t n 1 i) ((n+1:Nat):Int) rs wr/\CX E.base E.cb W3 wr))
    case atStart=>exact⟨0,by omega,rfl,kH ⟨by simpa [BZ] using gQ.out.1,gQ.out.2⟩⟩
    obtain⟨i,hi,rfl,HR⟩:=hrel;by_cases b5:i<m
    ·have bP:(i:Int)<(m:Int):=by omega
     have cH:vn=m:=by rw[<- HB.out.2.2.2.2.1];exact A.out.2.2.2.2.1
     have cP:i<vn:=by omega
     have cG:(i:Int)<(vn:Int):=by omega
     have NL:IntKind.i64.wrap ((i:Int)+1)=(i:Int)+1:=IntWalk.i64_in _ (by have:=A.out.2.2.2.2.2.2.2.2.2.2.2;have:=dO t.kids;have:=eY t;have:=A.out.2.2.2.2.1;omega);obtain⟨vb,vo,kb,ko,hV,hT,cn⟩:=Qx HB.out.2.2.1 HB.out.2.2.2.1 HB.out.2.2.2.2.2.2.2 v.out.ph (by rw[A.out.2.2.2.2.1];omega);subst hV hT;obtain⟨U,uc,hv⟩:=cn i (by rw[A.out.2.2.2.2.1];exact b5);obtain⟨li, bN⟩:=ag (nk t n i);rw[bN]at hv;obtain⟨W5, ja⟩:=ag (wr.alloc (.cells #[.int .i64 (kd t i).kind,.string (kd t i).text,.int .i64 (kd t i).at_,.int .i64 (kd t i).end_,.slice U (kd t i).kids.length uc] 24));have a1:Below wr.heap.size wr W5:=by rw[<- ja];exact ai _ _
     have h5:ah W5 wr.heap.size 24 #[.int .i64 (kd t i).kind,.string (kd t i).text,.int .i64 (kd t i).at_,.int .i64 (kd t i).end_,.slice U (kd t i).kids.length uc]:=by rw[<- ja];exact ah.new _ _ _
     have Wn:CX E.base E.cb W3 W5:=HR.out.2.trans (CX.of_below a1);obtain⟨g5, cC⟩:=ag wr.heap.size;have c1:wr.heap.size≠E.cb:=by have:=uB.out;have:=HR.out.2.size;omega
     have hS:∀W,CX E.base E.cb W5 W->(W.cell? ⟨vb,vo+i,none⟩=some (.int .i64 li)/\W.cell? ⟨g6,0,none⟩=some (.int .i64 1)/\W.cell? ⟨g6,1,none⟩=some (.int .i64 0)/\W.cell? ⟨g6,2,none⟩=some (.string ⟨#[]⟩))/\W.cell? ⟨wr.heap.size,0,none⟩=some (.int .i64 (kd t i).kind)/\W.cell? ⟨wr.heap.size,1,none⟩=some (.string (kd t i).text)/\W.cell? ⟨wr.heap.size,2,none⟩=some (.int .i64 (kd t i).at_)/\W.cell? ⟨wr.heap.size,3,none⟩=some (.int .i64 (kd t i).end_)/\W.cell? ⟨wr.heap.size,4,none⟩=some (.slice U (kd t i).kids.length uc):=fun W hW=>by
      obtain⟨-,-,-,-,-,K,L,M,-⟩:=p9.out _ (Wn.trans hW);have f:=hW.blk h5 (by decide) c1;exact⟨⟨(hv _ (Wn.trans hW)).1,K,L,M⟩,f.cell 0,f.cell 1,f.cell 2,f.cell 3,f.cell 4⟩
     obtain⟨-,l,p1,p2,p3,p4,-,j⟩:=hv _ HR.out.2;have HS:=kH hS;have Oy:Hid (PC E (out++BZ t n 1 i) ((n+1:Nat):Int) rs W5/\CX E.base E.cb W3 W5):=kH ⟨HR.out.1.below a1,Wn⟩;have HL:Hid (nk t n i=li/\i<m):=kH ⟨bN,b5⟩;clear hS a1 h5 Wn c1 cn hv bN cH cC;go_wp2_with (rw[ja])
     clear l p1 p2 p3 p4 j ja;have ab:Below W5.heap.size W5 W5.drew:=(Below.refl _ _).drew;have af:=HS.out _ (CX.of_below ab);refine bF (fun W=>(W.cell? ⟨vb,vo+i,none⟩=some (.int .i64 li)/\W.cell? ⟨g6,0,none⟩=some (.int .i64 1)/\W.cell? ⟨g6,1,none⟩=some (.int .i64 0)/\W.cell? ⟨g6,2,none⟩=some (.string ⟨#[]⟩))/\W.cell? ⟨wr.heap.size,0,none⟩=some (.int .i64 (kd t i).kind)/\W.cell? ⟨wr.heap.size,1,none⟩=some (.string (kd t i).text)/\W.cell? ⟨wr.heap.size,2,none⟩=some (.int .i64 (kd t i).at_)/\W.cell? ⟨wr.heap.size,3,none⟩=some (.int .i64 (kd t i).end_)/\W.cell? ⟨wr.heap.size,4,none⟩=some (.slice U (kd t i).kids.length uc)) [] [true,true,true,true,true,true,true,false] (by kernel_rfl) (by kernel_rfl) rfl (by kernel_rfl) ?_;iterate 7((first|(refine dU (by rfl) af ?_)|(refine bC (by rfl) af (by intro w' cv;obtain⟨⟨cQ,cR,cS,cT⟩,cU,cV,cW,cX,uK⟩:=cv;go_simp;rfl) ?_));simp only[Act.put,sA,sZ,sC])
     refine dG (by rfl) (by go_simp) ((oh E _ _ _ W5.drew (Oy.out.1.below ab) (by have:=A.out.2.2.2.2.2.2.2.2.1;have:=eY t;have:=dO t.kids;have:=HL.out.2;have:=A.out.2.2.2.2.1;rw[acm];unfold BZ;rw[List.length_map,List.length_range];omega) (aca v.out.le Oy.out.2.size) li 1 0 ⟨#[]⟩ (kd t i).kind (kd t i).text (kd t i).at_ (kd t i).end_ U (kd t i).kids.length uc).mono ?_);rintro e w6 ⟨rfl,hP,hX⟩;have NV:CX E.base E.cb W5 w6:=(CX.of_below ab).trans hX;have xM:=HS.out _ NV;refine⟨_,rfl,fun _=>xM,?_⟩;simp only[Act.put,sA,sZ,sC];refine fT ?_
     have cp:Hid (PC E (out++BZ t n 1 (i+1)) ((n+1:Nat):Int) rs w6/\CX E.base E.cb W3 w6):=kH ⟨by
      rw[Qk,HL.out.1,<- List.append_assoc]
      exact hP,Oy.out.2.trans NV⟩
     clear af ab hP hX NV xM;go_wp2_with fail
     go_roundg (gk - 1)
     case measure=>omega
     exact⟨i+1,by omega,by simp,cp⟩
    have aE:i=m:=by omega
    have u:Hid (PC E (out++nA t n 1) ((n+1:Nat):Int) rs wr/\CX E.base E.cb W3 wr):=kH ⟨by have h9:=HR.out.1;rw[aE,<- A.out.2.2.2.2.1]at h9;exact h9,HR.out.2⟩;have cN:¬(i:Int)<(m:Int):=by omega
    obtain⟨F,H,I,J,G,K,L,M,Q,R,S,D,P,Z,O⟩:=p9.out _ u.out.2;clear aE;by_cases h8:m<=8
    ·have cu:(m:Int)<=8:=by omega
     go_wp2_with fail
     refine(oh E _ _ _ wr u.out.1 (by have:=A.out.2.2.2.2.2.2.2.2.1;have:=eY t;have:=dO t.kids;rw[acm,Dz];omega) (aca v.out.le u.out.2.size) (n:Int) 3 (m:Int) ⟨#[]⟩ 26 x a z T m c).mono ?_;rintro e w6 ⟨rfl,hP,hX⟩;have eQ:=kH (And.intro hP (u.out.2.trans hX));clear hP hX F H I J G K L M Q R S D P Z O;go_wp2_with fail
     go_meet
     exact fI.out (nA t n 1++[fV n 3 (m:Int) ⟨#[]⟩ t]) _ _ (rR.out (by decide)) (by unfold bH;rw[A.out.1,A.out.2.2.2.2.1];show nA t n 1++(if m<=8 then _ else _)=_;rw[if_pos h8]) (by simpa [fV,HP.out] using eQ.out.1) eQ.out.2
    have cu:¬(m:Int)<=8:=by omega
    go_wp2_with fail
    go_meet
    exact fI.out (nA t n 1) _ _ (rR.out (by decide)) (by unfold bH;rw[A.out.1,A.out.2.2.2.2.1];show nA t n 1++(if m<=8 then _ else _)=_;rw[if_neg h8,List.append_nil]) u.out.1 u.out.2
  ·as_aux_lemma=>
    subst hk;have eT:Hid (t.kids.length=1):=kH (by rw[gV (sh:=⟨jw Ng,[aN],none,0⟩) A.out.2.2.2.2.2.2.2.2.2.1 (by rw[A.out.1];rfl) rfl];rfl);obtain⟨bb, cw⟩:=ag ((x.toList==[110,111,116]));have HU:Hid (Ky t=if bb=true then 2 else 1):=kH (by unfold Ky fP;rw[A.out.2.1,cw]);cases bb
    ·obtain⟨g9, GU⟩:=ag W3.heap.size
     obtain⟨W4, iV⟩:=ag (W3.alloc (.cells #[.int .i64 1,.int .i64 0,.string ⟨#[]⟩] 108));have ao:Below W3.heap.size W3 W4:=by rw[<- iV];exact ai _ _
     have h9:ah W4 g9 108 #[.int .i64 1,.int .i64 0,.string ⟨#[]⟩]:=by rw[<- iV,<- GU];exact ah.new _ _ _
     have YM:g9≠E.cb:=by have:=uB.out;omega
     have u:Hid (PC E out ((n+1:Nat):Int) rs W4/\CX E.base E.cb W3 W4):=kH ⟨gQ.out.1.below ao,gQ.out.2.trans (CX.of_below ao)⟩;have Cv:=kH (And.intro iV GU);have H9:=kH (And.intro h9 YM);clear iV ao h9 YM GU;obtain⟨vb,vo,kb,ko,U0,qh,l0,hV,hT,HL,HA,a8,zM,zO,zN⟩:=GJ p9.out HB.out.2.2.1 HB.out.2.2.2.1 HB.out.2.2.2.2.2.2.2 v.out.ph A.out.2.2.2.2.1 HB.out.2.2.2.2.1 (by rw[eT.out];decide);subst hV hT;obtain⟨⟨F,H,I,J,G,K,L,M,Q,R,S,D,P,Z,O⟩,v0,l,p1,p2,p3,p4,vl,j⟩:=HA.out _ gQ.out.2;go_upto_region 66 with fail
     rw[Cv.out.1,Cv.out.2];clear F H I J G K L M Q R S D P Z O v0 l p1 p2 p3 p4 vl j;clear Cv;have HS:Hid (∀W,CX E.base E.cb W4 W->_/\W.cell? ⟨g9,0,none⟩=some (.int .i64 1)/\W.cell? ⟨g9,1,none⟩=some (.int .i64 0)/\W.cell? ⟨g9,2,none⟩=some (.string ⟨#[]⟩)):=kH fun W hW=>⟨HA.out _ (u.out.2.trans hW),(hW.blk H9.out.1 (by decide) H9.out.2).cell 0,(hW.blk H9.out.1 (by decide) H9.out.2).cell 1,(hW.blk H9.out.1 (by decide) H9.out.2).cell 2⟩
     have HD:=kH (zw.drew (And.intro u.out.1 (CX.refl E.base E.cb W4)));refine bF (CX E.base E.cb W4) [] [true,true,true,true,true,true,true,true,true,false] (by kernel_rfl) (by kernel_rfl) rfl (by kernel_rfl) ?_
     iterate 9
      refine bC (by rfl) HD.out.2 (by intro w' h;obtain⟨⟨⟨F,H,I,J,G,K,L,M,Q,R,S,D,P,Z,O⟩,v0,l,p1,p2,p3,p4,vl,j⟩,cM,an,bn⟩:=HS.out _ h;go_simp;rfl) ?_;simp only[Act.put,sA,sZ,sC]
     refine mP (by rfl) (by go_simp) (yT HD.out (aca v.out.le u.out.2.size) (by have:=sK.out;first|omega|(simp;omega)) l0 1 (kd t 0) U0 qh) (fun _ h=>h.out.2) ?_;intro w5 HQ;have eQ:=kH (And.intro HQ.out.1 (u.out.2.trans HQ.out.2));have h9:=HQ.out.2.blk H9.out.1 (by decide) H9.out.2;have d0:=h9.cell 0;have d1:=h9.cell 1;have d2:=h9.cell 2;have dl:=h9.lt;clear h9;obtain⟨⟨F,H,I,J,G,K,L,M,Q,R,S,D,P,Z,O⟩,v0,l,p1,p2,p3,p4,vl,j⟩:=HA.out _ eQ.out.2;simp only[Act.put];go_wp2_with fail
     refine(BM eQ.out v.out.le (by have:=sK.out;first|omega|(simp;omega)) (n:Int) 1 0 ⟨#[]⟩ _ _ _ _ _ _ _).mono ?_;rintro e w6 ⟨rfl,ru⟩;clear F H I J G K L M Q R S D P Z O v0 l p1 p2 p3 p4 vl j;obtain⟨⟨F,H,I,J,G,K,L,M,Q,R,S,D,P,Z,O⟩,v0,l,p1,p2,p3,p4,vl,j⟩:=HA.out _ ru.out.2;go_wp2_with fail
     go_meet
     exact fI.out (nA t n 1++[gL n 1 t]) _ _ (rR.out (by decide)) (by unfold bH;rw[A.out.1,HU.out];rfl) (by rw[show nA t n 1=[gL (nk t n 0) 1 (kd t 0)] by unfold nA;rw[eT.out];rfl,HL.out];simpa [gL,fV,HP.out] using ru.out.1) ru.out.2
    obtain⟨g9, GU⟩:=ag W3.heap.size;obtain⟨W4, iV⟩:=ag (W3.alloc (.cells #[.int .i64 2,.int .i64 0,.string ⟨#[]⟩] 108));have ao:Below W3.heap.size W3 W4:=by rw[<- iV];exact ai _ _
    have h9:ah W4 g9 108 #[.int .i64 2,.int .i64 0,.string ⟨#[]⟩]:=by rw[<- iV,<- GU];exact ah.new _ _ _
    have YM:g9≠E.cb:=by have:=uB.out;omega
    have u:Hid (PC E out ((n+1:Nat):Int) rs W4/\CX E.base E.cb W3 W4):=kH ⟨gQ.out.1.below ao,gQ.out.2.trans (CX.of_below ao)⟩;have Cv:=kH (And.intro iV GU);have H9:=kH (And.intro h9 YM);clear iV ao h9 YM GU;obtain⟨vb,vo,kb,ko,U0,qh,l0,hV,hT,HL,HA,a8,zM,zO,zN⟩:=GJ p9.out HB.out.2.2.1 HB.out.2.2.2.1 HB.out.2.2.2.2.2.2.2 v.out.ph A.out.2.2.2.2.1 HB.out.2.2.2.2.1 (by rw[eT.out];decide);subst hV hT;obtain⟨⟨F,H,I,J,G,K,L,M,Q,R,S,D,P,Z,O⟩,v0,l,p1,p2,p3,p4,vl,j⟩:=HA.out _ gQ.out.2;go_upto_region 66 with fail
    rw[Cv.out.1,Cv.out.2];clear F H I J G K L M Q R S D P Z O v0 l p1 p2 p3 p4 vl j;clear Cv;have HS:Hid (∀W,CX E.base E.cb W4 W->_/\W.cell? ⟨g9,0,none⟩=some (.int .i64 2)/\W.cell? ⟨g9,1,none⟩=some (.int .i64 0)/\W.cell? ⟨g9,2,none⟩=some (.string ⟨#[]⟩)):=kH fun W hW=>⟨HA.out _ (u.out.2.trans hW),(hW.blk H9.out.1 (by decide) H9.out.2).cell 0,(hW.blk H9.out.1 (by decide) H9.out.2).cell 1,(hW.blk H9.out.1 (by decide) H9.out.2).cell 2⟩
    have HD:=kH (zw.drew (And.intro u.out.1 (CX.refl E.base E.cb W4)));refine bF (CX E.base E.cb W4) [] [true,true,true,true,true,true,true,true,true,false] (by kernel_rfl) (by kernel_rfl) rfl (by kernel_rfl) ?_
    iterate 9
     refine bC (by rfl) HD.out.2 (by intro w' h;obtain⟨⟨⟨F,H,I,J,G,K,L,M,Q,R,S,D,P,Z,O⟩,v0,l,p1,p2,p3,p4,vl,j⟩,cM,an,bn⟩:=HS.out _ h;go_simp;rfl) ?_;simp only[Act.put,sA,sZ,sC]
    refine mP (by rfl) (by go_simp) (yT HD.out (aca v.out.le u.out.2.size) (by have:=sK.out;first|omega|(simp;omega)) l0 2 (kd t 0) U0 qh) (fun _ h=>h.out.2) ?_;intro w5 HQ;have eQ:=kH (And.intro HQ.out.1 (u.out.2.trans HQ.out.2));have h9:=HQ.out.2.blk H9.out.1 (by decide) H9.out.2;have d0:=h9.cell 0;have d1:=h9.cell 1;have d2:=h9.cell 2;have dl:=h9.lt;clear h9;obtain⟨⟨F,H,I,J,G,K,L,M,Q,R,S,D,P,Z,O⟩,v0,l,p1,p2,p3,p4,vl,j⟩:=HA.out _ eQ.out.2;simp only[Act.put];go_wp2_with fail
    refine(BM eQ.out v.out.le (by have:=sK.out;first|omega|(simp;omega)) (n:Int) 2 0 ⟨#[]⟩ _ _ _ _ _ _ _).mono ?_;rintro e w6 ⟨rfl,ru⟩;clear F H I J G K L M Q R S D P Z O v0 l p1 p2 p3 p4 vl j;obtain⟨⟨F,H,I,J,G,K,L,M,Q,R,S,D,P,Z,O⟩,v0,l,p1,p2,p3,p4,vl,j⟩:=HA.out _ ru.out.2;go_wp2_with fail
    go_meet
    exact fI.out (nA t n 2++[gL n 2 t]) _ _ (rR.out (by decide)) (by unfold bH;rw[A.out.1,HU.out];rfl) (by rw[show nA t n 2=[gL (nk t n 0) 2 (kd t 0)] by unfold nA;rw[eT.out];rfl,HL.out];simpa [gL,fV,HP.out] using ru.out.1) ru.out.2
  as_aux_lemma=>
   subst hk;have eT:Hid (t.kids.length=2):=kH (by rw[gV (sh:=⟨jw sj,[aN,aN],none,0⟩) A.out.2.2.2.2.2.2.2.2.2.1 (by rw[A.out.1];rfl) rfl];rfl);have a7:=Tm E C B _ _ _ W3 gQ.out.1 v.out.ph v.out.le n t T c HB.out.2.2.2.1 eT.out V vn vc _ HB.out.2.2.1 (by have:=A.out.2.2.2.2.2.2.2.2.1;have:=jk t;omega);rw[A.out.2.2.2.2.2.2.1]at a7;have tN:=kH (Ol a7);clear a7;obtain⟨F,H,I,J,G,K,L,M,Q,R,S,D,P,Z,O⟩:=p9.out _ gQ.out.2;go_wp2_with fail
   refine tN.out.mono ?_;rintro e w5 ⟨rfl,u⟩;clear F H I J G K L M Q R S D P Z O;obtain⟨F,H,I,J,G,K,L,M,Q,R,S,D,P,Z,O⟩:=p9.out _ u.out.2;go_wp2_with fail
   go_meet
   exact fI.out (BF t n) _ _ (rR.out (by decide)) (by unfold bH;rw[A.out.1];rfl) u.out.1 u.out.2
 have HC:=hcut;obtain⟨w4,rfl⟩:∃W:World,W=wc:=⟨_,rfl⟩
 clear hcut F D;have G:=HC.out.2.2.1.cell 4;have D:=HC.out.2.2.1.lt;obtain⟨r1, an⟩:=ag (kT t n rs);rw[an]at HC;have cq:=kH an;clear an;go_wp2_with fail
 go_loopg [16,332] m (fun gk dd c0 wr=> ∃i:Nat,i+gk=m/\c0= .int .i64 (i:Int)/\Hid (PC E (out++(bH C t n r1++(rY C t n r1 i).1)) ((n+1+aC (t.kids.take i):Nat):Int) (rY C t n r1 i).2 wr/\CX E.base E.cb w wr/\PH E C B wr/\aD wr B T 0 t.kids))
 case atStart=>exact⟨0,by omega,rfl,kH ⟨by simpa [rYz,aC] using HC.out.1,HC.out.2.1,HC.out.2.2.2.1,HC.out.2.2.2.2⟩⟩
 obtain⟨i,hi,rfl,HQ⟩:=hrel;clear G D;by_cases b5:i<m
 ·have bP:(i:Int)<(m:Int):=by omega
  have NL:IntKind.i64.wrap ((i:Int)+1)=(i:Int)+1:=IntWalk.i64_in _ (by have:=A.out.2.2.2.2.2.2.2.2.2.2.2;have:=dO t.kids;have:=eY t;have:=A.out.2.2.2.2.1;omega);have bj:i<t.kids.length:=by rw[A.out.2.2.2.2.1];exact b5
  obtain⟨kb,ko,U,uc,hT,c7,u0,u1,u2,u3,u4,Bp⟩:=kZ HQ.out.2.2.2 (gq bj);obtain⟨uk,ux,ua,uz,ul,nJ,oI,qm,rP,nY,cm⟩:=aW (kd t i) U uc;rw[nJ]at u0;rw[oI]at u1;rw[qm]at u2;rw[rP]at u3;rw[nY]at u4;subst hT;have sD:kb<wr.heap.size:=Nat.lt_of_lt_of_le c7 HQ.out.2.2.1.bw;obtain⟨W5, ja⟩:=ag (wr.alloc (.cells #[.int .i64 uk,.string ux,.int .i64 ua,.int .i64 uz,.slice U ul uc] 24));have a1:Below wr.heap.size wr W5:=by rw[<- ja];exact ai _ _
  have vQ:ah W5 wr.heap.size 24 #[.int .i64 uk,.string ux,.int .i64 ua,.int .i64 uz,.slice U ul uc]:=by rw[<- ja];exact ah.new _ _ _
  have cD:=dI t.kids i _ (gq bj);have cE:=fe t.kids (i+1);have cy:=eY t;have cj:C.N[n+1+aC (t.kids.take i)]? =some (kd t i):=DJ bj (A.out.2.2.2.2.2.2.2.2.2.2.1.sub n t A.out.2.2.2.2.2.1).1;have cF:=aac C n r1 bj;have cI:=Ny C t n r1;have aa:=jo.out (kd t i) (n+1+aC (t.kids.take i)) (rY C t n r1 i).2 (out++(bH C t n r1++(rY C t n r1 i).1)) W5 U uc (by have:=A.out.2.2.2.2.2.2.2.1;omega) (HQ.out.1.below a1) (HQ.out.2.2.1.cx (CX.of_below a1)) (aca v.out.base (aca HQ.out.2.1.size a1.size)) cj (aD.below a1 HQ.out.2.2.1.bw _ _ _ Bp) (by have:=A.out.2.2.2.2.2.2.2.2.1;rw[acm,acm];omega);rw[cm]at aa;have qC:=kH aa;have kF:Hid (Below wr.heap.size wr W5/\n+1+aC (t.kids.take (i+1))=n+1+aC (t.kids.take i)+aB (kd t i)):=kH ⟨a1,by omega⟩;have n0:=vQ.cell 0;have n1:=vQ.cell 1;have n2:=vQ.cell 2;have n3:=vQ.cell 3;have n4:=vQ.cell 4;have nl:=vQ.lt;clear a1 vQ cD cE cy cj cF cI aa Bp nJ oI qm rP nY cm c7;go_wp2_with (rw[ja])
  refine qC.out.mono ?_;rintro e w6 ⟨rfl,hP,hX⟩;have bp:CX E.base E.cb wr w6:=(CX.of_below kF.out.1).trans hX
  have HE:Hid (PC E (out++(bH C t n r1++(rY C t n r1 (i+1)).1)) ((n+1+aC (t.kids.take (i+1)):Nat):Int) (rY C t n r1 (i+1)).2 w6/\CX E.base E.cb w w6/\PH E C B w6/\aD w6 B (some ⟨kb,ko,none⟩) 0 t.kids):=kH ⟨by
   rw[XG C n r1 (by rw[A.out.2.2.2.2.1];exact b5),kF.out.2,<- List.append_assoc (bH C t n r1),<- List.append_assoc out]
   exact hP,HQ.out.2.1.trans bp,HQ.out.2.2.1.cx bp,aD.below (bp.low HQ.out.2.2.1.bw HQ.out.2.2.1.cb HQ.out.2.2.1.base) (ab9 _) _ _ _ HQ.out.2.2.2⟩
  clear hP hX bp n0 n1 n2 n3 n4 nl ja;go_wp2_with fail
  go_roundg (gk - 1)
  case measure=>omega
  exact⟨i+1,by omega,by simp,HE⟩
 have aE:i=m:=by omega
 have HE:Hid (PC E (out++(bH C t n (kT t n rs)++(rY C t n (kT t n rs) t.kids.length).1)) ((n+aB t:Nat):Int) (rY C t n (kT t n rs) t.kids.length).2 wr/\CX E.base E.cb w wr):=kH ⟨by
  have h1:=HQ.out.1;have h2:n+aB t=n+1+aC t.kids:=by have:=eY t;omega
  rw[cq.out,h2];rw[aE,<- A.out.2.2.2.2.1,List.take_length]at h1
  exact h1,HQ.out.2.1⟩
 clear aE;go_wp2_with fail
 go_end0
 exact⟨rfl,HE.out⟩
theorem fin_all{t:ae}(J:dC t=true)(mk:Int):(E5 t mk).ds=(aZ t).ds/\(E5 t mk).uses=(aZ t).uses/\(E5 t mk).list=(aZ t).aU.map (·.2) /\
 ∀m:Nat,mk=(m:Int)->m<aB t->bK (aZ t).aP (m:Int)=if nV t.kids 1 m=true then some ((E5 t mk).at_.map fun(i:Nat)=>(i:Int)) else none:=by
 obtain⟨W,H,A,D,F,G⟩:=Pm J mk;have I:MB t mk=W:=H;unfold E5;rw[I];exact⟨A,F,D,G⟩
def M5(t:ae)(w:World)(e:Ending)(w':World):Prop:=
 (dC t=false/\e= .returned (.tuple #[.agg #[.slice none 0 0,.slice none 0 0],.slice none 0 0,.int .i64 1])/\Below w.heap.size w w') \/
 (dC t=true/\∃dA dc uA uc lA lc,e= .returned (.tuple #[.agg #[.slice dA (aZ t).ds.length dc,.slice uA (aZ t).uses.length uc],.slice lA (aZ t).aU.length lc,.int .i64 0])/\aS 4 bQ w' w'.heap.size dA (aZ t).ds/\aS 1 gu w' w'.heap.size uA (aZ t).uses/\aS 5 iN w' w'.heap.size lA ((aZ t).aU.map (·.2))/\Below w.heap.size w w')
theorem Qe(t:ae)(A:Option Addr)(c:Nat)(w:World)(hN:aB t<=4096)(Q:t.kids.length<=c)(hk:aD w w.heap.size A 0 t.kids):
 Calls Tryz.prog 13 #[aO t A c] w (M5 t w):=by
 obtain⟨k0,x0,a0,z0,n0,-,-,-,-,-,dH⟩:=aW t A c;obtain⟨W1, M⟩:=ag ((w.alloc (.cells #[.int .i64 k0,.string x0,.int .i64 a0,.int .i64 z0,.slice A n0 c] 24)).alloc (.cells #[.slice none 0 0,.slice none 0 0] 30));have G:ah W1 w.heap.size 24 #[.int .i64 k0,.string x0,.int .i64 a0,.int .i64 z0,.slice A n0 c]:=by rw[<- M];exact(ah.new w _ _).alloc _
 have a7:ah W1 (w.heap.size+1) 30 #[.slice none 0 0,.slice none 0 0]:=by
  rw[<- M];have:=ah.new (w.alloc (.cells #[.int .i64 k0,.string x0,.int .i64 a0,.int .i64 z0,.slice A n0 c] 24)) 30 #[.slice none 0 0,.slice none 0 0];simpa using this
 have N:Below w.heap.size w W1:=by rw[<- M];exact(ai w _).trans ((ai _ _).mono (by simp))
 have H:=KM t A c W1 hN (aD.mono N.size _ _ _ (aD.below N (ab9 _) _ _ _ hk));rw[dH]at H⊢;obtain⟨vb, Z⟩:=ag (dC t);rw[Z]at H;have Hq:=kH H;have Ee:=kH Z;have tK:=kH G;have dR:=kH a7;have r:=kH N;have Hy:=kH dH;have j:=kH Q;have HK:=kH hk;have m0:=G.cell 0;have m1:=G.cell 1;have m2:=G.cell 2;have m3:=G.cell 3;have m4:=G.cell 4;have lm:=G.lt;clear H Z G a7 N dH Q hk;go_in
 go_wp2_with fail
 clear M m0 m1 m2 m3 m4 lm;refine Hq.out.mono ?_;rintro e2 w2 ⟨rfl,O⟩;have I:Hid (Below w.heap.size w w2):=kH (r.out.trans (O.mono r.out.size));have u:=kH (tK.out.below O tK.out.lt);have y:=kH (dR.out.below O dR.out.lt);clear O
 cases vb with
 | false=>
  have r0:=y.out.cell 0;have r1:=y.out.cell 1;have g0:=y.out.frozen 0;have f:=y.out.frozen 1;have lr:=y.out.lt;go_wp2_with fail
  try simp only[Exit.inBlock,Exit.then]
  refine bodyPost_ret (v:=.tuple #[.agg #[.slice none 0 0,.slice none 0 0],.slice none 0 0,.int .i64 1]) (by simp[results,Tryz.results13,go_sem,r0,r1]) rfl ?_;exact .inl ⟨Ee.out,rfl,(I.out.setCell (p:=⟨w.heap.size+1,0,none⟩) (by show w.heap.size<=w.heap.size+1;omega) _).setCell (p:=⟨w.heap.size+1,1,none⟩) (by show w.heap.size<=w.heap.size+1;omega) _⟩
 | true=>
  have J:=P6 t A c (-1) w2 (by omega) j.out (aD.mono I.out.size _ _ _ (aD.below I.out (ab9 _) _ _ _ HK.out));rw[Hy.out]at J;have bG:=kH J;have fI:=kH (fin_all Ee.out (-1));have m0:=u.out.cell 0;have m1:=u.out.cell 1;have m2:=u.out.cell 2;have m3:=u.out.cell 3;have m4:=u.out.cell 4;have lm:=u.out.lt;clear J;go_wp2_with fail
  clear m0 m1 m2 m3 m4 lm;refine bG.out.mono ?_;rintro e3 D ⟨E,V,rfl,LC,K,R⟩;have L:=y.out.below R y.out.lt;have d:Below w.heap.size w D:=I.out.trans (R.mono I.out.size);obtain⟨F, hF⟩:=ag (E5 t (-1));rw[hF]at K fI;obtain⟨nd, U⟩:=ag F.ds.length;obtain⟨nu, Y⟩:=ag F.uses.length;obtain⟨nl, X⟩:=ag F.list.length;have c0:D.cell? ⟨E.rp,0,none⟩=some (.slice V.dA nd V.dc):=by rw[<- U];exact K.blk.cell 0
  have c1:D.cell? ⟨E.rp,1,none⟩=some (.slice E.uA nu E.uc):=by rw[<- Y];exact K.blk.cell 1
  have c2:D.cell? ⟨E.rp,2,none⟩=some (.slice V.lA nl V.lc):=by rw[<- X];exact K.blk.cell 2
  have lr:=K.blk.lt;have r0:=L.cell 0;have r1:=L.cell 1;have g0:=L.frozen 0;have f:=L.frozen 1;have lb:=L.lt
  have ab:E.rp≠w.heap.size+1:=fun e=>by
   have h1:D.heap[E.rp]? =some (Obj.cells _ _ (0,0)):=K.blk;have h2:D.heap[w.heap.size+1]? =some (Obj.cells _ _ (0,0)):=L;rw[e,h2]at h1;simp at h1
  have a8:ak (fun g=>g=w.heap.size+1) D ((D.drew.setCell ⟨w.heap.size+1,0,none⟩ (.slice V.dA nd V.dc)).setCell ⟨w.heap.size+1,1,none⟩ (.slice E.uA nu E.uc)):=
   ak.setCell (S:=fun g=>g=w.heap.size+1) (ak.setCell (S:=fun g=>g=w.heap.size+1) ((ak.refl _ D).drew) (p:=⟨w.heap.size+1,0,none⟩) (.inl rfl) _) (p:=⟨w.heap.size+1,1,none⟩) (.inl rfl) _
  have P:∀{B e size v n xs},aG D B e size v n xs->30≠e->aG ((D.drew.setCell ⟨w.heap.size+1,0,none⟩ (.slice V.dA nd V.dc)).setCell ⟨w.heap.size+1,1,none⟩ (.slice E.uA nu E.uc)) B e size v n xs:=fun ha hx=>ha.since a8 (fun q hq h1=>ha.bB L hx.symm (by rw[hq,h1]))
  have hd:=P K.ds (by decide);have hu:=P K.us (by decide);have hl:=P K.ls (by decide)
  have LF:Below w.heap.size w ((D.drew.setCell ⟨w.heap.size+1,0,none⟩ (.slice V.dA nd V.dc)).setCell ⟨w.heap.size+1,1,none⟩ (.slice E.uA nu E.uc)):=
   ((d.drew).setCell (p:=⟨w.heap.size+1,0,none⟩) (by show w.heap.size<=w.heap.size+1;omega) _).setCell (p:=⟨w.heap.size+1,1,none⟩) (by show w.heap.size<=w.heap.size+1;omega) _
  have a6:=(L.drew.dB 0 (.slice V.dA nd V.dc)).dB 1 (.slice E.uA nu E.uc);have F7:Hid (ah ((D.drew.setCell ⟨w.heap.size+1,0,none⟩ (.slice V.dA nd V.dc)).setCell ⟨w.heap.size+1,1,none⟩ (.slice E.uA nu E.uc)) (w.heap.size+1) 30 #[.slice V.dA nd V.dc,.slice E.uA nu E.uc]):=kH (by simpa using a6)
  have bT:Hid (M5 t w (.returned (.tuple #[.agg #[.slice V.dA nd V.dc,.slice E.uA nu E.uc],.slice V.lA nl V.lc,.int .i64 0])) ((D.drew.setCell ⟨w.heap.size+1,0,none⟩ (.slice V.dA nd V.dc)).setCell ⟨w.heap.size+1,1,none⟩ (.slice E.uA nu E.uc))):=kH (by
   obtain⟨f1,f2,f3,-⟩:=fI.out;have f:=hd.rowAt (cells:=bQ) (l:=F.ds) rfl rfl (fun _ _=>rfl) rfl;have g2:=hu.rowAt (cells:=gu) (l:=F.uses) rfl (by unfold bL;rw[<- List.flatMap_singleton' (F.uses.map _),List.flatMap_map];rfl) (fun _ _=>rfl) rfl;have g3:=hl.rowAt (cells:=iN) (l:=F.list) rfl rfl (fun _ _=>rfl) rfl;rw[f1]at f;rw[f2]at g2;rw[f3]at g3
   exact .inr ⟨Ee.out,V.dA,V.dc,E.uA,E.uc,V.lA,V.lc,by rw[<- U,<- Y,<- X,f1,f2,f3,List.length_map],f,g2,g3,LF⟩)
  clear hd hu hl LF a6 a8 P U Y X K L d R LC hF fI bG;go_wp2_with fail
  refine dF (fun w'=>w'.cell? ⟨E.rp,0,none⟩=some (.slice V.dA nd V.dc)/\w'.cell? ⟨E.rp,1,none⟩=some (.slice E.uA nu E.uc)/\w'.cell? ⟨E.rp,2,none⟩=some (.slice V.lA nl V.lc)) [] [true,true,true,true,true,true,true,true,false,false,false] (by kernel_rfl) (by kernel_rfl) rfl (by kernel_rfl) ?_;have a1:D.drew.cell? ⟨E.rp,0,none⟩=some (.slice V.dA nd V.dc)/\D.drew.cell? ⟨E.rp,1,none⟩=some (.slice E.uA nu E.uc)/\D.drew.cell? ⟨E.rp,2,none⟩=some (.slice V.lA nl V.lc):=⟨c0,c1,c2⟩
  iterate 8(refine eD rfl a1 (by intro w' aa;obtain⟨ad,af,al⟩:=aa;go_simp;rfl) ?_;simp only[Act.put,sA,sZ,sC])
  refine gH (w':=(D.drew.setCell ⟨w.heap.size+1,0,none⟩ (.slice V.dA nd V.dc)).setCell ⟨w.heap.size+1,1,none⟩ (.slice E.uA nu E.uc)) rfl (by go_simp) (fun _=>⟨by go_simp,by go_simp,by go_simp⟩) ?_;simp only[Act.put];iterate 2(refine eu (w':=(D.drew.setCell ⟨w.heap.size+1,0,none⟩ (.slice V.dA nd V.dc)).setCell ⟨w.heap.size+1,1,none⟩ (.slice E.uA nu E.uc)) rfl (by go_simp;rfl) (fun _=>⟨by go_simp,by go_simp,by go_simp⟩) ?_;simp only[Act.put,sA,sZ,sC])
  refine gp ?_;clear a1 r0 r1 g0 f c0 c1 c2;generalize (D.drew.setCell ⟨w.heap.size+1,0,none⟩ (.slice V.dA nd V.dc)).setCell ⟨w.heap.size+1,1,none⟩ (.slice E.uA nu E.uc)=WZ at bT F7⊢
  have r0:=F7.out.cell 0;have r1:=F7.out.cell 1;go_wp2_with fail
  try simp only[Exit.inBlock,Exit.then]
  refine bodyPost_ret (v:=.tuple #[.agg #[.slice V.dA nd V.dc,.slice E.uA nu E.uc],.slice V.lA nl V.lc,.int .i64 0]) (by simp[results,Tryz.results13,go_sem,r0,r1]) rfl ?_;exact bT.out
def Du(t:ae)(m:Nat):Bool:=(aM t).all (fun u=>decide (u.text.size<=60))&&decide (aB t<=m)
theorem abK{p:ae->Bool}{ts:List ae}{i:Nat}{u:ae}(F:ts[i]? =some u):(ts.drop i).all p=(p u&&(ts.drop (i+1)).all p):=by
 obtain⟨A,D⟩:=acg.1 F;rw[List.drop_eq_getElem_cons A,D,List.all_cons]
theorem Zl(t:ae)(A:Option Addr)(c m:Nat)(w:World)(hN:aB t<=1000000)(K:t.kids.length<=c)(hk:aD w w.heap.size A 0 t.kids):
 Calls Tryz.prog 10 #[aO t A c,.int .i64 (m:Int)] w fun e w'=>e= .returned (.bool (Du t m))/\Below w.heap.size w w':=by
 obtain⟨k0,x0,a0,z0,n0,-,-,-,-,-,dH⟩:=aW t A c;obtain⟨f, H⟩:=ag (w.alloc (.cells #[.int .i64 k0,.string x0,.int .i64 a0,.int .i64 z0,.slice A n0 c] 24));have I:Below w.heap.size w f:=by rw[<- H];exact ai _ _
 have P:ah f w.heap.size 24 #[.int .i64 k0,.string x0,.int .i64 a0,.int .i64 z0,.slice A n0 c]:=by rw[<- H];exact ah.new w _ _
 have J:=Ex (aB t) t A c f f.heap.size (ab9 _) (ab9 _) (by omega) K (aD.mono I.size _ _ _ (aD.below I (ab9 _) _ _ _ hk));have L:=eZ t;obtain⟨R, O⟩:=ag (Du t m);rw[O];unfold Du at O;rw[<- L]at O hN;obtain⟨ts, l⟩:=ag (aM t);rw[l]at J O hN;rw[dH]at J⊢;obtain⟨N, Ab⟩:=ag ts.length;rw[Ab]at O hN;have qQ:=kH J;have HR:=kH O;have d:=kH Ab;have U:=kH I;obtain⟨⟨t0,t1,t2,t3,t4⟩,-⟩:=P.five;have aa:=P.lt;clear I P J L l dH K hk Ab O;go_in
 go_wp2_with (rw[H])
 clear t0 t1 t2 t3 t4 aa H;refine qQ.out.mono ?_;rintro e2 w2 ⟨v2,S,vals,rfl,r,M,Y,Z⟩;rw[d.out]at r;subst r;obtain⟨A2,c2,rfl,-,-⟩:=M.shape;have G:Hid (Below w.heap.size w w2):=kH (U.out.trans (Z.mono U.out.size));have BH:=kH M;have RY:=kH Y;clear M Y Z qQ;go_wp2_with fail
 go_loopg [6] S (fun gk s6 wr=> ∃(i:Nat),s6= .int .i64 (i:Int)/\i+gk=S/\Hid (Below w2.heap.size w2 wr/\((ts.drop i).all (fun u=>decide (u.text.size<=60))&&decide (S<=m))=R))
 case atStart=>exact⟨0,rfl,by omega,kH ⟨Below.refl _ _,HR.out⟩⟩
 obtain⟨i,rfl,v,j⟩:=hrel;have al:i<=S:=by omega
 have ry:=kH v;clear v;by_cases a7:i<S
 ·obtain⟨tn,Q⟩:∃z,ts[i]? =some z:=⟨_,ace (by rw[d.out];exact a7)⟩
  obtain⟨F,D⟩:=j.out;obtain⟨b,ab,Ak,ck,hA,af,-,y,-⟩:=IY (BH.out.below F (fun g hg=>(BH.out.lt g hg).2)) RY.out d.out i tn Q;subst hA;rw[abK Q]at D;obtain⟨x, hx⟩:=ag tn.text;rw[hx]at D;have z1:wr.cell? ⟨b,ab+i*5+1,none⟩=some (.string x):=by rw[<- hx];exact y 1 _ rfl
  have We:(i:Int)<(S:Int):=by omega
  have a6:¬((i:Int)<0):=by omega
  have an:IntKind.i64.wrap ((i:Int)+1)=(i:Int)+1:=IntWalk.i64_in _ (by omega);clear Q y hx j;by_cases ad:60<x.size
  ·have X:(60:Int)<(x.size:Int):=by omega
   have a8:R=false:=by rw[<- D,decide_eq_false (p:=x.size<=60) (by omega)];rfl
   subst a8;clear D;go_wp2_with fail
   go_ret
   exact⟨rfl,G.out.trans (F.mono G.out.size)⟩
  have X:¬(60:Int)<(x.size:Int):=by omega
  rw[decide_eq_true (p:=x.size<=60) (by omega),Bool.true_and]at D;have OC:=kH D;clear D;go_wp2_with fail
  go_roundg (gk - 1)
  case measure=>have:=ry.out;omega
  exact⟨i+1,by simp,by have:=ry.out;omega,kH ⟨F,OC.out⟩⟩
 have a1:i=S:=by omega
 subst a1;obtain⟨F,D⟩:=j.out;rw[List.drop_of_length_le (by rw[d.out];exact ab9 _),List.all_nil,Bool.true_and]at D;have OC:=kH D;clear D j;go_wp2_with fail
 go_ret
 exact⟨kS (by rw[<- OC.out];try simp),G.out.trans (F.mono G.out.size)⟩
def rD(t:ae):List Dc:=if dC t=true then(aZ t).ds else []
def rU(t:ae):List Int:=if dC t=true then(aZ t).uses else []
def rL(t:ae):List Dg:=if dC t=true then(aZ t).aU.map (·.2) else []
def rS(t:ae):Int:=if dC t=true then 0 else 1
def qN(t:ae)(w:World)(e:Ending)(w':World):Prop:=
 ∃dA dc uA uc lA lc,e= .returned (.tuple #[.agg #[.slice dA (rD t).length dc,.slice uA (rU t).length uc],.slice lA (rL t).length lc,.int .i64 (rS t)])/\aS 4 bQ w' w'.heap.size dA (rD t)/\aS 1 gu w' w'.heap.size uA (rU t)/\aS 5 iN w' w'.heap.size lA (rL t)/\Below w.heap.size w w'
theorem Et{D:Type}(size:Nat)(cells:D->List Value)(w:World)(B:Nat)(A:Option Addr):aS size cells w B A []:=fun k c h=>by simp at h
theorem rvals{t:ae}{e:Ending}{w w':World}(A:dC t=true)(h:∃dA dc uA uc lA lc,e= .returned (.tuple #[.agg #[.slice dA (aZ t).ds.length dc,.slice uA (aZ t).uses.length uc],.slice lA (aZ t).aU.length lc,.int .i64 0])/\aS 4 bQ w' w'.heap.size dA (aZ t).ds/\aS 1 gu w' w'.heap.size uA (aZ t).uses/\aS 5 iN w' w'.heap.size lA ((aZ t).aU.map (·.2))/\Below w.heap.size w w'):qN t w e w':=by
 unfold qN rD rU rL rS;rw[if_pos A,if_pos A,if_pos A,if_pos A,List.length_map];exact h
theorem rnone{t:ae}{e:Ending}{w w':World}(A:dC t=false)(D:e= .returned (.tuple #[.agg #[.slice none 0 0,.slice none 0 0],.slice none 0 0,.int .i64 1]))(hb:Below w.heap.size w w'):qN t w e w':=by
 unfold qN rD rU rL rS;rw[if_neg (by simp[A]),if_neg (by simp[A]),if_neg (by simp[A]),if_neg (by simp[A])];exact⟨none,0,none,0,none,0,D,Et _ _ _ _ _,Et _ _ _ _ _,Et _ _ _ _ _,hb⟩
theorem qN.prog{t:ae}{e:Ending}{w w':World}(h:RJ t w e w'):qN t w e w':=by
 rcases h with⟨F,D,hb⟩| ⟨F,E,V,A,n,c,D,I,G,rfl,H,hb⟩
 ·exact rnone F D hb
 exact rvals F ⟨V.dA,V.dc,E.uA,E.uc,A,c,D,G.ds.rowAt (cells:=bQ) rfl rfl (fun _ _=>rfl) rfl,G.us.rowAt (cells:=gu) rfl (by unfold bL;rw[<- List.flatMap_singleton' (List.map _ _),List.flatMap_map];rfl) (fun _ _=>rfl) rfl,H.rowAt (cells:=iN) rfl (by rw[List.flatMap_map]) (fun _ _=>rfl) (by rw[List.length_map]),hb⟩
theorem qN.ref{t:ae}{e:Ending}{w w':World}(h:M5 t w e w'):qN t w e w':=by
 rcases h with⟨A,D,hb⟩| ⟨A,h⟩
 ·exact rnone A D hb
 exact rvals A h
def rH(t:ae):List bD:=(jD (mI t) (aM t) 0 (-1)).1
def cL(t:ae):List bD:=if dC t=true then rH t else []
def Fv(t:ae)(w:World)(e:Ending)(w':World):Prop:=
 ∃oA oc,e= .returned (.tuple #[.slice oA (cL t).length oc,.int .i64 (rS t)])/\aS 8 aT w' w'.heap.size oA (cL t)/\Below w.heap.size w w'
theorem Nf{t:ae}(G:dC t=true):(aZ t).uses.length=aB t:=by
 obtain⟨D,H⟩:=tT G;obtain⟨k,x,a,e,ks⟩:=t;have F:k=2:=D;subst F;have A:=FE x a e ks;unfold aZ;rw[A];show(List.map _ _).length=_;rw[List.length_map,(eF _ _ _ _ _ _ _).qF,List.length_replicate]
theorem J9(t:ae):(rH t).length<=4*aB t:=by
 have h:=JH (mI t) (aM t) 0 (-1);have A:=BP [t];rw[bg,bg,List.append_nil,aC,aC]at A;simp only[List.length_singleton]at A;unfold rH;omega
theorem TC{E:CE}{C:CM}{B:Nat}(A:yD C):∀sz,abL E C B sz
 | 0=>fun t n rs out w T c D=>by have:=pW t;omega
 | sz+1=>UM E C B A sz (TC A sz)
theorem Zd{t:ae}{e:Ending}{w w':World}(A:dC t=false)(D:e= .returned (.tuple #[.slice none 0 0,.int .i64 1]))(hb:Below w.heap.size w w'):Fv t w e w':=by
 unfold Fv cL rS;rw[if_neg (by simp[A]),if_neg (by simp[A])];exact⟨none,0,D,Et _ _ _ _ _,hb⟩
theorem Zc{t:ae}{e:Ending}{w w':World}{A:Option Addr}{n F:Nat}(D:dC t=true)(H:(rH t).length=n)(G:e= .returned (.tuple #[.slice A n F,.int .i64 0]))(I:aS 8 aT w' w'.heap.size A (rH t))(hb:Below w.heap.size w w'):Fv t w e w':=by
 subst H;unfold Fv cL rS;rw[if_pos D,if_pos D];exact⟨A,F,G,I,hb⟩
theorem qN.ok{t:ae}{w:World}{e:Ending}{w':World}(D:dC t=true)(h:qN t w e w'):∃dA dc uA uc lA lc,e= .returned (.tuple #[.agg #[.slice dA (aZ t).ds.length dc,.slice uA (aZ t).uses.length uc],.slice lA (rL t).length lc,.int .i64 0])/\aS 4 bQ w' w'.heap.size dA (aZ t).ds/\aS 1 gu w' w'.heap.size uA (aZ t).uses/\Below w.heap.size w w':=by
 obtain⟨dA,dc,uA,uc,lA,lc,A,F,G,-,hb⟩:=h;unfold rD at A F;unfold rU at A G;unfold rS at A;rw[if_pos D]at F G;rw[if_pos D,if_pos D,if_pos D]at A;exact⟨dA,dc,uA,uc,lA,lc,A,F,G,hb⟩
theorem qN.bad{t:ae}{w:World}{e:Ending}{w':World}(D:dC t=false)(h:qN t w e w'):∃dA nd dc uA nu uc lA F lc,e= .returned (.tuple #[.agg #[.slice dA nd dc,.slice uA nu uc],.slice lA F lc,.int .i64 1])/\Below w.heap.size w w':=by
 obtain⟨dA,dc,uA,uc,lA,lc,A,G,H,-,hb⟩:=h;unfold rS at A;rw[if_neg (by simp[D])]at A;exact⟨dA,_,dc,uA,_,uc,lA,_,lc,A,hb⟩
theorem Tv(t:ae)(A:Option Addr)(c:Nat)(w:World)(hN:aB t<=4096)(U:t.kids.length<=c)(hk:aD w w.heap.size A 0 t.kids):
 Calls Tryz.prog 33 #[aO t A c] w (Fv t w):=by
 have J:∀W,Below w.heap.size w W->Calls Tryz.prog 12 #[aO t A c] W (qN t W):=fun W hb=>(Tt t A c W (by omega) U (aD.mono hb.size _ _ _ (aD.below hb (ab9 _) _ _ _ hk))).mono fun e w' h=>qN.prog h
 have I:dC t=true->∀W,Below w.heap.size w W->Calls Tryz.prog 60 #[aO t A c] W _:=fun hv W hb=>Pt t A c W (by omega) (aD.mono hb.size _ _ _ (aD.below hb (ab9 _) _ _ _ hk)) hv
 have ao:∀W B,Below w.heap.size w W->w.heap.size<=B->aD W B A 0 t.kids:=fun W B hb hB=>aD.mono hB _ _ _ (aD.below hb (ab9 _) _ _ _ hk)
 obtain⟨L,x0,K,N,M,-,-,-,-,-,dH⟩:=aW t A c;rw[dH]at J I⊢;obtain⟨W1, P⟩:=ag (w.alloc (.cells #[.int .i64 L,.string x0,.int .i64 K,.int .i64 N,.slice A M c] 24));have d:Below w.heap.size w W1:=by rw[<- P];exact ai _ _
 have Ch:ah W1 w.heap.size 24 #[.int .i64 L,.string x0,.int .i64 K,.int .i64 N,.slice A M c]:=by rw[<- P];exact ah.new _ _ _
 have bG:=kH (J W1 d);have Hu:=kH I;have ab:=kH ao;have Hy:=kH dH;have HT:Hid (aB t<=4096):=kH hN;have lY:=kH d;have BI:=kH Ch;obtain⟨⟨m0,m1,m2,m3,m4⟩,-⟩:=Ch.five;have lm:=Ch.lt;clear J I ao dH d Ch hk U hN;go_in
 go_wp2_with (rw[P])
 clear m0 m1 m2 m3 m4 lm P
 cases hv:dC t with
 | false=>
  have r:=kH hv;clear hv;refine bG.out.mono ?_;rintro e3 y h3;obtain⟨dA,nd,dc,uA,nu,uc,lA,nl,lc,rfl,G⟩:=qN.bad r.out h3;obtain⟨D, nK⟩:=ag (y.alloc (.cells #[.slice dA nd dc,.slice uA nu uc] 30));have F:Below y.heap.size y D:=by rw[<- nK];exact ai _ _
  have mF:Hid (Below w.heap.size w D):=kH (lY.out.trans ((G.trans (F.mono G.size)).mono lY.out.size));clear G F h3;go_wp2_with (rw[nK])
  go_ret2
  exact Zd r.out rfl mF.out
 | true=>
  have r:=kH hv;have O8:=kH (Hu.out hv);clear hv;refine bG.out.mono ?_;rintro e3 y h3;obtain⟨nd, a7⟩:=ag ((aZ t).ds.length);obtain⟨nu, a8⟩:=ag ((aZ t).uses.length);obtain⟨dA,dc,uA,uc,lA,lc,rfl,r1,r2,G⟩:=qN.ok r.out h3;rw[a7,a8];obtain⟨D, nK⟩:=ag (y.alloc (.cells #[.slice dA nd dc,.slice uA nu uc] 30));obtain⟨g3, a6⟩:=ag y.heap.size;have F:Below y.heap.size y D:=by rw[<- nK];exact ai _ _
  have l:ah D g3 30 #[.slice dA nd dc,.slice uA nu uc]:=by rw[<- nK,<- a6];exact ah.new _ _ _
  have NZ:=(BI.out.below G BI.out.lt).below F (BI.out.below G BI.out.lt).lt;have YL:Below w.heap.size w D:=lY.out.trans ((G.trans (F.mono G.size)).mono lY.out.size)
  have fE:∀W,Below D.heap.size D W->W.cell? ⟨w.heap.size,0,none⟩=some (.int .i64 L)/\W.cell? ⟨w.heap.size,1,none⟩=some (.string x0)/\W.cell? ⟨w.heap.size,2,none⟩=some (.int .i64 K)/\W.cell? ⟨w.heap.size,3,none⟩=some (.int .i64 N)/\W.cell? ⟨w.heap.size,4,none⟩=some (.slice A M c)/\W.cell? ⟨g3,0,none⟩=some (.slice dA nd dc)/\W.cell? ⟨g3,1,none⟩=some (.slice uA nu uc):=fun W hb=>by
   have h1:=NZ.below hb NZ.lt;have h2:=l.below hb l.lt;exact⟨h1.cell 0,h1.cell 1,h1.cell 2,h1.cell 3,h1.cell 4,h2.cell 0,h2.cell 1⟩
  have O:Hid (aS 4 bQ D D.heap.size dA (aZ t).ds/\aS 1 gu D D.heap.size uA (aZ t).uses/\(aZ t).ds.length=nd/\(aZ t).uses.length=nu):=kH ⟨(r1.below F (ab9 _)).mono F.size,(r2.below F (ab9 _)).mono F.size,a7,a8⟩;have mF:=kH YL;have ZB:=kH NZ;have bP:=kH fE;have R8:=kH (And.intro nK a6);have oM:Below D.heap.size D D.drew:=(Below.refl _ _).drew;have af:=fE _ oM;clear r1 r2 G F l NZ YL fE a7 a8 nK a6 h3;go_upto_region 2 with fail
  rw[R8.out.1,R8.out.2];clear R8;go_upto_region 4 with fail
  refine mO (fun W=>W.cell? ⟨w.heap.size,0,none⟩=some (.int .i64 L)/\W.cell? ⟨w.heap.size,1,none⟩=some (.string x0)/\W.cell? ⟨w.heap.size,2,none⟩=some (.int .i64 K)/\W.cell? ⟨w.heap.size,3,none⟩=some (.int .i64 N)/\W.cell? ⟨w.heap.size,4,none⟩=some (.slice A M c)/\W.cell? ⟨g3,0,none⟩=some (.slice dA nd dc)/\W.cell? ⟨g3,1,none⟩=some (.slice uA nu uc)) [] (.soft 0 (.soft 1 (.soft 3 (.hard 2 (.soft 4 (.hard 5 (.soft 6 .done))))))) (by kernel_rfl) (by kernel_rfl) rfl (by kernel_rfl) ?_
  iterate 3
   refine dX (by simp only[acj,aci,ach];rfl) (by rfl) af (by intro w' f;obtain⟨au,av,aw,ax,ay,az,aE⟩:=f;go_simp;rfl) ?_;simp only[Act.put,sA,sZ,sC]
  refine cB (ig (by simp only[acj,aci,ach];rfl) (by rfl) (by go_simp) ((O8.out D.drew (mF.out.trans (oM.mono mF.out.size))).mono ?_));rintro e5 w5 ⟨S,sn,sc,rfl,LB,al⟩;have tC:Below D.heap.size D w5:=oM.trans (al.mono (Nat.le_of_eq (show D.heap.size=D.drew.heap.size from rfl)));have j:=bP.out _ tC;refine⟨_,rfl,fun _=>j,?_⟩;simp only[Act.put,sA,sZ,sC];refine dX (by simp only[acj,aci,ach];rfl) (by rfl) j (by intro w' f;go_simp;rfl) ?_;simp only[Act.put,sA,sZ,sC];obtain⟨cb, H⟩:=ag w5.heap.size;obtain⟨Y, hY⟩:=ag (w5.alloc (.cells #[.int .i64 L,.string x0,.int .i64 K,.int .i64 N,.slice A M c,.slice S sn sc,.slice dA nd dc,.slice uA nu uc,.slice none 0 0,.int .i64 0,.int .i64 (-1)] 117));have gM:Below w5.heap.size w5 Y:=by rw[<- hY];exact ai _ _
  have mX:ah Y cb 117 #[.int .i64 L,.string x0,.int .i64 K,.int .i64 N,.slice A M c,.slice S sn sc,.slice dA nd dc,.slice uA nu uc,.slice none 0 0,.int .i64 0,.int .i64 (-1)]:=by rw[<- hY,<- H];exact ah.new _ _ _
  have MZ:Below D.heap.size D Y:=tC.trans (gM.mono tC.size);have sG:=bP.out _ MZ;refine cB (gY (v:=.pointer (some ⟨cb,0,none⟩)) (w':=Y) (by simp only[acj,aci,ach];rfl) (by rfl) (by first|(go_simp;done)|(go_simp;rw[hY,H])|(go_simp;rw[H];rfl)) (fun _=>sG) ?_);simp only[Act.put,sA,sZ,sC];refine dX (by simp only[acj,aci,ach];rfl) (by rfl) sG (by intro w' f;go_simp;rfl) ?_;simp only[Act.put,sA,sZ,sC];refine kR ?_;have Z:Y.heap.size=cb+1:=by rw[<- hY,<- H];simp
  have EO:D.heap.size<=cb:=by rw[<- H];exact tC.size
  have Wt:Below w.heap.size w Y:=mF.out.trans (MZ.mono mF.out.size);have Q:w.heap.size<=cb:=aca mF.out.size EO;have hP:PC ⟨cb,cb+1,L,x0,K,N,A,M,c,S,sn,sc,dA,nd,dc,uA,nu,uc⟩ [] ((0:Nat):Int) (-1) Y:=⟨none,0,mX,aG.nil _ _ _ _⟩
  have nY:(aZ t).uses.length=aB t:=Nf r.out
  have ad:PH ⟨cb,cb+1,L,x0,K,N,A,M,c,S,sn,sc,dA,nd,dc,uA,nu,uc⟩ (mI t) cb Y:={
   rt:=⟨t,Hy.out,rfl,ab.out _ _ Wt Q,by have:=HT.out;omega⟩
   us:=(O.out.2.1.below MZ (ab9 _)).mono EO
   un:=O.out.2.2.2
   ds:=(O.out.1.below MZ (ab9 _)).mono EO
   dn:=O.out.2.2.1
   rc:=(LB.below gM (ab9 _)).mono (Nat.le_of_eq H)
   cb:=ab9 _
   base:=Nat.le_succ _
   bw:=by omega }
  have xY:=TC (E:=⟨cb,cb+1,L,x0,K,N,A,M,c,S,sn,sc,dA,nd,dc,uA,nu,uc⟩) (B:=cb) (Y7 r.out (by have:=HT.out;omega) nY) (aB t) t 0 (-1) [] Y A c (ab9 _) hP ad (by show cb+1<=_;omega) (by show(aM t)[0]? =some t;rw[iK];rfl) (ab.out _ _ Wt Q) (by have:=HT.out;simp only[List.length_nil];omega);rw[Hy.out]at xY;have a1:=kH xY;have HY:=kH (And.intro Wt Q);have Md:=kH Z;have o9:=ZB.out.below MZ ZB.out.lt;obtain⟨⟨m0,m1,m2,m3,m4⟩,-⟩:=o9.five;have lm:=o9.lt;clear xY Wt Q Z o9 EO hP ad nY MZ gM mX af j sG oM al tC LB hY H;go_wp2_with fail
  refine a1.out.mono ?_;rintro e6 u ⟨rfl,ar,aq⟩;have zb:=J9 t;have an:Below w.heap.size w u:=HY.out.1.trans (aq.low HY.out.1.size HY.out.2 (Nat.le_succ_of_le HY.out.2));obtain⟨oA,oc,Cj,YE⟩:=ar;obtain⟨on, aa⟩:=ag ((rH t).length);have WA:ah u cb 117 #[.int .i64 L,.string x0,.int .i64 K,.int .i64 N,.slice A M c,.slice S sn sc,.slice dA nd dc,.slice uA nu uc,.slice oA (rH t).length oc,.int .i64 ((0+aB t:Nat):Int),.int .i64 (jD (mI t) (aM t) 0 (-1)).2]:=Cj;have R:aG u (cb+1) 110 8 (.slice oA (rH t).length oc) (rH t).length ((rH t).flatMap aT):=YE;have X:aS 8 aT u u.heap.size oA (rH t):=R.rowAt (cells:=aT) rfl rfl (fun _ _=>rfl) rfl;have HE:Hid (aS 8 aT u u.heap.size oA (rH t)/\Below w.heap.size w u/\(rH t).length=on):=kH ⟨X,an,aa⟩;rw[aa]at WA;have c8:=WA.cell 8;have lc:=WA.lt;clear Cj WA YE R X an aq aa zb;go_wp2_with fail
  go_ret2
  exact Zc r.out HE.out.2.2 rfl HE.out.1 HE.out.2.1
theorem aD.mk{w:World}{B b A:Nat}(hb:b<B):∀{ts:List ae}{i:Nat},(∀(j:Nat) (t:ae),ts[j]? =some t->∃vals,(∀q v,vals[q]? =some v->w.cell? ⟨b,A+(i+j)*5+q,none⟩=some v)/\jH w B t vals)->aD w B (some ⟨b,A,none⟩) i ts
 | [],_,_=>trivial
 | t::ts,i,h=>by
  obtain⟨vals,D,F⟩:=h 0 t rfl;refine⟨⟨b,A,vals,rfl,hb,fun j v I=>D j v I,F⟩,aD.mk hb fun j u K=>?_⟩;obtain⟨vals,G,H⟩:=h (j+1) u K;exact⟨vals,fun q v J=>by have:=G q v J;rw[show i+(j+1)=i+1+j by omega]at this;exact this,H⟩
end Go.Proofs.YtoepemlnlpamlaaGreat
