/- The law NamesVisibleAt holds where what it reads is of bulk at most 1048576: it returns true, and its arguments read as before. Part 26: Nam9 Vis3 VisW VisH. -/
import Derived.Test.YtoepemlnlpamlaaGreatVisa25
set_option maxRecDepth 100000
set_option maxHeartbeats 4000000
namespace Go.Proofs.YtoepemlnlpamlaaGreat
open Go.RowKit
theorem aX.UY{E:RC}{G:bC}{r:RS}{V:RV}{w:World}(h:aX E G r V w)(n:Nat)(M:Nat->Prop):
 aX E G { r with next:=n } V (w.setCell ⟨E.rp,7,none⟩ (.int .i64 (n:Int)))/\KX E M w (w.setCell ⟨E.rp,7,none⟩ (.int .i64 (n:Int))):=by
 have I:aF (fun g=>g=E.rp) w (w.setCell ⟨E.rp,7,none⟩ (.int .i64 (n:Int))):=aF.setCell (S:=fun g=>g=E.rp) (aF.refl _ w) (p:=⟨E.rp,7,none⟩) (.inl rfl) _;have J:∀{K:Type} [DecidableEq K] {KK:oW K}{q:Nat}{m:List (K×Value)},bA KK w q m->bA KK (w.setCell ⟨E.rp,7,none⟩ (.int .i64 (n:Int))) q m:=fun F=>F.since I (fun C=>F.rJ h.blk C)
 have D:∀{e size v n' xs},aK w E.base e size v n' xs->e≠75->aK (w.setCell ⟨E.rp,7,none⟩ (.int .i64 (n:Int))) E.base e size v n' xs:=fun F C=>F.since I (fun g H L=>F.cB h.blk C (by rw[H,L]))
 refine⟨⟨?_,J h.gl,J h.fl,J h.kn,J h.vi,?_,D h.ds (by decide),D h.us (by decide),D h.ps (by decide),h.low,h.apart⟩,?_⟩
 ·have:=h.blk.gu 7 (.int .i64 (n:Int))
  simpa using this
 ·refine fG.of_block h.aR fun g cur H _=>I.block g (aae.1 H).1 fun C=>?_
  subst C;have O:w.heap[E.rp]? =some (.cells _ 75 (0,0)):=h.blk;rw[O]at H;simp at H
 ·refine aF.mono I fun g C=>?_
  subst C;exact⟨h.low.1,.inl ⟨_,_,_,h.blk,.inl rfl⟩⟩
theorem aX.QP{E:RC}{G:bC}{r:RS}{V:RV}{w:World}(h:aX E G r V w)(n:Int)(M:Nat->Prop):
 aX E G { r with owner:=n } V (w.setCell ⟨E.rp,8,none⟩ (.int .i64 n))/\KX E M w (w.setCell ⟨E.rp,8,none⟩ (.int .i64 n)):=by
 have I:aF (fun g=>g=E.rp) w (w.setCell ⟨E.rp,8,none⟩ (.int .i64 n)):=aF.setCell (S:=fun g=>g=E.rp) (aF.refl _ w) (p:=⟨E.rp,8,none⟩) (.inl rfl) _;have J:∀{K:Type} [DecidableEq K] {KK:oW K}{q:Nat}{m:List (K×Value)},bA KK w q m->bA KK (w.setCell ⟨E.rp,8,none⟩ (.int .i64 n)) q m:=fun F=>F.since I (fun C=>F.rJ h.blk C)
 have D:∀{e size v n' xs},aK w E.base e size v n' xs->e≠75->aK (w.setCell ⟨E.rp,8,none⟩ (.int .i64 n)) E.base e size v n' xs:=fun F C=>F.since I (fun g H L=>F.cB h.blk C (by rw[H,L]))
 refine⟨⟨?_,J h.gl,J h.fl,J h.kn,J h.vi,?_,D h.ds (by decide),D h.us (by decide),D h.ps (by decide),h.low,h.apart⟩,?_⟩
 ·have:=h.blk.gu 8 (.int .i64 n)
  simpa using this
 ·refine fG.of_block h.aR fun g cur H _=>I.block g (aae.1 H).1 fun C=>?_
  subst C;have O:w.heap[E.rp]? =some (.cells _ 75 (0,0)):=h.blk;rw[O]at H;simp at H
 ·refine aF.mono I fun g C=>?_
  subst C;exact⟨h.low.1,.inl ⟨_,_,_,h.blk,.inl rfl⟩⟩
theorem fG.snoc{w:World}{base:Nat}{H:Option Nat}{k:Int}{F:List Int}{v:Value}(J:aK w base 3 1 v F.length (iB F))(K:∀g,v.ownBlock=some g->H≠some g):∀{l:List (Int×List Int)}{vals:List (Int×Value)},fG w base H l vals->(∀g,v.ownBlock=some g->∀y∈vals,y.2.ownBlock≠some g)->fG w base H (l++[(k,F)]) (vals++[(k,v)])
 | [],vals,h,hn=>by
  have:vals=[]:=h;subst this;exact⟨v,[],rfl,J,fun g D=>⟨K g D,by simp⟩,rfl⟩
 | x::l,vals,h,hn=>by
  obtain⟨L,Q,rfl,O,I,P⟩:=h;refine⟨L,Q++[(k,v)],rfl,O,fun g D=>⟨(I g D).1,fun y C=>?_⟩,fG.snoc J K P fun g D y C=>hn g D y (by simp[C])⟩;rcases List.mem_append.1 C with C|C
  ·exact(I g D).2 y C
  ·rw[List.mem_singleton]at C
   subst C;exact fun e=>hn g e (x.1,L) (by simp) D
theorem fG.lt{w:World}{base:Nat}{I:Option Nat}:∀{l:List (Int×List Int)}{vals:List (Int×Value)},fG w base I l vals->∀y∈vals,∀g,y.2.ownBlock=some g->g<w.heap.size
 | [],vals,h,y,C=>by
  have:vals=[]:=h;subst this
  cases C
 | x::l,vals,h,y,C=>by
  obtain⟨K,L,rfl,D,J,F⟩:=h;rcases List.mem_cons.1 C with rfl|C
  ·exact fun g H=>(D.lt g H).2
  ·exact fG.lt F y C
theorem fG.keys{w:World}{base:Nat}{D:Option Nat}:∀{l:List (Int×List Int)}{vals:List (Int×Value)},fG w base D l vals->vals.map (·.1)=l.map (·.1)
 | [],vals,h=>by
  have:vals=[]:=h;subst this;rfl
 | x::l,vals,h=>by
  obtain⟨I,J,rfl,F,H,C⟩:=h;simp[fG.keys C]
theorem QQ{K:Type}[DecidableEq K]:∀{m:List (K×Value)}{k:K}(v:Value),k ∉ m.map (·.1)->p8 m k v=m++[(k,v)]
 | [],_,_,_=>rfl
 | x::m,k,v,h=>by
  rw[List.map_cons,List.mem_cons]at h;have D:k≠x.1:=fun e=>h (.inl e)
  rw[Gf _ _ _ _ D,QQ v fun C=>h (.inr C)];rfl
theorem Gg{K V:Type}[DecidableEq K]:∀{l:List (K×V)}{k:K}(v:V),k ∉ l.map (·.1)->dh l k v=l++[(k,v)]
 | [],_,_,_=>rfl
 | x::l,k,v,h=>by
  rw[List.map_cons,List.mem_cons]at h;have D:k≠x.1:=fun e=>h (.inl e)
  rw[dh,if_neg D,Gg v fun C=>h (.inr C)];rfl
theorem aX.U3{E:RC}{G:bC}{r:RS}{V:RV}{w L w':World}(h:aX E G r V w)(Q:E.base<=w.heap.size)(P:Below w.heap.size w L)(n:Int)(l:List Int)(v:Value)(H:aK L w.heap.size 3 1 v l.length (iB l))(W:n ∉ r.aR.map (·.1))(M:Nat->Prop)(z:M E.vi)
 (u:bA kX w' E.vi (p8 V.vals n v)) (K:aF (fun g=>g=E.vi) L w'):
 aX E G { r with aR:=dh r.aR n l } { V with vals:=p8 V.vals n v } w'/\KX E M w w':=by
 have F:=h.below P;have C:=F.vi.isMap
 have O:∀{g:Nat}{t:TypeId}{X:Array Value},aj L g t X->g≠E.vi:=fun P e=>by
  obtain⟨S,R,H⟩:=C;subst e;have:L.heap[_]? =some (Obj.cells _ _ (0,0)):=P;rw[H]at this;cases this
 have I:∀{e size v n xs base},aK L base e size v n xs->aK w' base e size v n xs:=fun T=>T.since K (fun g D e=>by
  subst e;obtain⟨cur,U⟩:=T.obj _ D;obtain⟨S,R,H⟩:=C;rw[H]at U
  cases U)
 have J:n ∉ V.vals.map (·.1):=by rw[h.aR.keys];exact W
 refine⟨⟨F.blk.since K (O F.blk),F.gl.since K (fun e=>h.apart.1 e.symm),F.fl.since K (fun e=>h.apart.2.1 e.symm),F.kn.since K (fun e=>h.apart.2.2 e.symm),u,?_,I F.ds,I F.us,I F.ps,h.low,h.apart⟩,?_⟩
 ·show fG w' E.base (Value.slice E.uA r.uses.length E.uc).ownBlock (dh r.aR n l) (p8 V.vals n v)
  rw[Gg l W,QQ v J];refine fG.snoc (I (H.mono Q)) (fun g D e=>?_) (fG.of_block F.aR fun g cur D _=>K.block g (aae.1 D).1 fun e=>?_) (fun g D y q e=>?_)
  ·have Y:=(H.lt g D).1
   have Z:=(h.us.lt g e).2;omega
  ·subst e
   obtain⟨S,R,H⟩:=C;rw[H]at D;cases D
  ·have Y:=(H.lt g D).1
   have Z:=h.aR.lt y q g e;omega
 ·exact(KX.of_below (M:=M) P).trans (KX.oP K z h.low.2 C) (fun g D=>.inl D)
theorem aX.yH{E:RC}{G:bC}{r:RS}{V:RV}{w w':World}{M:Nat->Prop}(h:aX E G r V w)(F:KX E M w w'){g:Nat}{C:Array Value}(D:aj w g 24 C):aj w' g 24 C:=F.blk D (by decide) (by decide) (by decide) (h.U4 D)
theorem aX.Gm{E:RC}{G:bC}{r:RS}{V:RV}{w w':World}{M:Nat->Prop}(h:aX E G r V w)(F:KX E M w w'){g:Nat}{C:Array Value}(D:aj w g 68 C):aj w' g 68 C:=F.blk D (by decide) (by decide) (by decide) (h.Zn D)
theorem bne_dec(a b:Int):(a !=b)=decide (a≠b):=by by_cases h:a=b<;>simp[h]
theorem Qw(E:RC)(G:bC)(B:Nat)(hB:B<=E.base)(x:ByteArray)(a e:Int)(kids:List ae)(hih:∀k∈kids,gF E G B k):gF E G B (.node 3 x a e kids):=by
 intro i s p ms r V w A c h hs b hk F K hv Z;obtain⟨nk,O⟩:∃q,kids.length=q:=⟨_,rfl⟩
 have hvk:mG s.isEmpty kids=true:=by
  rw[qA,if_neg (by decide),if_neg (by decide),if_neg (by decide)]at hv;exact hv
 have hq:aM G i (.node 3 x a e kids) s r=ah G i kids 0 kids.length s { aW (aG r i (ak (ay s))) 0 r.next (.node 3 x a e kids) (decide ((aU G.globals x).getD 0≠(r.next:Int))) with owner:=(r.next:Int) }:=by rw[dx,if_pos rfl]
 rw[hq,O];obtain⟨Q,hQ⟩:∃Q,ah G i kids 0 nk s { aW (aG r i (ak (ay s))) 0 r.next (.node 3 x a e kids) (decide ((aU G.globals x).getD 0≠(r.next:Int))) with owner:=(r.next:Int) }=Q:=⟨_,rfl⟩
 rw[hQ];have HQ:=kH hQ;clear hq hQ;unfold aZ;have tJ:(ae.node 3 x a e kids).kind=3/\(ae.node 3 x a e kids).text=x/\(ae.node 3 x a e kids).at_=a/\(ae.node 3 x a e kids).end_=e/\(ae.node 3 x a e kids).kids=kids:=⟨rfl,rfl,rfl,rfl,rfl⟩
 rw[tJ.1,tJ.2.1,tJ.2.2.1,tJ.2.2.2.1,tJ.2.2.2.2,O];rw[tJ.2.2.2.2]at hk F;rw[O]at F;obtain⟨nx,W⟩:∃q,r.next=q:=⟨_,rfl⟩
 have hnb:nx<=1000000:=by have:=Z.room;have:=Z.most;omega
 have rU:w.cell? ⟨E.rp,7,none⟩=some (.int .i64 (nx:Int)):=by rw[<- W];exact h.blk.cell 7
 have hrw:=h.blk.lt;have hwn:IntKind.i64.wrap ((nx:Int)+1)=(nx:Int)+1:=IntWalk.i64_in _ (by omega);have hfx:=h.blk.frozen 7;have H:=kH h;have HS:=kH hs;have HK:=kH hk;have dS:=kH Z;have I:=kH W;have fK:=kH O;have lS:=kH hvk;have fE:=kH hih;have HCAP:=kH F;have v:=kH K;clear h hs hk Z W O hvk hih hv tJ F K;go_in
 go_upto_if 32 with fail
 generalize J:(((w.setCell ⟨E.rp,7,none⟩ (.int .i64 ((nx:Int)+1))).alloc (.cells #[.pointer (some ⟨E.rp,0,none⟩)] 68)).alloc (.cells #[.int .i64 3,.string x,.int .i64 a,.int .i64 e,.slice A nk c] 24))=W3
 obtain⟨hr3,hk3⟩:=H.out.UY (nx+1) (fun _=>False)
 have hbW:Below w.heap.size (w.setCell ⟨E.rp,7,none⟩ (.int .i64 ((nx:Int)+1))) W3:=by
  rw[<- J];have h1:=ag (w.setCell ⟨E.rp,7,none⟩ (.int .i64 ((nx:Int)+1))) (.cells #[.pointer (some ⟨E.rp,0,none⟩)] 68);have h2:=ag ((w.setCell ⟨E.rp,7,none⟩ (.int .i64 ((nx:Int)+1))).alloc (.cells #[.pointer (some ⟨E.rp,0,none⟩)] 68)) (.cells #[.int .i64 3,.string x,.int .i64 a,.int .i64 e,.slice A nk c] 24);have h3:=h1.trans (h2.mono (by simp));simpa using h3
 have hsz3:W3.heap.size=w.heap.size+2:=by rw[<- J];simp
 have yw:aj W3 (w.heap.size+1) 24 #[.int .i64 3,.string x,.int .i64 a,.int .i64 e,.slice A nk c]:=by
  have:=aj.new ((w.setCell ⟨E.rp,7,none⟩ (.int .i64 ((nx:Int)+1))).alloc (.cells #[.pointer (some ⟨E.rp,0,none⟩)] 68)) 24 #[.int .i64 3,.string x,.int .i64 a,.int .i64 e,.slice A nk c];rw[J]at this;simpa using this
 have X:aj W3 w.heap.size 68 #[.pointer (some ⟨E.rp,0,none⟩)]:=by
  have:=(aj.new (w.setCell ⟨E.rp,7,none⟩ (.int .i64 ((nx:Int)+1))) 68 #[.pointer (some ⟨E.rp,0,none⟩)]).alloc (.cells #[.int .i64 3,.string x,.int .i64 a,.int .i64 e,.slice A nk c] 24);rw[J]at this;simpa using this
 have C:Hid (aX E G { r with next:=nx+1 } V W3):=kH (hr3.below (by simpa using hbW));have gT:Hid (KX E (fun _=>False) w W3):=kH (hk3.trans (KX.of_below (M:=fun _=>False) (by simpa using hbW)) (fun g L=>.inl L));have iW:Hid (bL W3 E.base p s ms):=kH (bL.kx gT.out H.out.oO HS.out (fun _ _ h=>h));have jA:=kH yw;have iQ:=kH X;have HSZ3:=kH hsz3;have c5:W3.cell? ⟨E.rp,5,none⟩=some (.map (some E.vi)):=C.out.blk.cell 5;have p0:=X.cell 0;have qN:=C.out.blk.lt;have rM:=X.lt;clear J hr3 hk3 hbW yw X hsz3 rU hfx;go_cut [] (fun wx=> ∃Vx,Hid (aX E G (aG r i (ak (ay s))) Vx wx)/\Hid (KX E (fun g=>g=E.vi) W3 wx))
 case first=>
  cases i with
  | false=>
   go_wp2_with fail
   go_meet
   exact⟨V,by have:=C.out;rw[<- I.out]at this;exact kH this,kH (KX.refl _ _ _)⟩
  | true=>
   have hbz:E.base<=W3.heap.size:=aac v.out gT.out.size;have n:=VG E.base s p ms W3.drew (bL.below ((Below.refl _ W3).drew) iW.out) (by have:=dS.out.Yv;have:=I.out;omega);have iT:=kH n
   have jy:∀w':World,aF (fun g=>g=E.vi) W3 w'->w'.cell? ⟨E.rp,5,none⟩=some (.map (some E.vi))/\w'.cell? ⟨w.heap.size,0,none⟩=some (.pointer (some ⟨E.rp,0,none⟩)):=fun w' hw=>by
    have nm:∀{g:Nat}{t:TypeId}{cs:Array Value},aj W3 g t cs->g≠E.vi:=fun hb e=>by
     obtain⟨es,ck,ho⟩:=C.out.vi.isMap;subst e;have:W3.heap[_]? =some (Obj.cells _ _ (0,0)):=hb;rw[ho]at this;cases this
    exact⟨(C.out.blk.since hw (nm C.out.blk)).cell 5,(iQ.out.since hw (nm iQ.out)).cell 0⟩
   have eY:=kH jy;have hs0:aF (fun g=>g=E.vi) W3 W3.drew:=(aF.refl _ W3).drew
   have nC:(nx:Int) ∉ r.aR.map (·.1):=fun hm=>by
    obtain⟨y,hy,he⟩:=List.mem_map.1 hm;have:=dS.out.aR y hy;have:=I.out;omega
   have HVN:=kH nC;clear n jy nC;go_wp2_with fail
   go_region_held3 (fun w'=>w'.cell? ⟨E.rp,5,none⟩=some (.map (some E.vi))/\w'.cell? ⟨w.heap.size,0,none⟩=some (.pointer (some ⟨E.rp,0,none⟩))) (exact eY.out _ (by assumption)) ((go_at_call 145;refine iT.out.mono ?_;rintro e5 w5 ⟨v5,rfl,jI,U⟩;have hs5:=hs0.below U;obtain⟨w6,d,gU,Sm,hz6⟩:=fI (P:=Tryz.prog) (KK:=kX) (t:=72) (kt:=3) (et:=28) Tryz.underlying72 Tryz.underlying3 ((bA.drew C.out.vi).JC U) (nx:Int) v5;change (Instr.mapUpdate 72 (.map (some E.vi)) (Value.int .i64 (nx:Int)) v5).run Tryz.prog w5=_ at d;have hs6:aF (fun g=>g=E.vi) w5 w6:=(aF.refl (fun g=>g=E.vi) w5).grown Sm (fun k hk=>by cases hk;exact .inl rfl);have hs7:=hs5.trans hs6))
   have hlen:(ak (ay s)).length=(ay s).length:=List.length_mergeSort _;have xP:Below W3.heap.size W3 w5:=((Below.refl _ W3).drew).trans U;have uZ:=C.out.U3 hbz xP (nx:Int) (ak (ay s)) v5 (by rw[hlen];exact jI) HVN.out (fun g=>g=E.vi) rfl gU hs6;have ze:=kH uZ;clear uZ hs5 hs6 hs7 hz6 gU xP U jI hs0 d Sm;go_wp2_with fail
   go_meet
   exact⟨_,by have:=ze.out.1;rw[<- I.out]at this;exact kH this,kH ze.out.2⟩
 case rest=>
  obtain⟨Vx,gY,ny⟩:=hcut;have W:(aG r i (ak (ay s))).next=nx+1:=by rw[<- I.out];rfl
  have Cg:Hid (KX E (fun g=>g=E.vi) w wc):=kH ((gT.out.mono (fun _ hf=>hf.elim)).trans ny.out (fun g L=>.inl L));have Ca:Hid (bL wc E.base p s ms):=kH (bL.kx ny.out C.out.oO iW.out (fun m hm e=>(b.apart m hm).2.2.2 e));have z:=C.out.yH ny.out jA.out;have Y:=C.out.Gm ny.out iQ.out;have hlk:=fun q=>qa (wc.drewN q) E.g G.globals (bA.drewN gY.out.gl q) x
  obtain⟨u,hgi⟩:∃q,(bE G.globals x).getD 0=q:=⟨_,rfl⟩
  obtain⟨gb,hgb⟩:∃q,(bE G.globals x).isSome=q:=⟨_,rfl⟩
  rw[hgi,hgb]at hlk;have c0:=gY.out.blk.cell 0;have lr:=gY.out.blk.lt;have q0:=Y.cell 0;have lp:=Y.lt;have n0:=z.cell 0;have n1:=z.cell 1;have n2:=z.cell 2;have n3:=z.cell 3;have n4:=z.cell 4;have ln:=z.lt;have HNXB:=kH z;have HPXB:=kH Y;have vC:=kH hgi;have Ag:=kH hgb;clear z Y hgi hgb c5 p0 qN rM;have hsl:=dQ.none_ r i (ak (ay s))
  have l:∀q al,Calls Tryz.prog 147 #[.pointer (some ⟨E.rp,0,none⟩),.int .i64 0,.int .i64 (nx:Int),.agg #[.int .i64 3,.string x,.int .i64 a,.int .i64 e,.slice A nk c],.bool al] (wc.drewN q) fun e' w'=>e'= .returned (.bool (!al))/\∃V',aX E G (aW (aG r i (ak (ay s))) 0 nx (.node 3 x a e kids) al) V' w'/\KX E (fun _=>False) (wc.drewN q) w':=fun q al=>by
   have h1:=dS.out;have h2:=h1.room;have h3:=lN (.node 3 x a e kids);have:=BP E G (aG r i (ak (ay s))) Vx (wc.drewN q) (gY.out.below (aT (Below.refl _ _) q)) (by show r.ds.length<=_;have:=h1.ds;have:=I.out;omega) (by show r.aY.length<=_;have:=h1.aY;have:=I.out;omega) (aac v.out (KX.low Cg.out v.out).size) 0 nx (by show nx<r.uses.length;have:=I.out;omega) (.node 3 x a e kids) A c al (fun _=>False);rw[<- fK.out];exact this
  have Ih:=kH l;clear l hsl;go_wp2_with fail
  go_quiet (fail)
  go_wp2_with fail
  refine(Ih.out _ _).mono ?_;rintro e8 w8 ⟨rfl,V8,h8,k8⟩;have Zx:KX E (fun _=>False) wc w8:=(KX.of_below (M:=fun _=>False) (aT (Below.refl wc.heap.size wc) _)).trans k8 (fun g L=>L.elim);have HS8:Hid (bL w8 E.base p s ms):=kH (bL.kx Zx gY.out.oO Ca.out (fun _ _ h=>h));have Hz:=kH (gY.out.yH Zx HNXB.out);have HP8:=kH (gY.out.Gm Zx HPXB.out);have nQ:Hid (KX E (fun g=>g=E.vi) w w8):=kH (Cg.out.trans Zx (fun g L=>L.elim));have T:=kH h8;have q8:=HP8.out.cell 0;have BB:=HP8.out.lt;have o8:w8.cell? ⟨E.rp,8,none⟩=some (.int .i64 (aW (aG r i (ak (ay s))) 0 nx (.node 3 x a e kids) (u !=(nx:Int))).owner):=T.out.blk.cell 8;have l8:=T.out.blk.lt;have m0:=Hz.out.cell 0;have m4:=Hz.out.cell 4;have lm8:=Hz.out.lt;have fo8:=T.out.blk.frozen 8;obtain⟨ow,how⟩:∃q,(aW (aG r i (ak (ay s))) 0 nx (.node 3 x a e kids) (u !=(nx:Int))).owner=q:=⟨_,rfl⟩
  rw[how]at o8;obtain⟨Js,S⟩:=T.out.QP (nx:Int) (fun _=>False);obtain⟨W9,qP⟩:∃W9,w8.setCell ⟨E.rp,8,none⟩ (.int .i64 (nx:Int))=W9:=⟨_,rfl⟩
  rw[qP]at Js S
  have R:rX r { aW (aG r i (ak (ay s))) 0 nx (.node 3 x a e kids) (u !=(nx:Int)) with owner:=(nx:Int) }:=by
   have:=dQ.trans (dQ.declare r i (ak (ay s)) 0 (.node 3 x a e kids) (u !=(nx:Int))) (dQ.owner _ (nx:Int));rw[I.out]at this;exact this
  have j:({ aW (aG r i (ak (ay s))) 0 nx (.node 3 x a e kids) (u !=(nx:Int)) with owner:=(nx:Int) }:RS).next=nx+1:=by
   have:=sJ r i (ak (ay s)) 0 (.node 3 x a e kids) (u !=(nx:Int));rw[I.out]at this;exact this
  have f:RB { aW (aG r i (ak (ay s))) 0 nx (.node 3 x a e kids) (u !=(nx:Int)) with owner:=(nx:Int) } s (aD ((kids.drop 0).take nk)):=by
   refine dS.out.slow R (by have:=R.next;omega) ?_;rw[j,<- fK.out];have:=I.out;simp[ai];omega
  have D:=RF E G B hB kids fE.out i s p ms _ V8 W9 3 x a e A nk c 0 nk nk (w.heap.size+1) w.heap.size fK.out (by omega) Js (bL.kx S T.out.oO HS8.out (fun _ _ h=>h)) b (aJ.below (((KX.low nQ.out v.out).trans (KX.low S (aac v.out (KX.low nQ.out v.out).size))).mono hB) (aab _) _ _ _ HK.out) HCAP.out (by omega) (aac (aac v.out (KX.low nQ.out v.out).size) S.size) (T.out.yH S Hz.out) (T.out.Gm S HP8.out) lS.out f
  have jJ:ah G i kids 0 nk s { aW (aG r i (ak (ay s))) 0 nx (.node 3 x a e kids) (u !=(nx:Int)) with owner:=(nx:Int) }=Q:=by
   rw[<- HQ.out,bne_dec,<- vC.out,I.out]
  rw[jJ]at D;have m9:=(T.out.yH S Hz.out).cell 4;have lm9:=(T.out.yH S Hz.out).lt;have HC9:=kH D;have Ib:=kH S;clear D S Js jJ f j R how Zx h8 k8;go_wp2_with (rw[qP])
  refine HC9.out.mono ?_;rintro e10 aV ⟨rfl,zC,h10,s10,k10⟩;have HE:Hid (∃V',aX E G Q.1 V' aV/\bL aV E.base p Q.2 ms/\KX E (fun g=>g=E.vi\/ms.head? =some g) w aV):=kH ⟨zC,h10,s10,((nQ.out.mono (M':=fun g=>g=E.vi\/ms.head? =some g) (fun _ h=>.inl h)).trans Ib.out (fun g L=>L.elim)).trans k10 (fun g L=>.inl L)⟩;clear h10 s10 k10 HC9 m9;go_wp2_with fail
  go_end0
  exact⟨rfl,HE.out⟩
structure NB where
 kids:List ae
 k:Int
 x:ByteArray
 a:Int
 z:Int
 A:Option Addr
 nk:Nat
 c:Nat
 bn:Nat
 br:Nat
structure VW (E:RC) (G:bC) (B:Nat) (N:NB) (w0:World) (M:Nat->Prop) (r:RS) (V:RV) (s:aS) (p:Option Addr) (ms:List Nat) (w:World):Prop where
 R:aX E G r V w
 S:bL w E.base p s ms
 N_:aj w N.bn 24 #[.int .i64 N.k,.string N.x,.int .i64 N.a,.int .i64 N.z,.slice N.A N.nk N.c]
 P:aj w N.br 68 #[.pointer (some ⟨E.rp,0,none⟩)]
 K:KX E M w0 w
 KD:aJ w B N.A 0 N.kids
 base:E.base<=w.heap.size
 low:B<=E.base
section
variable {E:RC}{G:bC}{B:Nat}{N:NB}{w0 w w':World}{M M':Nat->Prop}{r r':RS}{V V':RV}{s s':aS}{p p':Option Addr}{ms ms':List Nat}
theorem VW.step(h:VW E G B N w0 M r V s p ms w)(C:KX E M' w w')(F:aX E G r' V' w')(H:bL w' E.base p' s' ms')(D:∀g,M' g->M g\/w0.heap.size<=g):VW E G B N w0 M r' V' s' p' ms' w' where
 R:=F
 S:=H
 N_:=h.R.yH C h.N_
 P:=h.R.Gm C h.P
 K:=h.K.trans C D
 KD:=aJ.below ((KX.low C h.base).mono h.low) (aab _) _ _ _ h.KD
 base:=aac h.base C.size
 low:=h.low
theorem VW.Qf(h:VW E G B N w0 M r V s p ms w)(D:KX E M' w w')(H:aX E G r' V' w')(C:∀m∈ms,¬M' m)(F:∀g,M' g->M g\/w0.heap.size<=g):VW E G B N w0 M r' V' s p ms w':=
 h.step D H (bL.kx D h.R.oO h.S C) F
theorem VW.below(h:VW E G B N w0 M r V s p ms w)(C:Below w.heap.size w w'):VW E G B N w0 M r V s p ms w':=
 h.step (KX.of_below (M:=fun _=>False) C) (h.R.below C) (h.S.below C) (fun _ D=>D.elim)
theorem VW.drewN(h:VW E G B N w0 M r V s p ms w)(q:Nat):VW E G B N w0 M r V s p ms (w.drewN q):=h.below (aT (Below.refl _ _) q)
theorem VW.other(h:VW E G B N w0 M r V s p ms w)(C:bL w E.base p' s' ms'):VW E G B N w0 M r V s' p' ms' w:=⟨h.R,C,h.N_,h.P,h.K,h.KD,h.base,h.low⟩
theorem VW.cells(h:VW E G B N w0 M r V s p ms w):(w.cell? ⟨N.br,0,none⟩=some (.pointer (some ⟨E.rp,0,none⟩))/\N.br<w.heap.size)/\(w.cell? ⟨N.bn,0,none⟩=some (.int .i64 N.k)/\w.cell? ⟨N.bn,1,none⟩=some (.string N.x)/\w.cell? ⟨N.bn,2,none⟩=some (.int .i64 N.a)/\w.cell? ⟨N.bn,3,none⟩=some (.int .i64 N.z)/\w.cell? ⟨N.bn,4,none⟩=some (.slice N.A N.nk N.c)/\N.bn<w.heap.size) /\
 (w.cell? ⟨E.rp,0,none⟩=some (.map (some E.g))/\w.cell? ⟨E.rp,1,none⟩=some (.map (some E.f))/\w.cell? ⟨E.rp,2,none⟩=some (.map (some E.k))/\w.cell? ⟨E.rp,8,none⟩=some (.int .i64 r.owner)/\E.rp<w.heap.size):=
 ⟨⟨h.P.cell 0,h.P.lt⟩,⟨h.N_.cell 0,h.N_.cell 1,h.N_.cell 2,h.N_.cell 3,h.N_.cell 4,h.N_.lt⟩,⟨h.R.blk.cell 0,h.R.blk.cell 1,h.R.blk.cell 2,h.R.blk.cell 8,h.R.blk.lt⟩⟩
theorem VW.drew(h:VW E G B N w0 M r V s p ms w):VW E G B N w0 M r V s p ms w.drew:=h.below ((Below.refl _ _).drew)
theorem VW.kids(h:VW E G B N w0 M r V s p ms w)(I:∀k∈N.kids,gF E G B k)(i:Bool)(f n F:Nat)(L:F=f+n)(J:N.kids.length=N.nk)(H:f+n<=N.nk)(C:N.nk<=N.c)(X:mG s.isEmpty N.kids=true)(K:RB r s (aD ((N.kids.drop f).take n)))(D:Eh E ms)
 (W:∀g,(g=E.vi\/ms.head? =some g)->M g\/w0.heap.size<=g):
 Calls Tryz.prog 146 #[.int .i64 (f:Int),.int .i64 (F:Int),.pointer p,.bool i,.pointer (some ⟨N.bn,0,none⟩),.pointer (some ⟨N.br,0,none⟩)] w fun e w'=>e= .returned (.tuple #[])/\KX E (fun g=>g=E.vi\/ms.head? =some g) w w'/\∃V',VW E G B N w0 M (ah G i N.kids f n s r).1 V' (ah G i N.kids f n s r).2 p ms w':=
 (RF E G B h.low N.kids I i s p ms r V w N.k N.x N.a N.z N.A N.nk N.c f n F N.bn N.br J L h.R h.S D h.KD C H h.base h.N_ h.P X K).mono fun _ _ ⟨Q,V',T,U,O⟩=>⟨Q,O,V',h.step O T U W⟩
theorem VW.JU(h:VW E G B N w0 M r V s p ms w)(t:ae)(C:t.kind=N.k/\t.text=N.x/\t.at_=N.a/\t.end_=N.z/\t.kids=N.kids)(H:N.kids.length=N.nk)(L:r.aY.length<=1000000)(n:Nat)(O:n<r.uses.length)(D:Option Int)(y:Int)(P:∀k,D=some k->k=y):
 Calls Tryz.prog 149 #[.pointer (some ⟨E.rp,0,none⟩),.int .i64 (n:Int),.agg #[.int .i64 N.k,.string N.x,.int .i64 N.a,.int .i64 N.z,.slice N.A N.nk N.c],.int .i64 y,.bool D.isSome] w fun e w'=>e= .returned (.tuple #[])/\∃V',VW E G B N w0 M (gV r n t D) V' s p ms w':=by
 have:=use_any E G r V w h.R L h.base n O t N.A N.c D y P (fun _=>False);unfold aZ at this;rw[C.1,C.2.1,C.2.2.1,C.2.2.2.1,C.2.2.2.2,H]at this;exact this.mono fun _ _ ⟨I,V',J,K⟩=>⟨I,V',h.Qf K J (fun _ _ F=>F) (fun _ F=>F.elim)⟩
theorem VW.Tj(h:VW E G B N w0 M r V s p ms w)(t:ae)(C:t.kind=N.k/\t.text=N.x/\t.at_=N.a/\t.end_=N.z/\t.kids=N.kids)(H:N.kids.length=N.nk)(L:r.ds.length<=1000000)(O:r.aY.length<=1000000)(kind:Int)(n:Nat)(P:n<r.uses.length)(D:Bool):
 Calls Tryz.prog 147 #[.pointer (some ⟨E.rp,0,none⟩),.int .i64 kind,.int .i64 (n:Int),.agg #[.int .i64 N.k,.string N.x,.int .i64 N.a,.int .i64 N.z,.slice N.A N.nk N.c],.bool D] w fun e w'=>e= .returned (.bool (!D))/\∃V',VW E G B N w0 M (aW r kind n t D) V' s p ms w':=by
 have:=BP E G r V w h.R L O h.base kind n P t N.A N.c D (fun _=>False);unfold aZ at this;rw[C.1,C.2.1,C.2.2.1,C.2.2.2.1,C.2.2.2.2,H]at this;exact this.mono fun _ _ ⟨I,V',J,K⟩=>⟨I,V',h.Qf K J (fun _ _ F=>F) (fun _ F=>F.elim)⟩
theorem VW.og(h:VW E G B N w0 M r V s p ms w)(t:ae)(D:t.kind=N.k/\t.text=N.x/\t.at_=N.a/\t.end_=N.z/\t.kids=N.kids)(I:N.kids.length=N.nk)(Q:r.ds.length<=1000000)(T:r.aY.length<=1000000)(kind:Int)(n:Nat)(W:n<r.uses.length)
 (l:lH) (F:aS) (m:Nat) (H:List Nat) (J:bL w E.base p' (l::F) (m::H)) (C:Eh E (m::H)) (S:M m\/w0.heap.size<=m):
 Calls Tryz.prog 148 #[.pointer (some ⟨E.rp,0,none⟩),.int .i64 kind,.int .i64 (n:Int),.agg #[.int .i64 N.k,.string N.x,.int .i64 N.a,.int .i64 N.z,.slice N.A N.nk N.c],.pointer p'] w fun e w'=>e= .returned (.tuple #[])/\KX E (fun g=>g=m) w w'/\∃V',VW E G B N w0 M (aH G r kind n t (l::F)).1 V' (aH G r kind n t (l::F)).2 p' (m::H) w':=by
 have:=PL E G r V w h.R Q T h.base kind n W t N.A N.c l F p' m H J C;unfold aZ at this;rw[D.1,D.2.1,D.2.2.1,D.2.2.2.1,D.2.2.2.2,I]at this;exact this.mono fun _ _ ⟨L,V',O,P,K⟩=>⟨L,K,V',h.step K O P (fun g U=>by rw[U];exact S)⟩
theorem bL.tail{b m:Nat}(h:bL w E.base (some ⟨b,0,none⟩) s (m::ms))(K:aj w b 95 #[.pointer p,.map (some m)]):bL w E.base p s.tail ms:=by
 cases s with
 | nil=>exact absurd h.2 (by simp)
 | cons l s=>
  obtain⟨L,O,p',ms',D,F,_,_,I,_,J⟩:=h;simp only[List.cons.injEq]at F;obtain⟨rfl,rfl⟩:=F;simp only[aag,Addr.mk.injEq,and_true]at D;subst D;have H:w.heap[b]? =some (Obj.cells _ _ (0,0)):=K;have C:w.heap[b]? =some (Obj.cells _ _ (0,0)):=I;rw[H]at C;simp at C;rw[C];exact J
theorem bL.head{b m:Nat}{l:lH}(h:bL w E.base (some ⟨b,0,none⟩) (l::s) (m::ms)):bA jo w m (jS l)/\E.base<=b/\E.base<=m/\∃p,aj w b 95 #[.pointer p,.map (some m)]/\bL w E.base p s ms:=by
 obtain⟨L,O,p',ms',C,D,F,H,I,J,K⟩:=h;simp only[List.cons.injEq]at D;obtain⟨rfl,rfl⟩:=D;simp only[aag,Addr.mk.injEq,and_true]at C;subst C;exact⟨J,F,H,p',I,K⟩
theorem VW.yE(h:VW E G B N w0 M r V s p ms w)(F:KX E M' w w'){g:Nat}{C:Array Value}(D:aj w g 95 C):aj w' g 95 C:=
 F.blk D (by decide) (by decide) (by decide) (fun e=>h.R.oO g C e D)
theorem Eh.cons{m:Nat}(h:Eh E ms)(F:m ∉ ms)(D:m≠E.g/\m≠E.f/\m≠E.k/\m≠E.vi):Eh E (m::ms):=
 ⟨List.nodup_cons.2 ⟨F,h.nodup⟩,fun x C=>by rcases List.mem_cons.1 C with rfl|C;exact D;exact h.apart x C⟩
theorem bL.lt:∀{s:aS}{p:Option Addr}{ms:List Nat},bL w E.base p s ms->∀m∈ms,m<w.heap.size
 | [],_,_,h,m,C=>by rw[h.2]at C;cases C
 | _::_,_,_,⟨_,m',_,ms',_,h2,_,_,_,h6,h7⟩,m,C=>by
  rw[h2]at C;rcases List.mem_cons.1 C with rfl|C
  ·exact h6.lt
  ·exact bL.lt h7 m C
theorem VW.GA(h:VW E G B N w0 M r V s p ms w){p1:Option Addr}{s1:aS}{ms1:List Nat}(D:bL w E.base p1 s1 ms1)(C:Eh E ms1):
 Calls Tryz.prog 48 #[.pointer p1] w fun e w'=> ∃b m,e= .returned (.pointer (some ⟨b,0,none⟩))/\w.heap.size<=m/\aj w' b 95 #[.pointer p1,.map (some m)]/\bA jo w' m []/\bL w' E.base (some ⟨b,0,none⟩) ([]::s1) (m::ms1)/\Eh E (m::ms1)/\Below w.heap.size w w'/\VW E G B N w0 M r V s p ms w':=by
 refine(Gz p1 w).mono ?_;rintro e w' ⟨b,m,K,L,H,I,J,F⟩;have P:=h.below F;refine⟨b,m,K,H,I,J,⟨b,m,p1,ms1,rfl,rfl,aac h.base L,aac h.base H,I,J,D.below F⟩,C.cons (fun O=>?_) ?_,F,P⟩
 ·have:=bL.lt D m O
  omega
 ·have Q:=h.R.gl.lt
  have S:=h.R.fl.lt;have T:=h.R.kn.lt;have U:=h.R.vi.lt;exact⟨by omega,by omega,by omega,by omega⟩
theorem VW.end_(h:VW E G B N w0 (fun g=>g=E.vi\/ms.head? =some g) r V s p ms w):∃V',aX E G r V' w/\bL w E.base p s ms/\KX E (fun g=>g=E.vi\/ms.head? =some g) w0 w:=⟨V,h.R,h.S,h.K⟩
end
theorem Mm(w:World)(r:Nat)(l:lH)(h:bA jo w r (jS l))(x:ByteArray):
 (Instr.lookup 70 (.map (some r)) (.string x) false).run Tryz.prog w= .ok (.int .i64 ((bE l x).getD 0)) w:=by
 have:=vW (P:=Tryz.prog) (KK:=jo) (t:=70) (kt:=9) (et:=3) Tryz.underlying70 Tryz.underlying9 JO h x;unfold jS at this;rw[Gt]at this
 cases C:bE l x with
 | none=>rw[C]at this;exact this
 | some k=>rw[C]at this;exact this
theorem uX(w:World)(r:Nat)(l:List (Int×Int))(h:bA kX w r (vF l))(x:Int):
 (Instr.lookup 71 (.map (some r)) (.int .i64 x) false).run Tryz.prog w= .ok (.int .i64 ((bE l x).getD 0)) w:=by
 have:=vW (P:=Tryz.prog) (KK:=kX) (t:=71) (kt:=3) (et:=3) Tryz.underlying71 Tryz.underlying3 JO h x;unfold vF at this;rw[Gt]at this
 cases C:bE l x with
 | none=>rw[C]at this;exact this
 | some k=>rw[C]at this;exact this
theorem Tn(a b:Int):(a !=b)=decide (a≠b):=by by_cases h:a=b<;>simp[h]
theorem RB.kids{r q:RS}{s s':aS}{t:ae}{f n:Nat}(h:RB r s (ai t))(k:rX r q)(C:(ay s').length+r.next<=(ay s).length+q.next)(I:q.next<=r.next+1+aD (t.kids.take f)):RB q s' (aD ((t.kids.drop f).take n)):=by
 refine h.slow k C ?_;have D:=lN t;have F:=BQ t.kids f n;have H:=UD t;omega
section
variable {E:RC}{G:bC}{B:Nat}{k:Int}{x:ByteArray}{a e:Int}{kids:List ae}{i:Bool}{s:aS}{p:Option Addr}{ms:List Nat}{r:RS}{V:RV}{w:World}{A:Option Addr}{c nk nx:Nat}
theorem DR(h:aX E G r V w)(C:RB r s (ai (.node k x a e kids)))(F:kids.length=nk):∃nx:Nat,Hid (r.next=nx)/\nx<=1000000/\nk<=1000000/\w.cell? ⟨E.rp,7,none⟩=some (.int .i64 (nx:Int))/\E.rp<w.heap.size/\IntKind.i64.wrap ((nx:Int)+1)=(nx:Int)+1/\w.frozen? ⟨E.rp,7,none⟩=false:=by
 have D:=C.room;have H:=C.most;have I:=jO kids;rw[ai]at D;exact⟨r.next,kH rfl,by omega,by omega,h.blk.cell 7,h.blk.lt,IntWalk.i64_in _ (by omega),h.blk.frozen 7⟩
theorem DN{W3:World}(H:Hid (aX E G r V w))(O:Hid (bL w E.base p s ms))(D:(((w.setCell ⟨E.rp,7,none⟩ (.int .i64 ((nx:Int)+1))).alloc (.cells #[.pointer (some ⟨E.rp,0,none⟩)] 68)).alloc (.cells #[.int .i64 k,.string x,.int .i64 a,.int .i64 e,.slice A nk c] 24))=W3):
 Hid (aX E G { r with next:=nx+1 } V W3)/\Hid (KX E (fun _=>False) w W3)/\Hid (bL W3 E.base p s ms)/\Hid (aj W3 (w.heap.size+1) 24 #[.int .i64 k,.string x,.int .i64 a,.int .i64 e,.slice A nk c])/\Hid (aj W3 w.heap.size 68 #[.pointer (some ⟨E.rp,0,none⟩)]) /\
  W3.cell? ⟨E.rp,5,none⟩=some (.map (some E.vi))/\W3.cell? ⟨w.heap.size,0,none⟩=some (.pointer (some ⟨E.rp,0,none⟩))/\E.rp<W3.heap.size/\w.heap.size<W3.heap.size:=by
 obtain⟨K,J⟩:=H.out.UY (nx+1) (fun _=>False)
 have I:Below w.heap.size (w.setCell ⟨E.rp,7,none⟩ (.int .i64 ((nx:Int)+1))) W3:=by
  rw[<- D];have P:=ag (w.setCell ⟨E.rp,7,none⟩ (.int .i64 ((nx:Int)+1))) (.cells #[.pointer (some ⟨E.rp,0,none⟩)] 68);have Q:=ag ((w.setCell ⟨E.rp,7,none⟩ (.int .i64 ((nx:Int)+1))).alloc (.cells #[.pointer (some ⟨E.rp,0,none⟩)] 68)) (.cells #[.int .i64 k,.string x,.int .i64 a,.int .i64 e,.slice A nk c] 24);have R:=P.trans (Q.mono (by simp));simpa using R
 have T:aj W3 (w.heap.size+1) 24 #[.int .i64 k,.string x,.int .i64 a,.int .i64 e,.slice A nk c]:=by
  have:=aj.new ((w.setCell ⟨E.rp,7,none⟩ (.int .i64 ((nx:Int)+1))).alloc (.cells #[.pointer (some ⟨E.rp,0,none⟩)] 68)) 24 #[.int .i64 k,.string x,.int .i64 a,.int .i64 e,.slice A nk c];rw[D]at this;simpa using this
 have F:aj W3 w.heap.size 68 #[.pointer (some ⟨E.rp,0,none⟩)]:=by
  have:=(aj.new (w.setCell ⟨E.rp,7,none⟩ (.int .i64 ((nx:Int)+1))) 68 #[.pointer (some ⟨E.rp,0,none⟩)]).alloc (.cells #[.int .i64 k,.string x,.int .i64 a,.int .i64 e,.slice A nk c] 24);rw[D]at this;simpa using this
 have C:aX E G { r with next:=nx+1 } V W3:=K.below (by simpa using I);have L:KX E (fun _=>False) w W3:=J.trans (KX.of_below (M:=fun _=>False) (by simpa using I)) (fun g S=>.inl S);exact⟨kH C,kH L,kH (bL.kx L H.out.oO O.out (fun _ _ h=>h)),kH T,kH F,C.blk.cell 5,F.cell 0,C.blk.lt,F.lt⟩
variable {W3:World}
theorem DL(C:Hid (aX E G { r with next:=nx+1 } V W3)) (F:Hid (aj W3 w.heap.size 68 #[.pointer (some ⟨E.rp,0,none⟩)])) (P:Hid (bL W3 E.base p s ms)) (K:Hid (RB r s (ai (.node k x a e kids)))) (I:Hid (r.next=nx)) (S:nx<=1000000):
 Hid (Calls Tryz.prog 145 #[.pointer p] W3.drew fun e w'=> ∃v,e= .returned v/\aK w' W3.drew.heap.size 3 1 v (ay s).length (iB (ak (ay s)))/\Below W3.drew.heap.size W3.drew w') /\
  Hid (∀w':World,aF (fun g=>g=E.vi) W3 w'->w'.cell? ⟨E.rp,5,none⟩=some (.map (some E.vi))/\w'.cell? ⟨w.heap.size,0,none⟩=some (.pointer (some ⟨E.rp,0,none⟩)))/\aF (fun g=>g=E.vi) W3 W3.drew:=by
 refine⟨kH (VG E.base s p ms W3.drew (bL.below ((Below.refl _ W3).drew) P.out) (by have:=K.out.Yv;have:=I.out;omega)),kH fun w' D=>?_,(aF.refl _ W3).drew⟩
 have H:∀{g:Nat}{t:TypeId}{J:Array Value},aj W3 g t J->g≠E.vi:=fun L e=>by
  obtain⟨R,Q,O⟩:=C.out.vi.isMap;subst e;have:W3.heap[_]? =some (Obj.cells _ _ (0,0)):=L;rw[O]at this;cases this
 exact⟨(C.out.blk.since D (H C.out.blk)).cell 5,(F.out.since D (H F.out)).cell 0⟩
theorem DK{D:World}(K:Hid (aX E G { r with next:=nx+1 } V W3)) (F:Below W3.drew.heap.size W3.drew D) (L:aF (fun g=>g=E.vi) W3 W3.drew) (O:Value):
 aF (fun g=>g=E.vi) W3 D/\∃C,(Instr.mapUpdate 72 (.map (some E.vi)) (Value.int .i64 (nx:Int)) O).run Tryz.prog D= .ok () C/\Hid (bA kX C E.vi (p8 V.vals (nx:Int) O)/\aF (fun g=>g=E.vi) D C)/\aF (fun g=>g=E.vi) W3 C:=by
 have I:=L.below F;obtain⟨C,H,R,Q,T⟩:=fI (P:=Tryz.prog) (KK:=kX) (t:=72) (kt:=3) (et:=28) Tryz.underlying72 Tryz.underlying3 ((bA.drew K.out.vi).JC F) (nx:Int) O;have J:aF (fun g=>g=E.vi) D C:=(aF.refl (fun g=>g=E.vi) D).grown Q (fun k S=>by cases S;exact .inl rfl);exact⟨I,C,H,kH ⟨R,J⟩,I.trans J⟩
theorem DJ{J D:World}{I:Value}(F:Hid (aX E G { r with next:=nx+1 } V W3)) (S:Hid (KX E (fun _=>False) w W3)) (R:Hid (RB r s (ai (.node k x a e kids)))) (K:Hid (r.next=nx)) (Q:Hid (E.base<=w.heap.size)) (H:Below W3.drew.heap.size W3.drew J) (W:aK J W3.drew.heap.size 3 1 I (ay s).length (iB (ak (ay s))))
 (L:Hid (bA kX D E.vi (p8 V.vals (nx:Int) I)/\aF (fun g=>g=E.vi) J D)):∃P,Hid (aX E G (aG r true (ak (ay s))) P D)/\Hid (KX E (fun g=>g=E.vi) W3 D):=by
 have C:(ak (ay s)).length=(ay s).length:=List.length_mergeSort _
 have O:=F.out.U3 (aac Q.out S.out.size) (((Below.refl _ W3).drew).trans H) (nx:Int) (ak (ay s)) I (by rw[C];exact W) (fun T=>by
  obtain⟨y,U,X⟩:=List.mem_map.1 T;have:=R.out.aR y U;have:=K.out
  omega) (fun g=>g=E.vi) rfl L.out.1 L.out.2
 exact⟨_,by have:=O.1;rw[<- K.out]at this;exact kH this,kH O.2⟩
theorem DI{wc:World}{K:RV}(L:B<=E.base)(D:Eh E ms)(R:Hid (aX E G (aG r i (ak (ay s))) K wc))(F:Hid (KX E (fun g=>g=E.vi) W3 wc))(C:Hid (aX E G { r with next:=nx+1 } V W3)) (Q:Hid (KX E (fun _=>False) w W3)) (Z:Hid (bL W3 E.base p s ms))
 (z:Hid (aj W3 (w.heap.size+1) 24 #[.int .i64 k,.string x,.int .i64 a,.int .i64 e,.slice A nk c])) (Y:Hid (aj W3 w.heap.size 68 #[.pointer (some ⟨E.rp,0,none⟩)])) (O:Hid (aJ w B A 0 kids)) (J:Hid (RB r s (ai (.node k x a e kids)))) (P:Hid (r.next=nx)) (I:Hid (E.base<=w.heap.size)) (v:nx<=1000000):
 Hid (VW E G B ⟨kids,k,x,a,e,A,nk,c,w.heap.size+1,w.heap.size⟩ w (fun g=>g=E.vi\/ms.head? =some g) (aG r i (ak (ay s))) K s p ms wc)/\Hid ((aG r i (ak (ay s))).ds.length<=1000000)/\Hid ((aG r i (ak (ay s))).aY.length<=1000000)/\Hid (nx<(aG r i (ak (ay s))).uses.length) /\
  Hid (∀u:RS,u.next=r.next+1->u.next<=r.next+1+aD ((ae.node k x a e kids).kids.take 0)):=by
 have H:KX E (fun g=>g=E.vi) w wc:=(Q.out.mono (fun _ T=>T.elim)).trans F.out (fun g U=>.inl U);have S:=J.out.room;have y:=P.out;rw[ai]at S;refine⟨kH ⟨R.out,bL.kx F.out C.out.oO Z.out (fun m W e=>(D.apart m W).2.2.2 e),C.out.yH F.out z.out,C.out.Gm F.out Y.out,H.mono (fun _ h=>.inl h),aJ.below ((KX.low H I.out).mono L) (aab _) _ _ _ O.out,aac I.out (KX.low H I.out).size,L⟩,kH ?_,kH ?_,kH ?_,kH fun u X=>by rw[X];exact Nat.le_add_right _ _⟩
 ·show r.ds.length<=_
  have:=J.out.ds;omega
 ·show r.aY.length<=_
  have:=J.out.aY;omega
 ·show nx<r.uses.length
  omega
theorem DF{wc:World}{F:RV}{q:RS}(H:Hid (aX E G q F wc))(x:ByteArray):∃(D:Int) (C:Bool),Hid ((bE G.globals x).getD 0=D)/\Hid ((bE G.globals x).isSome=C)/\∀q,(Instr.lookup 70 (.map (some E.g)) (.string x) true).run Tryz.prog (wc.drewN q)= .ok (.tuple #[.int .i64 D,.bool C]) (wc.drewN q):=
 ⟨_,_,kH rfl,kH rfl,fun q=>qa (wc.drewN q) E.g G.globals (bA.drewN H.out.gl q) x⟩
end
end Go.Proofs.YtoepemlnlpamlaaGreat
