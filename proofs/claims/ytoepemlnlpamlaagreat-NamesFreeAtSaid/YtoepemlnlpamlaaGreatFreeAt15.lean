/- The law NamesFreeAt holds: for every text and every number the law returns true, and its arguments read as before. No condition. Part 15: Parse Stat. -/
import Derived.Test.YtoepemlnlpamlaaGreatFreeAt14
namespace Go.Proofs.YtoepemlnlpamlaaGreat
set_option maxRecDepth 100000
set_option maxHeartbeats 4000000
open Go.RowKit
section
variable {s:Bytes} {l:List Tok}
theorem record_props (he:Ends l) {f:Nat} {p:PS} {x:Tree} {q:PS} (h:recordM s l f p=some (x,q)) (hp:p.k < l.length) (h5:kindM l p≠5):Le l p q∧p.k < q.k:=by
 obtain⟨f0,x0,q0,h0,h1,h2⟩:=recordM_ex (s:=s) he hp h5;have e1:=lift_mono (F:=fun f=>recordM s l f p) (fun f y h=>recordM_mono f _ y h) (Nat.le_max_left f f0) h;have e2:=lift_mono (F:=fun f=>recordM s l f p) (fun f y h=>recordM_mono f _ y h) (Nat.le_max_right f f0) h0;rw[e1]at e2
 cases e2
 exact⟨h1,h2⟩
theorem proc_props (he:Ends l) (hend:EndsEmpty s l) {f:Nat} {p:PS} {x:Tree} {q:PS} (h:procM s l f p=some (x,q)) (hp:p.k < l.length) (h5:kindM l p≠5):Le l p q∧p.k < q.k:=by
 obtain⟨f0,x0,q0,h0,h1,h2⟩:=procM_ex (s:=s) he hend hp h5;have e1:=lift_mono (F:=fun f=>procM s l f p) (fun f y h=>procM_mono f _ y h) (Nat.le_max_left f f0) h;have e2:=lift_mono (F:=fun f=>procM s l f p) (fun f y h=>procM_mono f _ y h) (Nat.le_max_right f f0) h0;rw[e1]at e2
 cases e2
 exact⟨h1,h2⟩
theorem noDecl_props (he:Ends l) {f:Nat} {p:PS} {q:PS} (h:noDecl s l f p=some q) (hp:p.k < l.length):Le l p q∧((decide (kindM l p≠5) && !isM s l p [114,101,99,111,114,100] && !isM s l p [112,114,111,99])=true→p.k < q.k):=by
 obtain⟨f0,q0,h0,h1,h2⟩:=noDecl_ex (s:=s) he (l.length) p hp (by omega);have e1:=lift_mono (F:=fun f=>noDecl s l f p) (fun f y h=>noDecl_mono f _ y h) (Nat.le_max_left f f0) h;have e2:=lift_mono (F:=fun f=>noDecl s l f p) (fun f y h=>noDecl_mono f _ y h) (Nat.le_max_right f f0) h0;rw[e1]at e2
 cases e2
 exact⟨h1,h2⟩
end
def TreeDgs (w0:World) (t:Tree) (ds:List Dg) (e:Ending) (w':World):Prop :=
 ∃ k x a z A n c DA dn dc,e = .returned (.tuple #[.agg #[.int .i64 k,.string x,.int .i64 a,.int .i64 z,.slice A n c],.slice DA dn dc,.int .i64 0])∧TreeOwn w' (fun g=>w0.heap.size≤g) t [.int .i64 k,.string x,.int .i64 a,.int .i64 z,.slice A n c]∧dn=ds.length∧OwnS w' w0.heap.size 78 5 (.slice DA dn dc) dn (ds.flatMap dgCells)∧Below w0.heap.size w0 w'
theorem leaf_to (E:PE) (hE:E.Ok) (v:PV) (w:World) (hpw:PW w E v) {p:PS} (hst:v.st=p) (first:Nat) (kind:Int) (t:Bytes) :
 Calls Tryz.prog 71 #[.pointer (some ⟨E.gp,0,none⟩),.int .i64 (first:Int),.int .i64 kind,.string (mkS t),.slice none 0 0] w (TreeRes E w v (nodeM E.l p first kind t [],p)):=by
 subst hst;refine(leaf_any E hE v w hpw first kind t w.heap.size).mono ?_;rintro e w' ⟨rfl,hb,hT⟩;exact⟨_,_,_,_,_,_,_,rfl,hT,v,rfl,hpw.below hb,PM.of_below hb⟩
theorem lexical_len (s:Bytes):(lexicalM s).length≤s.length+1:=Nat.le_trans (List.length_filterMap_le _ _) (scanAll_len s)
theorem parse_any (s:ByteArray) (w0:World) (hs:s.size≤4096):Calls Tryz.prog 37 #[.string s] w0 fun e w' => ∃ f t ds,parseM f s.data.toList=some (t,ds)∧TreeDgs w0 t ds e w':=by
 obtain⟨i0,hi0,hz0,hz1,hz2⟩:=info_parts node_info
 have hgt:¬ (4096:Int) < s.size:=by omega
 go_enter Tryz.func37,Tryz.ntmps37
 go_wp2_with fail
 generalize hW1:w0.alloc (.cells #[.int .i64 0,.string ⟨#[]⟩,.int .i64 0,.int .i64 0,.slice none 0 0] 24)=W1
 have hb1:Below w0.heap.size w0 W1:=by rw[← hW1];exact below_alloc _ _
 have hRR:Blk W1 w0.heap.size 24 #[.int .i64 0,.string ⟨#[]⟩,.int .i64 0,.int .i64 0,.slice none 0 0]:=by rw[← hW1];exact Blk.new w0 _ _
 refine(start_any s W1 hs).mono ?_;rintro e w ⟨E,v,rfl,hE,hbs,hl,hlo,hst,hpw,hbw⟩;have hR0:=hRR.below hbw hRR.lt;have hgw:w0.heap.size+1≤w.heap.size:=hR0.lt;have HBW:=kH (hb1.trans (hbw.mono hb1.size));obtain⟨f,kids,q,hP⟩:=progL_ex hE.ends hE.empty (E.l.length) v.st [] (by rw[hE.len];exact hpw.at_) (by omega);have HP:=kH hP;have HBS:=kH hbs;have HL:=kH hl;have HLO:=kH hlo;have HST:=kH hst;have HGW:=kH hgw
 have hzW:W1.heap.size=w0.heap.size+1:=by rw[← hW1];simp
 have HZW:=kH hzW;clear hW1 hb1 hRR hbw hP hbs hl hlo hst hgw hzW;have hgl:=hpw.blk.lt
 go_wp2_with fail
 generalize hWk:w.alloc (.cells #[] 24)=w2
 have hb2:Below w.heap.size w w2:=by rw[← hWk];exact below_alloc _ _
 have hK2:KidsOwn w2 w.heap.size (.slice (some ⟨w.heap.size,0,none⟩) 0 0) 0 []:=by
  refine⟨[],?_,rfl,rfl⟩;have hn:=Blk.new w 24 #[];rw[hWk]at hn;exact OwnS.block (n:=0) (cur:=#[]) (Nat.le_refl _) hn (by simp[maxLen]) rfl
 have h2:=hpw.below hb2;have P2:=PM.of_below (E:=E) (v:=v) hb2;have hR2:=hR0.below hb2 (by have:=HGW.out;omega);have HK2:=kH hK2;clear hWk hb2 hK2 hR0
 go_loopg [6] f (fun gk s6 wr => ∃ A n c vx ts,s6 = .slice A n c∧KidsOwn wr w.heap.size (.slice A n c) n ts∧progL E.bs E.l gk vx.st ts=some (kids,q)∧n≤vx.st.k∧PW wr E vx∧PM E w v wr vx∧Blk wr w0.heap.size 24 #[.int .i64 0,.string ⟨#[]⟩,.int .i64 0,.int .i64 0,.slice none 0 0])
 case atStart=>exact⟨_,0,_,v,[],rfl,HK2.out,HP.out,Nat.zero_le _,h2,P2,hR2⟩
 case round =>
  obtain⟨A7,n7,c7,v7,ts7,rfl,hK7,hx7,hn7,h7,P7,hR7⟩:=hrel
  cases gk with
  | zero=>simp[progL]at hx7
  | succ gk =>
   rw[progL]at hx7;have HX7:=kH hx7;have HK7:=kH hK7;have hat7:=h7.at_;have hmost:=hE.most
   have hn7b:n7≤5001:=by omega
   obtain⟨k,hk⟩:∃ x,kindM E.l v7.st=x:=⟨_,rfl⟩
   have HK:=kH hk
   obtain⟨b1,hb1⟩:∃ x,isM E.bs E.l v7.st [114,101,99,111,114,100] = x:=⟨_,rfl⟩
   have HB1:=kH hb1
   obtain⟨b2,hb2⟩:∃ x,isM E.bs E.l v7.st [112,114,111,99] = x:=⟨_,rfl⟩
   have HB2:=kH hb2;have HN7:=kH hn7;clear hx7 hK7 hk hb1 hb2 hn7
   go_wp2_with fail
   have HV7:Hid (v7.st=v7.st):=kH rfl;refine(kind_to E hE v7 _ h7 HV7.out HK.out).mono ?_;rintro e w8 ⟨rfl,v8,hv8,h8,hm8⟩;have HV8:=kH hv8;have hR8:=hm8.blk h7 hR7;have P8:=P7.trans hm8;have HK8:=kH (HK7.out.keeps (hm8.keepsN h7));clear hv8 hm8
   by_cases hk5:k=5
   ·subst hk5
    have hkk:ts7=kids∧v7.st=q:=by
     have:=HX7.out;rw[if_pos HK.out]at this
     simpa using this
    obtain⟨rfl,hq7⟩:=hkk;have HQ7:=kH hq7;clear hq7
    go_wp2_with fail
    have hc4:w8.cell? ⟨E.gp,4,none⟩=some v8.lv:=h8.blk.cell 4;obtain⟨A4,c4,hv4,hn4,-⟩:=h8.own.shape;rw[hv4]at hc4;have hlen:=h8.good.len (m:=4096) (by have:=hE.get v8.st.k;have:=hE.size;omega);have hgl8:=h8.blk.lt
    obtain⟨nd,hnd⟩:∃ x,v8.st.ds.length=x:=⟨_,rfl⟩
    rw[hnd]at hc4 hn4 hlen;have hrow:=h8.own.rowAt (cells:=dgCells) (l:=v8.st.ds) hv4 rfl (by intro c _;rfl) rfl;have HROW:=kH hrow;have HND:=kH hnd;have hll:=lexical_len s.data.toList;rw[len_size]at hll;have HLL:=kH hll;clear hrow hnd hll hv4;refine wp_region_HP (fun w'=>w'.cell? ⟨E.gp,4,none⟩=some (.slice A4 nd c4)) [] [(0,true),(1,true),(2,true),(3,true),(4,true),(6,true),(7,true),(8,true),(9,true),(5,false),(10,false),(11,false),(12,false),(13,false)] (by kernel_rfl) (by kernel_rfl) rfl (by kernel_rfl) ?_;have hS0:w8.drew.cell? ⟨E.gp,4,none⟩=some (.slice A4 nd c4):=hc4;refine wpHP_soft (by simp only[List.getElem?_toArray,List.getElem?_cons_zero];rfl) (by rfl) hS0 (by intro w' hSw;go_simp;rfl) ?_
    iterate 8(simp only[Act.put,sA,sZ,sC];refine wpHP_soft (by simp only[List.getElem?_toArray,List.getElem?_cons_succ,List.getElem?_cons_zero];rfl) (by rfl) hS0 (by intro w' hSw;go_simp;rfl) ?_)
    simp only[Act.put,sA,sZ,sC];refine wpHP_law (by simp only[List.getElem?_toArray,List.getElem?_cons_succ,List.getElem?_cons_zero];rfl) (by rfl) ?_
    go_simp
    refine(lexical_any s _ hs).mono ?_;rintro e w9 ⟨A9,n9,c9,rfl,hn9,hO9,hb9⟩;have hS9:w9.cell? ⟨E.gp,4,none⟩=some (.slice A4 nd c4):=(hb9.cell (p:=⟨E.gp,4,none⟩) hgl8).trans hc4;refine⟨hS9,?_⟩;have hb9':Below w8.heap.size w8 w9:=((Below.refl w8.heap.size w8).drew).trans hb9;have hra:=hO9.rowAt (cells:=dgCells) (l:=lexicalM s.data.toList) rfl rfl (by intro c _;rfl) hn9.symm;obtain⟨_,_,hv9,hn9c,-⟩:=hO9.shape
    cases hv9
    have hrb:=(HROW.out.below hb9' (Nat.le_refl _)).mono hb9'.size;have hmer:=merged_any (lexicalM s.data.toList) v8.st.ds A9 A4 c9 c4 w9 hra hrb (by have:=HLL.out;omega) (by have:=HND.out;omega) (by omega) (by have:=HND.out;omega);rw[HND.out]at hmer;refine wpHP_law (by simp only[List.getElem?_toArray,List.getElem?_cons_succ,List.getElem?_cons_zero];rfl) (by rfl) ?_
    go_simp
    refine hmer.mono ?_;rintro e w10 ⟨A10,n10,c10,rfl,hn10,hO10,hb10⟩;have hb10':Below w8.heap.size w8 w10:=hb9'.trans (hb10.mono hb9'.size);have hS10:w10.cell? ⟨E.gp,4,none⟩=some (.slice A4 nd c4):=(hb10'.cell (p:=⟨E.gp,4,none⟩) hgl8).trans hc4;refine⟨hS10,?_⟩;have hR10:=hR8.below hb10' hR8.lt;obtain⟨⟨r0,r1,r2,r3,r4⟩,g0,g1,g2,g3,g4⟩:=hR10.five
    have hne10:E.gp≠w0.heap.size:=by
     have h1:=hE.low;have h3:=HLO.out;have h4:=HZW.out;omega
    have hlr:=hR10.lt;refine wpHP_skip (w':=set5 w10 w0.heap.size (.int .i64 2) (.string ⟨#[]⟩) (.int .i64 0) (.int .i64 (s.size:Int)) (.slice A7 n7 c7)) (by simp only[List.getElem?_toArray,List.getElem?_cons_succ,List.getElem?_cons_zero];rfl) (by rfl) (by unfold set5;go_simp) (fun _=>by unfold set5;go_simp) ?_;simp only[Act.put]
    iterate 2(refine wpHP_run (w':=set5 w10 w0.heap.size (.int .i64 2) (.string ⟨#[]⟩) (.int .i64 0) (.int .i64 (s.size:Int)) (.slice A7 n7 c7)) (by simp only[List.getElem?_toArray,List.getElem?_cons_succ,List.getElem?_cons_zero];rfl) (by rfl) (by go_simp;rfl) (fun _=>by unfold set5;go_simp) ?_;simp only[Act.put,sA,sZ,sC])
    refine wpHP_nil ?_
    have hsW:Since (fun g=>g=w0.heap.size) w10 (set5 w10 w0.heap.size (.int .i64 2) (.string ⟨#[]⟩) (.int .i64 0) (.int .i64 (s.size:Int)) (.slice A7 n7 c7)):=by
     unfold set5;exact(((((Since.refl (fun g=>g=w0.heap.size) w10).setCell (.inl rfl) _).setCell (.inl rfl) _).setCell (.inl rfl) _).setCell (.inl rfl) _).setCell (.inl rfl) _
    have hkW:=(HK8.out.keeps (KeepsN.of_below hb10')).keeps (w':=set5 w10 w0.heap.size (.int .i64 2) (.string ⟨#[]⟩) (.int .i64 0) (.int .i64 (s.size:Int)) (.slice A7 n7 c7)) (fun g cs hg hc=>hsW.block g (Array.getElem?_eq_some_iff.1 hc).1 (by have:=HGW.out;omega));have hTW:=TreeOwn.weak (Q:=fun g=>w0.heap.size≤g) (fun g _ hg=>by have:=HGW.out;omega) _ _ (hkW.node 2 (mkS []) 0 (s.size:Int));have hlt8:=hR8.lt;have hn10':=hn10
    have hz9:w0.heap.size≤w9.heap.size:=by have:=hb9'.size;omega
    have hOW:=(hO10.since hsW (fun g hg e1=>by have:=(hO10.lt g hg).1;have:=hb9'.size;omega)).mono hz9;have hbW:=hsW.toBelow (B:=w0.heap.size) (Nat.le_of_lt hlr) (fun g hg=>by omega);have hlow:=hE.low;have hBW:=((HBW.out.trans (P8.below hpw (B:=w0.heap.size) (by have:=HLO.out;have:=HZW.out;omega) hlow)).trans (hb10'.mono (by omega))).trans hbW
    have hds:mergeM (lexicalM s.data.toList) v8.st.ds=mergeM (lexicalM s.data.toList) q.ds:=by rw[HV8.out,HQ7.out]
    rw[hds]at hOW hn10
    have hpar:parseM f s.data.toList=some (.node 2 (mkS []) 0 (s.size:Int) ts7,mergeM (lexicalM s.data.toList) q.ds):=by
     unfold parseM;have:=HP.out;rw[HBS.out,HL.out,HST.out]at this;rw[this,len_size]
    have HFIN:Hid (∃ f t ds,parseM f s.data.toList=some (t,ds)∧TreeDgs w0 t ds (.returned (.tuple #[.agg #[.int .i64 2,.string (mkS []),.int .i64 0,.int .i64 (s.size:Int),.slice A7 n7 c7],.slice A10 n10 c10,.int .i64 0])) (set5 w10 w0.heap.size (.int .i64 2) (.string ⟨#[]⟩) (.int .i64 0) (.int .i64 (s.size:Int)) (.slice A7 n7 c7))):=kH ⟨f,_,_,hpar,_,_,_,_,_,_,_,_,_,_,rfl,hTW,hn10,hOW,hBW⟩
    have hHR:Blk (set5 w10 w0.heap.size (.int .i64 2) (.string ⟨#[]⟩) (.int .i64 0) (.int .i64 (s.size:Int)) (.slice A7 n7 c7)) w0.heap.size 24 #[.int .i64 2,.string ⟨#[]⟩,.int .i64 0,.int .i64 (s.size:Int),.slice A7 n7 c7]:=by
     have:=((((hR10.set_ 0 (.int .i64 2)).set_ 1 (.string ⟨#[]⟩)).set_ 2 (.int .i64 0)).set_ 3 (.int .i64 (s.size:Int))).set_ 4 (.slice A7 n7 c7);unfold set5
     simpa using this
    clear hsW hkW hTW hOW hbW hBW hds hpar hb10' hb10 hb9 hb9' hO10 hO9 r0 r1 r2 r3 r4 g0 g1 g2 g3 g4 hS10 hS9 hS0 hc4
    generalize set5 w10 w0.heap.size (.int .i64 2) (.string ⟨#[]⟩) (.int .i64 0) (.int .i64 (s.size:Int)) (.slice A7 n7 c7)=WZ at HFIN hHR ⊢
    obtain⟨⟨r0,r1,r2,r3,r4⟩,-⟩:=hHR.five;rw[← hn10']
    go_wp2_with fail
    refine bodyPost_ret (v:=.tuple #[.agg #[.int .i64 2,.string ⟨#[]⟩,.int .i64 0,.int .i64 (s.size:Int),.slice A7 n7 c7],.slice A10 n10 c10,.int .i64 0]) (by simp[results,Tryz.results37,go_sem,r0,r1,r2,r3,r4]) rfl ?_;exact HFIN.out
   ·have hki:((k:Int) != 5)=true:=by simp;omega
    have HK5:Hid (kindM E.l v7.st≠5):=kH (by rw[HK.out];exact hk5);have hX2:=HX7.out;rw[if_neg HK5.out]at hX2;have HX8:=kH hX2;clear hX2 HX7 hk5
    go_wp2_with fail
    refine(is_to E hE v8 _ h8 HV8.out [114,101,99,111,114,100] HB1.out).mono ?_;rintro e w9 ⟨rfl,v9,hv9,h9,hm9⟩;have HV9:=kH hv9;have hR9:=hm9.blk h8 hR8;have P9:=P8.trans hm9;have HK9:=kH (HK8.out.keeps (hm9.keepsN h8));clear hv9 hm9
    cases b1
    case true =>
     obtain⟨x10,q10,hx,hnx⟩:∃ x q1,recordM E.bs E.l gk v7.st=some (x,q1)∧progL E.bs E.l gk q1 (ts7 ++ [x])=some (kids,q):=by
      have:=HX8.out;rw[if_pos HB1.out]at this;split at this
      ·cases this
      ·rename_i x p h;exact⟨x,p,h,this⟩
     have hpr:=record_props hE.ends hx (by rw[hE.len];exact hat7) HK5.out;have HNX:=kH hnx;have HPR:=kH hpr;have hcall:=record_any E hE v9 w9 h9 gk (x10,q10) (by rw[HV9.out];exact hx) (by rw[HV9.out];exact HK5.out);have HC:=kH hcall;clear hx hnx hpr hcall
     go_wp2_with fail
     refine HC.out.mono ?_;rintro e w10 ⟨k10,t10,a10,z10,A10,n10,c10,rfl,hT10,v10,hv10,h10,hm10⟩;have HV10:=kH hv10;have hR10:=hm10.blk h9 hR9;have P10:=P9.trans hm10;clear hv10;obtain⟨vals11,hO11,hTs11,hn11⟩:=HK9.out.keeps (hm10.keepsN h9);have hTn11:TreeOwn w10 (fun g=>w.heap.size≤g∧some g≠(Value.slice A7 n7 c7).ownBlock) _ _:=TreeOwn.weak (fun g _ hg=>⟨Nat.le_trans P9.since.size hg,fun e1=>by obtain⟨_,hO4,_,_⟩:=HK9.out;have:=(hO4.lt g e1.symm).2;omega⟩) _ _ hT10;have hrz11:=P10.since.size;have HO11:=kH hO11;have HTs11:=kH hTs11;have HTn11:=kH hTn11;have Hn11:=kH hn11;clear hO11 hTs11 hTn11 hn11 hT10
     go_wp2_with (at_builtin;go_must (refine wpList_append_S _ rfl (.tmp 48) (.tmp 51) _ rfl (w.heap.size) 24 i0 _ 5 64 Tryz.underlying22 hi0 hz0 hz1 hz2 rfl (.slice A7 n7 c7) n7 (List.flatten vals11) rfl (HO11.out.alloc _) ⟨w10.heap.size,0,none⟩ 1 1 [.int .i64 k10,.string t10,.int .i64 a10,.int .i64 z10,.slice A10 n10 c10] rfl rfl (news_five _ _ _ _ _ _ _ (by go_simp) (by go_simp) (by go_simp) (by go_simp) (by go_simp)) (by simp[Value.oneCell']) (by simp only[maxLen];omega) (by omega) (by simp;omega) ?_);intro vn w11 hown hgrow hat;obtain⟨A11,c11,hvn,-,-⟩:=hown.shape;subst hvn;have HOWN11:=kH hown;have HGROW11:=kH hgrow;have HAT11:=kH hat;clear hown hgrow hat)
     have HK11:=kH (KidsOwn.pushed HTs11.out Hn11.out HTn11.out HOWN11.out HGROW11.out HAT11.out);obtain⟨h11,P11,hkeep11⟩:=append_keeps h10 P10 HO11.out (Nat.le_refl _) HGROW11.out;have hR11:=hkeep11 _ _ hR10 (fun e1=>by have:=(HO11.out.lt _ e1).1;have:=HGW.out;omega);clear hkeep11
     go_roundg gk
     case measure=>omega
     case rel=>exact⟨A11,n7+1,c11,v10,ts7 ++ [x10],rfl,HK11.out,by rw[HV10.out];exact HNX.out,by rw[HV10.out];have:=HPR.out.2;have:=HN7.out;show n7+1≤q10.k;omega,h11,P11,hR11⟩
    go_wp2_with fail
    refine(is_to E hE v9 _ h9 HV9.out [112,114,111,99] HB2.out).mono ?_;rintro e w10 ⟨rfl,v10,hv10,h10,hm10⟩;have HV10:=kH hv10;have hR10:=hm10.blk h9 hR9;have P10:=P9.trans hm10;have HK10:=kH (HK9.out.keeps (hm10.keepsN h9));clear hv10 hm10
    cases b2
    case true =>
     obtain⟨x11,q11,hx,hnx⟩:∃ x q1,procM E.bs E.l gk v7.st=some (x,q1)∧progL E.bs E.l gk q1 (ts7 ++ [x])=some (kids,q):=by
      have:=HX8.out;rw[if_neg (by rw[HB1.out];simp),if_pos HB2.out]at this;split at this
      ·cases this
      ·rename_i x p h;exact⟨x,p,h,this⟩
     have hpr:=proc_props hE.ends hE.empty hx (by rw[hE.len];exact hat7) HK5.out;have HNX:=kH hnx;have HPR:=kH hpr;have hcall:=procedure_any E hE gk (answ E hE gk) v10 w10 (x11,q11) h10 (by rw[HV10.out];exact HK5.out) (by rw[HV10.out];exact hx);have HC:=kH hcall;clear hx hnx hpr hcall
     go_wp2_with fail
     refine HC.out.mono ?_;rintro e w11 ⟨k11,t11,a11,z11,A11,n11,c11,rfl,hT11,v11,hv11,h11,hm11⟩;have HV11:=kH hv11;have hR11:=hm11.blk h10 hR10;have P11:=P10.trans hm11;clear hv11;obtain⟨vals12,hO12,hTs12,hn12⟩:=HK10.out.keeps (hm11.keepsN h10);have hTn12:TreeOwn w11 (fun g=>w.heap.size≤g∧some g≠(Value.slice A7 n7 c7).ownBlock) _ _:=TreeOwn.weak (fun g _ hg=>⟨Nat.le_trans P10.since.size hg,fun e1=>by obtain⟨_,hO4,_,_⟩:=HK10.out;have:=(hO4.lt g e1.symm).2;omega⟩) _ _ hT11;have hrz12:=P11.since.size;have HO12:=kH hO12;have HTs12:=kH hTs12;have HTn12:=kH hTn12;have Hn12:=kH hn12;clear hO12 hTs12 hTn12 hn12 hT11
     go_wp2_with (at_builtin;go_must (refine wpList_append_S _ rfl (.tmp 56) (.tmp 59) _ rfl (w.heap.size) 24 i0 _ 5 64 Tryz.underlying22 hi0 hz0 hz1 hz2 rfl (.slice A7 n7 c7) n7 (List.flatten vals12) rfl (HO12.out.alloc _) ⟨w11.heap.size,0,none⟩ 1 1 [.int .i64 k11,.string t11,.int .i64 a11,.int .i64 z11,.slice A11 n11 c11] rfl rfl (news_five _ _ _ _ _ _ _ (by go_simp) (by go_simp) (by go_simp) (by go_simp) (by go_simp)) (by simp[Value.oneCell']) (by simp only[maxLen];omega) (by omega) (by simp;omega) ?_);intro vn w12 hown hgrow hat;obtain⟨A12,c12,hvn,-,-⟩:=hown.shape;subst hvn;have HOWN12:=kH hown;have HGROW12:=kH hgrow;have HAT12:=kH hat;clear hown hgrow hat)
     have HK12:=kH (KidsOwn.pushed HTs12.out Hn12.out HTn12.out HOWN12.out HGROW12.out HAT12.out);obtain⟨h12,P12,hkeep12⟩:=append_keeps h11 P11 HO12.out (Nat.le_refl _) HGROW12.out;have hR12:=hkeep12 _ _ hR11 (fun e1=>by have:=(HO12.out.lt _ e1).1;have:=HGW.out;omega);clear hkeep12
     go_roundg gk
     case measure=>omega
     case rel=>exact⟨A12,n7+1,c12,v11,ts7 ++ [x11],rfl,HK12.out,by rw[HV11.out];exact HNX.out,by rw[HV11.out];have:=HPR.out.2;have:=HN7.out;show n7+1≤q11.k;omega,h12,P12,hR12⟩
    obtain⟨q1,hx,hnx⟩:∃ q1,noDecl E.bs E.l gk (repM E.l v7.st 7 [])=some q1∧progL E.bs E.l gk q1 (ts7 ++ [nodeM E.l q1 v7.st.k 1 [] []])=some (kids,q):=by
     have:=HX8.out;rw[if_neg (by rw[HB1.out];simp),if_neg (by rw[HB2.out];simp)]at this;split at this
     ·cases this
     ·rename_i p h;exact⟨p,h,this⟩
    have hpr:=noDecl_props hE.ends hx (by rw[repM_k,hE.len];exact hat7)
    have hlt:v7.st.k < q1.k:=by
     have:=hpr.2 (by rw[kindM_rep,isM_rep,isM_rep,HB1.out,HB2.out];simp;exact HK5.out);rw[repM_k]at this;exact this
    have HX:=kH hx;have HNX:=kH hnx;have HLT:=kH hlt;have hk2:w10.cell? ⟨E.gp,2,none⟩=some (.int .i64 (v10.st.k:Int)):=h10.blk.cell 2;rw[HV10.out]at hk2;have hgl10:=h10.blk.lt;clear hx hnx hpr hlt HX8
    go_wp2_with fail
    refine(report_to E hE v10 _ h10 HV10.out 7 []).mono ?_;rintro e w11 ⟨⟨u11,rfl⟩,v11,hv11,h11,hm11⟩;have HV11:=kH hv11;have hR11:=hm11.blk h10 hR10;have P11:=P10.trans hm11;have HK11:=kH (HK10.out.keeps (hm11.keepsN h10));clear hv11 hm11 hk2 hgl10
    obtain⟨wo,rfl⟩:∃ wo:World,wo=wr:=⟨_,rfl⟩
    obtain⟨go,rfl⟩:∃ go:Nat,go=gk:=⟨_,rfl⟩
    go_wp2_with fail
    go_loopg [] go (fun g2 wr => ∃ vx,noDecl E.bs E.l g2 vx.st=some q1∧PW wr E vx∧PM E w v wr vx∧Blk wr w0.heap.size 24 #[.int .i64 0,.string ⟨#[]⟩,.int .i64 0,.int .i64 0,.slice none 0 0]∧KidsOwn wr w.heap.size (.slice A7 n7 c7) n7 ts7)
    case atStart=>exact⟨v11,by rw[HV11.out];exact HX.out,h11,P11,hR11,HK11.out⟩
    case round =>
     obtain⟨v12,hx12,h12,P12,hR12,hK12⟩:=hrel
     cases gk with
     | zero=>simp[noDecl]at hx12
     | succ gk =>
      rw[noDecl]at hx12;have HX12:=kH hx12;have HK12:=kH hK12
      obtain⟨k',hk'⟩:∃ x,kindM E.l v12.st=x:=⟨_,rfl⟩
      have HKK:=kH hk'
      obtain⟨b3,hb3⟩:∃ x,isM E.bs E.l v12.st [114,101,99,111,114,100] = x:=⟨_,rfl⟩
      have HB3:=kH hb3
      obtain⟨b4,hb4⟩:∃ x,isM E.bs E.l v12.st [112,114,111,99] = x:=⟨_,rfl⟩
      have HB4:=kH hb4
      have hkd:=fun w' (h:PW w' E v12)=>kind_any E hE v12 w' h
      have his:=fun x w' (h:PW w' E v12)=>is_any E hE v12 x w' h
      rw[hk']at hkd;have HKD:=kH hkd;have HIS:=kH his;have H12:=kH h12
      obtain⟨bg,hbg⟩:∃ x,(decide (k'≠5) && !b3 && !b4)=x:=⟨_,rfl⟩
      have hx13:=HX12.out;rw[hk',hb3,hb4,hbg]at hx13;have HX13:=kH hx13;have HBG:=kH hbg;clear hx12 hK12 hk' hb3 hb4 hkd his hbg hx13 HX12
      go_upto_region 8 with fail
      go_cut [36] (fun s36 wx=>s36 = .bool bg∧Below wr.heap.size wr wx)
      case first =>
       by_cases hk5:k'=5
       ·have e:bg=false:=by rw[← HBG.out];simp[hk5]
        subst e
        have hki:((k':Int) != 5)=false:=by simp;omega
        clear hk5
        go_wp2_with fail
        refine(HKD.out _ H12.out).mono ?_;rintro e w13 ⟨rfl,hb13⟩
        go_wp2_with fail
        go_meet
        exact⟨rfl,hb13⟩
       ·have e:bg=(!b3 && !b4):=by rw[← HBG.out];simp[hk5]
        subst e
        have hki:((k':Int) != 5)=true:=by simp;omega
        clear hk5
        go_wp2_with fail
        refine(HKD.out _ H12.out).mono ?_;rintro e w13 ⟨rfl,hb13⟩;have h13:=H12.out.below hb13
        go_wp2_with fail
        refine(HIS.out [114,101,99,111,114,100] _ h13).mono ?_;rintro e w14 ⟨rfl,hb14⟩;rw[HB3.out];have h14:=h13.below hb14;have hb14':=hb13.trans (hb14.mono hb13.size);clear hb14 hb13
        cases b3
        ·go_wp2_with fail
         refine(HIS.out [112,114,111,99] _ h14).mono ?_;rintro e w15 ⟨rfl,hb15⟩;rw[HB4.out]
         go_wp2_with fail
         go_meet
         exact⟨by simp,hb14'.trans (hb15.mono hb14'.size)⟩
        ·go_wp2_with fail
         go_meet
         exact⟨by simp,hb14'⟩
      case rest =>
       obtain⟨rfl,hbw⟩:=hcut;have h16:=H12.out.below hbw;have hR16:=hR12.below hbw hR12.lt;have P16:=P12.trans (PM.of_below hbw);have HK16:=kH (HK12.out.keeps (KeepsN.of_below hbw))
       cases bg
       ·have hq1:v12.st=q1:=by simpa using HX13.out
        have HQ1:=kH hq1;clear hbw hq1
        go_wp2_with fail
        refine(leaf_to E hE v12 _ h16 HQ1.out v7.st.k 1 []).mono ?_;rintro e w17 ⟨k17,t17,a17,z17,A17,n17,c17,rfl,hT17,v17,hv17,h17,hm17⟩;have HV17:=kH hv17;have hR17:=hm17.blk h16 hR16;have P17:=P16.trans hm17;clear hv17;obtain⟨vals18,hO18,hTs18,hn18⟩:=HK16.out.keeps (hm17.keepsN h16);have hTn18:TreeOwn w17 (fun g=>w.heap.size≤g∧some g≠(Value.slice A7 n7 c7).ownBlock) _ _:=TreeOwn.weak (fun g _ hg=>⟨Nat.le_trans P16.since.size hg,fun e1=>by obtain⟨_,hO4,_,_⟩:=HK16.out;have:=(hO4.lt g e1.symm).2;omega⟩) _ _ hT17;have hrz18:=P17.since.size;have HO18:=kH hO18;have HTs18:=kH hTs18;have HTn18:=kH hTn18;have Hn18:=kH hn18;clear hO18 hTs18 hTn18 hn18 hT17
        go_wp2_with (at_builtin;go_must (refine wpList_append_S _ rfl (.tmp 39) (.tmp 43) _ rfl (w.heap.size) 24 i0 _ 5 64 Tryz.underlying22 hi0 hz0 hz1 hz2 rfl (.slice A7 n7 c7) n7 (List.flatten vals18) rfl (HO18.out.alloc _) ⟨w17.heap.size,0,none⟩ 1 1 [.int .i64 k17,.string t17,.int .i64 a17,.int .i64 z17,.slice A17 n17 c17] rfl rfl (news_five _ _ _ _ _ _ _ (by go_simp) (by go_simp) (by go_simp) (by go_simp) (by go_simp)) (by simp[Value.oneCell']) (by simp only[maxLen];omega) (by omega) (by simp;omega) ?_);intro vn w18 hown hgrow hat;obtain⟨A18,c18,hvn,-,-⟩:=hown.shape;subst hvn;have HOWN18:=kH hown;have HGROW18:=kH hgrow;have HAT18:=kH hat;clear hown hgrow hat)
        have HK18:=kH (KidsOwn.pushed HTs18.out Hn18.out HTn18.out HOWN18.out HGROW18.out HAT18.out);obtain⟨h18,P18,hkeep18⟩:=append_keeps h17 P17 HO18.out (Nat.le_refl _) HGROW18.out;have hR18:=hkeep18 _ _ hR17 (fun e1=>by have:=(HO18.out.lt _ e1).1;have:=HGW.out;omega);clear hkeep18
        go_roundg go
        case measure=>omega
        case rel=>exact⟨A18,n7+1,c18,v17,ts7 ++ [nodeM E.l q1 v7.st.k 1 [] []],rfl,HK18.out,by rw[HV17.out];exact HNX.out,by rw[HV17.out];have:=HLT.out;have:=HN7.out;show n7+1≤q1.k;omega,h18,P18,hR18⟩
       ·have hk5:kindM E.l v12.st≠5:=by
         rw[HKK.out];have:=HBG.out;simp only[Bool.and_eq_true,decide_eq_true_eq]at this;exact this.1.1
        have hnx:noDecl E.bs E.l gk (readM E.l v12.st)=some q1:=by simpa using HX13.out
        have HN2:=kH hnx;have HK5':=kH hk5;clear hbw hnx hk5
        go_wp2_with fail
        have HV12:Hid (v12.st=v12.st):=kH rfl;refine(read_to E hE v12 _ h16 HV12.out HK5'.out).mono ?_;rintro e w17 ⟨rfl,v17,hv17,h17,hm17⟩;have HV17:=kH hv17;have hR17:=hm17.blk h16 hR16;have P17:=P16.trans hm17;have HK17:=kH (HK16.out.keeps (hm17.keepsN h16));clear hv17 hm17
        go_wp2_with fail
        go_roundg gk
        case measure=>omega
        case rel=>exact⟨v17,by rw[HV17.out];exact HN2.out,h17,P17,hR17,HK17.out⟩
end Go.Proofs.YtoepemlnlpamlaaGreat
namespace Go.Proofs.YtoepemlnlpamlaaGreat
set_option maxRecDepth 100000
set_option maxHeartbeats 4000000
open Go.RowKit
theorem end_any (E:PE) (hE:E.Ok) (v:PV) (w:World) (hpw:PW w E v) (h5:kindM E.l v.st=5):Calls Tryz.prog 75 #[.pointer (some ⟨E.gp,0,none⟩)] w fun e w' => ∃ DA dn dc,e = .returned (.slice DA dn dc)∧dn=(mergeM (lexicalM E.bs) v.st.ds).length∧OwnS w' w.heap.size 78 5 (.slice DA dn dc) dn ((mergeM (lexicalM E.bs) v.st.ds).flatMap dgCells)∧Below w.heap.size w w':=by
 have H5:=kH h5;clear h5
 go_enter Tryz.func75,Tryz.ntmps75
 go_wp2_with fail
 refine(kind_any E hE v _ hpw).mono ?_;rintro e w8 ⟨rfl,hb8⟩;rw[H5.out];have h8:=hpw.below hb8
 go_wp2_with fail
 have hc4:w8.cell? ⟨E.gp,4,none⟩=some v.lv:=h8.blk.cell 4;have hc0:w8.cell? ⟨E.gp,0,none⟩=some (.string E.s):=h8.blk.cell 0;obtain⟨A4,c4,hv4,hn4,-⟩:=h8.own.shape;rw[hv4]at hc4;have hlen:=h8.good.len (m:=4096) (by have:=hE.get v.st.k;have:=hE.size;omega);have hgl8:=h8.blk.lt
 obtain⟨nd,hnd⟩:∃ x,v.st.ds.length=x:=⟨_,rfl⟩
 rw[hnd]at hc4 hn4 hlen;have HROW:=kH (h8.own.rowAt (cells:=dgCells) (l:=v.st.ds) hv4 rfl (by intro c _;rfl) rfl);have HND:=kH hnd
 have hll:(lexicalM E.bs).length≤4097:=by
  have:=lexical_len E.bs
  have h1:E.bs.length=E.s.size:=by unfold PE.bs;exact len_size _
  have:=hE.size;omega
 have HLL:=kH hll;clear hnd hll hv4;refine wp_region_HP (fun w'=>w'.cell? ⟨E.gp,0,none⟩=some (.string E.s)∧w'.cell? ⟨E.gp,4,none⟩=some (.slice A4 nd c4)) [] [(0,true),(1,true),(2,true),(3,true),(5,true),(6,true),(7,true),(8,true),(4,false),(9,false),(10,false)] (by kernel_rfl) (by kernel_rfl) rfl (by kernel_rfl) ?_
 have hS0:w8.drew.cell? ⟨E.gp,0,none⟩=some (.string E.s)∧w8.drew.cell? ⟨E.gp,4,none⟩=some (.slice A4 nd c4):=⟨hc0,hc4⟩
 refine wpHP_soft (by simp only[List.getElem?_toArray,List.getElem?_cons_zero];rfl) (by rfl) hS0 (by intro w' hSw;obtain⟨hs1,hs2⟩:=hSw;go_simp;rfl) ?_
 iterate 7(simp only[Act.put,sA,sZ,sC];refine wpHP_soft (by simp only[List.getElem?_toArray,List.getElem?_cons_succ,List.getElem?_cons_zero];rfl) (by rfl) hS0 (by intro w' hSw;obtain⟨hs1,hs2⟩:=hSw;go_simp;rfl) ?_)
 simp only[Act.put,sA,sZ,sC];refine wpHP_law (by simp only[List.getElem?_toArray,List.getElem?_cons_succ,List.getElem?_cons_zero];rfl) (by rfl) ?_
 go_simp
 refine(lexical_any E.s _ hE.size).mono ?_;rintro e w9 ⟨A9,n9,c9,rfl,hn9,hO9,hb9⟩;have hb9':Below w8.heap.size w8 w9:=((Below.refl w8.heap.size w8).drew).trans hb9;refine⟨⟨(hb9'.cell (p:=⟨E.gp,0,none⟩) hgl8).trans hc0,(hb9'.cell (p:=⟨E.gp,4,none⟩) hgl8).trans hc4⟩,?_⟩;have hra:=hO9.rowAt (cells:=dgCells) (l:=lexicalM E.bs) rfl rfl (by intro c _;rfl) hn9.symm;obtain⟨_,_,hv9,hn9c,-⟩:=hO9.shape
 cases hv9
 have hn9':(lexicalM E.bs).length=n9:=hn9.symm;have hrb:=(HROW.out.below hb9' (Nat.le_refl _)).mono hb9'.size;have hmer:=merged_any (lexicalM E.bs) v.st.ds A9 A4 c9 c4 w9 hra hrb (by have:=HLL.out;omega) (by have:=HND.out;omega) (by omega) (by have:=HND.out;omega);rw[HND.out,hn9']at hmer;clear hn9 hn9';refine wpHP_law (by simp only[List.getElem?_toArray,List.getElem?_cons_succ,List.getElem?_cons_zero];rfl) (by rfl) ?_
 go_simp
 refine hmer.mono ?_;rintro e w10 ⟨A10,n10,c10,rfl,hn10,hO10,hb10⟩;have hb10':Below w8.heap.size w8 w10:=hb9'.trans (hb10.mono hb9'.size);refine⟨⟨(hb10'.cell (p:=⟨E.gp,0,none⟩) hgl8).trans hc0,(hb10'.cell (p:=⟨E.gp,4,none⟩) hgl8).trans hc4⟩,?_⟩;refine wpHP_run (w':=w10) (by simp only[List.getElem?_toArray,List.getElem?_cons_succ,List.getElem?_cons_zero];rfl) (by rfl) (by go_simp;rfl) (fun _=>⟨(hb10'.cell (p:=⟨E.gp,0,none⟩) hgl8).trans hc0,(hb10'.cell (p:=⟨E.gp,4,none⟩) hgl8).trans hc4⟩) ?_;simp only[Act.put,sA,sZ,sC];refine wpHP_nil ?_;have HFIN:Hid (∃ DA dn dc,Ending.returned (.slice A10 n10 c10) = .returned (.slice DA dn dc)∧dn=(mergeM (lexicalM E.bs) v.st.ds).length∧OwnS w10 w.heap.size 78 5 (.slice DA dn dc) dn ((mergeM (lexicalM E.bs) v.st.ds).flatMap dgCells)∧Below w.heap.size w w10):=kH ⟨A10,n10,c10,rfl,hn10,hO10.mono (by have:=hb9'.size;have:=hb8.size;omega),hb8.trans (hb10'.mono hb8.size)⟩;rw[← hn10];clear hn10 hO10 hb10 hb10'
 go_wp2_with fail
 refine bodyPost_ret (v:=.slice A10 n10 c10) (by simp[results,Tryz.results75,go_sem]) rfl ?_;exact HFIN.out
theorem statement_any (s:ByteArray) (w0:World) (hs:s.size≤4096) (f:Nat) (t:Tree) (q:PS) (hf:parM s.data.toList (startL s.data.toList) f .stmt ⟨0,0,[]⟩=some ([t],q)) (h5:kindM (startL s.data.toList) q=5) :
 Calls Tryz.prog 38 #[.string s] w0 (TreeDgs w0 t (mergeM (lexicalM s.data.toList) q.ds)):=by
 have hgt:¬ (4096:Int) < s.size:=by omega
 have HF:=kH hf;have H5:=kH h5;clear hf h5
 go_enter Tryz.func38,Tryz.ntmps38
 go_wp2_with fail
 generalize hW1:w0.alloc (.cells #[.int .i64 0,.string ⟨#[]⟩,.int .i64 0,.int .i64 0,.slice none 0 0] 24)=W1
 have hb1:Below w0.heap.size w0 W1:=by rw[← hW1];exact below_alloc _ _
 have hRR:Blk W1 w0.heap.size 24 #[.int .i64 0,.string ⟨#[]⟩,.int .i64 0,.int .i64 0,.slice none 0 0]:=by rw[← hW1];exact Blk.new w0 _ _
 refine(start_any s W1 hs).mono ?_;rintro e w ⟨E,v,rfl,hE,hbs,hl,hlo,hst,hpw,hbw⟩;have hR0:=hRR.below hbw hRR.lt;have hgw:w0.heap.size+1≤w.heap.size:=hR0.lt;have HBW:=kH (hb1.trans (hbw.mono hb1.size))
 have hzW:W1.heap.size=w0.heap.size+1:=by rw[← hW1];simp
 have HZW:=kH hzW;have HLO:=kH hlo;have HBS:=kH hbs;have HL:=kH hl;have HGW:=kH hgw;have hcall:=(answ E hE f).stmt v w t q hpw (by rw[hbs,hl,hst];exact HF.out);have HC:=kH hcall;clear hW1 hb1 hRR hbw hbs hl hlo hst hgw hzW hcall
 go_wp2_with fail
 refine HC.out.mono ?_;rintro e w2 ⟨k2,t2,a2,z2,A2,n2,c2,rfl,hT2,v2,hv2,h2,hm2⟩
 try dsimp only at hv2 hT2
 have hR2:=hm2.blk hpw hR0;have HV2:=kH hv2
 go_wp2_with fail
 generalize hW3:w2.alloc (.cells #[.int .i64 k2,.string t2,.int .i64 a2,.int .i64 z2,.slice A2 n2 c2] 24)=w3
 have hb3:Below w2.heap.size w2 w3:=by rw[← hW3];exact below_alloc _ _
 have hX3:Blk w3 w2.heap.size 24 #[.int .i64 k2,.string t2,.int .i64 a2,.int .i64 z2,.slice A2 n2 c2]:=by rw[← hW3];exact Blk.new w2 _ _
 have hl3:=hX3.lt;have h3:=h2.below hb3;have hR3:=hR2.below hb3 hR2.lt;have hT3:=TreeOwn.keeps (KeepsN.of_below hb3) _ _ hT2;obtain⟨⟨q0,q1,q2,q3,q4⟩,-⟩:=hX3.five;have hsz2:=hm2.since.size;have hlow:=hE.low;have hbw3:=(HBW.out.trans (hm2.below hpw (B:=w0.heap.size) (by have:=HLO.out;have:=HZW.out;omega) hlow)).trans (hb3.mono (by have:=HGW.out;omega));have HBW3:=kH hbw3;clear hW3 hbw3;have hend:=end_any E hE v2 w3.drew (h3.below (Below.refl _ _).drew) (by rw[hv2,HL.out];exact H5.out);rw[hv2,HBS.out]at hend;have HEND:=kH hend;clear hend;refine wp_region_HP (fun w'=>w'.cell? ⟨w2.heap.size,0,none⟩=some (.int .i64 k2)∧w'.cell? ⟨w2.heap.size,1,none⟩=some (.string t2)∧w'.cell? ⟨w2.heap.size,2,none⟩=some (.int .i64 a2)∧w'.cell? ⟨w2.heap.size,3,none⟩=some (.int .i64 z2)∧w'.cell? ⟨w2.heap.size,4,none⟩=some (.slice A2 n2 c2)) [] [(0,true),(1,true),(2,false),(3,false),(4,false),(5,false)] (by kernel_rfl) (by kernel_rfl) rfl (by kernel_rfl) ?_
 have hS0:w3.drew.cell? ⟨w2.heap.size,0,none⟩=some (.int .i64 k2)∧w3.drew.cell? ⟨w2.heap.size,1,none⟩=some (.string t2)∧w3.drew.cell? ⟨w2.heap.size,2,none⟩=some (.int .i64 a2)∧w3.drew.cell? ⟨w2.heap.size,3,none⟩=some (.int .i64 z2)∧w3.drew.cell? ⟨w2.heap.size,4,none⟩=some (.slice A2 n2 c2):=⟨q0,q1,q2,q3,q4⟩
 refine wpHP_soft (by simp only[List.getElem?_toArray,List.getElem?_cons_zero];rfl) (by rfl) hS0 (by intro w' hSw;obtain⟨hs1,hs2,hs3,hs4,hs5⟩:=hSw;go_simp;rfl) ?_;simp only[Act.put,sA,sZ,sC];refine wpHP_soft (by simp only[List.getElem?_toArray,List.getElem?_cons_succ,List.getElem?_cons_zero];rfl) (by rfl) hS0 (by intro w' hSw;obtain⟨hs1,hs2,hs3,hs4,hs5⟩:=hSw;go_simp;rfl) ?_;simp only[Act.put,sA,sZ,sC];refine wpHP_law (by simp only[List.getElem?_toArray,List.getElem?_cons_succ,List.getElem?_cons_zero];rfl) (by rfl) ?_
 go_simp
 refine HEND.out.mono ?_;rintro e w10 ⟨A10,n10,c10,rfl,hn10,hO10,hb10⟩;have hb10':Below w3.heap.size w3 w10:=((Below.refl w3.heap.size w3).drew).trans hb10;refine⟨⟨(hb10'.cell (p:=⟨w2.heap.size,0,none⟩) hl3).trans q0,(hb10'.cell (p:=⟨w2.heap.size,1,none⟩) hl3).trans q1,(hb10'.cell (p:=⟨w2.heap.size,2,none⟩) hl3).trans q2,(hb10'.cell (p:=⟨w2.heap.size,3,none⟩) hl3).trans q3,(hb10'.cell (p:=⟨w2.heap.size,4,none⟩) hl3).trans q4⟩,?_⟩;have hR10:=hR3.below hb10' hR3.lt;obtain⟨⟨r0,r1,r2,r3,r4⟩,g0,g1,g2,g3,g4⟩:=hR10.five;have hlr:=hR10.lt;have hlr3:=hR3.lt;have hlr2:=hR2.lt;have hl10:w2.heap.size < w10.heap.size:=Nat.lt_of_lt_of_le hl3 hb10'.size
 have hsW:Since (fun g=>g=w0.heap.size) w10 (set5 w10 w0.heap.size (.int .i64 k2) (.string t2) (.int .i64 a2) (.int .i64 z2) (.slice A2 n2 c2)):=by
  unfold set5;exact(((((Since.refl (fun g=>g=w0.heap.size) w10).setCell (.inl rfl) _).setCell (.inl rfl) _).setCell (.inl rfl) _).setCell (.inl rfl) _).setCell (.inl rfl) _
 have hSW:(set5 w10 w0.heap.size (.int .i64 k2) (.string t2) (.int .i64 a2) (.int .i64 z2) (.slice A2 n2 c2)).cell? ⟨w2.heap.size,0,none⟩=some (.int .i64 k2)∧(set5 w10 w0.heap.size (.int .i64 k2) (.string t2) (.int .i64 a2) (.int .i64 z2) (.slice A2 n2 c2)).cell? ⟨w2.heap.size,1,none⟩=some (.string t2)∧(set5 w10 w0.heap.size (.int .i64 k2) (.string t2) (.int .i64 a2) (.int .i64 z2) (.slice A2 n2 c2)).cell? ⟨w2.heap.size,2,none⟩=some (.int .i64 a2)∧(set5 w10 w0.heap.size (.int .i64 k2) (.string t2) (.int .i64 a2) (.int .i64 z2) (.slice A2 n2 c2)).cell? ⟨w2.heap.size,3,none⟩=some (.int .i64 z2)∧(set5 w10 w0.heap.size (.int .i64 k2) (.string t2) (.int .i64 a2) (.int .i64 z2) (.slice A2 n2 c2)).cell? ⟨w2.heap.size,4,none⟩=some (.slice A2 n2 c2):=by
  have hX10:=(hX3.below hb10' hl3).since hsW (by omega);exact hX10.five.1
 have hTW:=TreeOwn.keeps (KeepsN.of_below hb10') _ _ hT3
 replace hTW:=TreeOwn.keeps (w':=(set5 w10 w0.heap.size (.int .i64 k2) (.string t2) (.int .i64 a2) (.int .i64 z2) (.slice A2 n2 c2))) (fun g cs hg hc=>hsW.block g (Array.getElem?_eq_some_iff.1 hc).1 (by have:=HGW.out;omega)) _ _ hTW
 replace hTW:=TreeOwn.weak (Q:=fun g=>w0.heap.size≤g) (fun g _ hg=>by have:=HGW.out;omega) _ _ hTW
 have hOW:=(hO10.since hsW (fun g hg e1=>by have h1:=(hO10.lt g hg).1;have h3:w3.drew.heap.size=w3.heap.size:=rfl;omega)).mono (base':=w0.heap.size) (by have h3:w3.drew.heap.size=w3.heap.size:=rfl;omega);have hBW:=(HBW3.out.trans (hb10'.mono (by omega))).trans (hsW.toBelow (B:=w0.heap.size) (by omega) (fun g hg=>by omega))
 have hHR:Blk (set5 w10 w0.heap.size (.int .i64 k2) (.string t2) (.int .i64 a2) (.int .i64 z2) (.slice A2 n2 c2)) w0.heap.size 24 #[.int .i64 k2,.string t2,.int .i64 a2,.int .i64 z2,.slice A2 n2 c2]:=by
  have:=((((hR10.set_ 0 (.int .i64 k2)).set_ 1 (.string t2)).set_ 2 (.int .i64 a2)).set_ 3 (.int .i64 z2)).set_ 4 (.slice A2 n2 c2);unfold set5
  simpa using this
 have HFIN:Hid (TreeDgs w0 t (mergeM (lexicalM s.data.toList) q.ds) (.returned (.tuple #[.agg #[.int .i64 k2,.string t2,.int .i64 a2,.int .i64 z2,.slice A2 n2 c2],.slice A10 n10 c10,.int .i64 0])) (set5 w10 w0.heap.size (.int .i64 k2) (.string t2) (.int .i64 a2) (.int .i64 z2) (.slice A2 n2 c2))):=kH ⟨_,_,_,_,_,_,_,_,_,_,rfl,hTW,hn10,hOW,hBW⟩;refine wpHP_skip (w':=(set5 w10 w0.heap.size (.int .i64 k2) (.string t2) (.int .i64 a2) (.int .i64 z2) (.slice A2 n2 c2))) (by simp only[List.getElem?_toArray,List.getElem?_cons_succ,List.getElem?_cons_zero];rfl) (by rfl) (by unfold set5;go_simp) (fun _=>hSW) ?_;simp only[Act.put]
 iterate 2(refine wpHP_run (w':=(set5 w10 w0.heap.size (.int .i64 k2) (.string t2) (.int .i64 a2) (.int .i64 z2) (.slice A2 n2 c2))) (by simp only[List.getElem?_toArray,List.getElem?_cons_succ,List.getElem?_cons_zero];rfl) (by rfl) (by go_simp;rfl) (fun _=>hSW) ?_;simp only[Act.put,sA,sZ,sC])
 refine wpHP_nil ?_;rw[← hn10];clear hn10 hO10 hb10 hb10' hsW hSW hTW hOW hBW r0 r1 r2 r3 r4 g0 g1 g2 g3 g4 hS0
 generalize set5 w10 w0.heap.size (.int .i64 k2) (.string t2) (.int .i64 a2) (.int .i64 z2) (.slice A2 n2 c2)=WZ at HFIN hHR ⊢
 obtain⟨⟨r0,r1,r2,r3,r4⟩,-⟩:=hHR.five
 go_wp2_with fail
 refine bodyPost_ret (v:=.tuple #[.agg #[.int .i64 k2,.string t2,.int .i64 a2,.int .i64 z2,.slice A2 n2 c2],.slice A10 n10 c10,.int .i64 0]) (by simp[results,Tryz.results38,go_sem,r0,r1,r2,r3,r4]) rfl ?_;exact HFIN.out
end Go.Proofs.YtoepemlnlpamlaaGreat
