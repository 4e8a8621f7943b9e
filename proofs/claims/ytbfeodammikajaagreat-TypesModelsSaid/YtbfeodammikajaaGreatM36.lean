/- The reference's checker at the first world of the model of a selection (plain). -/
import Derived.Test.YtbfeodammikajaaGreatM01
import Derived.Test.YtbfeodammikajaaGreatM34
import Derived.Test.YtbfeodammikajaaGreatM31
import Derived.Test.YtbfeodammikajaaGreatM26
import Derived.Test.YtbfeodammikajaaGreatM27
import Derived.Test.YtbfeodammikajaaGreatM23
import Derived.Test.YtbfeodammikajaaGreatM18
namespace Go.Proofs.YtbfeodammikajaaGreat
set_option maxRecDepth 100000
set_option maxHeartbeats 128000000
theorem static_ops {n:Nd}(h:tyOp n.op) {i:Nat}(hi:(fragOf n.op).toNat.testBit i=true):(15:Nat).testBit i=true:=by
 have hc:n.op=1\/n.op=2\/n.op=3\/n.op=4\/n.op=5\/n.op=6\/n.op=7\/n.op=8\/n.op=9\/n.op=10\/n.op=11\/n.op=13:=by unfold tyOp at h;omega
 have hlt:(fragOf n.op).toNat < 2^4/\subS (fragOf n.op).toNat 15=true:=by
  rcases hc with e|e|e|e|e|e|e|e|e|e|e|e <;>(rw [e];exact⟨by decide,by decide⟩)
 exact subS_iff.1 hlt.2 i hi
theorem fit_sel {f:List Nd} {md:Md}(hc:check f=0)(hl:langBad f=false)(hck:checkM md=0)(hA:lenB (agentsM (compactN f))=md.rel.length)(hF:lenB (factsM (compactN f))=md.val.length):chk17 md (compactN f)=0:=by
 have hcc:check (compactN f)=0:=(compactN_check hc);have h2:=compact_twice hc;have hs:subS (fragsN (compactN f)) 15=true:=by
  rw [subS_iff];intro i hi;unfold fragsN fragMask at hi;rw [h2]at hi;rcases frag_src _ _ _ hi with h|⟨n,hn,h⟩
  ·rw [Nat.zero_testBit]at h;cases h
  exact static_ops (lang_ops hc hl n hn) h
 have hf:fitsN (compactN f) md.rel.length md.val.length=true:=by
  unfold fitsN;rw [Bool.and_eq_true,Bool.and_eq_true,List.all_eq_true,List.all_eq_true,h2];refine⟨by rw [hcc];rfl,fun i _=> ?_,fun i _=> ?_⟩
  ·unfold fitA;rw [Bool.or_eq_true,decide_eq_true_iff];cases hb:(agentsM (compactN f)).testBit i
   ·exact Or.inl rfl
   exact Or.inr (by rw [<-hA];exact bit_lt (lenB_lt _) hb)
  unfold fitA;rw [Bool.or_eq_true,decide_eq_true_iff];cases hb:(factsM (compactN f)).testBit i
  ·exact Or.inl rfl
  exact Or.inr (by rw [<-hF];exact bit_lt (lenB_lt _) hb)
 unfold chk17;rw [if_neg (by rw [hck];simp),if_neg (by rw [hcc];simp),if_neg (by rw [hs];simp),if_neg (by rw [hf];simp)]
theorem at_sel {lg:Int} {f:List Nd} {S:List Nat} {md:Md}(he:engErr lg f=0)(hS:∀u∈S,(endN lg f).1.getD u false=true)
 (hw:∀t∈S,Sel lg (knowsN (baseN f).1) (commsN (baseN f).1) (endN lg f).1 (lenB (agentsM (compactN f))) S t)
 (hm:SelMd lg (baseN f).1 S (lenB (agentsM (compactN f))) (lenB (factsM (compactN f))) md)(h0:0 < S.length)(h64:S.length<=64)(hr:(rootN f).getD (S.getD 0 0) false=true)
 (ha4:lenB (agentsM (compactN f))<=4)(hf8:lenB (factsM (compactN f))<=8):GoodM md lg/\atE md f 0=0/\at17 md f 0=true:=by
 have h:=eng_ok he;have hF:=full_end h hS hw (fun n a hm=>(eng_in h he _ hm).1.agent (.inl (h.b.closed.know n a hm).1)|>.2);have hlt:∀u∈S,u < 2^(baseN f).1.length:=fun u hu=>by have:=getD_lt (hS u hu);rwa [end_len]at this
 have hg:=good_sel h.b ⟨h.l0,h.l6⟩ hF hlt hm h0 h64 ha4 hf8;have hl:langBad f=false:=by
  unfold engErr at he;cases ha:decide (lg < 0)||decide (6 < lg)
  ·rw [ha]at he;exact(base_parts he).2.1
  rw [ha]at he;cases he
 have hch:=fit_sel h.ck hl hg.ck (by rw [hm.rel];simp) hm.vlen.symm;have hE:holdE md f=0:=by unfold holdE;rw [if_pos hch]
 obtain⟨_,hw2,_⟩:=hold_is hch hl;have hnn:md.n.toNat=S.length:=by rw [hm.n];exact Int.toNat_natCast _
 have hn0:0 < md.n:=by rw [hm.n];omega
 refine⟨hg,?_,?_⟩
 ·unfold atE;rw [if_pos hE,if_neg (by omega)]
 unfold at17;rw [if_pos hE,if_neg (by omega)];exact(hw2 ⟨0,by omega⟩).2 ((sel_sat h hF hlt hm rfl rfl ⟨0,by omega⟩).2 hr)
open Go.RowKit
theorem lenB_iff(m k:Nat):k < lenB m↔((m:Int) / 2^k≠0):=by
 rw [show((m:Int) / 2^k)=((m / 2^k:Nat):Int) by rw [Int.natCast_ediv,Int.natCast_pow];rfl];have hp:=Nat.two_pow_pos k;have h1:((m / 2^k:Nat):Int)≠0↔2^k<=m:=by
  constructor
  ·intro h;rcases Nat.lt_or_ge m (2^k)with h2|h2
   ·rw [Nat.div_eq_of_lt h2]at h;exact absurd rfl h
   exact h2
  intro h e;have:=Nat.div_pos h hp;omega
 rw [h1];unfold lenB
 split
 ·rename_i h;subst h;constructor
  ·intro h;omega
  intro h;omega
 rename_i h;rw [Nat.lt_succ_iff,Nat.le_log2 h]
theorem sizes_any(v:Value)(f:List Nd)(w:World)(h:Fml w v f)(hc:check f=0):
 Calls Tryz.prog 18 #[v] w fun e w'=>e=.returned (.tuple #[.int .i64 (lenB (agentsM (compactN f)):Int),.int .i64 (lenB (factsM (compactN f)):Int)])/\Ext w w':=by
 have H:=Qq h;have HC:=Qq hc;have hh:=(compactN_props hc).2.2.2;have ha:agentsM (compactN f) < 2^4:=agents_lt _ 0 hh (by decide);have hf:factsM (compactN f) < 2^8:=facts_lt _ 0 hh (by decide);obtain⟨a,hae⟩:∃a,a=agentsM (compactN f):=⟨_,rfl⟩;obtain⟨b,hbe⟩:∃b,b=factsM (compactN f):=⟨_,rfl⟩;have HA:=Qq hae;have HB:=Qq hbe;rw [<-hae]at ha⊢;rw [<-hbe]at hf⊢;have hla:=lenB_8 (x:=a) (by omega);have hlb:=lenB_8 (x:=b) (by omega);obtain⟨A,c,rfl,_⟩:=fml_slice h;clear h hc hh hae hbe;go_enter Tryz.func18,Tryz.ntmps18;go_wp2_with fail;go_loopw [4] (fun v wr=>∃k:Nat,v=.int .i64 (k:Int)/\k<=lenB a/\Hid (Ext w wr)) (fun v _=>lenB a - (intOf v).toNat)
 case atStart=>exact⟨0,rfl,Nat.zero_le _,Qq Qz⟩
 case round =>
  obtain⟨k,rfl,hk,HX⟩:=hrel;have hk64:(k:Int) < 64:=by omega
  by_cases hlt2:k < lenB a
  ·have hne:(((a:Int) / 2^k) !=0)=true:=by rw [bne_iff_ne];exact(lenB_iff a k).1 hlt2
   go_wp2_with fail;refine(rAgents_any _ f _ (H.out.ext HX.out) HC.out).mono ?_;rintro e w2 ⟨rfl,hx⟩;rw [<-HA.out];have HX2:=Qq (HX.out.trans hx);clear hx;go_wp2_with fail;go_roundw
   case rel=>exact⟨k+1,by go_num,by omega,HX2⟩
   case measure=>simp [intOf];omega
  obtain rfl:lenB a=k:=by omega
  have hne:(((a:Int) / 2^lenB a) !=0)=false:=by rw [bne_eq_false_iff_eq];exact Classical.byContradiction fun h=>hlt2 ((lenB_iff a _).2 h)
  go_wp2_with fail;refine(rAgents_any _ f _ (H.out.ext HX.out) HC.out).mono ?_;rintro e w2 ⟨rfl,hx⟩;rw [<-HA.out];have HX2:=Qq (HX.out.trans hx);clear hx HX;go_wp2_with fail;go_loopw [5] (fun v wr=>∃k:Nat,v=.int .i64 (k:Int)/\k<=lenB b/\Hid (Ext w wr)) (fun v _=>lenB b - (intOf v).toNat)
  case atStart=>exact⟨0,rfl,Nat.zero_le _,HX2⟩
  case round =>
   clear HX2 hne hk64;obtain⟨k,rfl,hk,HX⟩:=hrel;have hk64:(k:Int) < 64:=by omega
   by_cases hlt3:k < lenB b
   ·have hne:(((b:Int) / 2^k) !=0)=true:=by rw [bne_iff_ne];exact(lenB_iff b k).1 hlt3
    go_wp2_with fail;refine(rFacts_any _ f _ (H.out.ext HX.out) HC.out).mono ?_;rintro e w2 ⟨rfl,hx⟩;rw [<-HB.out];have HX2:=Qq (HX.out.trans hx);clear hx;go_wp2_with fail;go_roundw
    case rel=>exact⟨k+1,by go_num,by omega,HX2⟩
    case measure=>simp [intOf];omega
   obtain rfl:lenB b=k:=by omega
   have hne:(((b:Int) / 2^lenB b) !=0)=false:=by rw [bne_eq_false_iff_eq];exact Classical.byContradiction fun h=>hlt3 ((lenB_iff b _).2 h)
   go_wp2_with fail;refine(rFacts_any _ f _ (H.out.ext HX.out) HC.out).mono ?_;rintro e w2 ⟨rfl,hx⟩;rw [<-HB.out];have HX2:=Qq (HX.out.trans hx);clear hx HX;go_wp2_with fail;go_ret2;exact⟨rfl,HX2.out⟩
theorem short_any(v:Value)(l:List Nd)(w:World)(h:Fml w v l)(hw:Wf l)(h0:0 < l.length)(hl:l.length<=401):
 Calls Tryz.prog 125 #[v] w fun e w'=>∃u,e=.returned u/\Made w w' u (shortN l):=by
 have H:=Qq h;have HW:=Qq hw;obtain⟨⟨A,c,rfl,hat⟩,hok⟩:=h;have HAT:=Qq hat;have hcl:=hat.1;have hcm:=hat.2.1;unfold maxLen at hcm;obtain⟨i3,hi3,hz30,hz31,hz32⟩:=info_parts tInfo3;clear hat hok hw;go_enter Tryz.func125,Tryz.ntmps125;go_wp2_with fail;go_loopw [4] (fun i wr=>∃k:Nat,k<=l.length/\i=.int .i64 k/\Hid (∃vd,RSub w k vd wr)) (fun i _=>l.length - (intOf i).toNat)
 case atStart=>exact⟨0,Nat.zero_le _,rfl,Qq ⟨.slice none 0 0,heap_alloc_new _ _,World.ownsRow_nil _ _ _ _,Qz.alloc _⟩⟩
 case round =>
  obtain⟨k,hk,rfl,hrs⟩:=hrel;obtain⟨vd,hblk0,hrow0,hext⟩:=hrs.out;have HBLK:=Qq hblk0;have HROW:=Qq hrow0;clear hblk0 hrow0 hrs;obtain⟨Ad,cd,rfl⟩:=slice_of_row HROW.out;obtain⟨d0,d1,dfr,dlt⟩:=cells2 HBLK.out;by_cases hlt2:k < l.length
  ·have hc3:k+1<=maxLen:=by unfold maxLen;omega
   have hc4:(k+1)*8<=140737488355328:=by omega
   have hfz:=dfr 1;have HNE:=Qq (row_ne HROW.out);have hc5:∀X,w.heap.size+1<=(wr.alloc X).heap.size:=fun X=>by simp;omega
   obtain⟨xs,hxs⟩:∃xs,xs=(List.replicate k (-1:Int)).map (Value.int .i64):=⟨_,rfl⟩;rw [<-hxs]at HROW;have HXS:=Qq hxs;clear hxs;go_wp2_with(at_builtin;refine wpList_append_own_at _ rfl _ _ 28 rfl (w.heap.size+1) 3 i3 (.int .i64 0) 1 8 Tryz.underlying28 hi3 hz30 hz31 hz32 rfl (by decide) _ _ _ rfl (row_ext HROW.out (Qz.alloc _)) _ 1 1 [.int .i64 (-1)] rfl rfl (row_new_at _ _ _ (by simp)) (fun u hu=>by rw [List.mem_singleton.1 hu];rfl) hc3 hc4 (hc5 _) ?_);intro v' w4 hown4 hgrow4 _ hat4;obtain⟨A4,c4,rfl⟩:=slice_of_row hown4;have HROW4:=Qq hown4;have kb:=put_keep2 HBLK.out HNE.out (Qz.alloc _) hgrow4
   have HX4:=Qq ((Ext.alloc hext _).grown hgrow4 (fun g hg=>by have:=(HROW.out.lt g hg).1;omega));have HNE4:=Qq (row_ne hown4);obtain⟨q0,q1,qfr,qlt⟩:=cells2 kb;have qf1:=qfr 1;have KB:=Qq kb;clear hown4 hgrow4 hat4 kb d0 d1 dfr dlt hfz;go_wp2_with fail;go_roundw
   case rel=>exact⟨k+1,by omega,by go_num,Qq (sub_next KB.out HROW4.out HNE4.out HX4.out HXS.out)⟩
   case measure=>simp [intOf];omega
  obtain rfl:l.length=k:=by omega
  have HRUN:=Qq (rfin_any (bw:=w.heap.size) (W0:=w) (A:=A) (c:=c) (vd:=.slice Ad l.length cd) HW.out H.out.2 (by omega) (l.length - 1) (by omega))
  have HINV:Hid (RInv w.heap.size w wr A c l [] (List.replicate l.length (-1)) (.slice none 0 0) (.slice Ad l.length cd)):=
   Qq ⟨hext,HAT.out,HBLK.out,World.ownsRow_nil _ _ _ _,row_base HROW.out (Nat.le_succ _),⟨by simp,fun i hi=> .inl (by simp [hi])⟩,Nat.le_refl _,by simp⟩
  have hz:((l.length - 1:Nat):Int)=(l.length:Int) - 1:=by omega
  rw [hz]at HRUN;go_wp2_with fail;refine(HRUN.out _ _ _ _ HINV.out (pot_nil l)).mono ?_;rw [<-hz,Int.toNat_natCast];rintro e w5 ⟨vo5,d5,rfl,hinv,hst⟩;obtain⟨q0,q1,qfr,qlt⟩:=cells2 hinv.blk;have HS:Hid (shortN l=bif decide (200 < (finN l (l.length - 1) []).1.length)then []else(finN l (l.length - 1) []).1):=Qq rfl;have HM:=Qq (show Made w w5 vo5 (finN l (l.length - 1) []).1 from⟨hinv.row,hinv.oks,hinv.below⟩);obtain⟨A6,c6,rfl⟩:=slice_of_row hinv.row;clear hinv hst hz;generalize (finN l (l.length - 1) []).1=o at *;by_cases hlong:200 < o.length
  ·have HR:=Qq (show shortN l= [] by rw [HS.out,decide_eq_true hlong];rfl);go_wp2_with fail;go_ret;exact⟨_,rfl,by rw [HR.out];exact(Made.none_ _).after HM.out.2.2⟩
  have HR:=Qq (show shortN l=o by rw [HS.out,decide_eq_false hlong];rfl);go_wp2_with fail;go_ret;exact⟨_,rfl,by rw [HR.out];exact HM.out⟩
theorem box_grown {w W w4:World} {b:Nat} {o:Obj} {v:Value}(hb:w.heap[b]?=some o)(hne:v.ownBlock≠some b)(he:Ext w W)(hg:W.grownBy w4 v.ownBlock):w4.heap[b]?=some o :=
 ((hg.block b (Qy (lt_heap hb) he.size) (fun e=>hne e.symm)).trans (he.block (lt_heap hb))).trans hb
theorem one_any(x:Nd)(w:World)(hx:headOk x)(hxo:x.ok)(h1:hasX x.op=false)(h2:hasY x.op=false):
 Calls Tryz.prog 61 #[x.val] w fun e w'=>∃u,e=.returned u/\Made w w' u [x]:=by
 have HE:=Qq (build_zero h1 h2 hx).1;have HXO:=Qq hxo;obtain⟨o,i,e,g,p,q⟩:=x;unfold Nd.val;clear hx hxo h1 h2;go_enter Tryz.func61,Tryz.ntmps61;go_wp2_with fail;refine(refNode_any ⟨o,i,e,g,p,q⟩ _ _).mono ?_;rintro e1 w1 ⟨rfl,hb⟩;rw [HE.out];have HBX:Hid (w1.heap[w.heap.size]?=some (.cells #[.int .i64 o,.int .i64 i,.int .i64 e,.int .i64 g,.int .i64 p,.int .i64 q] 93 (0,0))):=Qq ((hb.block (by simp)).trans (heap_alloc_new _ _));have HX:=Qq (Ext.trans (Qz.alloc _) hb);obtain⟨⟨d0,d1,d2,d3,d4,d5⟩,dfr,dlt⟩:=cells6 HBX.out;clear hb;go_wp2_with fail;go_ret;exact⟨_,rfl,⟨by simp [Nd.cells],.inr ⟨w1.heap.size,1,_,rfl,HX.out.size,heap_alloc_new _ _,Nat.le_refl _,by unfold maxLen;omega,by simp,by simp [Nd.cells]⟩⟩,by simpa using HXO.out,HX.out.alloc _⟩
theorem unary_any(x:Nd)(v:Value)(f:List Nd)(w:World)(hx:headOk x)(hxo:x.ok)(h1:hasX x.op=true)(h2:hasY x.op=false)(h:Fml w v f):
 Calls Tryz.prog 66 #[x.val,v] w fun e w'=>∃u,e=.returned u/\Made w w' u (buildN x [f]):=by
 have H:=Qq h;obtain⟨⟨A,c,rfl,hat⟩,hok⟩:=h;have hcl:=hat.1;have hcm:=hat.2.1;unfold maxLen at hcm;have HREAD:=Qq hat.2.2;obtain⟨i0,hi0,hz0',hz1',hz2'⟩:=info_parts tInfo;clear hat hok;by_cases hc:check f=0
 ·have HC:=Qq hc;have HUN:=Qq (un_short hc h1 h2 hx (m:= { x with x:=(f.length:Int) - 1 }) rfl);obtain⟨hp0,hl200,_⟩:=check_parts hc;have HXO:=Qq hxo;obtain⟨o,i,e,g,p,q⟩:=x;unfold Nd.val;clear hc hx hxo h1 h2;go_enter Tryz.func66,Tryz.ntmps66;go_wp2_with fail;refine(refCheck_any _ f _ (H.out.1.ext (Qz.alloc _))).mono ?_;rintro e1 w1 ⟨rfl,hb⟩;rw [HC.out];have HX1:=Qq (Ext.trans ((Ext.refl w).alloc _) hb);have HBX:Hid (w1.heap[w.heap.size]?=some (.cells #[.int .i64 o,.int .i64 i,.int .i64 e,.int .i64 g,.int .i64 p,.int .i64 q] 93 (0,0))):=Qq ((hb.block (by simp)).trans (heap_alloc_new _ _));obtain⟨⟨d0,d1,d2,d3,d4,d5⟩,dfr,dlt⟩:=cells6 HBX.out
  have hfz:=dfr 4;clear hb;go_wp2_with fail;refine(refNode_any ⟨o,i,e,g,(f.length:Int) - 1,q⟩ _ _).mono ?_;rintro e1 w2 ⟨rfl,hb⟩;rw [HUN.out.1];have HX2:=Qq (Ext.trans (HX1.out.setCell (p:=⟨w.heap.size,4,none⟩) (Nat.le_refl _) (.int .i64 ((f.length:Int) - 1))) hb);have HBX2:Hid (w2.heap[w.heap.size]?=some (.cells #[.int .i64 o,.int .i64 i,.int .i64 e,.int .i64 g,.int .i64 ((f.length:Int) - 1),.int .i64 q] 93 (0,0))):=Qq ((hb.block (by simp [World.setCell];exact dlt)).trans (by simp only [World.setCell,Array.getElem?_modify,HBX.out,if_true,Option.map_some];simp));clear hb d0 d1 d2 d3 d4 d5 dfr dlt hfz
  go_wp2_with fail;go_loopw [5,6] (fun v5 i5 wr=>∃k:Nat,k<=f.length/\i5=.int .i64 k/\Hid (wr.ownsRow (w.heap.size+1) 93 6 v5 k ((f.take k).flatMap Nd.cells))/\Hid (wr.heap[w.heap.size]?=some (.cells #[.int .i64 o,.int .i64 i,.int .i64 e,.int .i64 g,.int .i64 ((f.length:Int) - 1),.int .i64 q] 93 (0,0)))/\Ext w wr) (fun _ i _=>f.length - (intOf i).toNat)
  case atStart=>exact⟨0,Nat.zero_le _,rfl,Qq (by simpa using World.ownsRow_nil _ _ _ _),HBX2,HX2.out⟩
  case round =>
   obtain⟨k,hk,rfl,HROW,HBK,hext⟩:=hrel;obtain⟨A5,c5,rfl⟩:=slice_of_row HROW.out;have HNE:=Qq (row_ne HROW.out);by_cases hlt:k < f.length
   ·obtain⟨a,ha⟩:∃a,f[k]?=some a:=⟨_,Qv hlt⟩;obtain⟨ad,rfl,hb1,hc1⟩:=HREAD.out (by intro e;rw [e]at hlt;simp at hlt);obtain⟨a0,a1,a2,a3,a4,a5⟩:=(hc1 k a ha).keep fun p hp=>hext.cell (p:=p) (by rw [hp,block_of_add];exact hb1)
    obtain⟨xs,hxs⟩:∃xs,xs=(f.take k).flatMap Nd.cells:=⟨_,rfl⟩;rw [<-hxs]at HROW;have HXS:=Qq hxs;have HTK:Hid (xs++a.cells=(f.take (k+1)).flatMap Nd.cells):=Qq (by rw [hxs,take_succ_eq ha,List.flatMap_append];simp);have hc3:k+1<=maxLen:=by unfold maxLen;omega
    have hc4:(k+1)*48<=140737488355328:=by omega
    have hc5:∀X,w.heap.size+1<=(wr.alloc X).heap.size:=fun X=>by have:=hext.size;simp;omega
    clear hxs hc1 ha;go_wp2_with(at_builtin;refine wpList_append_own_at _ rfl _ _ 22 rfl (w.heap.size+1) 93 i0 Nd.zero.val 6 48 Tryz.underlying22 hi0 hz0' hz1' hz2' rfl (by decide) _ _ _ rfl (row_ext HROW.out (Qz.alloc _)) _ 1 1 a.cells rfl rfl (row_new_at _ _ _ rfl) (node_cells a) hc3 hc4 (hc5 _) ?_);intro v' w4 hown4 hgrow4 _ hat4;obtain⟨A4,c4,rfl⟩:=slice_of_row hown4;have HROW4:Hid (w4.ownsRow (w.heap.size+1) 93 6 (.slice A4 (k+1) c4) (k+1) ((f.take (k+1)).flatMap Nd.cells)):=Qq (by rw [<-HTK.out];exact hown4);have HBK4:=Qq (box_grown HBK.out HNE.out (Qz.alloc _) hgrow4);have HX4:=Qq ((Ext.alloc hext _).grown hgrow4 (fun g hg=>by have:=(HROW.out.lt g hg).1;omega))
    clear hown4 hgrow4 hat4;go_wp2_with fail;go_roundw
    case rel=>exact⟨k+1,by omega,by go_num,HROW4,HBK4,HX4.out⟩
    case measure=>simp [intOf];omega
   obtain rfl:f.length=k:=by omega
   obtain⟨⟨d0,d1,d2,d3,d4,d5⟩,dfr,dlt⟩:=cells6 HBK.out;rw [List.take_of_length_le (Nat.le_refl _)]at HROW;obtain⟨xs,hxs⟩:∃xs,xs=f.flatMap Nd.cells:=⟨_,rfl⟩;rw [<-hxs]at HROW;have HXS:=Qq hxs;have hc3:f.length+1<=maxLen:=by unfold maxLen;omega
   have hc4:(f.length+1)*48<=140737488355328:=by omega
   have hc5:∀X,w.heap.size+1<=(wr.alloc X).heap.size:=fun X=>by have:=hext.size;simp;omega
   obtain⟨m,hm⟩:∃m:Nd,m=⟨o,i,e,g,(f.length:Int) - 1,q⟩:=⟨_,rfl⟩;have HMX:=Qq (show m.cells= [.int .i64 o,.int .i64 i,.int .i64 e,.int .i64 g,.int .i64 ((f.length:Int) - 1),.int .i64 q] by rw [hm];rfl);have HMO:Hid (m.ok):=Qq (by obtain⟨x1,x2,x3,x4,x5,x6⟩:=HXO.out;rw [hm];exact⟨x1,x2,x3,x4,⟨by show(-9223372036854775808:Int)<=(f.length:Int) - 1;omega,by show(f.length:Int) - 1<=9223372036854775807;omega⟩,x6⟩);have HU:Hid (nodeErr m f.length=0/\Wf (f++ [m])/\shortN (f++ [m])=buildN ⟨o,i,e,g,p,q⟩ [f]):=Qq (by rw [hm];exact HUN.out);clear hxs hm HUN;go_wp2_with(at_builtin;refine wpList_append_own_at _ rfl _ _ 22 rfl (w.heap.size+1) 93 i0 Nd.zero.val 6 48 Tryz.underlying22 hi0 hz0' hz1' hz2' rfl (by decide) _ _ _ rfl (row_ext HROW.out (Qz.alloc _)) _ 1 1 [.int .i64 o,.int .i64 i,.int .i64 e,.int .i64 g,.int .i64 ((f.length:Int) - 1),.int .i64 q] rfl rfl (row_new_at _ _ _ rfl) (by rw [<-HMX.out];exact node_cells m) hc3 hc4 (hc5 _) ?_)
   intro v' w4 hown4 hgrow4 _ hat4;have HROW4:Hid (w4.ownsRow (w.heap.size+1) 93 6 v' (f++ [m]).length ((f++ [m]).flatMap Nd.cells)):=Qq (by rw [HXS.out,<-HMX.out]at hown4;simpa using hown4);have HX4:=Qq ((Ext.alloc hext _).grown hgrow4 (fun g hg=>by have:=(HROW.out.lt g hg).1;omega));obtain⟨A4,c4,rfl⟩:=slice_of_row hown4;have HFM:Hid (Fml w4 (.slice A4 (f.length+1) c4) (f++ [m])):=Qq ⟨nds_of_row HROW4.out,fun n hn=>by
    rcases List.mem_append.1 hn with hn|hn
    ·exact H.out.2 n hn
    rw [List.mem_singleton.1 hn];exact HMO.out⟩
   clear hown4 hgrow4 hat4;go_wp2_with fail;refine(short_any _ (f++ [m]) _ HFM.out HU.out.2.1 (by simp) (by simp;omega)).mono ?_;rintro e1 w5 ⟨u5,rfl,hm5⟩;rw [HU.out.2.2]at hm5;have HM5:=Qq (hm5.before HX4.out);obtain⟨A8,c8,rfl⟩:=slice_of_row hm5.1;clear hm5;go_wp2_with fail;go_ret;exact⟨_,rfl,HM5.out⟩
 have HB0:=Qq (build_bad1 (n:=x) hc);have hcb:(check f !=0)=true:=by simpa using hc
 obtain⟨o,i,e,g,p,q⟩:=x;unfold Nd.val;clear hc hx hxo h1 h2;go_enter Tryz.func66,Tryz.ntmps66;go_wp2_with fail;refine(refCheck_any _ f _ (H.out.1.ext (Qz.alloc _))).mono ?_;rintro e1 w1 ⟨rfl,hb⟩;have HX1:=Qq (Ext.trans ((Ext.refl w).alloc _) hb);clear hb;go_wp2_with fail;go_ret;exact⟨_,rfl,by rw [HB0.out];exact(Made.none_ _).after HX1.out⟩
theorem binary_any(x:Nd)(v1 v2:Value)(f g:List Nd)(w:World)(hx:headOk x)(hxo:x.ok)(h1:hasX x.op=true)(h2:hasY x.op=true)(hf:Fml w v1 f)(hg:Fml w v2 g):
 Calls Tryz.prog 67 #[x.val,v1,v2] w fun e w'=>∃u,e=.returned u/\Made w w' u (buildN x [f,g]):=by
 have H:=Qq hf;have HG:=Qq hg;obtain⟨⟨A,c,rfl,hat⟩,hok⟩:=hf;obtain⟨⟨A2,c2,rfl,hat2⟩,hok2⟩:=hg;have hcl:=hat.1;have hcm:=hat.2.1;have hcl2:=hat2.1;have hcm2:=hat2.2.1;unfold maxLen at hcm hcm2;have HREAD:=Qq hat.2.2;have HREAD2:=Qq hat2.2.2;obtain⟨i0,hi0,hz0',hz1',hz2'⟩:=info_parts tInfo;clear hat hok hat2 hok2;by_cases hc:check f=0
 ·by_cases hcg:check g=0
  ·have HC:=Qq hc;have HCG:=Qq hcg;have HUN:=Qq (bin_short hc hcg h1 h2 hx (m:= { x with x:=(f.length:Int) - 1,y:=(f.length:Int)+g.length - 1 }) rfl);obtain⟨hp0,hl200,_⟩:=check_parts hc;obtain⟨hq0,hm200,_⟩:=check_parts hcg;have HWG:=Qq (check_wf hcg);have HXO:=Qq hxo;obtain⟨o,i,e,k0,p,q⟩:=x;unfold Nd.val;clear hc hcg hx hxo h1 h2;go_enter Tryz.func67,Tryz.ntmps67;go_wp2_with fail;refine(refCheck_any _ f _ (H.out.1.ext (Qz.alloc _))).mono ?_;rintro e1 w1 ⟨rfl,hb⟩;rw [HC.out];have HX1:=Qq (Ext.trans ((Ext.refl w).alloc _) hb);have HBX:Hid (w1.heap[w.heap.size]?=some (.cells #[.int .i64 o,.int .i64 i,.int .i64 e,.int .i64 k0,.int .i64 p,.int .i64 q] 93 (0,0))):=Qq ((hb.block (by simp)).trans (heap_alloc_new _ _))
   clear hb;go_wp2_with fail;refine(refCheck_any _ g _ (HG.out.1.ext HX1.out)).mono ?_;rintro e1 w2 ⟨rfl,hb⟩;rw [HCG.out];have HX2:=Qq (Ext.trans HX1.out hb);have HBX2:Hid (w2.heap[w.heap.size]?=some (.cells #[.int .i64 o,.int .i64 i,.int .i64 e,.int .i64 k0,.int .i64 p,.int .i64 q] 93 (0,0))):=Qq ((hb.block (lt_heap HBX.out)).trans HBX.out);clear hb;go_wp2_with fail;go_loopw [7,8] (fun v5 i5 wr=>∃k:Nat,k<=f.length/\i5=.int .i64 k/\Hid (wr.ownsRow (w.heap.size+1) 93 6 v5 k ((f.take k).flatMap Nd.cells))/\Hid (wr.heap[w.heap.size]?=some (.cells #[.int .i64 o,.int .i64 i,.int .i64 e,.int .i64 k0,.int .i64 p,.int .i64 q] 93 (0,0)))/\Ext w wr) (fun _ i _=>f.length - (intOf i).toNat)
   case atStart=>exact⟨0,Nat.zero_le _,rfl,Qq (by simpa using World.ownsRow_nil _ _ _ _),HBX2,HX2.out⟩
   case round =>
    obtain⟨k,hk,rfl,HROW,HBK,hext⟩:=hrel;obtain⟨A5,c5,rfl⟩:=slice_of_row HROW.out;have HNE:=Qq (row_ne HROW.out);by_cases hlt:k < f.length
    ·obtain⟨a,ha⟩:∃a,f[k]?=some a:=⟨_,Qv hlt⟩;obtain⟨ad,rfl,hb1,hc1⟩:=HREAD.out (by intro e;rw [e]at hlt;simp at hlt);obtain⟨a0,a1,a2,a3,a4,a5⟩:=(hc1 k a ha).keep fun p hp=>hext.cell (p:=p) (by rw [hp,block_of_add];exact hb1)
     obtain⟨xs,hxs⟩:∃xs,xs=(f.take k).flatMap Nd.cells:=⟨_,rfl⟩;rw [<-hxs]at HROW;have HTK:Hid (xs++a.cells=(f.take (k+1)).flatMap Nd.cells):=Qq (by rw [hxs,take_succ_eq ha,List.flatMap_append];simp);have hc3:k+1<=maxLen:=by unfold maxLen;omega
     have hc4:(k+1)*48<=140737488355328:=by omega
     have hc5:∀X,w.heap.size+1<=(wr.alloc X).heap.size:=fun X=>by have:=hext.size;simp;omega
     clear hxs hc1 ha;go_wp2_with(at_builtin;refine wpList_append_own_at _ rfl _ _ 22 rfl (w.heap.size+1) 93 i0 Nd.zero.val 6 48 Tryz.underlying22 hi0 hz0' hz1' hz2' rfl (by decide) _ _ _ rfl (row_ext HROW.out (Qz.alloc _)) _ 1 1 a.cells rfl rfl (row_new_at _ _ _ rfl) (node_cells a) hc3 hc4 (hc5 _) ?_);intro v' w4 hown4 hgrow4 _ hat4;obtain⟨A4,c4,rfl⟩:=slice_of_row hown4;have HROW4:Hid (w4.ownsRow (w.heap.size+1) 93 6 (.slice A4 (k+1) c4) (k+1) ((f.take (k+1)).flatMap Nd.cells)):=Qq (by rw [<-HTK.out];exact hown4);have HBK4:=Qq (box_grown HBK.out HNE.out (Qz.alloc _) hgrow4);have HX4:=Qq ((Ext.alloc hext _).grown hgrow4 (fun g hg=>by have:=(HROW.out.lt g hg).1;omega))
     clear hown4 hgrow4 hat4;go_wp2_with fail;go_roundw
     case rel=>exact⟨k+1,by omega,by go_num,HROW4,HBK4,HX4.out⟩
     case measure=>simp [intOf];omega
    obtain rfl:f.length=k:=by omega
    rw [List.take_of_length_le (Nat.le_refl _)]at HROW;have HRW0:Hid (wr.ownsRow (w.heap.size+1) 93 6 (.slice A5 f.length c5) (f.length+0) ((f++(g.take 0).map (shiftN f.length)).flatMap Nd.cells)):=Qq (by simpa using HROW.out);have HEXT:=Qq hext;clear HROW HNE hext;obtain⟨wq,hwq⟩:∃wq:World,wq=wr:=⟨_,rfl⟩;rw [<-hwq]at HRW0 HBK HEXT⊢;clear hwq;go_wp2_with fail;go_loopw [7,9] (fun v5 i5 wr=>∃j:Nat,j<=g.length/\i5=.int .i64 j/\Hid (wr.ownsRow (w.heap.size+1) 93 6 v5 (f.length+j) ((f++(g.take j).map (shiftN f.length)).flatMap Nd.cells))/\Hid (wr.heap[w.heap.size]?=some (.cells #[.int .i64 o,.int .i64 i,.int .i64 e,.int .i64 k0,.int .i64 p,.int .i64 q] 93 (0,0)))/\Ext w wr) (fun _ i _=>g.length - (intOf i).toNat)
    case atStart=>exact⟨0,Nat.zero_le _,rfl,HRW0,HBK,HEXT.out⟩
    case round =>
     obtain⟨j,hj,rfl,HROW2,HBK2,hext⟩:=hrel;obtain⟨A6,c6,rfl⟩:=slice_of_row HROW2.out;have HNE:=Qq (row_ne HROW2.out);by_cases hlt2:j < g.length
     ·obtain⟨a,ha⟩:∃a,g[j]?=some a:=⟨_,Qv hlt2⟩;obtain⟨adc,rfl,hbc,hcc2⟩:=HREAD2.out (by intro e;rw [e]at hlt2;simp at hlt2);obtain⟨a0,a1,a2,a3,a4,a5⟩:=(hcc2 j a ha).keep fun p hp=>hext.cell (p:=p) (by rw [hp,block_of_add];exact hbc)
      obtain⟨xs,hxs⟩:∃xs,xs=(f++(g.take j).map (shiftN f.length)).flatMap Nd.cells:=⟨_,rfl⟩;rw [<-hxs]at HROW2;have HXS:=Qq hxs;clear hxs;have hxy:=HWG.out j a ha;have HTK:=Qq (take_succ_eq ha);have hc3:f.length+j+1<=maxLen:=by unfold maxLen;omega
      have hc4:(f.length+j+1)*48<=140737488355328:=by omega
      have hxb:hasX a.op=true->0<=a.x/\a.x < 200:=fun e=>by have:=hxy.1 e;omega
      have hyb:hasY a.op=true->0<=a.y/\a.y < 200:=fun e=>by have:=hxy.2 e;omega
      have HZ:=Qq hext.size;clear hcc2 hxy ha;rcases xy_cases a.op with⟨hux,huy⟩|⟨hux,huy⟩|⟨hux,huy⟩
      ·
       have HUX:=Qq hux;have HUY:=Qq huy
       have HN2:Hid (xs++ [.int .i64 a.op,.int .i64 a.i,.int .i64 a.e,.int .i64 a.g,.int .i64 (a.x),.int .i64 (a.y)]=(f++(g.take (j+1)).map (shiftN f.length)).flatMap Nd.cells):=
        Qq (by rw [HXS.out,HTK.out,List.map_append,<-List.append_assoc,List.flatMap_append];simp [shiftN,hux,huy,Nd.cells])
       clear hux huy hxb hyb;go_wp2_with(first|(go_at_call 89;refine(usesX_as HUX.out _).mono ?_;rintro e1 w5 ⟨rfl,rfl⟩)|(go_at_call 90;refine(usesY_as HUY.out _).mono ?_;rintro e1 w5 ⟨rfl,rfl⟩)|(at_builtin;refine wpList_append_own_at _ rfl _ _ 22 rfl (w.heap.size+1) 93 i0 Nd.zero.val 6 48 Tryz.underlying22 hi0 hz0' hz1' hz2' rfl (by decide) _ _ _ rfl (row_ext HROW2.out ?hx) _ 1 1 [.int .i64 a.op,.int .i64 a.i,.int .i64 a.e,.int .i64 a.g,.int .i64 (a.x),.int .i64 (a.y)] rfl rfl ?c1 ?c2 hc3 hc4 ?c5 ?_))
       case hx=>repeat(first|exact Qz|apply Ext.alloc|apply Ext.drew|refine Ext.setCell ?_ (Nat.le_refl _) _)
       case c1=>exact row_new_at _ _ _ (by simp)
       case c2 =>
        intro u hu;simp only [List.mem_cons,List.mem_nil_iff,or_false]at hu;rcases hu with rfl|rfl|rfl|rfl|rfl|rfl <;> rfl
       case c5 =>
        have h1:=HZ.out;simp;omega
       intro v' w4 hown4 hgrow4 _ hat4;obtain⟨A4,c4,rfl⟩:=slice_of_row hown4;have HROW4:Hid (w4.ownsRow (w.heap.size+1) 93 6 (.slice A4 (f.length+j+1) c4) (f.length+(j+1)) ((f++(g.take (j+1)).map (shiftN f.length)).flatMap Nd.cells)):=Qq (by rw [<-HN2.out];exact hown4);have HBK4:=Qq (box_grown HBK2.out HNE.out (by repeat(first|exact Qz|apply Ext.alloc|apply Ext.drew|refine Ext.setCell ?_ (Nat.le_refl _) _)) hgrow4);have HX4:=Qq (Ext.grown (a:=w) (by repeat(first|exact hext|apply Ext.alloc|apply Ext.drew|refine Ext.setCell ?_ HZ.out _)) hgrow4 (fun g hg=>by have:=(HROW2.out.lt g hg).1;omega));clear hown4 hgrow4 hat4
       go_wp2_with fail;go_roundw
       case rel=>exact⟨j+1,by omega,by go_num,HROW4,HBK4,HX4.out⟩
       case measure=>simp [intOf];omega
      ·
       obtain⟨bx0,bx1⟩:=hxb hux;have HUX:=Qq hux;have HUY:=Qq huy
       have HN2:Hid (xs++ [.int .i64 a.op,.int .i64 a.i,.int .i64 a.e,.int .i64 a.g,.int .i64 (a.x+(f.length:Int)),.int .i64 (a.y)]=(f++(g.take (j+1)).map (shiftN f.length)).flatMap Nd.cells):=
        Qq (by rw [HXS.out,HTK.out,List.map_append,<-List.append_assoc,List.flatMap_append];simp [shiftN,hux,huy,Nd.cells])
       clear hux huy hxb hyb;go_wp2_with(first|(go_at_call 89;refine(usesX_as HUX.out _).mono ?_;rintro e1 w5 ⟨rfl,rfl⟩)|(go_at_call 90;refine(usesY_as HUY.out _).mono ?_;rintro e1 w5 ⟨rfl,rfl⟩)|(at_builtin;refine wpList_append_own_at _ rfl _ _ 22 rfl (w.heap.size+1) 93 i0 Nd.zero.val 6 48 Tryz.underlying22 hi0 hz0' hz1' hz2' rfl (by decide) _ _ _ rfl (row_ext HROW2.out ?hx) _ 1 1 [.int .i64 a.op,.int .i64 a.i,.int .i64 a.e,.int .i64 a.g,.int .i64 (a.x+(f.length:Int)),.int .i64 (a.y)] rfl rfl ?c1 ?c2 hc3 hc4 ?c5 ?_))
       case hx=>repeat(first|exact Qz|apply Ext.alloc|apply Ext.drew|refine Ext.setCell ?_ (Nat.le_refl _) _)
       case c1=>exact row_new_at _ _ _ (by simp)
       case c2 =>
        intro u hu;simp only [List.mem_cons,List.mem_nil_iff,or_false]at hu;rcases hu with rfl|rfl|rfl|rfl|rfl|rfl <;> rfl
       case c5 =>
        have h1:=HZ.out;simp;omega
       intro v' w4 hown4 hgrow4 _ hat4;obtain⟨A4,c4,rfl⟩:=slice_of_row hown4;have HROW4:Hid (w4.ownsRow (w.heap.size+1) 93 6 (.slice A4 (f.length+j+1) c4) (f.length+(j+1)) ((f++(g.take (j+1)).map (shiftN f.length)).flatMap Nd.cells)):=Qq (by rw [<-HN2.out];exact hown4);have HBK4:=Qq (box_grown HBK2.out HNE.out (by repeat(first|exact Qz|apply Ext.alloc|apply Ext.drew|refine Ext.setCell ?_ (Nat.le_refl _) _)) hgrow4);have HX4:=Qq (Ext.grown (a:=w) (by repeat(first|exact hext|apply Ext.alloc|apply Ext.drew|refine Ext.setCell ?_ HZ.out _)) hgrow4 (fun g hg=>by have:=(HROW2.out.lt g hg).1;omega));clear hown4 hgrow4 hat4
       go_wp2_with fail;go_roundw
       case rel=>exact⟨j+1,by omega,by go_num,HROW4,HBK4,HX4.out⟩
       case measure=>simp [intOf];omega
      
      obtain⟨bx0,bx1⟩:=hxb hux;obtain⟨by0,by1⟩:=hyb huy;have HUX:=Qq hux;have HUY:=Qq huy
      have HN2:Hid (xs++ [.int .i64 a.op,.int .i64 a.i,.int .i64 a.e,.int .i64 a.g,.int .i64 (a.x+(f.length:Int)),.int .i64 (a.y+(f.length:Int))]=(f++(g.take (j+1)).map (shiftN f.length)).flatMap Nd.cells):=
       Qq (by rw [HXS.out,HTK.out,List.map_append,<-List.append_assoc,List.flatMap_append];simp [shiftN,hux,huy,Nd.cells])
      clear hux huy hxb hyb;go_wp2_with(first|(go_at_call 89;refine(usesX_as HUX.out _).mono ?_;rintro e1 w5 ⟨rfl,rfl⟩)|(go_at_call 90;refine(usesY_as HUY.out _).mono ?_;rintro e1 w5 ⟨rfl,rfl⟩)|(at_builtin;refine wpList_append_own_at _ rfl _ _ 22 rfl (w.heap.size+1) 93 i0 Nd.zero.val 6 48 Tryz.underlying22 hi0 hz0' hz1' hz2' rfl (by decide) _ _ _ rfl (row_ext HROW2.out ?hx) _ 1 1 [.int .i64 a.op,.int .i64 a.i,.int .i64 a.e,.int .i64 a.g,.int .i64 (a.x+(f.length:Int)),.int .i64 (a.y+(f.length:Int))] rfl rfl ?c1 ?c2 hc3 hc4 ?c5 ?_))
      case hx=>repeat(first|exact Qz|apply Ext.alloc|apply Ext.drew|refine Ext.setCell ?_ (Nat.le_refl _) _)
      case c1=>exact row_new_at _ _ _ (by simp)
      case c2 =>
       intro u hu;simp only [List.mem_cons,List.mem_nil_iff,or_false]at hu;rcases hu with rfl|rfl|rfl|rfl|rfl|rfl <;> rfl
      case c5 =>
       have h1:=HZ.out;simp;omega
      intro v' w4 hown4 hgrow4 _ hat4;obtain⟨A4,c4,rfl⟩:=slice_of_row hown4;have HROW4:Hid (w4.ownsRow (w.heap.size+1) 93 6 (.slice A4 (f.length+j+1) c4) (f.length+(j+1)) ((f++(g.take (j+1)).map (shiftN f.length)).flatMap Nd.cells)):=Qq (by rw [<-HN2.out];exact hown4);have HBK4:=Qq (box_grown HBK2.out HNE.out (by repeat(first|exact Qz|apply Ext.alloc|apply Ext.drew|refine Ext.setCell ?_ (Nat.le_refl _) _)) hgrow4);have HX4:=Qq (Ext.grown (a:=w) (by repeat(first|exact hext|apply Ext.alloc|apply Ext.drew|refine Ext.setCell ?_ HZ.out _)) hgrow4 (fun g hg=>by have:=(HROW2.out.lt g hg).1;omega));clear hown4 hgrow4 hat4
      go_wp2_with fail;go_roundw
      case rel=>exact⟨j+1,by omega,by go_num,HROW4,HBK4,HX4.out⟩
      case measure=>simp [intOf];omega
     obtain rfl:g.length=j:=by omega
     rw [List.take_of_length_le (Nat.le_refl _)]at HROW2;obtain⟨⟨d0,d1,d2,d3,d4,d5⟩,dfr,dlt⟩:=cells6 HBK2.out;have hfz4:=dfr 4;have hfz5:=dfr 5;obtain⟨F,hF⟩:∃F,F=f++g.map (shiftN f.length):=⟨_,rfl⟩;have HFL:Hid (F.length=f.length+g.length):=Qq (by rw [hF];simp);obtain⟨m,hm⟩:∃m:Nd,m=⟨o,i,e,k0,(f.length:Int) - 1,(f.length:Int)+g.length - 1⟩:=⟨_,rfl⟩;have HMX:=Qq (show m.cells= [.int .i64 o,.int .i64 i,.int .i64 e,.int .i64 k0,.int .i64 ((f.length:Int) - 1),.int .i64 ((f.length:Int)+g.length - 1)] by rw [hm];rfl);have HMO:Hid (m.ok):=Qq (by obtain⟨x1,x2,x3,x4,x5,x6⟩:=HXO.out;rw [hm];exact⟨x1,x2,x3,x4,⟨by show(-9223372036854775808:Int)<=(f.length:Int) - 1;omega,by show(f.length:Int) - 1<=9223372036854775807;omega⟩,⟨by show(-9223372036854775808:Int)<=(f.length:Int)+g.length - 1;omega,by show(f.length:Int)+g.length - 1<=9223372036854775807;omega⟩⟩)
     have HOKF:Hid (∀n∈F,n.ok):=Qq (fun n hn=>by
      rw [hF]at hn;rcases List.mem_append.1 hn with hn|hn
      ·exact H.out.2 n hn
      obtain⟨n',hn',rfl⟩:=List.mem_map.1 hn;obtain⟨kk,hkk⟩:=List.getElem?_of_mem hn';obtain⟨x1,x2,x3,x4,x5,x6⟩:=HG.out.2 n' hn';have hlk:=(List.getElem?_eq_some_iff.1 hkk).1;have hxy:=HWG.out kk n' hkk;refine⟨x1,x2,x3,x4,?_,?_⟩
      ·show i64ok (bif hasX n'.op then n'.x+f.length else n'.x);cases hh:hasX n'.op
       ·exact x5
       have:=hxy.1 hh;exact⟨by show(-9223372036854775808:Int)<=n'.x+f.length;omega,by show n'.x+f.length<=(9223372036854775807:Int);omega⟩
      show i64ok (bif hasY n'.op then n'.y+f.length else n'.y);cases hh:hasY n'.op
      ·exact x6
      have:=hxy.2 hh;exact⟨by show(-9223372036854775808:Int)<=n'.y+f.length;omega,by show n'.y+f.length<=(9223372036854775807:Int);omega⟩)
     have HU:Hid (nodeErr m ((f.length:Int)+g.length)=0/\Wf (F++ [m])/\shortN (F++ [m])=buildN ⟨o,i,e,k0,p,q⟩ [f,g]):=Qq (by rw [hm,hF];exact HUN.out);rw [<-hF]at HROW2;obtain⟨xs,hxs⟩:∃xs,xs=F.flatMap Nd.cells:=⟨_,rfl⟩;rw [<-hxs]at HROW2;have HXS:=Qq hxs;have HN0:=Qq HUN.out.1;clear hxs hm hF HUN;have hc3:f.length+g.length+1<=maxLen:=by unfold maxLen;omega
     have hc4:(f.length+g.length+1)*48<=140737488355328:=by omega
     go_wp2_with fail;refine(refNode_any ⟨o,i,e,k0,(f.length:Int) - 1,(f.length:Int)+g.length - 1⟩ _ _).mono ?_;rintro e1 w3 ⟨rfl,hb⟩;rw [HN0.out];have HX3:=Qq (Ext.trans (Ext.setCell (Ext.setCell hext (p:=⟨w.heap.size,4,none⟩) (Nat.le_refl _) (.int .i64 ((f.length:Int) - 1))) (p:=⟨w.heap.size,5,none⟩) (Nat.le_refl _) (.int .i64 ((f.length:Int)+g.length - 1))) hb);have HBX3:Hid (w3.heap[w.heap.size]?=some (.cells #[.int .i64 o,.int .i64 i,.int .i64 e,.int .i64 k0,.int .i64 ((f.length:Int) - 1),.int .i64 ((f.length:Int)+g.length - 1)] 93 (0,0))):=Qq ((hb.block (by simp [World.setCell];exact dlt)).trans (by simp only [World.setCell,Array.getElem?_modify,HBK2.out,if_true,Option.map_some];simp))
     have HROW3:=Qq (row_ext (ownsRow_setCell_other (a:=⟨w.heap.size,5,none⟩) (ownsRow_setCell_other (a:=⟨w.heap.size,4,none⟩) HROW2.out HNE.out (.int .i64 ((f.length:Int) - 1))) HNE.out (.int .i64 ((f.length:Int)+g.length - 1))) hb);have hc5:∀X,w.heap.size+1<=(w3.alloc X).heap.size:=fun X=>by have:=HX3.out.size;simp;omega
     clear hb d0 d1 d2 d3 d4 d5 dfr dlt hfz4 hfz5;obtain⟨⟨d0,d1,d2,d3,d4,d5⟩,dfr,dlt⟩:=cells6 HBX3.out;go_wp2_with(at_builtin;refine wpList_append_own_at _ rfl _ _ 22 rfl (w.heap.size+1) 93 i0 Nd.zero.val 6 48 Tryz.underlying22 hi0 hz0' hz1' hz2' rfl (by decide) _ _ _ rfl (row_ext HROW3.out (Qz.alloc _)) _ 1 1 [.int .i64 o,.int .i64 i,.int .i64 e,.int .i64 k0,.int .i64 ((f.length:Int) - 1),.int .i64 ((f.length:Int)+g.length - 1)] rfl rfl (row_new_at _ _ _ rfl) (by rw [<-HMX.out];exact node_cells m) hc3 hc4 (hc5 _) ?_);intro v' w4 hown4 hgrow4 _ hat4;have HROW4:Hid (w4.ownsRow (w.heap.size+1) 93 6 v' (F++ [m]).length ((F++ [m]).flatMap Nd.cells)):=Qq (by rw [HXS.out,<-HMX.out,<-HFL.out]at hown4;simpa using hown4)
     have HX4:=Qq ((Ext.alloc HX3.out _).grown hgrow4 (fun g hg=>by have:=(HROW3.out.lt g hg).1;omega));obtain⟨A4,c4,rfl⟩:=slice_of_row hown4;have HFM:Hid (Fml w4 (.slice A4 (f.length+g.length+1) c4) (F++ [m])):=Qq ⟨nds_of_row HROW4.out,fun n hn=>by
      rcases List.mem_append.1 hn with hn|hn
      ·exact HOKF.out n hn
      rw [List.mem_singleton.1 hn];exact HMO.out⟩
     clear hown4 hgrow4 hat4;go_wp2_with fail;refine(short_any _ (F++ [m]) _ HFM.out HU.out.2.1 (by simp) (by have:=HFL.out;simp;omega)).mono ?_;rintro e1 w5 ⟨u5,rfl,hm5⟩;rw [HU.out.2.2]at hm5;have HM5:=Qq (hm5.before HX4.out);obtain⟨A8,c8,rfl⟩:=slice_of_row hm5.1;clear hm5;go_wp2_with fail;go_ret;exact⟨_,rfl,HM5.out⟩
  have HC:=Qq hc;have HB0:=Qq (build_bad2 (n:=x) (f:=f) (.inr hcg));have hcb:(check g !=0)=true:=by simpa using hcg
  obtain⟨o,i,e,k0,p,q⟩:=x;unfold Nd.val;clear hc hcg hx hxo h1 h2;go_enter Tryz.func67,Tryz.ntmps67;go_wp2_with fail;refine(refCheck_any _ f _ (H.out.1.ext (Qz.alloc _))).mono ?_;rintro e1 w1 ⟨rfl,hb⟩;rw [HC.out];have HX1:=Qq (Ext.trans ((Ext.refl w).alloc _) hb);clear hb;go_wp2_with fail;refine(refCheck_any _ g _ (HG.out.1.ext HX1.out)).mono ?_;rintro e1 w2 ⟨rfl,hb⟩;have HX2:=Qq (Ext.trans HX1.out hb);clear hb;go_wp2_with fail;go_ret;exact⟨_,rfl,by rw [HB0.out];exact(Made.none_ _).after HX2.out⟩
 have HB0:=Qq (build_bad2 (n:=x) (g:=g) (.inl hc));have hcb:(check f !=0)=true:=by simpa using hc
 obtain⟨o,i,e,k0,p,q⟩:=x;unfold Nd.val;clear hc hx hxo h1 h2;go_enter Tryz.func67,Tryz.ntmps67;go_wp2_with fail;refine(refCheck_any _ f _ (H.out.1.ext (Qz.alloc _))).mono ?_;rintro e1 w1 ⟨rfl,hb⟩;have HX1:=Qq (Ext.trans ((Ext.refl w).alloc _) hb);clear hb;go_wp2_with fail;go_ret;exact⟨_,rfl,by rw [HB0.out];exact(Made.none_ _).after HX1.out⟩
theorem okn(k i g:Int)(h0:0<=k)(h1:k<=1000)(hi:i64ok i)(hg:i64ok g):(⟨k,i,0,g,0,0⟩:Nd).ok:=small_ok (i64_small h0 h1) hi (i64_small (by omega) (by omega)) hg (i64_small (by omega) (by omega)) (i64_small (by omega) (by omega))
theorem ok_z:i64ok 0:=i64_small (by omega) (by omega)
theorem rTrue_any(w:World):
 Calls Tryz.prog 28 #[] w fun e w'=>∃u,e=.returned u/\Made w w' u (trueN):=by
 go_enter Tryz.func28,Tryz.ntmps28;go_wp2_with fail;refine(one_any ⟨1,0,0,0,0,0⟩ _ (head0 1 (by omega)) (okn 1 0 0 (by omega) (by omega) ok_z ok_z) rfl rfl).mono ?_;rintro e w1 ⟨u,rfl,hm⟩;rw [<-true_list]at hm;have HM:=Qq hm;clear hm;go_wp2_with fail;go_ret;exact⟨_,rfl,HM.out⟩
theorem rFact_any(a:Int)(ha:i64ok a)(hh:headOk ⟨3,a,0,0,0,0⟩)(w:World):
 Calls Tryz.prog 22 #[.int .i64 a] w fun e w'=>∃u,e=.returned u/\Made w w' u (factN a):=by
 have HH:=Qq hh;have HA:=Qq ha;clear hh ha;go_enter Tryz.func22,Tryz.ntmps22;go_wp2_with fail;refine(one_any ⟨3,a,0,0,0,0⟩ _ HH.out (okn 3 a 0 (by omega) (by omega) HA.out ok_z) rfl rfl).mono ?_;rintro e w1 ⟨u,rfl,hm⟩;rw [show [(⟨3,a,0,0,0,0⟩:Nd)]=factN a from((build_zero (n:=⟨3,a,0,0,0,0⟩) rfl rfl HH.out).2).symm]at hm;have HM:=Qq hm;clear hm;go_wp2_with fail;go_ret;exact⟨_,rfl,HM.out⟩
theorem rNot_any(v:Value)(f:List Nd)(w:World)(h:Fml w v f):
 Calls Tryz.prog 26 #[v] w fun e w'=>∃u,e=.returned u/\Made w w' u (notN f):=by
 have H:=Qq h;obtain⟨A1,c1,rfl,_⟩:=fml_slice h;clear h;go_enter Tryz.func26,Tryz.ntmps26;go_wp2_with fail;refine(unary_any ⟨4,0,0,0,0,0⟩ _ f _ (head0 4 (by omega)) (okn 4 0 0 (by omega) (by omega) ok_z ok_z) rfl rfl H.out).mono ?_;rintro e w1 ⟨u,rfl,hm⟩;have HM:=Qq hm;clear hm;go_wp2_with fail;go_ret;exact⟨_,rfl,HM.out⟩
theorem rKnow_any(a:Int)(ha:i64ok a)(hh:headOk ⟨9,a,0,0,0,0⟩)(v:Value)(f:List Nd)(w:World)(h:Fml w v f):
 Calls Tryz.prog 24 #[.int .i64 a,v] w fun e w'=>∃u,e=.returned u/\Made w w' u (knowN a f):=by
 have H:=Qq h;have HH:=Qq hh;have HA:=Qq ha;clear hh ha;obtain⟨A1,c1,rfl,_⟩:=fml_slice h;clear h;go_enter Tryz.func24,Tryz.ntmps24;go_wp2_with fail;refine(unary_any ⟨9,a,0,0,0,0⟩ _ f _ HH.out (okn 9 a 0 (by omega) (by omega) HA.out ok_z) rfl rfl H.out).mono ?_;rintro e w1 ⟨u,rfl,hm⟩;have HM:=Qq hm;clear hm;go_wp2_with fail;go_ret;exact⟨_,rfl,HM.out⟩
theorem rAnd_any(v1 v2:Value)(f g:List Nd)(w:World)(h1:Fml w v1 f)(h2:Fml w v2 g):
 Calls Tryz.prog 25 #[v1,v2] w fun e w'=>∃u,e=.returned u/\Made w w' u (andN f g):=by
 have H1:=Qq h1;have H2:=Qq h2;obtain⟨A1,c1,rfl,_⟩:=fml_slice h1;obtain⟨A2,c2,rfl,_⟩:=fml_slice h2;clear h1 h2;go_enter Tryz.func25,Tryz.ntmps25;go_wp2_with fail;refine(binary_any ⟨5,0,0,0,0,0⟩ _ _ f g _ (head0 5 (by omega)) (okn 5 0 0 (by omega) (by omega) ok_z ok_z) rfl rfl H1.out H2.out).mono ?_;rintro e w1 ⟨u,rfl,hm⟩;have HM:=Qq hm;clear hm;go_wp2_with fail;go_ret;exact⟨_,rfl,HM.out⟩
theorem rImp_any(v1 v2:Value)(f g:List Nd)(w:World)(h1:Fml w v1 f)(h2:Fml w v2 g):
 Calls Tryz.prog 108 #[v1,v2] w fun e w'=>∃u,e=.returned u/\Made w w' u (impN f g):=by
 have H1:=Qq h1;have H2:=Qq h2;obtain⟨A1,c1,rfl,_⟩:=fml_slice h1;obtain⟨A2,c2,rfl,_⟩:=fml_slice h2;clear h1 h2;go_enter Tryz.func108,Tryz.ntmps108;go_wp2_with fail;refine(binary_any ⟨7,0,0,0,0,0⟩ _ _ f g _ (head_78 7 (by omega)) (okn 7 0 0 (by omega) (by omega) ok_z ok_z) rfl rfl H1.out H2.out).mono ?_;rintro e w1 ⟨u,rfl,hm⟩;have HM:=Qq hm;clear hm;go_wp2_with fail;go_ret;exact⟨_,rfl,HM.out⟩
theorem rCommon_any(a:Int)(ha:i64ok a)(hh:headOk ⟨13,0,0,a,0,0⟩)(v1 v2:Value)(f g:List Nd)(w:World)(h1:Fml w v1 f)(h2:Fml w v2 g):
 Calls Tryz.prog 27 #[.int .i64 a,v1,v2] w fun e w'=>∃u,e=.returned u/\Made w w' u (commonN a f g):=by
 have H1:=Qq h1;have H2:=Qq h2;have HH:=Qq hh;have HA:=Qq ha;clear hh ha;obtain⟨A1,c1,rfl,_⟩:=fml_slice h1;obtain⟨A2,c2,rfl,_⟩:=fml_slice h2;clear h1 h2;go_enter Tryz.func27,Tryz.ntmps27;go_wp2_with fail;refine(binary_any ⟨13,0,0,a,0,0⟩ _ _ f g _ HH.out (okn 13 0 a (by omega) (by omega) ok_z HA.out) rfl rfl H1.out H2.out).mono ?_;rintro e w1 ⟨u,rfl,hm⟩;have HM:=Qq hm;clear hm;go_wp2_with fail;go_ret;exact⟨_,rfl,HM.out⟩
theorem rebuild_any(x:Nd)(v1 v2:Value)(f g:List Nd)(w:World)(hx:headOk x)(hxo:x.ok)(h1:Fml w v1 f)(h2:Fml w v2 g):
 Calls Tryz.prog 106 #[x.val,v1,v2] w fun e w'=>∃u,e=.returned u/\Made w w' u (rebuildN x f g):=by
 have H1:=Qq h1;have H2:=Qq h2;obtain⟨A1,c1,rfl,_⟩:=fml_slice h1;obtain⟨A2,c2,rfl,_⟩:=fml_slice h2;have HX:=Qq (head_zero hx);have HXO:Hid (({ x with x:=0,y:=0 } :Nd).ok):=Qq (by obtain⟨x1,x2,x3,x4,x5,x6⟩:=hxo;exact⟨x1,x2,x3,x4,i64_small (a:=0) (by omega) (by omega),i64_small (a:=0) (by omega) (by omega)⟩);have HCS:=Qq (xy_cases x.op);clear h1 h2 hx hxo;obtain⟨o,i,e,k0,p,q⟩:=x;unfold Nd.val;have X0:Hid (Ext w (w.alloc (.cells #[.int .i64 o,.int .i64 i,.int .i64 e,.int .i64 k0,.int .i64 0,.int .i64 0] 93))):=Qq (Qz.alloc _);rcases HCS.out with⟨hux,huy⟩|⟨hux,huy⟩|⟨hux,huy⟩
 ·have HUX:=Qq hux;have HUY:=Qq huy;have HE:Hid (rebuildN ⟨o,i,e,k0,p,q⟩ f g= [⟨o,i,e,k0,0,0⟩]):=Qq (by unfold rebuildN;simp only [hux,huy];rfl);clear hux huy HCS;go_enter Tryz.func106,Tryz.ntmps106;go_wp2_with(first|(go_at_call 89;refine(usesX_as HUX.out _).mono ?_;rintro e1 w5 ⟨rfl,rfl⟩)|(go_at_call 90;refine(usesY_as HUY.out _).mono ?_;rintro e1 w5 ⟨rfl,rfl⟩));refine(one_any ⟨o,i,e,k0,0,0⟩ _ HX.out HXO.out HUX.out HUY.out).mono ?_;rintro e1 w1 ⟨u,rfl,hm⟩;have HM:=Qq (hm.before X0.out);clear hm;go_wp2_with fail;go_ret;rw [HE.out];exact⟨_,rfl,HM.out⟩
 ·have HUX:=Qq hux;have HUY:=Qq huy;have HE:Hid (rebuildN ⟨o,i,e,k0,p,q⟩ f g=buildN ⟨o,i,e,k0,0,0⟩ [f]):=Qq (by unfold rebuildN;simp only [hux,huy];rfl);clear hux huy HCS;go_enter Tryz.func106,Tryz.ntmps106;go_wp2_with(first|(go_at_call 89;refine(usesX_as HUX.out _).mono ?_;rintro e1 w5 ⟨rfl,rfl⟩)|(go_at_call 90;refine(usesY_as HUY.out _).mono ?_;rintro e1 w5 ⟨rfl,rfl⟩));refine(unary_any ⟨o,i,e,k0,0,0⟩ _ f _ HX.out HXO.out HUX.out HUY.out (H1.out.ext X0.out)).mono ?_;rintro e1 w1 ⟨u,rfl,hm⟩;have HM:=Qq (hm.before X0.out);clear hm;go_wp2_with fail;go_ret;rw [HE.out];exact⟨_,rfl,HM.out⟩
 have HUX:=Qq hux;have HUY:=Qq huy;have HE:Hid (rebuildN ⟨o,i,e,k0,p,q⟩ f g=buildN ⟨o,i,e,k0,0,0⟩ [f,g]):=Qq (by unfold rebuildN;simp only [hux,huy];rfl);clear hux huy HCS;go_enter Tryz.func106,Tryz.ntmps106;go_wp2_with(first|(go_at_call 89;refine(usesX_as HUX.out _).mono ?_;rintro e1 w5 ⟨rfl,rfl⟩)|(go_at_call 90;refine(usesY_as HUY.out _).mono ?_;rintro e1 w5 ⟨rfl,rfl⟩));refine(binary_any ⟨o,i,e,k0,0,0⟩ _ _ f g _ HX.out HXO.out HUX.out HUY.out (H1.out.ext X0.out) (H2.out.ext X0.out)).mono ?_;rintro e1 w1 ⟨u,rfl,hm⟩;have HM:=Qq (hm.before X0.out);clear hm;go_wp2_with fail;go_ret;rw [HE.out];exact⟨_,rfl,HM.out⟩
theorem shr_mod_two(s k:Nat):(((s:Int) / 2^k).tmod 2==1)=s.testBit k:=by
 rw [shr_nat,testBit_int];generalize s / 2^k=r;rw [show((r:Nat):Int).tmod 2=((r % 2:Nat):Int)from rfl,Bool.eq_iff_iff,beq_iff_eq,beq_iff_eq];omega
theorem addr_same(ad:Addr):ad.add 0=ad:=by unfold Addr.add;rfl
theorem refAll_any(v:Value)(l:List (List Nd))(w:World)(h:Fmls w v l)(hl1:l.length<=1000):
 Calls Tryz.prog 152 #[v] w fun e w'=>∃u,e=.returned u/\Made w w' u (allN l):=by
 have H:=Qq h;obtain⟨A,c,rfl,hcap,hmax,hr⟩:=h;have HR:=Qq hr;clear hr;cases l with
 |nil =>
  go_enter Tryz.func152,Tryz.ntmps152;go_wp2_with fail;refine(rTrue_any _).mono ?_;rintro e w1 ⟨u,rfl,hm⟩;have HM:=Qq hm;clear hm;go_wp2_with fail;go_ret;exact⟨_,rfl,HM.out⟩
 |cons f r =>
  obtain⟨ad,rfl,hb1,hc1⟩:=HR.out (by simp);obtain⟨u0,hu0,hf0⟩:=hc1 0 f rfl;have HC:=Qq hc1;have HF0:=Qq hf0;have hu0':w.cell? ad=some u0:=by rw [<-hu0,addr_same]
  have HX0:=hf0;obtain⟨A0,c0,rfl,_⟩:=fml_slice hf0;clear hc1 hf0 HR H hu0;obtain⟨m,hm⟩:∃m,m=r.length:=⟨_,rfl⟩;rw [show(f :: r).length=m+1 by simp [hm]]at hcap hl1⊢;have HM:=Qq hm;have hl0:(((m+1:Nat):Int)==0)=false:=by rw [beq_eq_false_iff_ne];omega
  have hl4:(((m:Nat):Int)+1==0)=false:=by rw [beq_eq_false_iff_ne];omega
  have hl2:(0:Int) < ((m+1:Nat):Int):=by omega
  clear hm HX0;go_enter Tryz.func152,Tryz.ntmps152;go_wp2_with fail;refine(refCompact_any _ f _ HF0.out).mono ?_;rintro e w1 ⟨u,rfl,hm⟩;have HM1:=Qq hm;clear hm;go_wp2_with fail;go_loopw [3,4] (fun vf vi wr=>∃k:Nat,k<=m/\vi=.int .i64 ((k:Int)+1)/\Hid (Made w wr vf ((r.take k).foldl andN (compactN f)))) (fun _ i _=>m+1 - (intOf i).toNat)
  case atStart=>exact⟨0,Nat.zero_le _,rfl,HM1⟩
  case round =>
   obtain⟨k,hk,rfl,HREL⟩:=hrel;have HX:=Qq HREL.out.ext;have HF:=Qq HREL.out.fml;obtain⟨Af,cf,rfl,_⟩:=fml_slice HREL.out.fml;by_cases hlt2:k < m
   ·obtain⟨s,hs⟩:∃s,r[k]?=some s:=⟨_,List.getElem?_eq_getElem (by rw [<-HM.out];exact hlt2)⟩;obtain⟨us,hus,hfs⟩:=HC.out (k+1) s (drop_get hs);rw [show ad.add (k+1)=⟨ad.block,ad.off+(k+1),none⟩ by simp [Addr.add]]at hus;have a0:=(HX.out.cell (p:=⟨ad.block,ad.off+(k+1),none⟩) hb1).trans hus;have HFS:=Qq (hfs.ext HX.out);have HS:=Qq hs;have hk1:((k:Int)+1) < ((m+1:Nat):Int):=by omega
    have hk2:((k:Int)+1) < (m:Int)+1:=by omega
    have hk3:((k:Int)+1).toNat=k+1:=by omega
    have hk4:(0:Int)<=(k:Int)+1:=by omega
    obtain⟨As,cs,rfl,_⟩:=fml_slice hfs;clear hs hfs hus;go_wp2_with fail;refine(rAnd_any _ _ _ _ _ HF.out HFS.out).mono ?_;rintro e w2 ⟨u2,rfl,hm2⟩;have HM2:=Qq hm2;clear hm2;go_wp2_with fail;go_roundw
    case rel=>exact⟨k+1,by omega,by go_num,Qq (by rw [fold_step HS.out];exact HM2.out.before HX.out)⟩
    case measure=>simp [intOf];omega
   obtain rfl:m=k:=by omega
   have HE:=Qq (show r.take m=r by rw [HM.out];exact List.take_of_length_le (Nat.le_refl _));go_wp2_with fail;go_ret;refine⟨.slice Af ((r.take m).foldl andN (compactN f)).length cf,rfl,?_⟩;have:=HREL.out;rw [HE.out]at this⊢;exact this
theorem headg_know {q:Nat}(hq:q < 4):headOk ⟨9,(q:Int),0,0,0,0⟩:=head_9 (by omega) (by omega)
theorem everybody_any(gn:Nat)(v:Value)(f:List Nd)(w:World)(h:Fml w v f):
 Calls Tryz.prog 107 #[.int .i64 (gn:Int),v] w fun e w'=>∃u,e=.returned u/\Made w w' u (allN (everyL (gn:Int) f)):=by
 have H:=Qq h;obtain⟨iI,hiI,hzI0,hzI1,hzI2⟩:=info_parts tInfoF2;obtain⟨A,c,rfl,_⟩:=fml_slice h;clear h;go_enter Tryz.func107,Tryz.ntmps107;go_wp2_with fail;go_loopw [5,6] (fun vo vi wr=>∃q:Nat,vi=.int .i64 (q:Int)/\q<=4/\Hid (∃ol,ol=((List.range q).filter fun i=>gbit (gn:Int) i).map (fun(i:Nat)=>knowN (i:Int) f)/\FRow w wr vo ol)) (fun _ v _=>4 - (intOf v).toNat)
 case atStart=>exact⟨0,rfl,Nat.zero_le _,Qq ⟨[],rfl,FRow.nil _⟩⟩
 case round =>
  obtain⟨q,rfl,hq,HREL⟩:=hrel;obtain⟨ol,hol',hfr⟩:=HREL.out;obtain⟨us2,hrow2,hus2⟩:=hfr.row;obtain⟨Ao2,co2,rfl⟩:=slice_of_row hrow2;have HOL:=Qq hol';have HFR2:=Qq hfr;have HROW2:=Qq hrow2;have HUS2:=Qq hus2;have holen:ol.length<=4:=by rw [hol'];refine Qx (by rw [List.length_map];exact List.length_filter_le _ _) (by simp;omega)
  clear HREL hol' hfr hrow2 hus2;by_cases hq4:q < 4
  ·have hq1:(q:Int) < 4:=by omega
   have hbt:=shr_mod_two gn q;cases hgb:gn.testBit q
   case true =>
    rw [hgb]at hbt;have HGB:=Qq (show((List.range (q+1)).filter fun i=>gbit (gn:Int) i).map (fun(i:Nat)=>knowN (i:Int) f)=ol++ [knowN (q:Int) f] by rw [List.range_succ,List.filter_append,List.map_append,<-HOL.out,List.filter_cons,show gbit (gn:Int) q=true from hgb];rfl);clear hgb;go_wp2_with fail;refine(rKnow_any (q:Int) ⟨by omega,by omega⟩ (headg_know hq4) _ f _ (H.out.ext HFR2.out.ext)).mono ?_;rintro e w2 ⟨u,rfl,hm⟩;have HM:=Qq hm;have Y1:=Qq hm.ext;obtain⟨Au,cu,rfl,_⟩:=fml_slice hm.fml;clear hm;have hc3:ol.length+1<=maxLen:=by unfold maxLen;omega
    have hc4:(ol.length+1)*24<=140737488355328:=by omega
    go_wp2_with(at_builtin;refine wpList_append_own_at _ rfl _ _ 49 rfl w.heap.size 22 iI (.slice none 0 0) 1 24 Tryz.underlying49 hiI hzI0 hzI1 hzI2 rfl (by decide) _ ol.length us2 rfl (row_ext HROW2.out (Y1.out.alloc _)) ⟨_,0,none⟩ 1 1 [.slice Au (knowN (q:Int) f).length cu] rfl rfl (row_new_at _ _ _ (by simp)) (fun u hu=>by rw [List.mem_singleton.1 hu];rfl) hc3 hc4 (Qx HFR2.out.ext.size (Y1.out.alloc _).size) ?_);intro v7 w7 hown7 hgrow7 _ hat7;have HPS:=Qq (FRow.push (s:=knowN (q:Int) f) ((HFR2.out.ext.trans Y1.out).alloc _) (row_ext HROW2.out (Y1.out.alloc _)) (fun k s hk=>by
     obtain⟨u,a,b,c⟩:=HUS2.out k s hk;exact⟨u,a,b.ext (Y1.out.alloc _),c.ext (Y1.out.alloc _)⟩) hown7 hgrow7 (hat7.imp id (fun e=>e.trans (by simp))) (HM.out.fml.ext (Qz.alloc _)) (made_away (Nat.le_refl _) (row_ext HM.out.1 (Qz.alloc _)) HROW2.out HFR2.out.ext.size))
    obtain⟨A7,c7,rfl⟩:=slice_of_row hown7;clear hown7 hgrow7 hat7;go_wp2_with fail;go_roundw
    case rel=>exact⟨q+1,by go_num,by omega,Qq ⟨_,HGB.out.symm,HPS.out⟩⟩
    case measure=>simp [intOf];omega
   case false =>
    rw [hgb]at hbt;have HGB:=Qq (show((List.range (q+1)).filter fun i=>gbit (gn:Int) i).map (fun(i:Nat)=>knowN (i:Int) f)=ol by rw [List.range_succ,List.filter_append,List.map_append,<-HOL.out,List.filter_cons,show gbit (gn:Int) q=false from hgb];exact List.append_nil _);clear hgb;go_wp2_with fail;go_roundw
    case rel=>exact⟨q+1,by go_num,by omega,Qq ⟨_,HGB.out.symm,HFR2.out⟩⟩
    case measure=>simp [intOf];omega
  obtain rfl:q=4:=by omega
  have HOE:=Qq (show everyL (gn:Int) f=ol from HOL.out.symm);go_wp2_with fail;refine(refAll_any _ ol _ HFR2.out.fmls (by omega)).mono ?_;rintro e w3 ⟨u3,rfl,hm3⟩;have HM3:=Qq hm3;clear hm3;go_wp2_with fail;go_ret;exact⟨_,rfl,by rw [HOE.out];exact HM3.out.before HFR2.out.ext⟩
def langOk(f:List Nd):Bool:=(compactN f).all fun n=> !(decide (11 < n.op)&&n.op !=13)
theorem all_take {l:List Nd} {p:Nd->Bool} {k:Nat} {n:Nd}(hn:l[k]?=some n)(h:∀x∈l.take k,p x=true)(hp:p n=true):∀x∈l.take (k+1),p x=true:=by
 obtain⟨hk,e⟩:=List.getElem?_eq_some_iff.1 hn;rw [List.take_succ_eq_append_getElem hk,e];intro x hx;rcases List.mem_append.1 hx with hx|hx
 ·exact h x hx
 rw [List.mem_singleton.1 hx];exact hp
theorem language_any(v:Value)(f:List Nd)(w:World)(h:Fml w v f)(hc:check f=0):
 Calls Tryz.prog 55 #[v] w fun e w'=>e=.returned (.bool (langOk f))/\Ext w w':=by
 have H:=Qq h;obtain⟨A,c,rfl,_⟩:=fml_slice h;have hlen:(compactN f).length<=200:=Qx (compactN_props hc).2.1 (check_parts hc).2.1;obtain⟨cf,hcf⟩:∃c,c=compactN f:=⟨_,rfl⟩;have HCF:=Qq hcf;have HL:=Qq (show langOk f=cf.all fun n=> !(decide (11 < n.op)&&n.op !=13) by rw [hcf];rfl);rw [<-hcf]at hlen;clear h hcf hc;go_enter Tryz.func55,Tryz.ntmps55;go_wp2_with fail;refine(refCompact_any _ f _ H.out).mono ?_;rintro e w1 ⟨u,rfl,hm⟩;rw [<-HCF.out]at hm;have HM:=Qq hm;obtain⟨A1,c1,rfl,hat⟩:=fml_slice hm.fml;have HAT:=Qq hat;clear hm hat;go_wp2_with fail;go_loopw [8] (fun vi wr=>∃k:Nat,vi=.int .i64 (k:Int)/\k<=cf.length/\Hid (Ext w1 wr/\∀n∈cf.take k,(!(decide (11 < n.op)&&n.op !=13))=true)) (fun v _=>cf.length - (intOf v).toNat)
 case atStart=>exact⟨0,rfl,Nat.zero_le _,Qq ⟨Qz,by simp⟩⟩
 case round =>
  obtain⟨k,rfl,hk,HREL⟩:=hrel;by_cases hlt2:k < cf.length
  ·have hk1:(k:Int) < (cf.length:Int):=by omega
   obtain⟨n,hn⟩:∃n,cf[k]?=some n:=⟨_,Qv hlt2⟩;obtain⟨ad,rfl,hblk,hcells⟩:=HAT.out.2.2 (by intro e;rw [e]at hlt2;simp at hlt2);obtain⟨a0,a1,a2,a3,a4,a5⟩:=(hcells k n hn).keep fun p hp=>HREL.out.1.cell (p:=p) (by rw [hp,block_of_add];exact hblk)
   have HN:=Qq hn;clear hn hcells;by_cases ho:11 < n.op
   ·by_cases h13:n.op=13
    ·have hd:(n.op !=13)=false:=by simp [h13]
     have HP:=Qq (all_take HN.out HREL.out.2 (by rw [hd,Bool.and_false];rfl));clear h13;go_wp2_with fail;go_roundw
     case rel=>exact⟨k+1,by go_num,by omega,Qq ⟨HREL.out.1.alloc _,HP.out⟩⟩
     case measure=>simp [intOf];omega
    have hd:(n.op !=13)=true:=by simpa using h13
    have HP:=Qq (show langOk f=false by
     rw [HL.out,List.all_eq_false];exact⟨n,List.mem_of_getElem? HN.out,by rw [hd,decide_eq_true ho];decide⟩)
    clear h13;go_wp2_with fail;go_ret;exact⟨by rw [HP.out] <;> rfl,HM.out.ext.trans (HREL.out.1.alloc _)⟩
   have HP:=Qq (all_take HN.out HREL.out.2 (by rw [decide_eq_false ho];rfl));go_wp2_with fail;go_roundw
   case rel=>exact⟨k+1,by go_num,by omega,Qq ⟨HREL.out.1.alloc _,HP.out⟩⟩
   case measure=>simp [intOf];omega
  obtain rfl:cf.length=k:=by omega
  have HP:=Qq (show langOk f=true by
   have h1:=HREL.out.2;rw [List.take_of_length_le (Nat.le_refl _)]at h1;rw [HL.out,List.all_eq_true];exact h1)
  go_wp2_with fail;go_ret;exact⟨by rw [HP.out] <;> rfl,HM.out.ext.trans HREL.out.1⟩
theorem refIndex_any(v gv:Value)(l:List (List Nd))(g:List Nd)(w:World)(hl:Fmls w v l)(hg:Fml w gv g):
 Calls Tryz.prog 60 #[v,gv] w fun e w'=>e=.returned (.int .i64 (placeN l g))/\Ext w w':=by
 obtain⟨A,c,rfl,hcap,hmax,hr⟩:=hl;unfold maxLen at hmax;have HR:=Qq hr;have HG:=Qq hg;obtain⟨A2,c2,rfl,_⟩:=fml_slice hg;clear hr hg;go_enter Tryz.func60,Tryz.ntmps60;go_wp2_with fail;go_loopw [9] (fun i wr=>∃k:Nat,k<=l.length/\i=.int .i64 (k:Int)/\Hid (∀t∈l.take k,decide (t=g)=false)/\Hid (Ext w wr)) (fun i _=>l.length - (intOf i).toNat)
 case atStart=>exact⟨0,Nat.zero_le _,rfl,Qq (by simp),Qq Qz⟩
 case round =>
  obtain⟨k,hk,rfl,HNI,HX⟩:=hrel;by_cases hlt2:k < l.length
  ·obtain⟨s,hs⟩:∃s,l[k]?=some s:=⟨_,Qv hlt2⟩;obtain⟨ad,rfl,hb1,hc1⟩:=HR.out (by intro e;rw [e]at hlt2;simp at hlt2);obtain⟨u,hu,hf⟩:=hc1 k s hs;have a0:=(HX.out.cell (p:=ad.add k) (Qj hb1)).trans hu;have HF:=Qq (hf.ext HX.out);have HA:=Qq hs;have hk1:(k:Int) < (l.length:Int):=by omega
   obtain⟨Au,cu,rfl,_⟩:=fml_slice hf;clear hs hc1 hf hu;have HEQ:=Qq (show decide (s=g)=decide (g=s) by rw [decide_eq_decide];exact eq_comm);cases hps:decide (g=s)
   ·have HT:Hid (∀t∈l.take (k+1),decide (t=g)=false):=Qq (by
     rw [take_succ_eq HA.out];intro t ht;rcases List.mem_append.1 ht with ht|ht
     ·exact HNI.out t ht
     rw [List.mem_singleton.1 ht,HEQ.out];exact hps)
    have HPS:=Qq hps;clear hps;go_wp2_with fail;refine(refEqual_any _ _ g s _ (HG.out.ext HX.out).1 HF.out.1).mono ?_;rintro e w1 ⟨rfl,hx⟩;rw [HPS.out];have HX1:=Qq (HX.out.trans hx);clear hx;go_wp2_with fail;go_roundw
    case rel=>exact⟨k+1,by omega,by go_num,HT,HX1⟩
    case measure=>simp [intOf];omega
   have HE:=Qq (show placeN l g=(k:Int) by unfold placeN;rw [findIdx_hit (fun s=>decide (s=g)) l k s HA.out (by rw [HEQ.out];exact hps) HNI.out]);have HPS:=Qq hps;clear hps;go_wp2_with fail;refine(refEqual_any _ _ g s _ (HG.out.ext HX.out).1 HF.out.1).mono ?_;rintro e w1 ⟨rfl,hx⟩;rw [HPS.out];have HX1:=Qq (HX.out.trans hx);clear hx;go_wp2_with fail;go_ret;exact⟨by rw [HE.out] <;> rfl,HX1.out⟩
  obtain rfl:l.length=k:=by omega
  have HE:=Qq (show placeN l g= -1 by
   unfold placeN;rw [findIdx_miss (fun s=>decide (s=g)) l (fun t ht=>HNI.out t (by rw [List.take_of_length_le (Nat.le_refl _)];exact ht))])
  go_wp2_with fail;go_ret;exact⟨by rw [HE.out] <;> rfl,HX.out⟩
theorem range6 {w:World} {b:Nat} {a0 a1 a2 a3 a4 a5:Value} {t:TypeId}(h:w.heap[b]?=some (.cells #[a0,a1,a2,a3,a4,a5] t (0,0))):w.rangeAt b 0 [a0,a1,a2,a3,a4,a5]:=range_of h
theorem rtop_any(v:Value)(f:List Nd)(w:World)(h:Fml w v f)(h0:0 < f.length):
 Calls Tryz.prog 58 #[v] w fun e w'=>e=.returned (lastN f).val/\Ext w w':=by
 obtain⟨⟨A,c,rfl,hcap,hmax,hread⟩,hok⟩:=h;have hlt:f.length - 1 < f.length:=by omega
 have hget:=lastN_get h0;obtain⟨ad,rfl,hblk,hcells⟩:=hread (by intro e;rw [e]at h0;simp at h0);have HR:=hcells _ _ hget;obtain⟨c0,c1,c2,c3,c4,c5⟩:=HR;have hi1:((f.length:Int) - 1) < (f.length:Int):=by omega
 have hi0:(0:Int)<=(f.length:Int) - 1:=by omega
 have e1:((f.length:Int) - 1).toNat=f.length - 1:=by omega
 have i2:((f.length:Int)==0)=false:=beq_eq_false_iff_ne.2 (by omega);have hw:wrap64 ((f.length:Int) - 1)=(f.length:Int) - 1:=by
  unfold maxLen at hmax;unfold wrap64;omega
 have HA:=Qq (show Ext w (w.alloc (.cells #[.int .i64 0,.int .i64 0,.int .i64 0,.int .i64 0,.int .i64 0,.int .i64 0] 93))from Qz.alloc _);have d0:=(HA.out.cell (Qj hblk)).trans c0;have d1:=(HA.out.cell (by show(ad.add _).block < _;rw [block_of_add];exact hblk)).trans c1;have d2:=(HA.out.cell (by show(ad.add _).block < _;rw [block_of_add];exact hblk)).trans c2;have d3:=(HA.out.cell (by show(ad.add _).block < _;rw [block_of_add];exact hblk)).trans c3;have d4:=(HA.out.cell (by show(ad.add _).block < _;rw [block_of_add];exact hblk)).trans c4;have d5:=(HA.out.cell (by show(ad.add _).block < _;rw [block_of_add];exact hblk)).trans c5
 clear hread hok hcells hget c0 c1 c2 c3 c4 c5 hlt;go_enter Tryz.func58,Tryz.ntmps58;go_wp2_with fail
 (try simp only [Exit.inBlock,Exit.then])
 refine bodyPost_ret (results_cell Tryz.results58 _ _ rfl (range6 (heap_alloc_new _ _)) Tryz.underlying93 rfl (by kernel_rfl)) rfl ?_;exact⟨rfl,Qz.alloc _⟩
theorem runfold_any(q:Nat)(hq:q < 4)(v:Value)(f:List Nd)(w:World)(h:Fml w v f)(h0:0 < f.length):
 Calls Tryz.prog 59 #[v,.int .i64 (q:Int)] w fun e w'=>∃u,e=.returned u/\Made w w' u (unfN q f):=by
 have H:=Qq h;obtain⟨A,c,rfl,_⟩:=fml_slice h;clear h;have hx4:∀w1,Sem.run Tryz.prog (Instr.field 93 (.agg #[.int .i64 (lastN f).op,.int .i64 (lastN f).i,.int .i64 (lastN f).e,.int .i64 (lastN f).g,.int .i64 (lastN f).x,.int .i64 (lastN f).y]) 4) w1=.ok (.int .i64 (lastN f).x) w1:=fun _=>rfl
 have hx5:∀w1,Sem.run Tryz.prog (Instr.field 93 (.agg #[.int .i64 (lastN f).op,.int .i64 (lastN f).i,.int .i64 (lastN f).e,.int .i64 (lastN f).g,.int .i64 (lastN f).x,.int .i64 (lastN f).y]) 5) w1=.ok (.int .i64 (lastN f).y) w1:=fun _=>rfl
 go_enter Tryz.func59,Tryz.ntmps59;go_wp2_with fail;refine(rtop_any _ f _ H.out h0).mono ?_;rintro e w1 ⟨rfl,hx1⟩;have HX1:=Qq hx1;have hfe:=hx4 w1;unfold Nd.val;clear hx1;go_wp2_with fail;refine(refSub_any _ f _ _ (H.out.ext HX1.out)).mono ?_;rintro e w2 ⟨ua,rfl,hm2⟩;have HM2:=Qq hm2;obtain⟨Aa,ca,rfl,_⟩:=fml_slice hm2.fml;clear hm2 hfe;go_wp2_with fail;refine(rtop_any _ f _ (H.out.ext (HX1.out.trans HM2.out.ext)) h0).mono ?_;rintro e w3 ⟨rfl,hx3⟩;have HX3:=Qq hx3;have hfe:=hx5 w3;unfold Nd.val;clear hx3;go_wp2_with fail;refine(refSub_any _ f _ _ (H.out.ext (HX1.out.trans (HM2.out.ext.trans HX3.out)))).mono ?_
 rintro e w4 ⟨ub,rfl,hm4⟩;have HM4:=Qq hm4;obtain⟨Ab,cb,rfl,_⟩:=fml_slice hm4.fml;clear hm4 hfe hx4 hx5;go_wp2_with fail;refine(rAnd_any _ _ _ _ _ HM4.out.fml (H.out.ext (HX1.out.trans (HM2.out.ext.trans (HX3.out.trans HM4.out.ext))))).mono ?_;rintro e w5 ⟨u5,rfl,hm5⟩;have HM5:=Qq hm5;obtain⟨A5,c5,rfl,_⟩:=fml_slice hm5.fml;clear hm5;go_wp2_with fail;refine(rImp_any _ _ _ _ _ (HM2.out.fml.ext (HX3.out.trans (HM4.out.ext.trans HM5.out.ext))) HM5.out.fml).mono ?_;rintro e w6 ⟨u6,rfl,hm6⟩;have HM6:=Qq hm6;obtain⟨A6,c6,rfl,_⟩:=fml_slice hm6.fml;clear hm6;go_wp2_with fail;refine(rKnow_any (q:Int) ⟨by omega,by omega⟩ (headg_know hq) _ _ _ HM6.out.fml).mono ?_
 rintro e w7 ⟨u7,rfl,hm7⟩;have HM7:=Qq hm7;clear hm7;go_wp2_with fail;go_ret;exact⟨_,rfl,HM7.out.before (HX1.out.trans (HM2.out.ext.trans (HX3.out.trans (HM4.out.ext.trans (HM5.out.ext.trans HM6.out.ext)))))⟩
theorem refSubs_any(v:Value)(f:List Nd)(w:World)(h:Fml w v f)(hc:check f=0):
 Calls Tryz.prog 57 #[v] w fun e w'=>∃u,e=.returned u/\FRow w w' u (subsN f):=by
 have H:=Qq h;obtain⟨iI,hiI,hzI0,hzI1,hzI2⟩:=info_parts tInfoF2;obtain⟨A,c,rfl,_⟩:=fml_slice h;have hp:=compactN_props hc;obtain⟨base,hbase⟩:∃b,b=compactN f:=⟨_,rfl⟩;have hcb:check base=0:=hbase▸compactN_check hc;have hlen:base.length<=200:=hbase▸Qx hp.2.1 (check_parts hc).2.1;have HB:=Qq (show subsN f=formulasN base by rw [hbase];rfl);have HBB:=Qq hbase;clear h hp hbase hcb hc;go_enter Tryz.func57,Tryz.ntmps57;go_wp2_with fail;refine(refCompact_any _ f _ H.out).mono ?_;rintro e w0 ⟨uc,rfl,hm0⟩;rw [<-HBB.out]at hm0;have HM0:=Qq hm0;obtain⟨Ac,cc,rfl,_⟩:=fml_slice hm0.fml;clear hm0;go_wp2_with fail
 go_loopw [4,5] (fun vo vi wr=>∃k:Nat,vi=.int .i64 (k:Int)/\k<=base.length/\Hid (∃out,out=(List.range k).map (fun(i:Nat)=>subN base i)/\FRow w0 wr vo out)) (fun _ v _=>base.length - (intOf v).toNat)
 case atStart=>exact⟨0,rfl,Nat.zero_le _,Qq ⟨[],rfl,FRow.nil _⟩⟩
 case round =>
  obtain⟨k,rfl,hk,HREL⟩:=hrel;obtain⟨out,ho,hfr⟩:=HREL.out;obtain⟨us,hrow,hus⟩:=hfr.row;obtain⟨Ao,co,rfl⟩:=slice_of_row hrow;have HO:=Qq ho;have HFR:=Qq hfr;have HROW:=Qq hrow;have HUS:=Qq hus;have hol:out.length<=1000:=by rw [ho];simp;omega
  clear HREL ho hfr hrow hus;by_cases hlt2:k < base.length
  ·have hk1:(k:Int) < (base.length:Int):=by omega
   have hc3:out.length+1<=maxLen:=by unfold maxLen;omega
   have hc4:(out.length+1)*24<=140737488355328:=by omega
   go_wp2_with fail;refine(refSub_any _ base (k:Int) _ (HM0.out.fml.ext HFR.out.ext)).mono ?_;rintro e w1 ⟨u,rfl,hm⟩;have X1:=Qq (HFR.out.ext.trans hm.ext);have Y1:=Qq hm.ext;have HM:=Qq hm;obtain⟨Au,cu,rfl,_⟩:=fml_slice hm.fml;clear hm;go_wp2_with(at_builtin;refine wpList_append_own_at _ rfl _ _ 49 rfl w0.heap.size 22 iI (.slice none 0 0) 1 24 Tryz.underlying49 hiI hzI0 hzI1 hzI2 rfl (by decide) _ out.length us rfl (row_ext HROW.out (Y1.out.alloc _)) ⟨_,0,none⟩ 1 1 [.slice Au (subN base (k:Int)).length cu] rfl rfl (row_new_at _ _ _ (by simp)) (fun u hu=>by rw [List.mem_singleton.1 hu];rfl) hc3 hc4 (Qx HFR.out.ext.size (Y1.out.alloc _).size) ?_)
   intro v7 w7 hown7 hgrow7 _ hat7;have HPS:=Qq (FRow.push (s:=subN base (k:Int)) (X1.out.alloc _) (row_ext HROW.out (Y1.out.alloc _)) (fun k s hk=>by
    obtain⟨u,a,b,c⟩:=HUS.out k s hk;exact⟨u,a,b.ext (Y1.out.alloc _),c.ext (Y1.out.alloc _)⟩) hown7 hgrow7 (hat7.imp id (fun e=>e.trans (by simp))) (HM.out.fml.ext (Qz.alloc _)) (made_away (Nat.le_refl _) (row_ext HM.out.1 (Qz.alloc _)) HROW.out HFR.out.ext.size))
   obtain⟨A7,c7,rfl⟩:=slice_of_row hown7;clear hown7 hgrow7 hat7;go_wp2_with fail;go_roundw
   case rel=>exact⟨k+1,by go_num,by omega,Qq ⟨_,by rw [range_step',<-HO.out],HPS.out⟩⟩
   case measure=>simp [intOf];omega
  obtain rfl:base.length=k:=by omega
  go_wp2_with fail;go_ret;exact⟨_,rfl,by rw [HB.out,show formulasN base=out from HO.out.symm];exact HFR.out.before HM0.out.ext⟩
end Go.Proofs.YtbfeodammikajaaGreat
