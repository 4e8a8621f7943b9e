/- The reference of types: begin, prepare, left. -/
import Derived.Test.YtbfeodammikajaaGreatM01
import Derived.Test.YtbfeodammikajaaGreatM42
import Derived.Test.YtbfeodammikajaaGreatM11
import Derived.Test.YtbfeodammikajaaGreatM28
namespace Go.Proofs.YtbfeodammikajaaGreat
set_option maxRecDepth 100000
set_option maxHeartbeats 128000000
open Go.RowKit
theorem rbegin_any(s:Nat)(lg:Int)(base:List (List Nd))(w:World)(hS:SpcAt w s lg base)(hbl:base.length<=12)(hok:SpcOk base):
 Calls Tryz.prog 30 #[.pointer (some ⟨s,0,none⟩)] w fun e w'=>∃v,e=.returned v/\Ext w w'/\MadeB w.heap.size w' v (aliveN lg base):=by
 have HS:=Qq hS;obtain⟨vb,Ao,co,A1,c1,A2,c2,A3,c3,hs,d0,d1,d2,d3,d4,d5,HFM,HNO,HKN,HCO,HLA⟩:=hS.reads;obtain⟨Ab,cb,rfl,hbc,hbm,_⟩:=HFM.out;have D1:=Qq d1;have HOK:=Qq hok;obtain⟨iB,hiB,hzB0,hzB1,hzB2⟩:=info_parts tInfoB;obtain⟨m,hmm⟩:∃m,m=2^base.length:=⟨_,rfl⟩;have hp2:=pow12 hbl;rw [<-hmm]at hp2;have HMM:=Qq hmm;have hwr:wrap64 ((2:Int)^base.length)=(m:Int):=by
  have e:((2:Int)^base.length)=(m:Int):=by rw [HMM.out,Int.natCast_pow];rfl
  rw [e];unfold wrap64;omega
 have hmin:min base.length 64=base.length:=by omega
 clear hS d0 d1 d2 d3 d4 d5 HFM HNO HKN HCO HLA hok hmm;go_enter Tryz.func30,Tryz.ntmps30;go_wp2_with fail;go_loopw [3,4] (fun vo vi wr=>∃t:Nat,vi=.int .i64 (t:Int)/\t<=m/\Hid (Ext w wr/\MadeB w.heap.size wr vo ((List.range t).map fun t=>coherentN lg (knowsN base) (commsN base) t))) (fun _ v _=>m - (intOf v).toNat)
 case atStart=>exact⟨0,rfl,Nat.zero_le _,Qq ⟨Qz,MadeB.nil _ _⟩⟩
 case round =>
  obtain⟨t,rfl,ht,HREL⟩:=hrel;have HX:=Qq HREL.out.1;have HR:=Qq HREL.out.2;have d1:=(HX.out.cell (p:=⟨s,1,none⟩) hs).trans D1.out;have hs2:=Qy hs HX.out.size;obtain⟨out,hout⟩:∃o,o=(List.range t).map fun t=>coherentN lg (knowsN base) (commsN base) t:=⟨_,rfl⟩
  have hol:out.length<=m:=by rw [hout];simpa using ht
  have HOUT:=Qq hout;rw [<-hout]at HR;obtain⟨Ax,cx,rfl⟩:=slice_of_row HR.out;clear HREL hout;obtain⟨wq,hwq⟩:∃v,v=wr:=⟨_,rfl⟩;subst hwq;by_cases hlt2:t < m
  ·have hk1:(t:Int) < (m:Int):=by omega
   have hc3:out.length+1<=maxLen:=by unfold maxLen;omega
   have hc4:(out.length+1)*1<=140737488355328:=by omega
   go_wp2_with fail;refine(rcoherent_any s lg base t _ (HS.out.ext HX.out) hbl HOK.out (by rw [<-HMM.out];exact hlt2)).mono ?_;rintro e w3 ⟨rfl,hx3⟩;have HX3:=Qq hx3;obtain⟨b,hb⟩:∃b,b=coherentN lg (knowsN base) (commsN base) t:=⟨_,rfl⟩;have HB:=Qq hb;rw [<-hb];clear hx3 hb d1 hs2;go_wp2_with(at_builtin;refine wpList_append_own_at _ rfl _ _ 61 rfl w.heap.size 4 iB (.bool false) 1 1 Tryz.underlying61 hiB hzB0 hzB1 hzB2 rfl (by decide) _ out.length (out.map Value.bool) rfl (row_ext HR.out (HX3.out.alloc _)) ⟨_,0,none⟩ 1 1 [.bool b] rfl rfl (row_new_at _ _ _ (by simp)) (fun u hu=>by rw [List.mem_singleton.1 hu];rfl) hc3 hc4 (Qx HX.out.size (HX3.out.alloc _).size) ?_)
   intro v7 w7 hown7 hgrow7 _ _;have HX7:=Qq (show Ext w w7 from((HX.out.trans HX3.out).alloc _).grown hgrow7 (fun k hk=>(HR.out.lt k hk).1));obtain⟨A7,c7,rfl⟩:=slice_of_row hown7;have HO7:=Qq hown7;clear hown7 hgrow7;go_wp2_with fail;go_roundw
   case rel=>exact⟨t+1,by go_num,by omega,Qq ⟨HX7.out,by
    rw [range_map_snoc,<-HOUT.out,<-HB.out];unfold MadeB;rw [List.map_append,List.length_append];exact HO7.out⟩⟩
   case measure=>simp [intOf];omega
  obtain rfl:m=t:=by omega
  have HE:=Qq (show out=aliveN lg base by rw [HOUT.out,HMM.out];rfl);go_wp2_with fail;go_ret;exact⟨_,rfl,HX.out,by rw [<-HE.out];exact HR.out⟩
theorem rprepare_any(lg:Int)(v:Value)(f:List Nd)(w:World)(h:Fml w v f):
 Calls Tryz.prog 29 #[.int .i64 lg,v] w fun e w'=>Ext w w'/\((engErr lg f≠0/\e=.returned (.tuple #[.pointer none,.int .i64 (engErr lg f)]))\/(engErr lg f=0/\∃s,e=.returned (.tuple #[.pointer (some ⟨s,0,none⟩),.int .i64 0])/\SpcAt w' s lg (baseN f).1)):=by
 have H:=Qq h;obtain⟨Af,cf,rfl,_⟩:=fml_slice h;clear h;by_cases hlo:lg < 0
 ·have HE:=Qq (show engErr lg f=1 by unfold engErr;rw [decide_eq_true hlo];rfl);go_enter Tryz.func29,Tryz.ntmps29;go_wp2_with fail;go_ret2;exact⟨Qz,.inl ⟨by rw [HE.out];decide,by rw [HE.out] <;> rfl⟩⟩
 by_cases hhi:6 < lg
 ·have HE:=Qq (show engErr lg f=1 by unfold engErr;rw [decide_eq_true hhi,Bool.or_true];rfl);go_enter Tryz.func29,Tryz.ntmps29;go_wp2_with fail;go_ret2;exact⟨Qz,.inl ⟨by rw [HE.out];decide,by rw [HE.out] <;> rfl⟩⟩
 have HE:=Qq (show engErr lg f=(baseN f).2 by unfold engErr;rw [decide_eq_false hlo,decide_eq_false hhi];rfl);obtain⟨er,her⟩:∃er,er=(baseN f).2:=⟨_,rfl⟩;have HER:=Qq her;obtain⟨base,hbd⟩:∃x,x=(baseN f).1:=⟨_,rfl⟩;have HBD:=Qq hbd;by_cases hz:er=0
 ·subst hz;have HOK:=Qq (eng_ok (lg:=lg) (f:=f) (by rw [HE.out,<-her]));have hblen:base.length<=12:=by rw [HBD.out];exact HOK.out.b.len
  have HSO:=Qq (show SpcOk base by rw [HBD.out];exact spc_ok HOK.out.b);clear her hbd;go_enter Tryz.func29,Tryz.ntmps29;go_wp2_with fail;refine(rbase_any _ f _ H.out).mono ?_;rintro e w1 ⟨u,rfl,hx1,hfr⟩;rw [<-HER.out];rw [<-HBD.out]at hfr;have HX1:=Qq hx1;have HFMS:=Qq hfr.fmls;obtain⟨Ab,cb,rfl,_⟩:=HFMS.out;clear hx1 hfr;go_wp2_with fail;refine(ropen_any lg _ base _ HFMS.out hblen HSO.out).mono ?_;rintro e w2 ⟨s,rfl,hx2,hsp⟩;have HX2:=Qq (HX1.out.trans hx2);have HSP:=Qq hsp;clear hx2 hsp;go_wp2_with fail;go_ret2;exact⟨HX2.out,.inr ⟨by rw [HE.out,<-HER.out],s,rfl,by rw [<-HBD.out];exact HSP.out⟩⟩
 have hzb:(er==0)=false:=by simpa using hz
 have HZ:=Qq hz;clear her hbd hz;go_enter Tryz.func29,Tryz.ntmps29;go_wp2_with fail;refine(rbase_any _ f _ H.out).mono ?_;rintro e w1 ⟨u,rfl,hx1,hfr⟩;rw [<-HER.out];have HX1:=Qq hx1;obtain⟨Ab,cb,rfl,_⟩:=hfr.fmls;clear hx1 hfr;go_wp2_with fail;go_ret2;exact⟨HX1.out,.inl ⟨by rw [HE.out,<-HER.out];exact HZ.out,by rw [HE.out,<-HER.out] <;> rfl⟩⟩
theorem rleft_any(s:Nat)(lg:Int)(set:List Bool)(vs v:Value)(f:List Nd)(w:World)(hOK:EngOk lg f)(hz:(baseN f).2=0)(hS:SpcAt w s lg (baseN f).1)(hsl:set.length=2^(baseN f).1.length)(hb:Bools w vs set)(h:Fml w v f):
 Calls Tryz.prog 32 #[.pointer (some ⟨s,0,none⟩),vs,v] w fun e w'=>e=.returned (.bool (satisfiedN set (rootN f)))/\Ext w w':=by
 obtain⟨vb,Ao,co,A1,c1,A2,c2,A3,c3,hs,d0,d1,d2,d3,d4,d5,HFM,HNO,HKN,HCO,HLA⟩:=hS.reads;have HB0:=Qq (base_parts (f:=f) hz);have HH:=Qq h;have HBS:=Qq hb;have HCK:=Qq (show check (expandN f)=0 by rw [hOK.e];exact hOK.x.check);have hbl:(baseN f).1.length<=12:=hOK.b.len;obtain⟨base,hbd⟩:∃x,x=(baseN f).1:=⟨_,rfl⟩;have HBD:=Qq hbd;rw [<-hbd]at hbl hsl;rw [<-hbd]at HFM;have HFMS:=Qq HFM.out;obtain⟨Ab,cb,rfl,hbc,hbm,_⟩:=HFMS.out;obtain⟨Af,cf,rfl,_⟩:=fml_slice h;obtain⟨As,cs,rfl,hbs⟩:=hb;obtain⟨m,hmm⟩:∃m,m=2^base.length:=⟨_,rfl⟩;have HMM:=Qq hmm;rw [<-hmm]at hsl;have hm2:m<=4096:=by rw [hmm];exact pow12 hbl
 rw [hsl]at HBS⊢;have HBA:=Qq hbs;have HSL:=Qq hsl;clear hS d0 d2 d3 d4 d5 HNO HKN HCO HLA HFM h hbs hbd hmm hOK hsl;go_enter Tryz.func32,Tryz.ntmps32;go_upto_region 1 with(fail);refine wp_region_held_drew (S:=fun w'=>w'.cell? (⟨s,1,none⟩)=some (.slice Ab base.length cb)) (by kernel_rfl) (xc hs d1) (fun hHeld=> ?_);refine tk 0 hHeld ?_;refine tk 1 hHeld ?_;refine tk 2 hHeld ?_;refine tk 3 hHeld ?_;refine tk 4 hHeld ?_;refine wpAnyH_ready (rs:= [5]) (by kernel_rfl) (by simp) ?_;refine AllReadyH.cons rfl (fun K hK=> ?_) AllReadyH.nil;go_simp;refine(rexpand_any _ f _ (HH.out.ext (by repeat(first|exact Qz|assumption|apply Ext.alloc|apply Ext.drew|apply Ext.setCell))) HB0.out.1 (lang_ops HB0.out.1 HB0.out.2.1)).mono ?_
 rintro e w3 ⟨u,rfl,hf,hx0⟩;have hx3:Ext w w3:=Ext.trans (by repeat(first|exact Qz|assumption|apply Ext.alloc|apply Ext.drew|apply Ext.setCell)) hx0;have HF:=Qq hf;obtain⟨A3,c3,rfl,_⟩:=fml_slice hf;clear hf hx0;go_wp2_with fail;refine hK.out _ _ (xc hs d1) (fun hHeld=> ?_);clear hK K;refine Qd ?_;refine wpAnyH_ready (rs:= [6]) (by kernel_rfl) (by simp) ?_;refine AllReadyH.cons rfl (fun K hK=> ?_) AllReadyH.nil;go_simp;refine(column_any _ _ base (expandN f) _ (HFMS.out.ext hx3) HF.out HCK.out hbl).mono ?_;rintro e w4 ⟨v4,rfl,hx0,hmb⟩;have hx4:Ext w w4:=hx3.trans hx0;have HX4:=Qq hx4;have HMB:=Qq hmb
 obtain⟨A4,c4,rfl⟩:=slice_of_row hmb;clear hx0 hmb;go_wp2_with fail;refine hK.out _ _ (xc hs d1) (fun hHeld=> ?_);clear hK K;refine Qd ?_;refine tk 7 hHeld ?_;refine wpAnyH_done (by kernel_rfl) ?_ _;have HRT:=Qq (show tabN base (expandN f)=rootN f by rw [HBD.out];rfl);rw [HRT.out]at HMB⊢;have HRL:=Qq (show(rootN f).length=m by rw [<-HRT.out,tab_length,HMM.out]);rw [HRL.out]at HMB⊢;have hml4:m<=c4:=by have h1:=HMB.out.2;rcases h1 with⟨e,_⟩|⟨g,cap,cur,e,_,_,h2,_⟩ <;>(injection e with e1 e2 e3;omega)
 clear d1 hx3 hx4;obtain⟨W4,hW4⟩:∃v,v=w4:=⟨_,rfl⟩;subst hW4;go_wp2_with fail;go_loopw [18] (fun v wr=>∃k:Nat,v=.int .i64 (k:Int)/\k<=m/\Hid (Ext W4 wr/\∀j,j < k->(set.getD j false&&(rootN f).getD j false)=false)) (fun v _=>m - (intOf v).toNat)
 case atStart=>exact⟨0,rfl,Nat.zero_le _,Qq ⟨Qz,fun j hj=>absurd hj (by omega)⟩⟩
 case round =>
  obtain⟨k,rfl,hk,HREL⟩:=hrel;have HX:=Qq HREL.out.1;have HJ:=Qq HREL.out.2;clear HREL;by_cases hlt2:k < m
  ·have hk1:(k:Int) < (m:Int):=by omega
   have HXX:=Qq (HX4.out.trans HX.out);obtain⟨ad,rfl,hadl,s0⟩:=setg_get HBA.out HSL.out hlt2;have s1:=(HXX.out.cell (p:=ad.add k) (Qj hadl)).trans s0;have hadl2:(ad.add k).block < wr.heap.size:=by rw [block_of_add];exact Qy hadl HXX.out.size
   obtain⟨g4,hg4,hg4l⟩:∃g,A4=some ⟨g,0,none⟩/\g < W4.heap.size:=by
    obtain⟨g,cap,e,h1,_⟩:=HMB.out.slice (by rw [HRL.out];omega);injection e with e1;exact⟨g,e1,h1⟩
   subst hg4;have r1:=(HX.out.cell (p:=⟨g4,k,none⟩) hg4l).trans (HMB.out.cellAt (k:=k) (by rw [HRL.out];exact hlt2));have g4l2:g4 < wr.heap.size:=Qy hg4l HX.out.size;have HNX:=Qq (show(set.getD k false&&(rootN f).getD k false)=false->∀j,j < k+1->(set.getD j false&&(rootN f).getD j false)=false from fun h=>upto (P:=fun j=>(set.getD j false&&(rootN f).getD j false)=false) HJ.out h);clear s0;cases hsv:set.getD k false
   ·rw [hsv]at s1;have HF:=Qq (HNX.out (by rw [hsv,Bool.false_and]));clear hsv;go_wp2_with fail;go_roundw
    case rel=>exact⟨k+1,by go_num,by omega,Qq ⟨HX.out,HF.out⟩⟩
    case measure=>simp [intOf];omega
   rw [hsv]at s1;cases hrv:(rootN f).getD k false
   ·rw [hrv]at r1;have HF:=Qq (HNX.out (by rw [hrv,Bool.and_false]));clear hsv hrv;go_wp2_with fail;go_roundw
    case rel=>exact⟨k+1,by go_num,by omega,Qq ⟨HX.out,HF.out⟩⟩
    case measure=>simp [intOf];omega
   rw [hrv]at r1;have HE:=Qq (show satisfiedN set (rootN f)=true by
    unfold satisfiedN;rw [List.any_eq_true];exact⟨k,List.mem_range.2 (by rw [HSL.out];exact hlt2),by rw [hsv,hrv];rfl⟩)
   clear hsv hrv;go_wp2_with fail;go_ret;exact⟨by rw [HE.out] <;> rfl,HXX.out⟩
  obtain rfl:m=k:=by omega
  have HE:=Qq (show satisfiedN set (rootN f)=false by
   unfold satisfiedN;rw [List.any_eq_false];intro j hj;rw [HJ.out j (by rw [<-HSL.out];exact List.mem_range.1 hj)]
   simp)
  go_wp2_with fail;go_ret;exact⟨by rw [HE.out] <;> rfl,HX4.out.trans HX.out⟩
theorem MadeB.setN {bs g n cap:Nat} {w:World} {l:List Bool}(h:MadeB bs w (.slice (some ⟨g,0,none⟩) n cap) l)(hn:l.length=n)(j:Nat)(b:Bool):MadeB bs (w.setCell ⟨g,j,none⟩ (.bool b)) (.slice (some ⟨g,0,none⟩) n cap) (l.set j b):=by
 subst hn;exact(h.set j b).1
theorem MadeB.frz {bs g n cap:Nat} {w:World} {l:List Bool}(h:MadeB bs w (.slice (some ⟨g,0,none⟩) n cap) l)(hl:0 < l.length)(j:Nat):w.frozen? ⟨g,j,none⟩=false:=by
 obtain⟨g',cap',e,_,_,_,_,_,hf⟩:=h.slice hl;injection e with e1;injection e1 with e1;injection e1 with e1;subst e1;exact hf j
theorem engErr_base {lg:Int} {f:List Nd}(h:engErr lg f=0):(baseN f).2=0:=by
 unfold engErr at h;cases ha:decide (lg < 0)||decide (6 < lg)
 ·rw [ha]at h;exact h
 rw [ha]at h;cases h
structure RdI (w0 wr:World) (g m cap xb rb:Nat) (lg:Int) (s:List Bool×List (Nat×Int)):Prop where
 ext:Ext w0 wr
 row:MadeB w0.heap.size wr (.slice (some ⟨g,0,none⟩) m cap) s.1
 len:s.1.length=m
 xlo:w0.heap.size<=xb/\xb≠g
 blk:∃vt vw n,wr.heap[xb]?=some (.cells #[.int .i64 lg,vt,vw] 30 (0,0))/\n=s.2.length/\(∃us,wr.ownsRow w0.heap.size 40 1 vt n us)/\(∃us,wr.ownsRow w0.heap.size 3 1 vw n us)/\
  (∀k,vt.ownBlock=some k->k≠xb/\k≠g/\k≠rb)/\(∀k,vw.ownBlock=some k->k≠xb/\k≠g/\k≠rb)/\∀k,vt.ownBlock=some k->vw.ownBlock≠some k
 res:w0.heap.size<=rb/\rb≠xb/\rb≠g/\wr.heap[rb]?=some (.cells #[.int .i64 0,.slice none 0 0,.slice none 0 0] 30 (0,0))
def isT:Option Value->Bool
 |some (.bool true)=>true
 |_=>false
def cntW(w:World)(g m:Nat):Nat:=(List.range m).countP fun u=>isT (w.cell? ⟨g,u,none⟩)
theorem row_in {w7 W:World} {b:Nat} {x:Value}(hb:w7.heap[b]?=W.heap[b]?)(h:∀(j:Nat) u,[x][j]?=some u->W.cell? ((⟨b,0,none⟩:Addr).add j)=some u):∀(j:Nat) u,[x][j]?=some u->w7.cell? ((⟨b,0,none⟩:Addr).add j)=some u :=
 fun j u hj=>(blk_cell (p:=(⟨b,0,none⟩:Addr).add j) (by rw [block_of_add];exact hb)).1.trans (h j u hj)
section
variable {w0 w wr W:World} {g m cap xb rb:Nat} {lg:Int} {s:List Bool×List (Nat×Int)}
theorem cntW_row {bs:Nat} {l:List Bool}(h:MadeB bs w (.slice (some ⟨g,0,none⟩) m cap) l)(hm:l.length=m):cntW w g m=cnt l:=by
 unfold cntW cnt
 conv=>rhs;rw [list_as_map l]
 rw [List.countP_map,hm];refine List.countP_congr fun u hu=> ?_
 have hu2:u < l.length:=by rw [hm];exact List.mem_range.1 hu
 rw [h.cellAt hu2];simp only [Function.comp];cases l.getD u false <;> simp [isT]
theorem RdI.start(hx:Ext w0 w) {alive:List Bool}(hR:MadeB w0.heap.size w (.slice (some ⟨g,0,none⟩) m cap) alive)(hl:alive.length=m):
 RdI w0 ((w.alloc (.cells #[.int .i64 0,.slice none 0 0,.slice none 0 0] 30)).alloc (.cells #[.int .i64 lg,.slice none 0 0,.slice none 0 0] 30)) g m cap (w.heap.size+1) w.heap.size lg (alive,[]):=by
 have hg:=(hR.lt g rfl).2;have hsz:=hx.size;refine⟨(hx.alloc _).alloc _,hR.ext ((Qz.alloc _).alloc _),hl,⟨by omega,by omega⟩,⟨_,_,0,?_,rfl,⟨[],World.ownsRow_nil _ _ _ _⟩,⟨[],World.ownsRow_nil _ _ _ _⟩,fun k hk=>(by cases hk),fun k hk=>(by cases hk),fun k hk=>(by cases hk)⟩,⟨hsz,by omega,by omega,((Qz.alloc _).block (by simp)).trans (heap_alloc_new _ _)⟩⟩;have h1:=heap_alloc_new (w.alloc (.cells #[.int .i64 0,.slice none 0 0,.slice none 0 0] 30)) (.cells #[.int .i64 lg,.slice none 0 0,.slice none 0 0] 30)
 simpa using h1
theorem RdI.next(h:RdI w0 wr g m cap xb rb lg s)(he:Ext wr W):RdI w0 W g m cap xb rb lg s:=by
 obtain⟨vt,vw,n,hb,hn,⟨us,ht⟩,⟨us2,hw⟩,h1,h2,h3⟩:=h.blk;exact⟨h.ext.trans he,h.row.ext he,h.len,h.xlo,⟨vt,vw,n,(he.block (lt_heap hb)).trans hb,hn,⟨us,row_ext ht he⟩,⟨us2,row_ext hw he⟩,h1,h2,h3⟩,h.res.1,h.res.2.1,h.res.2.2.1,(he.block (lt_heap h.res.2.2.2)).trans h.res.2.2.2⟩
theorem RdI.store(h:RdI w0 wr g m cap xb rb lg s)(t:Nat):Ext w0 (wr.setCell ⟨g,t,none⟩ (.bool false))/\RdI w0 (wr.setCell ⟨g,t,none⟩ (.bool false)) g m cap xb rb lg (s.1.set t false,s.2):=by
 have hg:=(h.row.lt g rfl).1;have hx:Ext w0 (wr.setCell ⟨g,t,none⟩ (.bool false)):=h.ext.setCell (p:=⟨g,t,none⟩) hg _;have hk:∀k,k≠g->(wr.setCell ⟨g,t,none⟩ (.bool false)).heap[k]?=wr.heap[k]?:=fun k e=>Below.heap_setCell _ _ _ _ e
 obtain⟨vt,vw,n,hb,hn,⟨us,ht⟩,⟨us2,hw⟩,h1,h2,h3⟩:=h.blk;exact⟨hx,hx,h.row.setN h.len t false,by rw [List.length_set];exact h.len,h.xlo,⟨vt,vw,n,(hk xb h.xlo.2).trans hb,hn,⟨us,row_keep ht fun k e=>hk k (h1 k e).2.1⟩,⟨us2,row_keep hw fun k e=>hk k (h2 k e).2.1⟩,h1,h2,h3⟩,h.res.1,h.res.2.1,h.res.2.2.1,(hk rb h.res.2.2.1).trans h.res.2.2.2⟩
theorem RdI.take {w6 w7 w8 w9:World} {vt vw v7 v9:Value} {n t:Nat} {i:Int} {us7 us9:List Value}(h:RdI w0 wr g m cap xb rb lg s)(hb:wr.heap[xb]?=some (.cells #[.int .i64 lg,vt,vw] 30 (0,0)))(hn:n=s.2.length)
 (ht:∃us,wr.ownsRow w0.heap.size 40 1 vt n us)(hw:∃us,wr.ownsRow w0.heap.size 3 1 vw n us)(d1:∀k,vt.ownBlock=some k->k≠xb/\k≠g/\k≠rb)(d2:∀k,vw.ownBlock=some k->k≠xb/\k≠g/\k≠rb)(d3:∀k,vt.ownBlock=some k->vw.ownBlock≠some k)
 (x6:Ext wr w6)(g7:w6.grownBy w7 vt.ownBlock)(h7:w7.ownsRow w0.heap.size 40 1 v7 (n+1) us7)(a7:v7.ownBlock=vt.ownBlock\/v7.ownBlock=some w6.heap.size)
 (x8:Ext w7 w8)(g9:w8.grownBy w9 vw.ownBlock)(h9:w9.ownsRow w0.heap.size 3 1 v9 (n+1) us9)(a9:v9.ownBlock=vw.ownBlock\/v9.ownBlock=some w8.heap.size):
 RdI w0 ((w9.setCell ⟨xb,1,none⟩ v7).setCell ⟨xb,2,none⟩ v9) g m cap xb rb lg (s.1,s.2++ [(t,i)]):=by
 obtain⟨_,ht⟩:=ht;obtain⟨_,hw⟩:=hw;have hxl:=lt_heap hb;have hgl:=(h.row.lt g rfl).2;have s6:=x6.size;have s7:=g7.size;have s8:=x8.size;have s9:=g9.size;have b7:∀k,k < wr.heap.size->vt.ownBlock≠some k->w7.heap[k]?=wr.heap[k]?:=fun k hk e=>(g7.block k (by omega) (fun e2=>e e2.symm)).trans (x6.block hk)
 have b9:∀k,k < w7.heap.size->vw.ownBlock≠some k->w9.heap[k]?=w7.heap[k]?:=fun k hk e=>(g9.block k (by omega) (fun e2=>e e2.symm)).trans (x8.block hk)
 have hx9:Ext w0 w9:=((h.ext.trans x6).grown g7 (fun k hk=>(ht.lt k hk).1)).trans x8 |>.grown g9 (fun k hk=>(hw.lt k hk).1);have hxb9:w9.heap[xb]?=some (.cells #[.int .i64 lg,vt,vw] 30 (0,0)):=by
  rw [b9 xb (by omega) (fun e=>(d2 xb e).1 rfl),b7 xb hxl (fun e=>(d1 xb e).1 rfl)];exact hb
 have hset:∀k,k≠xb->((w9.setCell ⟨xb,1,none⟩ v7).setCell ⟨xb,2,none⟩ v9).heap[k]?=w9.heap[k]?:=fun k e=>(Below.heap_setCell _ _ _ _ e).trans (Below.heap_setCell _ _ _ _ e)
 have hrl:=lt_heap h.res.2.2.2;have n7:∀k,v7.ownBlock=some k->k≠xb/\k≠g/\k≠rb/\vw.ownBlock≠some k:=fun k hk=>by
  rcases a7 with e|e
  ·rw [e]at hk;exact⟨(d1 k hk).1,(d1 k hk).2.1,(d1 k hk).2.2,d3 k hk⟩
  rw [e]at hk;injection hk with hk;refine⟨by omega,by omega,by omega,fun e2=> ?_⟩;have:=(hw.lt k e2).2;omega
 have n9:∀k,v9.ownBlock=some k->k≠xb/\k≠g/\k≠rb/\v7.ownBlock≠some k:=fun k hk=>by
  rcases a9 with e|e
  ·rw [e]at hk;exact⟨(d2 k hk).1,(d2 k hk).2.1,(d2 k hk).2.2,fun e2=>(n7 k e2).2.2.2 hk⟩
  rw [e]at hk;injection hk with hk;refine⟨by omega,by omega,by omega,fun e2=> ?_⟩;have:=(h7.lt k e2).2;omega
 refine⟨(hx9.setCell (p:=⟨xb,1,none⟩) h.xlo.1 _).setCell (p:=⟨xb,2,none⟩) h.xlo.1 _,?_,h.len,h.xlo,⟨v7,v9,n+1,?_,by rw [hn,List.length_append];rfl,⟨us7,?_⟩,⟨us9,?_⟩,fun k hk=>⟨(n7 k hk).1,(n7 k hk).2.1,(n7 k hk).2.2.1⟩,fun k hk=>⟨(n9 k hk).1,(n9 k hk).2.1,(n9 k hk).2.2.1⟩,fun k hk hk2=>(n9 k hk2).2.2.2 hk⟩,h.res.1,h.res.2.1,h.res.2.2.1,?_⟩
 ·exact row_keep h.row fun k hk=>by
   have:k=g:=by injection hk with hk;exact hk.symm
   subst this;rw [hset k h.xlo.2.symm,b9 k (by omega) (fun e=>(d2 k e).2.1 rfl),b7 k hgl (fun e=>(d1 k e).2.1 rfl)]
 ·simp only [World.setCell,Array.getElem?_modify,hxb9,if_true,Option.map_some];simp
 ·exact row_keep h7 fun k hk=>by
   rw [hset k (n7 k hk).1,b9 k (h7.lt k hk).2 (n7 k hk).2.2.2]
 ·exact row_keep h9 fun k hk=>hset k (n9 k hk).1
 rw [hset rb h.res.2.1,b9 rb (by omega) (fun e=>(d2 rb e).2.2 rfl),b7 rb hrl (fun e=>(d1 rb e).2.2 rfl)];exact h.res.2.2.2
end
end Go.Proofs.YtbfeodammikajaaGreat
