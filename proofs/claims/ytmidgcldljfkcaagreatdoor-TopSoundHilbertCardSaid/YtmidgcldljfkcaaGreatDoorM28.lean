/- natural.Check: the walk. -/
import Derived.Test.YtmidgcldljfkcaaGreatDoorM01
import Derived.Test.YtmidgcldljfkcaaGreatDoorM20
namespace Go.Proofs.YtmidgcldljfkcaaGreatDoor
set_option maxRecDepth 100000
set_option maxHeartbeats 128000000
open Go.RowKit
theorem Kf.pushF2 {w0 w W w4:World} {bw:Nat} {lg:Int} {vl vf vs v' x:Value} {ls:List Ln} {fs:List (List Nd)} {st:List (List Int)} {s:List Nd} {ss:List Value}(h:Kf w0 w bw lg vl vf vs ls fs st)(he:Ext w W)(hs:w.ownsRow w0.heap.size 31 1 vf fs.length ss)(hv:∀(k:Nat) (s:List Nd),fs[k]?=some s->∃u,ss[k]?=some u/\Fml w u s/\Gq w bw vf vs u)
 (hrow:w4.ownsRow w0.heap.size 31 1 v' (fs.length+1) (ss++ [x]))(hg:W.grownBy w4 vf.ownBlock)(hat:v'.ownBlock=vf.ownBlock\/v'.ownBlock=some W.heap.size)(hx:Fml W x s)(hxf:Gq W bw vf vs x):
 Kf w0 (w4.setCell ⟨bw,2,none⟩ v') bw lg vl v' vs ls (fs++ [s]) st :=
 (h.ext_ he).pushF (Jt hs he) (fun k s hk=>by
  obtain⟨u,a,b,c⟩:=hv k s hk;exact⟨u,a,b.ext he,c.ext he⟩) hrow hg hat hx hxf
theorem Qd3 {lg:Int} {ls r:List Ln} {n:Ln} {fs:List (List Nd)} {st:List (List Int)} {s:List Int} {i:Nat}(hc:(Qs n.f !=0)=false)(hf:decide (2<=Jh n.f)=false)(hp:Bv st n=some s)(h1:¬n.agent < 0)(h2:¬4<=n.agent):
 Fi lg ls (n :: r) fs st i=bif Mv lg ls (fs++ [Qf n.f]) (st++ [s]) i n (Qf n.f)then Fi lg ls r (fs++ [Qf n.f]) (st++ [s]) (i+1)else((i:Int),13):=by
 conv=>lhs;unfold Fi
 rw [hc,hf,hp];show(bif decide (n.agent < 0)||decide (4<=n.agent)then _ else _)=_;rw [decide_eq_false h1,decide_eq_false h2];rfl
structure Qhw (w wr:World) (bw:Nat) (lg:Int) (vl:Value) (ls:List Ln) (i:Nat):Prop where
 all:∃fs st vf vs,Kf w wr bw lg vl vf vs ls fs st/\Ta ls fs st i/\Za lg ls=Fi lg ls (ls.drop i) fs st i
theorem Qg1 {lg:Int} {ls:List Ln}(h0:0<=lg)(h6:lg<=6)(hl:ls.length<=400)(hp:0 < ls.length):Za lg ls=Fi lg ls ls [] [] 0:=by
 unfold Za;have e1:(decide (lg < 0)||decide (6 < lg))=false:=by simp;omega
 have e2:decide (400 < ls.length)=false:=by simp;omega
 have e3:decide (ls.length=0)=false:=by simp;intro e;rw [e]at hp;simp at hp
 rw [e1,e2,e3];rfl
theorem Qly {w W:World} {bw:Nat} {lg:Int} {vl:Value} {ls:List Ln}(hx:Ext w W)(hbw:w.heap.size<=bw)(hb:W.heap[bw]?=some (.cells #[.int .i64 lg,vl,.slice none 0 0,.slice none 0 0] 93 (0,0)))(hl:Lns w vl ls):
 Kf w W bw lg vl (.slice none 0 0) (.slice none 0 0) ls [] []:=
 ⟨hx,hbw,hb,hl,⟨[],World.ownsRow_nil _ _ _ _,fun k f h=>by simp at h⟩,⟨[],World.ownsRow_nil _ _ _ _,fun k f h=>by simp at h⟩,by simp [Value.ownBlock],by simp [Value.ownBlock],fun g h=>by simp [Value.ownBlock]at h⟩
theorem Qz9 {w:World} {lg:Int} {vl:Value} {ls:List Ln}(hl:Lns w vl ls)(h:lg < 0):
 Calls Tryz.prog 21 #[.agg #[.int .i64 lg,vl]] w fun e w'=>e=.returned (.tuple #[.int .i64 (Za lg ls).1,.int .i64 (Za lg ls).2])/\Ext w w':=by
 obtain⟨Al,cl,rfl,_⟩:=hl;have HN:=Qq (show Za lg ls=(0,1) by unfold Za;rw [show(decide (lg < 0)||decide (6 < lg))=true by simp;omega];rfl);have hd:decide (lg < 0)=true:=by simpa using h
 go_enter Tryz.func21,Tryz.ntmps21;go_wp2_with fail;go_ret2;exact⟨by rw [HN.out] <;> rfl,Qz.alloc _⟩
theorem Qqn {w:World} {lg:Int} {vl:Value} {ls:List Ln}(hl:Lns w vl ls)(h0:¬lg < 0)(h:6 < lg):
 Calls Tryz.prog 21 #[.agg #[.int .i64 lg,vl]] w fun e w'=>e=.returned (.tuple #[.int .i64 (Za lg ls).1,.int .i64 (Za lg ls).2])/\Ext w w':=by
 obtain⟨Al,cl,rfl,_⟩:=hl;have HN:=Qq (show Za lg ls=(0,1) by unfold Za;rw [show(decide (lg < 0)||decide (6 < lg))=true by simp;omega];rfl);go_enter Tryz.func21,Tryz.ntmps21;go_wp2_with fail;go_ret2;exact⟨by rw [HN.out] <;> rfl,Qz.alloc _⟩
theorem Qdr {w:World} {lg:Int} {vl:Value} {ls:List Ln}(hl:Lns w vl ls)(h0:0<=lg)(h6:lg<=6)(h:400 < ls.length):
 Calls Tryz.prog 21 #[.agg #[.int .i64 lg,vl]] w fun e w'=>e=.returned (.tuple #[.int .i64 (Za lg ls).1,.int .i64 (Za lg ls).2])/\Ext w w':=by
 obtain⟨Al,cl,rfl,_⟩:=hl;have HN:=Qq (show Za lg ls=(0,8) by unfold Za;rw [show(decide (lg < 0)||decide (6 < lg))=false by simp;omega,decide_eq_true h];rfl);have hn0:¬lg < 0:=by omega
 have hn6:¬6 < lg:=by omega
 have hl4:(400:Int) < (ls.length:Int):=by omega
 go_enter Tryz.func21,Tryz.ntmps21;go_wp2_with fail;go_ret2;exact⟨by rw [HN.out] <;> rfl,Qz.alloc _⟩
theorem Qgp {w:World} {lg:Int} {vl:Value} {ls:List Ln}(hl:Lns w vl ls)(h0:0<=lg)(h6:lg<=6)(h:ls.length=0):
 Calls Tryz.prog 21 #[.agg #[.int .i64 lg,vl]] w fun e w'=>e=.returned (.tuple #[.int .i64 (Za lg ls).1,.int .i64 (Za lg ls).2])/\Ext w w':=by
 obtain⟨Al,cl,rfl,_⟩:=hl;have HN:=Qq (show Za lg ls=(0,3) by unfold Za;rw [show(decide (lg < 0)||decide (6 < lg))=false by simp;omega,h];rfl);have hn0:¬lg < 0:=by omega
 have hn6:¬6 < lg:=by omega
 rw [h];go_enter Tryz.func21,Tryz.ntmps21;go_wp2_with fail;go_ret2;exact⟨by rw [HN.out] <;> rfl,Qz.alloc _⟩
theorem Qdy {w:World} {lg:Int} {vl:Value} {ls:List Ln}(hl:Lns w vl ls)(hT:Tab w)(h0:0<=lg)(h6:lg<=6)(hlen:ls.length<=400)(hpos:0 < ls.length):
 Calls Tryz.prog 21 #[.agg #[.int .i64 lg,vl]] w fun e w'=>e=.returned (.tuple #[.int .i64 (Za lg ls).1,.int .i64 (Za lg ls).2])/\Ext w w':=by
 have HL:=Qq hl;have HT:=Qq hT;obtain⟨Al,cl,rfl,hat⟩:=hl;obtain⟨ad,rfl,hblk,hcells⟩:=hat.2.2 (by intro e;rw [e]at hpos;simp at hpos);have HC:=Qq hcells;have hcap:=hat.1;have hcm:=hat.2.1;unfold maxLen at hcm;have HN:=Qq (Qg1 h0 h6 hlen hpos);have hn0:¬lg < 0:=by omega
 have hn6:¬6 < lg:=by omega
 have hl4:¬(400:Int) < (ls.length:Int):=by omega
 have hl0:((ls.length:Int)==0)=false:=by rw [beq_eq_false_iff_ne];omega
 obtain⟨iF,hiF,hzF0,hzF1,hzF2⟩:=info_parts Qh7;clear hat hcells hT;go_enter Tryz.func21,Tryz.ntmps21;go_wp2_with fail;go_loopw [33] (fun v wr=>∃i:Nat,v=.int .i64 i/\i<=ls.length/\Hid (Qhw w wr (w.heap.size+1) lg (.slice (some ad) ls.length cl) ls i)) (fun v _=>ls.length - (intOf v).toNat)
 case atStart =>
  refine⟨0,rfl,Nat.zero_le _,Qq ⟨⟨[],[],_,_,Qly (((Ext.refl w).alloc (.cells #[.int .i64 lg,.slice (some ad) ls.length cl] 24)).alloc (.cells #[.int .i64 lg,.slice (some ad) ls.length cl,.slice none 0 0,.slice none 0 0] 93)) (by omega) ?_ HL.out,Qn6 ls,HN.out⟩⟩⟩;have:=heap_alloc_new (w.alloc (.cells #[.int .i64 lg,.slice (some ad) ls.length cl] 24)) (.cells #[.int .i64 lg,.slice (some ad) ls.length cl,.slice none 0 0,.slice none 0 0] 93)
  simpa using this
 case round =>
  obtain⟨i,rfl,hi,HR⟩:=hrel;obtain⟨fs,st,vf,vs,hst,hinv,hgo⟩:=HR.out.all;have HST:=Qq hst;have HINV:=Qq hinv;by_cases hlt2:i < ls.length
  ·obtain⟨n,hn⟩:∃n,ls[i]?=some n:=⟨_,Qv hlt2⟩;have HNI:=Qq hn;have HGO:=Qq (hgo.trans (Qnv hn));obtain⟨uf,ur,q0,q1,q2,q3,q4,hff,hii⟩:=HC.out i n hn;have hk:∀p:Addr,p.block=(ad.add (i*5)).block->wr.cell? p=w.cell? p:=fun p hp=>hst.ext.cell (by rw [hp,Qn];exact hblk)
   have q0:=(hk _ rfl).trans q0;have q1:=(hk ⟨(ad.add (i*5)).block,(ad.add (i*5)).off+1,none⟩ rfl).trans q1;have q2:=(hk ⟨(ad.add (i*5)).block,(ad.add (i*5)).off+2,none⟩ rfl).trans q2;have q3:=(hk ⟨(ad.add (i*5)).block,(ad.add (i*5)).off+3,none⟩ rfl).trans q3;have q4:=(hk ⟨(ad.add (i*5)).block,(ad.add (i*5)).off+4,none⟩ rfl).trans q4;have HFW:=Qq hff;have HFF:=Qq (hff.ext hst.ext);clear hk;obtain⟨Af,cf,rfl,_⟩:=Qg hff;obtain⟨Ar,cr,rfl,_⟩:=hii;have hblkr:ad.block < wr.heap.size:=Qy hblk hst.ext.size;have hir0:(0:Int)<=(i:Int):=by omega
   have hir1:(i:Int) < (ls.length:Int):=by omega
   clear hst hinv hgo hff hn;go_wp2_with fail;refine(Je _ n.f _ (HFF.out.ext (Qz.alloc _)).1).mono ?_;rintro e w1 ⟨rfl,hx⟩;have HX1:=Qq (show Ext (wr.alloc (.cells #[.int .i64 n.depth,.int .i64 n.rule,.slice Af n.f.length cf,.int .i64 n.agent,.slice Ar n.from_.length cr] 62)) w1 from hx);clear hx;cases hc:(Qs n.f !=0)
   case true =>
    have HE:=Qq (show Za lg ls=((i:Int),Qs n.f) by rw [HGO.out];unfold Fi;rw [hc];rfl);obtain⟨s0,s1,s2,s3,s4,slt⟩:=Cq ((HX1.out.block (by simp)).trans (heap_alloc_new wr (.cells #[.int .i64 n.depth,.int .i64 n.rule,.slice Af n.f.length cf,.int .i64 n.agent,.slice Ar n.from_.length cr] 62)));go_wp2_with fail;go_ret2;exact⟨by rw [HE.out] <;> rfl,HST.out.ext.trans (((Ext.refl wr).alloc (.cells #[.int .i64 n.depth,.int .i64 n.rule,.slice Af n.f.length cf,.int .i64 n.agent,.slice Ar n.from_.length cr] 62)).trans HX1.out)⟩
   case false =>
    have hc0:Qs n.f=0:=by simpa using hc
    have HC0:=Qq hc0;have HCB:=Qq hc;clear hc0;obtain⟨s0,s1,s2,s3,s4,slt⟩:=Cq ((HX1.out.block (by simp)).trans (heap_alloc_new wr (.cells #[.int .i64 n.depth,.int .i64 n.rule,.slice Af n.f.length cf,.int .i64 n.agent,.slice Ar n.from_.length cr] 62)));go_wp2_with fail;refine(Tf _ n.f _ (HFF.out.ext (((Ext.refl wr).alloc (.cells #[.int .i64 n.depth,.int .i64 n.rule,.slice Af n.f.length cf,.int .i64 n.agent,.slice Ar n.from_.length cr] 62)).trans HX1.out))).mono ?_;rintro e w2 ⟨rfl,hx⟩;have HX2:=Qq (HX1.out.trans hx);clear hx s0 s1 s2 s3 s4 slt;have HAN:=Qq (Qkq (Jh n.f) (Si _))
    cases hfr:decide (2<=Jh n.f)
    case true =>
     have hfb:(bits .andNot .i64 ((Jh n.f:Nat):Int) 1 !=0)=true:=by rw [HAN.out];exact hfr
     have HE:=Qq (show Za lg ls=((i:Int),10) by rw [HGO.out];unfold Fi;rw [HCB.out,hfr];rfl);clear hfr;go_wp2_with fail;go_ret2;exact⟨by rw [HE.out] <;> rfl,HST.out.ext.trans (((Ext.refl wr).alloc (.cells #[.int .i64 n.depth,.int .i64 n.rule,.slice Af n.f.length cf,.int .i64 n.agent,.slice Ar n.from_.length cr] 62)).trans HX2.out)⟩
    case false =>
     have hfb:(bits .andNot .i64 ((Jh n.f:Nat):Int) 1 !=0)=false:=by rw [HAN.out];exact hfr
     have HFR:=Qq hfr;clear hfr;have HST2:=Qq (HST.out.ext_ (((Ext.refl wr).alloc (.cells #[.int .i64 n.depth,.int .i64 n.rule,.slice Af n.f.length cf,.int .i64 n.agent,.slice Ar n.from_.length cr] 62)).trans HX2.out));have hinl:st.length=i:=HINV.out.sl;go_wp2_with fail;refine(Qt6 HST2.out n (by rw [hinl];exact HNI.out) (by rw [hinl];omega) (by have:=HINV.out.last.1;omega)).mono ?_;rintro e w3 hp;cases hp with
     |no hp he hx =>
      subst he;have HE:=Qq (show Za lg ls=((i:Int),3) by rw [HGO.out];unfold Fi;rw [HCB.out,HFR.out,hp];rfl);have HX3:=Qq (HST2.out.ext.trans hx);obtain⟨s0,s1,s2,s3,s4,slt⟩:=Cq (((HX2.out.trans hx).block (by simp)).trans (heap_alloc_new wr (.cells #[.int .i64 n.depth,.int .i64 n.rule,.slice Af n.f.length cf,.int .i64 n.agent,.slice Ar n.from_.length cr] 62)));clear hp hx;go_wp2_with fail;go_ret2;exact⟨by rw [HE.out] <;> rfl,HX3.out⟩
     |yes hp he hx hk hz =>
      subst he;rename_i s vs';have HP:=Qq hp;have hbx:w3.heap[wr.heap.size]?=some (.cells #[.int .i64 n.depth,.int .i64 n.rule,.slice Af n.f.length cf,.int .i64 n.agent,.slice Ar n.from_.length cr] 62 (0,0)):=(hk _ (by have:=HX2.out.size;simp at this;omega) (by have:=Qm HST.out.blk;omega) (fun e=>by
       obtain⟨ss,hs,_⟩:=HST.out.srow;have:=(hs.lt _ e).2
       omega)).trans ((HX2.out.block (by simp)).trans (heap_alloc_new wr (.cells #[.int .i64 n.depth,.int .i64 n.rule,.slice Af n.f.length cf,.int .i64 n.agent,.slice Ar n.from_.length cr] 62)))
      obtain⟨s0,s1,s2,s3,s4,slt⟩:=Cq hbx;have HBX:=Qq hbx;have HST3:=Qq hx;clear hp hx hk hbx;by_cases ha1:n.agent < 0
      ·have HE:=Qq (show Za lg ls=((i:Int),3) by rw [HGO.out];unfold Fi;rw [HCB.out,HFR.out,HP.out];show(bif decide (n.agent < 0)||decide (4<=n.agent)then _ else _)=_;rw [decide_eq_true ha1];rfl);go_wp2_with fail;go_ret2;exact⟨by rw [HE.out] <;> rfl,HST3.out.ext⟩
      by_cases ha2:4<=n.agent
      ·have HE:=Qq (show Za lg ls=((i:Int),3) by rw [HGO.out];unfold Fi;rw [HCB.out,HFR.out,HP.out];show(bif decide (n.agent < 0)||decide (4<=n.agent)then _ else _)=_;rw [decide_eq_false ha1,decide_eq_true ha2];rfl);go_wp2_with fail;go_ret2;exact⟨by rw [HE.out] <;> rfl,HST3.out.ext⟩
      have HGO2:=Qq (HGO.out.trans (Qd3 HCB.out HFR.out HP.out ha1 ha2));have HINV2:=Qq (HINV.out.next HNI.out HC0.out HP.out ⟨by omega,by omega⟩);have hfl:fs.length=i:=HINV.out.fl;obtain⟨us,hr,hu⟩:=HST3.out.frow;obtain⟨A2,c2,hvf⟩:=Zq hr;subst hvf;have HROW:=Qq hr;have HU:=Qq hu;obtain⟨k0,k1,k2,k3,kfr,klt⟩:=Bn HST3.out.blk;have kfw:=kfr 2;have hc3:fs.length+1<=maxLen:=by unfold maxLen;omega
      have hc4:(fs.length+1)*24<=140737488355328:=by omega
      have HF3:=Qq (HFW.out.ext HST3.out.ext);have HFLN:=Qq hfl;clear hr hu k0 k1 k3 hfl;go_wp2_with fail;go_region_law (first|(go_simp;go_at_call 22;refine(Vy _ n.f _ (by exact HF3.out.ext (by repeat(first|exact Qz|assumption|apply Ext.alloc|apply Ext.drew)))).mono ?_;rintro e wc ⟨uc,rfl,hmc⟩;obtain⟨Ac,cc,huc⟩:=Zq hmc.1;subst huc;have MC:=Qq hmc;have hxc:Ext w3 wc:=Ext.trans (by repeat(first|exact Qz|assumption|apply Ext.alloc|apply Ext.drew)) hmc.2.2;have k2c:=(hxc.cell (p:=⟨w.heap.size+1,2,none⟩) klt).trans k2;have kltc:w.heap.size+1 < wc.heap.size:=Qy klt hxc.size;have s2c:=(hxc.cell (p:=⟨wr.heap.size,2,none⟩) slt).trans s2;clear hmc)|(refine Ka rfl (.tmp 69) (.tmp 73) 40 rfl w.heap.size 31 iF (.slice none 0 0) 1 24 Tryz.underlying40 hiF hzF0 hzF1 hzF2 rfl (by decide) (.slice A2 fs.length c2) fs.length us (by simp [Act.eval]) (Jt HROW.out (Ext.trans hxc (by repeat(first|exact Qz|assumption|apply Ext.alloc|apply Ext.drew)))) ⟨_,0,none⟩ 1 1 [.slice Ac (Qf n.f).length cc] (by simp [Act.eval];rfl) rfl (Yv _ _ _ (by simp)) (fun u hu=>by rw [List.mem_singleton.1 hu];rfl) hc3 hc4 (Qx HST3.out.ext.size (Ext.size (a:=w3) (Ext.trans hxc (by repeat(first|exact Qz|assumption|apply Ext.alloc|apply Ext.drew))))) ?_;intro v' w4 hown4 hgrow4 hat4;have HPF:=Qq (Kf.pushF2 HST3.out (Ext.trans hxc (by repeat(first|exact Qz|assumption|apply Ext.alloc|apply Ext.drew))) HROW.out HU.out hown4 hgrow4 hat4 (MC.out.fml.ext (by repeat(first|exact Qz|assumption|apply Ext.alloc|apply Ext.drew))) ((Kf.free_new (w':=wc) HST3.out (fun g hg=>⟨Qx (Ext.size (by repeat(first|exact Qz|assumption|apply Ext.alloc|apply Ext.drew))) (MC.out.1.lt g hg).1,(MC.out.1.lt g hg).2⟩)).ext (by repeat(first|exact Qz|assumption|apply Ext.alloc|apply Ext.drew))));have kb:=Rf HST3.out.blk HST3.out.fne (Ext.trans hxc (by repeat(first|exact Qz|assumption|apply Ext.alloc|apply Ext.drew))) hgrow4;obtain⟨z0,z1,z2,z3,zfr,zlt⟩:=Bn kb;obtain⟨A4,c4,hv4⟩:=Zq hown4;subst hv4;clear hown4 hgrow4 hat4 kb))
      all_goals
       have HCK:=Qq HPF.out.chk;have HOK:=Qq (HINV2.out.ok HNI.out (by rw [List.getElem?_append_right (by have:=HFLN.out;omega),HFLN.out,Nat.sub_self];rfl) hlen);go_wp2_with fail;refine(Qgr HCK.out HOK.out (HT.out.ext HPF.out.ext)).mono ?_;rintro e w5 ⟨rfl,hx5⟩;have HST5:=Qq (HPF.out.ext_ hx5);clear hx5;cases hfo:Mv lg ls (fs++ [Qf n.f]) (st++ [s]) i n (Qf n.f)
       case false =>
        have HE:=Qq (show Za lg ls=((i:Int),13) by rw [HGO2.out,hfo];rfl);clear hfo;go_wp2_with fail;go_ret2;exact⟨by rw [HE.out] <;> rfl,HST5.out.ext⟩
       case true =>
        have HGO3:=Qq (show Za lg ls=Fi lg ls (ls.drop (i+1)) (fs++ [Qf n.f]) (st++ [s]) (i+1) by rw [HGO2.out,hfo];rfl);clear hfo;go_wp2_with fail;go_roundw
        case rel=>exact⟨i+1,by go_num,by omega,Qq ⟨⟨_,_,_,_,HST5.out,HINV2.out,HGO3.out⟩⟩⟩
        case measure=>simp [intOf];omega
  obtain rfl:ls.length=i:=by omega
  have HF:=Qq (show Za lg ls=(0,0) by rw [hgo,List.drop_length];rfl);clear hst hinv hgo;go_wp2_with fail;go_ret2;exact⟨by rw [HF.out] <;> rfl,HST.out.ext⟩
theorem Qva {w:World} {lg:Int} {vl:Value} {ls:List Ln}(hl:Lns w vl ls)(hT:Tab w):
 Calls Tryz.prog 21 #[.agg #[.int .i64 lg,vl]] w fun e w'=>e=.returned (.tuple #[.int .i64 (Za lg ls).1,.int .i64 (Za lg ls).2])/\Ext w w':=by
 by_cases h0:lg < 0
 ·exact Qz9 hl h0
 by_cases h6:6 < lg
 ·exact Qqn hl h0 h6
 by_cases hlen:400 < ls.length
 ·exact Qdr hl (by omega) (by omega) hlen
 by_cases hpos:ls.length=0
 ·exact Qgp hl (by omega) (by omega) hpos
 exact Qdy hl hT (by omega) (by omega) (by omega) (by omega)
end Go.Proofs.YtmidgcldljfkcaaGreatDoor
