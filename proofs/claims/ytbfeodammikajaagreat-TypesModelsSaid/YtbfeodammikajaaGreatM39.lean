/- The reference of types: path. -/
import Derived.Test.YtbfeodammikajaaGreatM01
import Derived.Test.YtbfeodammikajaaGreatM38
namespace Go.Proofs.YtbfeodammikajaaGreat
set_option maxRecDepth 100000
set_option maxHeartbeats 128000000
open Go.RowKit
def lenV:Value->Nat
 |.slice _ n _=>n
 |_=>0
theorem nat_bool_row(q:List Nat):∀(off b:Nat) (w:World),(∀(j u:Nat),q[j]?=some u->w.cell? ⟨b,off+j,none⟩=some (.int .i64 (u:Int)))->∀j v,(q.map fun(u:Nat)=>Value.int .i64 (u:Int))[j]?=some v->w.cell? ⟨b,off+j,none⟩=some v:=fun off b w h j v hv=>by
 rw [List.getElem?_map]at hv;cases e:q[j]? with
 |none=>rw [e]at hv;cases hv
 |some u =>
  rw [e]at hv;obtain rfl:Value.int .i64 (u:Int)=v:=by simpa using hv
  exact h j u e
section
variable {base:Nat} {w:World} {l:List Bool} {q:List Nat}
theorem MadeB.cellAt {g n cap k:Nat}(h:MadeB base w (.slice (some ⟨g,0,none⟩) n cap) l)(hk:k < l.length):w.cell? ⟨g,k,none⟩=some (.bool (l.getD k false)):=by
 obtain⟨g',cap',e,_,_,_,_,hc,_⟩:=h.slice (by omega);injection e with e1;injection e1 with e1;injection e1 with e1;subst e1;exact hc k _ (by rw [Qk,Qv hk];rfl)
theorem Que.at_ {g off n cap:Nat}(h:Que base w (.slice (some ⟨g,off,none⟩) n cap) q):g < w.heap.size/\base<=g/\n=q.length/\q.length<=cap/\cap<=maxLen/\(∀(j u:Nat),q[j]?=some u->w.cell? ⟨g,off+j,none⟩=some (.int .i64 (u:Int)))/\(∀j,j < cap->(w.cell? ⟨g,off+j,none⟩).isSome=true)/\(∀j,w.frozen? ⟨g,j,none⟩=false):=by
 obtain⟨g',off',cap',e,h1,h2,h3,h4,h5,h6,h7⟩:=h.read;injection e with e1 e2 e3;injection e1 with e1;injection e1 with ea eb;subst ea eb e2 e3;exact⟨h1,h2,rfl,h3,h4,h5,h6,h7⟩
theorem Que.cut1 {g off x:Nat}(h:Que base w (.slice (some ⟨g,off,none⟩) (x :: q).length 1) (x :: q)):q= []/\Que base w (.slice (some ⟨g,off,none⟩) q.length 0) q:=by
 obtain⟨g',off',cap',cur,e,h1,h2,h3,h4,h5,h6⟩:=h;injection e with e1 _ e2;injection e1 with e1;injection e1 with ea eb;subst ea eb e2;have e0:q= []:=List.length_eq_zero_iff.1 (by rw [List.length_cons]at h3;omega);subst e0;exact⟨rfl,g,off,0,cur,rfl,h1,h2,Nat.le_refl _,by omega,by omega,fun j u hj=>by simp at hj⟩
end
theorem PthI.cut1 {w wr:World} {g b off x:Nat} {seen:List Bool} {ql:List Nat}(h:PthI w wr g (.slice (some ⟨b,off,none⟩) (x :: ql).length 1) seen (x :: ql)):PthI w wr g (.slice (some ⟨b,off,none⟩) ql.length 0) seen ql:=⟨h.ext,h.row,h.que.cut1.2,h.off⟩
theorem rpath_any(s:Nat)(lg:Int)(base:List (List Nd))(set:List Bool)(vs:Value)(i gn t m:Nat)(w:World)(hS:SpcAt w s lg base)(hbl:base.length<=12)(hlg:0<=lg/\lg<=6)(hm:m=2^base.length)(hsl:set.length=m)(hb:Bools w vs set)
 (hi:i < base.length)(h13:(topN base i).op=13)(hgn:(topN base i).g=(gn:Int)):
 Calls Tryz.prog 78 #[.pointer (some ⟨s,0,none⟩),vs,.int .i64 (i:Int),.int .i64 (t:Int)] w fun e w'=>e=.returned (.bool (pathN lg (knowsN base) set (cmAt base i) t))/\Ext w w':=by
 obtain⟨st,hst⟩:∃st,st=stepB lg (knowsN base) set (cmAt base i):=⟨_,rfl⟩;have HST:=Qq (show ∀a u,st a u=(stepN lg base set gn a u&&(condN base i).getD u false)from fun a u=>by
  rw [hst];show(set.getD u false&&((condN base i).getD u false&&(List.range 4).any fun(a1:Nat)=>gbit (topN base i).g a1&&possibleN lg (knowsN base) (a1:Int) a u))=(stepN lg base set gn a u&&(condN base i).getD u false);rw [hgn];unfold stepN;show(set.getD u false&&((condN base i).getD u false&&(List.range 4).any fun(a1:Nat)=>gn.testBit a1&&possibleN lg (knowsN base) (a1:Int) a u))=_;generalize (List.range 4).any _=z;cases set.getD u false <;> cases(condN base i).getD u false <;> cases z <;> rfl)
 have HLT:=Qq (show ∀a u,st a u=true->u < m from fun a u h=>by
  rw [HST.out]at h;by_cases e:u < m
  ·exact e
  unfold stepN at h;rw [show set.getD u false=false by rw [Qk,List.getElem?_eq_none (by omega)];rfl]at h;cases h)
 have HPN:=Qq (show pathN lg (knowsN base) set (cmAt base i) t=true↔(∃u,Rch (fun a b=>st a b=true) t u/\(lastT base i).getD u false=false) by classical rw [hst];unfold pathN;exact decide_eq_true_iff);have hcl:(condN base i).length=m:=by unfold condN;rw [h13,hm];exact tab_length _ _
 have hyl:(lastT base i).length=m:=by unfold lastT;rw [h13,hm];exact tab_length _ _
 have HCL:=Qq hcl;have HYL:=Qq hyl;obtain⟨vb,Ao,co,A1,c1,A2,c2,A3,c3,hs,d0,d1,d2,d3,d4,d5,HFM,HNO,HKN,HCO,HLA⟩:=hS.reads;have HS:=Qq hS;have HM:=Qq hm;have HSL:=Qq hsl;have hm2:m<=4096:=by rw [hm];exact pow12 hbl
 have hm0:0 < m:=by rw [hm];exact Nat.pow_pos (by omega)
 obtain⟨iB,hiB,hzB0,hzB1,hzB2⟩:=info_parts tInfoB;obtain⟨iI,hiI,hzI0,hzI1,hzI2⟩:=info_parts tInfoI;have HB:=Qq hb;obtain⟨As,cs,rfl,hbs⟩:=hb;rw [hsl]at HB⊢;obtain⟨l0,l6⟩:=hlg;have HL:=Qq (show 0<=lg/\lg<=6 from⟨l0,l6⟩);have D2:=Qq d2;have D4:=Qq d4;have D5:=Qq d5;obtain⟨ao,rfl,haol,hno⟩:=HNO.out i hi;obtain⟨aC,vC,rfl,haCl,hvC,⟨AC,cC,rfl,hbC⟩⟩:=HCO.out i hi;obtain⟨aY,vY,rfl,haYl,hvY,⟨AY,cY,rfl,hbY⟩⟩:=HLA.out i hi;have HNI:=Qq hno;have HVC:=Qq hvC;have HVY:=Qq hvY;have HBC:=Qq hbC;have HBY:=Qq hbY;have HGN:=Qq hgn;have hi1:(i:Int) < (base.length:Int):=by omega
 clear hS hm hsl hbs l0 l6 d0 d1 d2 d3 d4 d5 hcl hyl HFM HNO HKN HCO HLA hno hvC hvY hbC hbY hgn h13 hst;go_enter Tryz.func78,Tryz.ntmps78;go_wp2_with(refine wpList_make_full _ rfl _ _ 61 rfl w.heap.size 4 iB (.bool false) 1 Tryz.underlying61 hiB hzB0 hzB1 .i64 .i64 (m:Int) (m:Int) m rfl rfl rfl rfl (by rw [hzB2];omega) (by unfold maxLen;omega) (by simp) ?_);intro W1 hrow1 hgr1;have HXW:=Qq (show Ext w W1 from(Ext.refl w).grown hgr1 (fun k e=>by cases e));have HT:=Qq (show BRow w.heap.size W1 w.heap.size (List.replicate m false) by
  have h1:=hrow1;rw [made_false']at h1;unfold BRow;simp only [List.length_replicate];exact h1)
 clear hrow1 hgr1;obtain⟨g,hg⟩:∃g,g=w.heap.size:=⟨_,rfl⟩;have HG:=Qq hg;rw [<-hg];have HT2:=Qq (show BRow w.heap.size W1 g (List.replicate m false) by rw [hg];exact HT.out);clear hg HT
 have HP0:=Qq (show PthI w (W1.alloc (.cells #[.int .i64 (t:Int)] 3)) g (.slice (some ⟨W1.heap.size,0,none⟩) 1 1) (List.replicate m false) [t]from
  ⟨HXW.out.alloc _,HT2.out.ext (Qz.alloc _),Que.start HXW.out.size t,fun e=>by have h1:=HT2.out.lt.2;injection (show some W1.heap.size=some g from e)with e;omega⟩)
 go_wp2_with fail;go_loopw [10] (fun vq wr=>∃A,∃n c:Nat,vq=.slice A n c/\n<=8192/\Hid (∃q ps j seen,SrchI st (lastT base i) m t q ps j seen/\n=(q.drop j).length/\PthI w wr g (.slice A n c) seen (q.drop j))) (fun vq wr=>unseenW wr g m+lenV vq)
 case atStart=>exact⟨_,1,1,rfl,by omega,Qq ⟨[t],[0],0,_,SrchI.start st (lastT base i) m t,rfl,HP0.out⟩⟩
 case round =>
  clear HP0 HT2 HXW;obtain⟨A,n,c,rfl,hn8,HREL⟩:=hrel;by_cases hn0:0 < n
  ·have hn1:(0:Int) < (n:Int):=by omega
   obtain⟨q,ps,j,seen,hsr,hnq,hpt⟩:=HREL.out;clear HREL;have hjl:j < q.length:=by rw [List.length_drop]at hnq;omega
   obtain⟨cur,hcur⟩:∃cur,q[j]?=some cur:=⟨_,Qv hjl⟩;obtain⟨qr,hqr⟩:∃qr,qr=q.drop (j+1):=⟨_,rfl⟩;have hdr:q.drop j=cur :: qr:=by
    rw [List.drop_eq_getElem_cons hjl,<-hqr];rw [Qv hjl]at hcur;injection hcur with hcur;rw [hcur]
   rw [hdr]at hnq hpt;obtain⟨b,off,cap,he,hbl3,hbw,hn2,hn3,hrd,hsome,hfz⟩:=hpt.que.read;rw [<-hnq]at he;injection he with he1 _ he2;subst he1 he2;have q0:=hrd 0 cur rfl;rw [Nat.add_zero]at q0;have hnr:n - 1=qr.length:=by rw [hnq];rfl
   have hnr2:n=qr.length+1:=hnq;subst hnr2;have HPT:=Qq hpt;have HSR:=Qq hsr;have HQR:=Qq hqr;have HCUR:=Qq hcur;have HJL:=Qq hjl;obtain⟨e0,e1,e2,e3,e4,e5⟩:=HNI.out.keep fun p hp=>hpt.ext.cell (p:=p) (by rw [hp,block_of_add];exact haol)
   rw [HGN.out]at e3;have d2:=(hpt.ext.cell (p:=⟨s,2,none⟩) hs).trans D2.out;have hs2:=Qy hs hpt.ext.size;have haol2:(ao.add (i*6)).block < wr.heap.size:=by rw [block_of_add];exact Qy haol hpt.ext.size
   have hM0:=unseen_row hpt.row hsr.len;have HM0:=Qq hM0;clear hdr hqr hcur hpt hsr hrd hsome hfz hnq hnr hn0 hjl hM0;obtain⟨wo,hwo⟩:∃v,v=wr:=⟨_,rfl⟩;subst hwo;by_cases hc1:c=1
   ·subst hc1;have HPC:=Qq HPT.out.cut1;go_wp2_with fail;refine(step_any s lg base set _ gn cur m wo (HS.out.ext HPC.out.ext) hbl HL.out HM.out HSL.out (HB.out.ext HPC.out.ext)).mono ?_;rintro e w2 ⟨vst,rfl,hx2,hms⟩;obtain⟨stl,hstl⟩:∃l,l=(List.range m).map (stepN lg base set gn cur):=⟨_,rfl⟩;rw [<-hstl]at hms;have hsll:stl.length=m:=by rw [hstl];simp
    have HSTL:=Qq (show ∀k,k < m->stl.getD k false=stepN lg base set gn cur k from fun k hk=>by rw [hstl,Qk,List.getElem?_map,List.getElem?_range hk];rfl);obtain⟨gs,caps,rfl,hgsl,hgsb,_,_,_,hgsf⟩:=hms.slice (by omega);rw [hsll]at hms⊢;have HSLL:=Qq hsll;have HMS:=Qq hms;have HX2:=Qq hx2;have HGGS:=Qq (show g≠gs from fun e=>by have:=HPC.out.row.lt.2;omega);have HBGS:=Qq (show b≠gs by omega);have HUN:=Qq (show unseenW w2 g m=unseenW wo g m by rw [unseen_row (HPC.out.row.ext hx2) HSR.out.len,HM0.out]);have HPC2:=Qq (HPC.out.next hx2);clear hstl hsll hms hx2 q0 e0 e1 e2 e3 e4 e5 d2 hgsf;go_wp2_with fail
    go_loopw [10,40] (fun vq vk wr=>∃k:Nat,vk=.int .i64 (k:Int)/\k<=m/\∃A2,∃n2 c2:Nat,vq=.slice A2 n2 c2/\n2<=8192/\Hid (∃q' ps' seen',SrchI st (lastT base i) m t q' ps' j seen'/\q'[j]?=some cur/\n2=(q'.drop (j+1)).length/\PthI w wr g (.slice A2 n2 c2) seen' (q'.drop (j+1))/\(Value.slice A2 n2 c2).ownBlock≠some gs/\(∀u,u < k->st cur u=true->u∈q'.tail)/\MadeB wo.heap.size wr (.slice (some ⟨gs,0,none⟩) m caps) stl/\unseenW wr g m+n2<=unseenW wo g m+qr.length)) (fun _ vk _=>m - (intOf vk).toNat)
    case atStart=>exact⟨0,rfl,Nat.zero_le _,_,_,_,rfl,by omega,Qq ⟨q,ps,seen,HSR.out,HCUR.out,by rw [HQR.out],by rw [<-HQR.out];exact HPC2.out,fun e=>HBGS.out (by injection e),fun u hu=>absurd hu (by omega),HMS.out,by rw [HUN.out];exact Nat.le_refl _⟩⟩
    case round =>
     clear HPC HPC2 HUN HMS HX2 HPT HSR HQR HCUR HBGS HJL;obtain⟨k,rfl,hk,A2,n2,c2,rfl,hn28,HREL⟩:=hrel;by_cases hlt2:k < m
     ·have hk1:(k:Int) < (m:Int):=by omega
      obtain⟨q',ps',seen',hsr,hcur,hn2q,hpt,hoff,hdone,hms,hmeas⟩:=HREL.out;clear HREL;obtain⟨ql,hql⟩:∃ql,ql=q'.drop (j+1):=⟨_,rfl⟩;rw [<-hql]at hn2q hpt;have hjl:j < q'.length:=(List.getElem?_eq_some_iff.1 hcur).1;have hcg:q'.getD j 0=cur:=by rw [Qk,hcur];rfl
      have hqlen:=hsr.bfs.qlen;have hx:=hpt.ext;have p0:=hms.cellAt (k:=k) (by rw [HSLL.out];exact hlt2);rw [HSTL.out k hlt2]at p0;have gsl:gs < wr.heap.size:=(hms.lt gs rfl).2;have gl:g < wr.heap.size:=hpt.row.lt.2;have gfr:=hpt.row.frozen k;have s0:=hpt.row.cell (j:=k) (b:=seen'.getD k false) (by rw [Qk,List.getElem?_eq_getElem (by rw [hsr.len];exact hlt2)];rfl);have d4:=(hx.cell (p:=⟨s,4,none⟩) hs).trans D4.out;have d5:=(hx.cell (p:=⟨s,5,none⟩) hs).trans D5.out;have hs2:=Qy hs hx.size;have v4:=(hx.cell (p:=aC.add i) (Qj haCl)).trans HVC.out;have v5:=(hx.cell (p:=aY.add i) (Qj haYl)).trans HVY.out
      rw [HCL.out]at v4;rw [HYL.out]at v5;have haC2:(aC.add i).block < wr.heap.size:=by rw [block_of_add];exact Qy haCl hx.size
      have haY2:(aY.add i).block < wr.heap.size:=by rw [block_of_add];exact Qy haYl hx.size
      obtain⟨bC,rfl,hbCl,x4⟩:=bools_get HBC.out (k:=k) (by rw [HCL.out];exact hlt2);obtain⟨bY,rfl,hbYl,x5⟩:=bools_get HBY.out (k:=k) (by rw [HYL.out];exact hlt2);have u4:=(hx.cell (p:=bC.add k) (Qj hbCl)).trans x4;have u5:=(hx.cell (p:=bY.add k) (Qj hbYl)).trans x5;have hbC2:(bC.add k).block < wr.heap.size:=by rw [block_of_add];exact Qy hbCl hx.size
      have hbY2:(bY.add k).block < wr.heap.size:=by rw [block_of_add];exact Qy hbYl hx.size
      have HSK:=Qq (HST.out cur k);have HKEEP:=Qq (show ∀u,(k < m->(st cur k=true->k∈q'.tail))->u < k+1->st cur u=true->u∈q'.tail from fun u h hu=>by
       by_cases e:u < k
       ·exact hdone u e
       have:u=k:=by omega
       subst this;exact h hlt2)
      have HP:=Qq hpt;have HS2:=Qq hsr;have HC2:=Qq hcur;have HQL:=Qq hql;have HN2:=Qq hn2q;have HOF:=Qq hoff;have HMS:=Qq hms;have HME:=Qq hmeas;have HDN:=Qq hdone;have HJ:=Qq hjl;have HCG:=Qq hcg;have HSEEN:=Qq (hsr.seen k hlt2);have hnm:n2+1<=8192:=by rw [hn2q,hql,List.length_drop];omega
      clear hcur hql hpt hsr hn2q hoff hms hmeas hdone hx x4 x5 hjl hcg hqlen;have HROUND:=Qq (show(st cur k=true->k∈q'.tail)->(∃q' ps' seen',SrchI st (lastT base i) m t q' ps' j seen'/\q'[j]?=some cur/\n2=(q'.drop (j+1)).length/\PthI w wr g (.slice A2 n2 c2) seen' (q'.drop (j+1))/\(Value.slice A2 n2 c2).ownBlock≠some gs/\(∀u,u < k+1->st cur u=true->u∈q'.tail)/\MadeB wo.heap.size wr (.slice (some ⟨gs,0,none⟩) m caps) stl/\unseenW wr g m+n2<=unseenW wo g m+qr.length)from fun h=>⟨q',ps',seen',HS2.out,HC2.out,by rw [<-HQL.out];exact HN2.out,by rw [<-HQL.out];exact HP.out,HOF.out,fun u hu=>HKEEP.out u (fun _=>h) hu,HMS.out,HME.out⟩)
      cases hp:stepN lg base set gn cur k
      ·rw [hp]at p0 HSK;clear hp;go_wp2_with fail;go_roundw
       case rel=>exact⟨k+1,by go_num,by omega,_,_,_,rfl,hn28,Qq (HROUND.out fun e=>by rw [HSK.out]at e;cases e)⟩
       case measure=>simp [intOf];omega
      rw [hp]at p0 HSK;clear hp;cases hse:seen'.getD k false
      ·rw [hse]at s0;cases hcn:(condN base i).getD k false
       ·rw [hcn]at u4 HSK;clear hcn hse;go_wp2_with fail;go_roundw
        case rel=>exact⟨k+1,by go_num,by omega,_,_,_,rfl,hn28,Qq (HROUND.out fun e=>by rw [HSK.out]at e;cases e)⟩
        case measure=>simp [intOf];omega
       rw [hcn]at u4 HSK;have HSE:=Qq hse;have HSTK:=Qq (show st (q'.getD j 0) k=true by rw [HCG.out,HSK.out];rfl);clear hcn hse;cases hla:(lastT base i).getD k false
       ·rw [hla]at u5;have HE:=Qq (show pathN lg (knowsN base) set (cmAt base i) t=true from HPN.out.2 ⟨k,HS2.out.hit HJ.out hlt2 HSE.out HSTK.out,hla⟩);clear hla;go_wp2_with fail;go_ret;exact⟨by rw [HE.out] <;> rfl,HP.out.ext⟩
       rw [hla]at u5;have HSR3:=Qq (HS2.out.push HJ.out hlt2 HSE.out HSTK.out hla);clear hla;obtain⟨b3,off3,cap3,he3,_⟩:=HP.out.que.read;rw [<-HN2.out]at he3;injection he3 with he31 _ he32;subst he31 he32;have HPS:=Qq (HP.out.store k true);have HPW:=Qq ((HPS.out).next (Qz.alloc (.cells #[.int .i64 (k:Int)] 3)));obtain⟨hb3l,hb3b,hn3,hn3c,hc3m,hrd3,hsm3,hfz3⟩:=HPW.out.que.at_;have HRD3:=Qq hrd3;have HSM3:=Qq hsm3;have HFZ3:=Qq hfz3
       have HMSS:=Qq (show MadeB wo.heap.size ((wr.setCell ⟨g,k,none⟩ (.bool true)).alloc (.cells #[.int .i64 (k:Int)] 3)) (.slice (some ⟨gs,0,none⟩) m caps) stl from
        MadeB.ext (row_keep HMS.out fun x hx=>Below.heap_setCell _ _ _ _ (fun e=>HGGS.out (by injection hx with hx;exact e.symm.trans hx.symm)):MadeB wo.heap.size (wr.setCell ⟨g,k,none⟩ (.bool true)) (.slice (some ⟨gs,0,none⟩) m caps) stl) (Qz.alloc _))
       have HCNT:=Qq (show(seen'.set k true).countP (!·)+1=unseenW wr g m by rw [count_set (by rw [HS2.out.len];exact hlt2) HSE.out,unseen_row HP.out.row HS2.out.len]);have HDR:=Qq (show(q'++ [k]).drop (j+1)=ql++ [k] by rw [List.drop_append_of_le_length HJ.out,HQL.out]);have HNB:=Qq (show b3≠gs from fun e=>HOF.out (by rw [e];rfl));have HDN2:=Qq (show ∀u,u < k+1->st cur u=true->u∈(q'++ [k]).tail from fun u hu h=>by
        rw [tail_app (Nat.lt_of_le_of_lt (Nat.zero_le _) HJ.out)];by_cases e:u < k
        ·exact List.mem_append_left _ (HDN.out u e h)
        have:u=k:=by omega
        rw [this];exact List.mem_append_right _ (List.mem_singleton.2 rfl))
       have HCU2:=Qq (show(q'++ [k])[j]?=some cur by rw [List.getElem?_append_left HJ.out];exact HC2.out);clear hrd3 hsm3 hfz3 HROUND HKEEP;subst hn3;have hml:ql.length+1<=maxLen:=by unfold maxLen;omega
       go_wp2_with(at_builtin;refine wpList_append_arg _ rfl _ _ 28 rfl 3 iI (.int .i64 0) 1 8 Tryz.underlying28 hiI hzI0 hzI1 hzI2 rfl (by decide) b3 off3 ql.length c2 (ql.map fun(u:Nat)=>Value.int .i64 (u:Int)) rfl (by simp) (nat_bool_row ql off3 b3 _ HRD3.out) ⟨_,0,none⟩ 1 1 [.int .i64 (k:Int)] rfl rfl (row_new_at _ _ _ (by simp)) (fun u hu=>by rw [List.mem_singleton.1 hu];rfl) (fun hr j hj=>⟨by rw [Nat.add_assoc];exact HSM3.out _ (by simp at hj;omega),HFZ3.out _⟩) hml (by omega) ?room ?grow)
       case room =>
        intro hroom;have HPR:=Qq (by have h1:=HPW.out.room (u:=k) hroom;rw [Nat.mul_one]at h1;exact h1);have hgr:=(HPW.out.que.room (u:=k) hroom).2;rw [Nat.mul_one]at hgr;have HMR:=Qq (show MadeB wo.heap.size _ (.slice (some ⟨gs,0,none⟩) m caps) stl from row_keep HMSS.out fun x hx=>hgr.block x (HMSS.out.lt x hx).2 (fun e=>HNB.out ((Option.some.inj e).symm.trans (Option.some.inj hx).symm)));clear hgr;go_wp2_with fail;go_roundw
        case rel=>exact⟨k+1,by go_num,by omega,_,_,_,rfl,hnm,Qq ⟨q'++ [k],_,_,HSR3.out,HCU2.out,by rw [HDR.out];simp,by rw [HDR.out];exact HPR.out,fun e=>HNB.out (by injection e),HDN2.out,HMR.out,by rw [unseen_row HPR.out.row HSR3.out.len];have:=HCNT.out;have:=HME.out;omega⟩⟩
        case measure=>simp [intOf];omega
       case grow =>
        intro hcap v7 w7 hown7 hgrow7;have HPG:=Qq (HPW.out.grow (u:=k) rfl (row_base hown7 (by simp [World.setCell])) hgrow7);have HMR:=Qq (show MadeB wo.heap.size w7 (.slice (some ⟨gs,0,none⟩) m caps) stl from HMSS.out.ext (Qz.grown hgrow7 (fun k e=>by cases e)));have HV7:=Qq (show v7.ownBlock≠some gs from fun e=>by have h1:=(hown7.lt gs e).1;have h2:=(HMS.out.lt gs rfl).2;omega);obtain⟨A7,c7,rfl⟩:=slice_of_row hown7;clear hown7 hgrow7;go_wp2_with fail;go_roundw
        case rel=>exact⟨k+1,by go_num,by omega,_,_,_,rfl,hnm,Qq ⟨q'++ [k],_,_,HSR3.out,HCU2.out,by rw [HDR.out];simp,by rw [HDR.out];exact HPG.out,HV7.out,HDN2.out,HMR.out,by rw [unseen_row HPG.out.row HSR3.out.len];have:=HCNT.out;have:=HME.out;omega⟩⟩
        case measure=>simp [intOf];omega
      rw [hse]at s0;have HIN:=Qq (HSEEN.out.1 hse);clear hse;go_wp2_with fail;go_roundw
      case rel=>exact⟨k+1,by go_num,by omega,_,_,_,rfl,hn28,Qq (HROUND.out fun _=>HIN.out)⟩
      case measure=>simp [intOf];omega
     obtain rfl:m=k:=by omega
     obtain⟨q',ps',seen',hsr,hcur,hn2q,hpt,hoff,hdone,hms,hmeas⟩:=HREL.out;have HS2:=Qq (hsr.next (List.getElem?_eq_some_iff.1 hcur).1 (by rw [Qk,hcur];exact hdone) HLT.out);have HP:=Qq hpt;have HN2:=Qq hn2q;have HME:=Qq hmeas;clear HREL hsr hcur hn2q hpt hoff hdone hms hmeas;go_wp2_with fail;go_roundw
     case rel=>exact⟨_,_,_,rfl,hn28,Qq ⟨q',ps',j+1,seen',HS2.out,HN2.out,HP.out⟩⟩
     case measure=>simp only [lenV];have:=HME.out;omega
   have HPC:=Qq HPT.out.cut;go_wp2_with fail;refine(step_any s lg base set _ gn cur m wo (HS.out.ext HPC.out.ext) hbl HL.out HM.out HSL.out (HB.out.ext HPC.out.ext)).mono ?_;rintro e w2 ⟨vst,rfl,hx2,hms⟩;obtain⟨stl,hstl⟩:∃l,l=(List.range m).map (stepN lg base set gn cur):=⟨_,rfl⟩;rw [<-hstl]at hms;have hsll:stl.length=m:=by rw [hstl];simp
   have HSTL:=Qq (show ∀k,k < m->stl.getD k false=stepN lg base set gn cur k from fun k hk=>by rw [hstl,Qk,List.getElem?_map,List.getElem?_range hk];rfl);obtain⟨gs,caps,rfl,hgsl,hgsb,_,_,_,hgsf⟩:=hms.slice (by omega);rw [hsll]at hms⊢;have HSLL:=Qq hsll;have HMS:=Qq hms;have HX2:=Qq hx2;have HGGS:=Qq (show g≠gs from fun e=>by have:=HPC.out.row.lt.2;omega);have HBGS:=Qq (show b≠gs by omega);have HUN:=Qq (show unseenW w2 g m=unseenW wo g m by rw [unseen_row (HPC.out.row.ext hx2) HSR.out.len,HM0.out]);have HPC2:=Qq (HPC.out.next hx2);clear hstl hsll hms hx2 q0 e0 e1 e2 e3 e4 e5 d2 hgsf;go_wp2_with fail
   go_loopw [10,40] (fun vq vk wr=>∃k:Nat,vk=.int .i64 (k:Int)/\k<=m/\∃A2,∃n2 c2:Nat,vq=.slice A2 n2 c2/\n2<=8192/\Hid (∃q' ps' seen',SrchI st (lastT base i) m t q' ps' j seen'/\q'[j]?=some cur/\n2=(q'.drop (j+1)).length/\PthI w wr g (.slice A2 n2 c2) seen' (q'.drop (j+1))/\(Value.slice A2 n2 c2).ownBlock≠some gs/\(∀u,u < k->st cur u=true->u∈q'.tail)/\MadeB wo.heap.size wr (.slice (some ⟨gs,0,none⟩) m caps) stl/\unseenW wr g m+n2<=unseenW wo g m+qr.length)) (fun _ vk _=>m - (intOf vk).toNat)
   case atStart=>exact⟨0,rfl,Nat.zero_le _,_,_,_,rfl,by omega,Qq ⟨q,ps,seen,HSR.out,HCUR.out,by rw [HQR.out],by rw [<-HQR.out];exact HPC2.out,fun e=>HBGS.out (by injection e),fun u hu=>absurd hu (by omega),HMS.out,by rw [HUN.out];exact Nat.le_refl _⟩⟩
   case round =>
    clear HPC HPC2 HUN HMS HX2 HPT HSR HQR HCUR HBGS HJL;obtain⟨k,rfl,hk,A2,n2,c2,rfl,hn28,HREL⟩:=hrel;by_cases hlt2:k < m
    ·have hk1:(k:Int) < (m:Int):=by omega
     obtain⟨q',ps',seen',hsr,hcur,hn2q,hpt,hoff,hdone,hms,hmeas⟩:=HREL.out;clear HREL;obtain⟨ql,hql⟩:∃ql,ql=q'.drop (j+1):=⟨_,rfl⟩;rw [<-hql]at hn2q hpt;have hjl:j < q'.length:=(List.getElem?_eq_some_iff.1 hcur).1;have hcg:q'.getD j 0=cur:=by rw [Qk,hcur];rfl
     have hqlen:=hsr.bfs.qlen;have hx:=hpt.ext;have p0:=hms.cellAt (k:=k) (by rw [HSLL.out];exact hlt2);rw [HSTL.out k hlt2]at p0;have gsl:gs < wr.heap.size:=(hms.lt gs rfl).2;have gl:g < wr.heap.size:=hpt.row.lt.2;have gfr:=hpt.row.frozen k;have s0:=hpt.row.cell (j:=k) (b:=seen'.getD k false) (by rw [Qk,List.getElem?_eq_getElem (by rw [hsr.len];exact hlt2)];rfl);have d4:=(hx.cell (p:=⟨s,4,none⟩) hs).trans D4.out;have d5:=(hx.cell (p:=⟨s,5,none⟩) hs).trans D5.out;have hs2:=Qy hs hx.size;have v4:=(hx.cell (p:=aC.add i) (Qj haCl)).trans HVC.out;have v5:=(hx.cell (p:=aY.add i) (Qj haYl)).trans HVY.out
     rw [HCL.out]at v4;rw [HYL.out]at v5;have haC2:(aC.add i).block < wr.heap.size:=by rw [block_of_add];exact Qy haCl hx.size
     have haY2:(aY.add i).block < wr.heap.size:=by rw [block_of_add];exact Qy haYl hx.size
     obtain⟨bC,rfl,hbCl,x4⟩:=bools_get HBC.out (k:=k) (by rw [HCL.out];exact hlt2);obtain⟨bY,rfl,hbYl,x5⟩:=bools_get HBY.out (k:=k) (by rw [HYL.out];exact hlt2);have u4:=(hx.cell (p:=bC.add k) (Qj hbCl)).trans x4;have u5:=(hx.cell (p:=bY.add k) (Qj hbYl)).trans x5;have hbC2:(bC.add k).block < wr.heap.size:=by rw [block_of_add];exact Qy hbCl hx.size
     have hbY2:(bY.add k).block < wr.heap.size:=by rw [block_of_add];exact Qy hbYl hx.size
     have HSK:=Qq (HST.out cur k);have HKEEP:=Qq (show ∀u,(k < m->(st cur k=true->k∈q'.tail))->u < k+1->st cur u=true->u∈q'.tail from fun u h hu=>by
      by_cases e:u < k
      ·exact hdone u e
      have:u=k:=by omega
      subst this;exact h hlt2)
     have HP:=Qq hpt;have HS2:=Qq hsr;have HC2:=Qq hcur;have HQL:=Qq hql;have HN2:=Qq hn2q;have HOF:=Qq hoff;have HMS:=Qq hms;have HME:=Qq hmeas;have HDN:=Qq hdone;have HJ:=Qq hjl;have HCG:=Qq hcg;have HSEEN:=Qq (hsr.seen k hlt2);have hnm:n2+1<=8192:=by rw [hn2q,hql,List.length_drop];omega
     clear hcur hql hpt hsr hn2q hoff hms hmeas hdone hx x4 x5 hjl hcg hqlen;have HROUND:=Qq (show(st cur k=true->k∈q'.tail)->(∃q' ps' seen',SrchI st (lastT base i) m t q' ps' j seen'/\q'[j]?=some cur/\n2=(q'.drop (j+1)).length/\PthI w wr g (.slice A2 n2 c2) seen' (q'.drop (j+1))/\(Value.slice A2 n2 c2).ownBlock≠some gs/\(∀u,u < k+1->st cur u=true->u∈q'.tail)/\MadeB wo.heap.size wr (.slice (some ⟨gs,0,none⟩) m caps) stl/\unseenW wr g m+n2<=unseenW wo g m+qr.length)from fun h=>⟨q',ps',seen',HS2.out,HC2.out,by rw [<-HQL.out];exact HN2.out,by rw [<-HQL.out];exact HP.out,HOF.out,fun u hu=>HKEEP.out u (fun _=>h) hu,HMS.out,HME.out⟩)
     cases hp:stepN lg base set gn cur k
     ·rw [hp]at p0 HSK;clear hp;go_wp2_with fail;go_roundw
      case rel=>exact⟨k+1,by go_num,by omega,_,_,_,rfl,hn28,Qq (HROUND.out fun e=>by rw [HSK.out]at e;cases e)⟩
      case measure=>simp [intOf];omega
     rw [hp]at p0 HSK;clear hp;cases hse:seen'.getD k false
     ·rw [hse]at s0;cases hcn:(condN base i).getD k false
      ·rw [hcn]at u4 HSK;clear hcn hse;go_wp2_with fail;go_roundw
       case rel=>exact⟨k+1,by go_num,by omega,_,_,_,rfl,hn28,Qq (HROUND.out fun e=>by rw [HSK.out]at e;cases e)⟩
       case measure=>simp [intOf];omega
      rw [hcn]at u4 HSK;have HSE:=Qq hse;have HSTK:=Qq (show st (q'.getD j 0) k=true by rw [HCG.out,HSK.out];rfl);clear hcn hse;cases hla:(lastT base i).getD k false
      ·rw [hla]at u5;have HE:=Qq (show pathN lg (knowsN base) set (cmAt base i) t=true from HPN.out.2 ⟨k,HS2.out.hit HJ.out hlt2 HSE.out HSTK.out,hla⟩);clear hla;go_wp2_with fail;go_ret;exact⟨by rw [HE.out] <;> rfl,HP.out.ext⟩
      rw [hla]at u5;have HSR3:=Qq (HS2.out.push HJ.out hlt2 HSE.out HSTK.out hla);clear hla;obtain⟨b3,off3,cap3,he3,_⟩:=HP.out.que.read;rw [<-HN2.out]at he3;injection he3 with he31 _ he32;subst he31 he32;have HPS:=Qq (HP.out.store k true);have HPW:=Qq ((HPS.out).next (Qz.alloc (.cells #[.int .i64 (k:Int)] 3)));obtain⟨hb3l,hb3b,hn3,hn3c,hc3m,hrd3,hsm3,hfz3⟩:=HPW.out.que.at_;have HRD3:=Qq hrd3;have HSM3:=Qq hsm3;have HFZ3:=Qq hfz3
      have HMSS:=Qq (show MadeB wo.heap.size ((wr.setCell ⟨g,k,none⟩ (.bool true)).alloc (.cells #[.int .i64 (k:Int)] 3)) (.slice (some ⟨gs,0,none⟩) m caps) stl from
       MadeB.ext (row_keep HMS.out fun x hx=>Below.heap_setCell _ _ _ _ (fun e=>HGGS.out (by injection hx with hx;exact e.symm.trans hx.symm)):MadeB wo.heap.size (wr.setCell ⟨g,k,none⟩ (.bool true)) (.slice (some ⟨gs,0,none⟩) m caps) stl) (Qz.alloc _))
      have HCNT:=Qq (show(seen'.set k true).countP (!·)+1=unseenW wr g m by rw [count_set (by rw [HS2.out.len];exact hlt2) HSE.out,unseen_row HP.out.row HS2.out.len]);have HDR:=Qq (show(q'++ [k]).drop (j+1)=ql++ [k] by rw [List.drop_append_of_le_length HJ.out,HQL.out]);have HNB:=Qq (show b3≠gs from fun e=>HOF.out (by rw [e];rfl));have HDN2:=Qq (show ∀u,u < k+1->st cur u=true->u∈(q'++ [k]).tail from fun u hu h=>by
       rw [tail_app (Nat.lt_of_le_of_lt (Nat.zero_le _) HJ.out)];by_cases e:u < k
       ·exact List.mem_append_left _ (HDN.out u e h)
       have:u=k:=by omega
       rw [this];exact List.mem_append_right _ (List.mem_singleton.2 rfl))
      have HCU2:=Qq (show(q'++ [k])[j]?=some cur by rw [List.getElem?_append_left HJ.out];exact HC2.out);clear hrd3 hsm3 hfz3 HROUND HKEEP;subst hn3;have hml:ql.length+1<=maxLen:=by unfold maxLen;omega
      go_wp2_with(at_builtin;refine wpList_append_arg _ rfl _ _ 28 rfl 3 iI (.int .i64 0) 1 8 Tryz.underlying28 hiI hzI0 hzI1 hzI2 rfl (by decide) b3 off3 ql.length c2 (ql.map fun(u:Nat)=>Value.int .i64 (u:Int)) rfl (by simp) (nat_bool_row ql off3 b3 _ HRD3.out) ⟨_,0,none⟩ 1 1 [.int .i64 (k:Int)] rfl rfl (row_new_at _ _ _ (by simp)) (fun u hu=>by rw [List.mem_singleton.1 hu];rfl) (fun hr j hj=>⟨by rw [Nat.add_assoc];exact HSM3.out _ (by simp at hj;omega),HFZ3.out _⟩) hml (by omega) ?room ?grow)
      case room =>
       intro hroom;have HPR:=Qq (by have h1:=HPW.out.room (u:=k) hroom;rw [Nat.mul_one]at h1;exact h1);have hgr:=(HPW.out.que.room (u:=k) hroom).2;rw [Nat.mul_one]at hgr;have HMR:=Qq (show MadeB wo.heap.size _ (.slice (some ⟨gs,0,none⟩) m caps) stl from row_keep HMSS.out fun x hx=>hgr.block x (HMSS.out.lt x hx).2 (fun e=>HNB.out ((Option.some.inj e).symm.trans (Option.some.inj hx).symm)));clear hgr;go_wp2_with fail;go_roundw
       case rel=>exact⟨k+1,by go_num,by omega,_,_,_,rfl,hnm,Qq ⟨q'++ [k],_,_,HSR3.out,HCU2.out,by rw [HDR.out];simp,by rw [HDR.out];exact HPR.out,fun e=>HNB.out (by injection e),HDN2.out,HMR.out,by rw [unseen_row HPR.out.row HSR3.out.len];have:=HCNT.out;have:=HME.out;omega⟩⟩
       case measure=>simp [intOf];omega
      case grow =>
       intro hcap v7 w7 hown7 hgrow7;have HPG:=Qq (HPW.out.grow (u:=k) rfl (row_base hown7 (by simp [World.setCell])) hgrow7);have HMR:=Qq (show MadeB wo.heap.size w7 (.slice (some ⟨gs,0,none⟩) m caps) stl from HMSS.out.ext (Qz.grown hgrow7 (fun k e=>by cases e)));have HV7:=Qq (show v7.ownBlock≠some gs from fun e=>by have h1:=(hown7.lt gs e).1;have h2:=(HMS.out.lt gs rfl).2;omega);obtain⟨A7,c7,rfl⟩:=slice_of_row hown7;clear hown7 hgrow7;go_wp2_with fail;go_roundw
       case rel=>exact⟨k+1,by go_num,by omega,_,_,_,rfl,hnm,Qq ⟨q'++ [k],_,_,HSR3.out,HCU2.out,by rw [HDR.out];simp,by rw [HDR.out];exact HPG.out,HV7.out,HDN2.out,HMR.out,by rw [unseen_row HPG.out.row HSR3.out.len];have:=HCNT.out;have:=HME.out;omega⟩⟩
       case measure=>simp [intOf];omega
     rw [hse]at s0;have HIN:=Qq (HSEEN.out.1 hse);clear hse;go_wp2_with fail;go_roundw
     case rel=>exact⟨k+1,by go_num,by omega,_,_,_,rfl,hn28,Qq (HROUND.out fun _=>HIN.out)⟩
     case measure=>simp [intOf];omega
    obtain rfl:m=k:=by omega
    obtain⟨q',ps',seen',hsr,hcur,hn2q,hpt,hoff,hdone,hms,hmeas⟩:=HREL.out;have HS2:=Qq (hsr.next (List.getElem?_eq_some_iff.1 hcur).1 (by rw [Qk,hcur];exact hdone) HLT.out);have HP:=Qq hpt;have HN2:=Qq hn2q;have HME:=Qq hmeas;clear HREL hsr hcur hn2q hpt hoff hdone hms hmeas;go_wp2_with fail;go_roundw
    case rel=>exact⟨_,_,_,rfl,hn28,Qq ⟨q',ps',j+1,seen',HS2.out,HN2.out,HP.out⟩⟩
    case measure=>simp only [lenV];have:=HME.out;omega
  obtain rfl:n=0:=by omega
  obtain⟨q,ps,j,seen,hsr,hnq,hpt⟩:=HREL.out;have hj:j=q.length:=by rw [List.length_drop]at hnq;have:=hsr.jle;omega
  subst hj;have HE:=Qq (show pathN lg (knowsN base) set (cmAt base i) t=false by
   cases e:pathN lg (knowsN base) set (cmAt base i) t
   ·rfl
   exact absurd (HPN.out.1 e) hsr.miss)
  have HX:=Qq hpt.ext;clear HREL hsr hnq hpt;go_wp2_with fail;go_ret;exact⟨by rw [HE.out] <;> rfl,HX.out⟩
end Go.Proofs.YtbfeodammikajaaGreat
