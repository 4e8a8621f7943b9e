/- formula.build: the canonical list of a node with operands. -/
import Derived.Test.YtkmclcmnoicagaaGreatDoorT06
namespace Go.Proofs.YtkmclcmnoicagaaGreatDoor
set_option maxRecDepth 100000
set_option maxHeartbeats 128000000
open Go.RowKit
theorem Qbb(f:List Nd)(A:Option Addr)(c r n:Nat)(w:World)(hn:f.length=n)(hf:Wf f)(hok:∀n∈f,n.ok)(hlen:f.length<=1000)(hr:r < f.length)(h:Tj w A c f):
 Calls Tryz.prog 162 #[.slice A n c,.int .i64 r] w fun e w'=>∃v,e=.returned v/\w'.ownsRow w.heap.size 71 6 v (Zt f r []).1.length ((Zt f r []).1.flatMap Nd.cells)/\(∀n∈(Zt f r []).1,n.ok)/\Ext w w':=by
 subst hn;exact Pi f A c r w hf hok hlen hr h
theorem Ge(x:Nd)(v:Value)(ops:List (List Nd))(w:World)(hx:x.ok)(hops:Fl w v ops)(hn:ops.length<=2):
 Calls Tryz.prog 97 #[.agg #[.int .i64 x.op,.int .i64 x.i,.int .i64 x.e,.int .i64 x.g,.int .i64 x.x,.int .i64 x.y],v] w fun e w'=>∃u,e=.returned u/\Jl w w' u (Jc x ops):=by
 obtain⟨A,c,rfl,hcap,hmax,hread⟩:=hops;unfold maxLen at hmax;have HREAD:=Qq hread;have HXOK:=Qq hx;obtain⟨i0,hi0,hz0',hz1',hz2'⟩:=info_parts Qy2;clear hread hx;go_enter Tryz.func97,Tryz.ntmps97;go_wp2_with fail;go_loopw [5,16] (fun v5 i wr=>∃(k:Nat) (f:List Nd) (y:Nd),k<=ops.length/\i=.int .i64 k/\Hid (Wq w wr ops x k f y v5)) (fun _ i _=>ops.length - (intOf i).toNat)
 case atStart=>exact⟨0,[],x,Nat.zero_le _,rfl,Qq ⟨World.ownsRow_nil _ _ _ _,Qz.alloc _,heap_alloc_new _ _,rfl,rfl,Bb,by simp,HXOK.out,Nat.le_refl _⟩⟩
 case round =>
  obtain⟨wo,rfl⟩:∃wo:World,wo=wr:=⟨_,rfl⟩;obtain⟨k,f,y,hk,rfl,HO⟩:=hrel;obtain⟨A5,c5,rfl⟩:=Qt HO.out.row;have hflen:=HO.out.len;by_cases hlt:k < ops.length
  ·obtain⟨o,ho⟩:∃o,ops[k]?=some o:=⟨_,Qv hlt⟩;obtain⟨ad,rfl,hb1,hc1⟩:=HREAD.out (by intro e;rw [e]at hlt;simp at hlt);obtain⟨u,hu,hfu⟩:=hc1 k o ho;have cu:=(HO.out.ext.cell (p:=ad.add k) (Qj hb1)).trans hu;have HFU:=Qq (hfu.ext HO.out.ext);have HLAY:=Qq (Qbt ops k o f y ho);have HANY:=Qq (Qpb ops k o ho);obtain⟨Au,cuu,rfl,_⟩:=Qa hfu;clear hc1 hu hfu ho;by_cases hc:check o=0
   ·have HC:=Qq hc;clear hc;go_wp2_with fail;refine(Vn _ o _ HFU.out.1).mono ?_;rintro e w1 ⟨rfl,hb⟩;rw [HC.out];have HX1:=Qq hb;clear hb cu;go_wp2_with fail;refine(Uv _ o _ (HFU.out.ext HX1.out)).mono ?_;rintro e wi ⟨uc,rfl,hm⟩;have HM:=Qq hm;obtain⟨Ac,cc,rfl,hcc⟩:=Qa hm.fml;have hclr:=hcc.2.2;have hccap:=hcc.1;have hccm:=hcc.2.1;unfold maxLen at hccm;have HCLR:=Qq hclr;have hp:=Jf HC.out;have hlen200:=(Zm HC.out).2.1;have hcl1:(Qg o).length<=200:=by omega
    have hcl0:=hp.2.2.1;have HWFC:=Qq hp.1;have HOKC:=Qq hm.2.1;have HX2:=Qq (HO.out.ext.trans (HX1.out.trans hm.2.2));have HROWI:Hid (wi.ownsRow (w.heap.size+1) 71 6 (.slice A5 f.length c5) f.length (f.flatMap Nd.cells)):=Qq (Zf HO.out.row (HX1.out.trans hm.2.2))
    have HBOXI:Hid (wi.heap[w.heap.size]?=some (.cells #[.int .i64 y.op,.int .i64 y.i,.int .i64 y.e,.int .i64 y.g,.int .i64 y.x,.int .i64 y.y] 71 (0,0))):=
     Qq (((HX1.out.trans hm.2.2).block (Qm HO.out.box)).trans HO.out.box)
    have HNEW:=Qq (Ql4 hm HO.out.row HX1.out);obtain⟨cl,hcl⟩:∃cl,cl=Qg o:=⟨_,rfl⟩;have HCL:=Qq hcl;rw [<-hcl]at HCLR hccap hcl1 hcl0 HWFC HOKC;rw [<-hcl];clear hm hcc hclr hp hcl;go_wp2_with fail;go_loopw [5,29] (fun v5 i wr=>∃j:Nat,j<=cl.length/\i=.int .i64 j/\Hid (wr.ownsRow (w.heap.size+1) 71 6 v5 (f.length+j) ((f++(cl.take j).map (Zr f.length)).flatMap Nd.cells))/\Hid (Gj wi wr (.slice A5 f.length c5) v5)) (fun _ i _=>cl.length - (intOf i).toNat)
    case atStart=>exact⟨0,Nat.zero_le _,rfl,Qq (by simpa using HROWI.out),Qq (Gj.refl _ _)⟩
    case round =>
     obtain⟨j,hj,rfl,HROW2,HST⟩:=hrel;obtain⟨A6,c6,rfl⟩:=Qt HROW2.out;by_cases hlt2:j < cl.length
     ·obtain⟨a,ha⟩:∃a,cl[j]?=some a:=⟨_,Qv hlt2⟩;obtain⟨adc,rfl,hbc,hcc2⟩:=HCLR.out (by intro e;rw [e]at hlt2;simp at hlt2);obtain⟨a0,a1,a2,a3,a4,a5⟩:=(hcc2 j a ha).keep fun p hp=>HST.out.cell (p:=p) (by rw [hp,Qp];exact hbc) (by rw [hp,Qp];exact(HNEW.out adc rfl).1)
      obtain⟨xs,hxs⟩:∃xs,xs=(f++(cl.take j).map (Zr f.length)).flatMap Nd.cells:=⟨_,rfl⟩;rw [<-hxs]at HROW2;have HXS:=Qq hxs;clear hxs;have hxy:=HWFC.out j a ha;have haok:=HOKC.out a (List.mem_of_getElem? ha);have HTK:=Qq (Yh ha);have hc3:f.length+j+1<=maxLen:=by unfold maxLen;omega
      have hc4:(f.length+j+1)*48<=140737488355328:=by omega
      have HX3:Hid (w.heap.size+1<=wr.heap.size):=Qq (Qx (Nat.succ_le_of_lt (Qm HBOXI.out)) HST.out.size);have hxb:Qh a.op=true->0<=a.x/\a.x < 200:=fun e=>by have:=hxy.1 e;omega
      have hyb:Qc a.op=true->0<=a.y/\a.y < 200:=fun e=>by have:=hxy.2 e;omega
      clear hcc2 hxy haok ha;rcases Qf8 a.op with⟨hux,huy⟩|⟨hux,huy⟩|⟨hux,huy⟩
      ·
       have HUX:=Qq hux;have HUY:=Qq huy
       have HN2:Hid (xs++ [.int .i64 a.op,.int .i64 a.i,.int .i64 a.e,.int .i64 a.g,.int .i64 (a.x),.int .i64 (a.y)]=(f++(cl.take (j+1)).map (Zr f.length)).flatMap Nd.cells):=
        Qq (by rw [HXS.out,HTK.out,List.map_append,<-List.append_assoc,List.flatMap_append];simp [Zr,hux,huy,Nd.cells])
       clear hux huy hxb hyb;go_wp2_with(first|(go_at_call 161;refine(Yn _ _ _ _ _ _ _ _ HUX.out HUY.out rfl rfl rfl rfl rfl _).mono ?_;rintro e w2 ⟨rfl,hb⟩;have HB:=Qq hb;obtain⟨hc,hfz,hz0⟩:=hb.facts;clear hb;have hz:wr.heap.size < w2.heap.size:=by { simp at hz0;omega };clear hz0)|(at_builtin;refine wpList_append_own_at _ rfl _ _ 22 rfl (w.heap.size+1) 71 i0 Nd.zero.val 6 48 Tryz.underlying22 hi0 hz0' hz1' hz2' rfl (by decide) _ _ _ rfl (Zf HROW2.out ?hx) _ 1 1 [.int .i64 a.op,.int .i64 a.i,.int .i64 a.e,.int .i64 a.g,.int .i64 (a.x),.int .i64 (a.y)] rfl rfl ?c1 ?c2 hc3 hc4 ?c5 ?_))
       case hx=>exact((((Qz.alloc _).trans HB.out).alloc _).alloc _)
       case c1=>exact Jq _ _ _ (by simp)
       case c2 =>
        intro u hu;simp only [List.mem_cons,List.mem_nil_iff,or_false]at hu;rcases hu with rfl|rfl|rfl|rfl|rfl|rfl <;> rfl
       case c5 =>
        have h1:=HX3.out;have h2:=HB.out.size;simp at h2⊢;omega
       intro v' w4 hown4 hgrow4 _ hat4;have HROW4:=Qq hown4;have HST4:=Qq ((HST.out.ext ((((Qz.alloc _).trans HB.out).alloc _).alloc _)).appended hgrow4 (hat4.imp id fun e=>by rw [e];simp));obtain⟨A4,c4',rfl⟩:=Qt hown4;clear hown4 hgrow4 hat4;go_wp2_with fail;go_roundw
       case rel=>exact⟨j+1,by omega,by go_num,Qq (by rw [<-HN2.out];exact HROW4.out),HST4⟩
       case measure=>simp [intOf];omega
      ·
       obtain⟨bx0,bx1⟩:=hxb hux;have HUX:=Qq hux;have HUY:=Qq huy
       have HN2:Hid (xs++ [.int .i64 a.op,.int .i64 a.i,.int .i64 a.e,.int .i64 a.g,.int .i64 (a.x+(f.length:Int)),.int .i64 (a.y)]=(f++(cl.take (j+1)).map (Zr f.length)).flatMap Nd.cells):=
        Qq (by rw [HXS.out,HTK.out,List.map_append,<-List.append_assoc,List.flatMap_append];simp [Zr,hux,huy,Nd.cells])
       clear hux huy hxb hyb;go_wp2_with(first|(go_at_call 161;refine(Yn _ _ _ _ _ _ _ _ HUX.out HUY.out rfl rfl rfl rfl rfl _).mono ?_;rintro e w2 ⟨rfl,hb⟩;have HB:=Qq hb;obtain⟨hc,hfz,hz0⟩:=hb.facts;clear hb;have hz:wr.heap.size < w2.heap.size:=by { simp at hz0;omega };clear hz0)|(at_builtin;refine wpList_append_own_at _ rfl _ _ 22 rfl (w.heap.size+1) 71 i0 Nd.zero.val 6 48 Tryz.underlying22 hi0 hz0' hz1' hz2' rfl (by decide) _ _ _ rfl (Zf HROW2.out ?hx) _ 1 1 [.int .i64 a.op,.int .i64 a.i,.int .i64 a.e,.int .i64 a.g,.int .i64 (a.x+(f.length:Int)),.int .i64 (a.y)] rfl rfl ?c1 ?c2 hc3 hc4 ?c5 ?_))
       case hx=>exact(((Ext.setCell (p:=⟨wr.heap.size,4,none⟩) ((Qz.alloc _).trans HB.out) (Nat.le_refl _) _).alloc _).alloc _)
       case c1=>exact Jq _ _ _ (by simp)
       case c2 =>
        intro u hu;simp only [List.mem_cons,List.mem_nil_iff,or_false]at hu;rcases hu with rfl|rfl|rfl|rfl|rfl|rfl <;> rfl
       case c5 =>
        have h1:=HX3.out;have h2:=HB.out.size;simp at h2⊢;omega
       intro v' w4 hown4 hgrow4 _ hat4;have HROW4:=Qq hown4;have HST4:=Qq ((HST.out.ext (((Ext.setCell (p:=⟨wr.heap.size,4,none⟩) ((Qz.alloc _).trans HB.out) (Nat.le_refl _) _).alloc _).alloc _)).appended hgrow4 (hat4.imp id fun e=>by rw [e];simp));obtain⟨A4,c4',rfl⟩:=Qt hown4;clear hown4 hgrow4 hat4;go_wp2_with fail;go_roundw
       case rel=>exact⟨j+1,by omega,by go_num,Qq (by rw [<-HN2.out];exact HROW4.out),HST4⟩
       case measure=>simp [intOf];omega
      
      obtain⟨bx0,bx1⟩:=hxb hux;obtain⟨by0,by1⟩:=hyb huy;have HUX:=Qq hux;have HUY:=Qq huy
      have HN2:Hid (xs++ [.int .i64 a.op,.int .i64 a.i,.int .i64 a.e,.int .i64 a.g,.int .i64 (a.x+(f.length:Int)),.int .i64 (a.y+(f.length:Int))]=(f++(cl.take (j+1)).map (Zr f.length)).flatMap Nd.cells):=
       Qq (by rw [HXS.out,HTK.out,List.map_append,<-List.append_assoc,List.flatMap_append];simp [Zr,hux,huy,Nd.cells])
      clear hux huy hxb hyb;go_wp2_with(first|(go_at_call 161;refine(Yn _ _ _ _ _ _ _ _ HUX.out HUY.out rfl rfl rfl rfl rfl _).mono ?_;rintro e w2 ⟨rfl,hb⟩;have HB:=Qq hb;obtain⟨hc,hfz,hz0⟩:=hb.facts;clear hb;have hz:wr.heap.size < w2.heap.size:=by { simp at hz0;omega };clear hz0)|(at_builtin;refine wpList_append_own_at _ rfl _ _ 22 rfl (w.heap.size+1) 71 i0 Nd.zero.val 6 48 Tryz.underlying22 hi0 hz0' hz1' hz2' rfl (by decide) _ _ _ rfl (Zf HROW2.out ?hx) _ 1 1 [.int .i64 a.op,.int .i64 a.i,.int .i64 a.e,.int .i64 a.g,.int .i64 (a.x+(f.length:Int)),.int .i64 (a.y+(f.length:Int))] rfl rfl ?c1 ?c2 hc3 hc4 ?c5 ?_))
      case hx=>exact(((Ext.setCell (p:=⟨wr.heap.size,5,none⟩) (Ext.setCell (p:=⟨wr.heap.size,4,none⟩) ((Qz.alloc _).trans HB.out) (Nat.le_refl _) _) (Nat.le_refl _) _).alloc _).alloc _)
      case c1=>exact Jq _ _ _ (by simp)
      case c2 =>
       intro u hu;simp only [List.mem_cons,List.mem_nil_iff,or_false]at hu;rcases hu with rfl|rfl|rfl|rfl|rfl|rfl <;> rfl
      case c5 =>
       have h1:=HX3.out;have h2:=HB.out.size;simp at h2⊢;omega
      intro v' w4 hown4 hgrow4 _ hat4;have HROW4:=Qq hown4;have HST4:=Qq ((HST.out.ext (((Ext.setCell (p:=⟨wr.heap.size,5,none⟩) (Ext.setCell (p:=⟨wr.heap.size,4,none⟩) ((Qz.alloc _).trans HB.out) (Nat.le_refl _) _) (Nat.le_refl _) _).alloc _).alloc _)).appended hgrow4 (hat4.imp id fun e=>by rw [e];simp));obtain⟨A4,c4',rfl⟩:=Qt hown4;clear hown4 hgrow4 hat4;go_wp2_with fail;go_roundw
      case rel=>exact⟨j+1,by omega,by go_num,Qq (by rw [<-HN2.out];exact HROW4.out),HST4⟩
      case measure=>simp [intOf];omega
     obtain rfl:cl.length=j:=by omega
     clear hlt2;have hlast:1<=f.length+cl.length:=by omega
     have HBX:Hid (wr.heap[w.heap.size]?=some (.cells #[.int .i64 y.op,.int .i64 y.i,.int .i64 y.e,.int .i64 y.g,.int .i64 y.x,.int .i64 y.y] 71 (0,0))):=
      Qq ((HST.out.block _ (Qm HBOXI.out) (Nk HROWI.out)).trans HBOXI.out)
     obtain⟨⟨d0,d1,d2,d3,d4,d5⟩,dfr,dlt⟩:=Yx HBX.out;by_cases hk0:k=0
     ·
      obtain rfl:k=0:=hk0;go_wp2_with fail;go_roundw
      case rel=>exact⟨0+1,_,_,by omega,by go_num,Qq (HO.out.next (by omega) HX2.out HROWI.out HST.out HROW2.out HBOXI.out HLAY.out HANY.out HC.out HCL.out HWFC.out hcl1 HOKC.out 4 rfl _ (by go_num))⟩
      case measure=>simp [intOf];omega
     
     have hkb:((k:Int)==0)=false:=by rw [beq_eq_false_iff_ne];omega
     have HKB:=Qq hk0;clear hk0;go_wp2_with fail;go_roundw
     case rel=>exact⟨k+1,_,_,by omega,by go_num,Qq (HO.out.next (by omega) HX2.out HROWI.out HST.out HROW2.out HBOXI.out HLAY.out HANY.out HC.out HCL.out HWFC.out hcl1 HOKC.out 5 (by have e:(k==0)=false:=by { rw [beq_eq_false_iff_ne];exact HKB.out };rw [e];rfl) _ (by go_num))⟩
     case measure=>simp [intOf];omega
   have HB0:=Qq (HO.out.bad hc HANY.out);have hcb:(check o !=0)=true:=by simpa using hc
   clear hc;go_wp2_with fail;refine(Vn _ o _ HFU.out.1).mono ?_;rintro e w1 ⟨rfl,hb⟩;have HX1:=Qq (HO.out.ext.trans hb);clear hb;go_wp2_with fail;go_ret;exact⟨_,rfl,by rw [HB0.out];exact(Jl.none_ _).after HX1.out⟩
  obtain rfl:ops.length=k:=by omega
  have HJ:=Qq HO.out.end_;obtain⟨⟨d0,d1,d2,d3,d4,d5⟩,dfr,dlt⟩:=Yx HO.out.box;by_cases hne:Qo y f.length=0
  ·have HNE:=Qq hne;clear hne;go_wp2_with fail;refine(Nn y _ _).mono ?_;rintro e w1 ⟨rfl,hb⟩;rw [HNE.out];have HX1:=Qq hb;have HROW1:=Qq (Zf HO.out.row hb);have HBX:Hid (w1.heap[w.heap.size]?=some (.cells #[.int .i64 y.op,.int .i64 y.i,.int .i64 y.e,.int .i64 y.g,.int .i64 y.x,.int .i64 y.y] 71 (0,0))):=Qq ((hb.block (Qm HO.out.box)).trans HO.out.box);clear hb d0 d1 d2 d3 d4 d5 dfr dlt;obtain⟨⟨d0,d1,d2,d3,d4,d5⟩,dfr,dlt⟩:=Yx HBX.out;obtain⟨xs,hxs⟩:∃xs,xs=f.flatMap Nd.cells:=⟨_,rfl⟩;rw [<-hxs]at HROW1;have HXS:=Qq hxs;clear hxs;have hc3:f.length+1<=maxLen:=by unfold maxLen;omega
   have hc4:(f.length+1)*48<=140737488355328:=by omega
   go_wp2_with(at_builtin;refine wpList_append_own_at _ rfl _ _ 22 rfl (w.heap.size+1) 71 i0 Nd.zero.val 6 48 Tryz.underlying22 hi0 hz0' hz1' hz2' rfl (by decide) _ _ _ rfl (Zf HROW1.out ?hx) _ 1 1 y.cells rfl rfl ?c1 (Fw y) hc3 hc4 ?c5 ?_)
   case hx=>exact Qz.alloc _
   case c1=>exact Jq _ _ _ rfl
   case c5=>simp;omega
   intro v' w4 hown4 hgrow4 _ hat4;have HROW4:Hid (w4.ownsRow (w.heap.size+1) 71 6 v' (f++ [y]).length ((f++ [y]).flatMap Nd.cells)):=Qq (by rw [HXS.out]at hown4;simpa using hown4);have HX4:Hid (Ext w w4):=Qq ((((HO.out.ext.trans HX1.out).alloc _).grown hgrow4 (fun g hg=>by have:=(HO.out.row.lt g hg).1;omega)));obtain⟨A7,c7,hv7,hat7⟩:=Sv HROW4.out;have HAT7:=Qq hat7;have e7:(f++ [y]).length=f.length+1:=by simp
   rw [e7]at hv7;have HWF:=Qq (Qed HO.out.wf HNE.out);have HOKS:Hid (∀n∈f++ [y],n.ok):=Qq (fun n hn=>by
    rcases List.mem_append.1 hn with hn|hn
    ·exact HO.out.oks n hn
    rw [List.mem_singleton.1 hn];exact HO.out.yok)
   have HE7:=Qq e7;subst hv7;clear hown4 hgrow4 hat4 hat7 e7;go_wp2_with fail;refine(Qbb (f++ [y]) A7 c7 f.length (f.length+1) _ HE7.out HWF.out HOKS.out (by rw [HE7.out];omega) (by rw [HE7.out];omega) HAT7.out).mono ?_;rintro e w5 ⟨u5,rfl,hrow5,hoks5,hext5⟩;have HM5:=Qq (show Jl w w5 u5 (Zt (f++ [y]) f.length []).1 from Jl.before ⟨hrow5,hoks5,hext5⟩ HX4.out);obtain⟨A8,c8,rfl⟩:=Qt hrow5;clear hrow5 hoks5 hext5;by_cases hlong:200 < (Zt (f++ [y]) f.length []).1.length
   ·have HLJ:=Qq (Qls HNE.out hlong);generalize (Zt (f++ [y]) f.length []).1=cf at HM5 hlong;go_wp2_with fail;go_ret;exact⟨_,rfl,by rw [HJ.out,HLJ.out];exact(Jl.none_ _).after HM5.out.2.2⟩
   have HLJ:=Qq (Qeb HNE.out hlong);generalize (Zt (f++ [y]) f.length []).1=cf at HM5 hlong HLJ;go_wp2_with fail;go_ret;exact⟨_,rfl,by rw [HJ.out,HLJ.out];exact HM5.out⟩
  have HB0:=Qq (Qcd hne);have hcb:(Qo y f.length !=0)=true:=by simpa using hne
  clear hne;go_wp2_with fail;refine(Nn y _ _).mono ?_;rintro e w1 ⟨rfl,hb⟩;have HX1:=Qq (HO.out.ext.trans hb);clear hb;go_wp2_with fail;go_ret;exact⟨_,rfl,by rw [HJ.out,HB0.out];exact(Jl.none_ _).after HX1.out⟩
theorem Qz0(w:World):Fl w (.slice none 0 0) []:=⟨none,0,rfl,Nat.le_refl _,by unfold maxLen;omega,fun h=>absurd rfl h⟩
theorem Qgc {w:World} {v:Value} {f:List Nd}(h:Fml w v f):Fl (w.alloc (.cells #[v] 22)) (.slice (some ⟨w.heap.size,0,none⟩) 1 1) [f]:=by
 refine⟨_,_,rfl,Nat.le_refl _,by unfold maxLen;simp,fun _=>⟨_,rfl,by simp,fun k l hk=> ?_⟩⟩
 match k,hk with
 |0,hk =>
  simp only [List.getElem?_cons_zero,Option.some.injEq]at hk;subst hk;exact⟨v,Cl w #[v] 22 0 v rfl,h.ext (Qz.alloc _)⟩
theorem Mr {w:World} {v1 v2:Value} {f g:List Nd}(h1:Fml w v1 f)(h2:Fml w v2 g):Fl (w.alloc (.cells #[v1,v2] 22)) (.slice (some ⟨w.heap.size,0,none⟩) 2 2) [f,g]:=by
 refine⟨_,_,rfl,Nat.le_refl _,by unfold maxLen;simp,fun _=>⟨_,rfl,by simp,fun k l hk=> ?_⟩⟩
 match k,hk with
 |0,hk =>
  simp only [List.getElem?_cons_zero,Option.some.injEq]at hk;subst hk;exact⟨v1,Cl w #[v1,v2] 22 0 v1 rfl,h1.ext (Qz.alloc _)⟩
 |1,hk =>
  simp only [List.getElem?_cons_succ,List.getElem?_cons_zero,Option.some.injEq]at hk;subst hk;exact⟨v2,Cl w #[v1,v2] 22 1 v2 rfl,h2.ext (Qz.alloc _)⟩
theorem Ux {a b c d e g:Int}(ha:Yj a)(hb:Yj b)(hc:Yj c)(hd:Yj d)(he:Yj e)(hg:Yj g):(Nd.mk a b c d e g).ok:=⟨ha,hb,hc,hd,he,hg⟩
theorem Zq {a:Int}(h0:0<=a)(h1:a<=1000):Yj a:=⟨by omega,by omega⟩
def Sf:List Nd:=Jc ⟨1,0,0,0,0,0⟩ []
theorem Qf3(w:World):
 Calls Tryz.prog 119 #[] w fun e w'=>∃u,e=.returned u/\Jl w w' u (Sf):=by
 go_enter Tryz.func119,Tryz.ntmps119;go_wp2_with fail;refine(Ge ⟨1,0,0,0,0,0⟩ _ [] _ (Ux (Zq (by omega) (by omega)) (Zq (by omega) (by omega)) (Zq (by omega) (by omega)) (Zq (by omega) (by omega)) (Zq (by omega) (by omega)) (Zq (by omega) (by omega))) (Qz0 _) (by simp)).mono ?_;rintro e w1 ⟨u,rfl,hm⟩;have HM:=Qq hm;clear hm;go_wp2_with fail;go_ret;exact⟨_,rfl,HM.out⟩
def Tp:List Nd:=Jc ⟨2,0,0,0,0,0⟩ []
theorem Qti(w:World):
 Calls Tryz.prog 120 #[] w fun e w'=>∃u,e=.returned u/\Jl w w' u (Tp):=by
 go_enter Tryz.func120,Tryz.ntmps120;go_wp2_with fail;refine(Ge ⟨2,0,0,0,0,0⟩ _ [] _ (Ux (Zq (by omega) (by omega)) (Zq (by omega) (by omega)) (Zq (by omega) (by omega)) (Zq (by omega) (by omega)) (Zq (by omega) (by omega)) (Zq (by omega) (by omega))) (Qz0 _) (by simp)).mono ?_;rintro e w1 ⟨u,rfl,hm⟩;have HM:=Qq hm;clear hm;go_wp2_with fail;go_ret;exact⟨_,rfl,HM.out⟩
def Ur(a:Int):List Nd:=Jc ⟨3,a,0,0,0,0⟩ []
theorem Qp2(a:Int)(ha:Yj a)(w:World):
 Calls Tryz.prog 121 #[.int .i64 a] w fun e w'=>∃u,e=.returned u/\Jl w w' u (Ur a):=by
 go_enter Tryz.func121,Tryz.ntmps121;go_wp2_with fail;refine(Ge ⟨3,a,0,0,0,0⟩ _ [] _ (Ux (Zq (by omega) (by omega)) ha (Zq (by omega) (by omega)) (Zq (by omega) (by omega)) (Zq (by omega) (by omega)) (Zq (by omega) (by omega))) (Qz0 _) (by simp)).mono ?_;rintro e w1 ⟨u,rfl,hm⟩;have HM:=Qq hm;clear hm;go_wp2_with fail;go_ret;exact⟨_,rfl,HM.out⟩
def Jp(f:List Nd):List Nd:=Jc ⟨4,0,0,0,0,0⟩ [f]
theorem Qvr(v1:Value)(f:List Nd)(w:World)(h1:Fml w v1 f):
 Calls Tryz.prog 38 #[v1] w fun e w'=>∃u,e=.returned u/\Jl w w' u (Jp f):=by
 have H1:=Qq h1;obtain⟨A1,c1,rfl,_⟩:=Qa h1;clear h1;go_enter Tryz.func38,Tryz.ntmps38;go_wp2_with fail;refine(Ge ⟨4,0,0,0,0,0⟩ _ [f] _ (Ux (Zq (by omega) (by omega)) (Zq (by omega) (by omega)) (Zq (by omega) (by omega)) (Zq (by omega) (by omega)) (Zq (by omega) (by omega)) (Zq (by omega) (by omega))) (Qgc H1.out) (by simp)).mono ?_;rintro e w1 ⟨u,rfl,hm⟩;have HM:=Qq hm;clear hm;go_wp2_with fail;go_ret;exact⟨_,rfl,(HM.out.before (Qz.alloc _))⟩
def Xi(f g:List Nd):List Nd:=Jc ⟨5,0,0,0,0,0⟩ [f,g]
theorem Qvj(v1 v2:Value)(f g:List Nd)(w:World)(h1:Fml w v1 f)(h2:Fml w v2 g):
 Calls Tryz.prog 71 #[v1,v2] w fun e w'=>∃u,e=.returned u/\Jl w w' u (Xi f g):=by
 have H1:=Qq h1;have H2:=Qq h2;obtain⟨A1,c1,rfl,_⟩:=Qa h1;obtain⟨A2,c2,rfl,_⟩:=Qa h2;clear h1 h2;go_enter Tryz.func71,Tryz.ntmps71;go_wp2_with fail;refine(Ge ⟨5,0,0,0,0,0⟩ _ [f,g] _ (Ux (Zq (by omega) (by omega)) (Zq (by omega) (by omega)) (Zq (by omega) (by omega)) (Zq (by omega) (by omega)) (Zq (by omega) (by omega)) (Zq (by omega) (by omega))) (Mr H1.out H2.out) (by simp)).mono ?_;rintro e w1 ⟨u,rfl,hm⟩;have HM:=Qq hm;clear hm;go_wp2_with fail;go_ret;exact⟨_,rfl,(HM.out.before (Qz.alloc _))⟩
def Cj(f g:List Nd):List Nd:=Jc ⟨7,0,0,0,0,0⟩ [f,g]
theorem Qdt(v1 v2:Value)(f g:List Nd)(w:World)(h1:Fml w v1 f)(h2:Fml w v2 g):
 Calls Tryz.prog 74 #[v1,v2] w fun e w'=>∃u,e=.returned u/\Jl w w' u (Cj f g):=by
 have H1:=Qq h1;have H2:=Qq h2;obtain⟨A1,c1,rfl,_⟩:=Qa h1;obtain⟨A2,c2,rfl,_⟩:=Qa h2;clear h1 h2;go_enter Tryz.func74,Tryz.ntmps74;go_wp2_with fail;refine(Ge ⟨7,0,0,0,0,0⟩ _ [f,g] _ (Ux (Zq (by omega) (by omega)) (Zq (by omega) (by omega)) (Zq (by omega) (by omega)) (Zq (by omega) (by omega)) (Zq (by omega) (by omega)) (Zq (by omega) (by omega))) (Mr H1.out H2.out) (by simp)).mono ?_;rintro e w1 ⟨u,rfl,hm⟩;have HM:=Qq hm;clear hm;go_wp2_with fail;go_ret;exact⟨_,rfl,(HM.out.before (Qz.alloc _))⟩
def Ki(a:Int)(f:List Nd):List Nd:=Jc ⟨9,a,0,0,0,0⟩ [f]
theorem Ag(a:Int)(ha:Yj a)(v1:Value)(f:List Nd)(w:World)(h1:Fml w v1 f):
 Calls Tryz.prog 72 #[.int .i64 a,v1] w fun e w'=>∃u,e=.returned u/\Jl w w' u (Ki a f):=by
 have H1:=Qq h1;obtain⟨A1,c1,rfl,_⟩:=Qa h1;clear h1;go_enter Tryz.func72,Tryz.ntmps72;go_wp2_with fail;refine(Ge ⟨9,a,0,0,0,0⟩ _ [f] _ (Ux (Zq (by omega) (by omega)) ha (Zq (by omega) (by omega)) (Zq (by omega) (by omega)) (Zq (by omega) (by omega)) (Zq (by omega) (by omega))) (Qgc H1.out) (by simp)).mono ?_;rintro e w1 ⟨u,rfl,hm⟩;have HM:=Qq hm;clear hm;go_wp2_with fail;go_ret;exact⟨_,rfl,(HM.out.before (Qz.alloc _))⟩
def Qak(a:Int)(f:List Nd):List Nd:=Jc ⟨10,a,0,0,0,0⟩ [f]
theorem Sj {w:World} {base n:Nat} {vd:Value} {d:List Int}(h:w.ownsRow base 3 1 vd n (d.map (Value.int .i64)))(hn:0 < n):
 ∃g cap,vd=.slice (some ⟨g,0,none⟩) n cap/\g < w.heap.size/\n<=cap/\cap<=maxLen/\∀i z,d[i]?=some z->w.cell? ⟨g,i,none⟩=some (.int .i64 z)/\w.frozen? ⟨g,i,none⟩=false:=by
 rcases h.2 with⟨_,h0⟩|⟨g,cap,cur,rfl,_,hg,hnc,hm,hs,ht⟩
 ·omega
 refine⟨g,cap,rfl,Qm hg,hnc,hm,fun i z hz=>⟨?_,by simp [World.frozen?,hg]⟩⟩;have h1:(d.map (Value.int .i64))[i]?=some (.int .i64 z):=by rw [List.getElem?_map,hz];rfl
 rw [<-ht,List.getElem?_take]at h1
 split at h1
 ·have h2:cur[i]?=some (.int .i64 z):=by simpa using h1
  simp [World.cell?,hg,h2]
 cases h1
theorem Un(g i:Nat):((⟨g,0,none⟩:Addr).add i)=⟨g,i,none⟩:=by
 unfold Addr.add
 split
 ·rename_i h;rw [h]
 simp
def Wz(w:World)(A:Option Addr)(c:Nat)(l:List Int):Prop :=
 l.length<=c/\c<=maxLen/\(l≠ []->∃ad,A=some ad/\ad.block < w.heap.size/\∀k z,l[k]?=some z->w.cell? (ad.add k)=some (.int .i64 z))
def Nt(w:World)(v:Value)(l:List Int):Prop:=∃A c,v=.slice A l.length c/\Wz w A c l
theorem Wz.ext {w w':World} {A:Option Addr} {c:Nat} {l:List Int}(h:Wz w A c l)(he:Ext w w'):Wz w' A c l :=
 ⟨h.1,h.2.1,fun hn=>by
  obtain⟨ad,e,hlt,hc⟩:=h.2.2 hn;exact⟨ad,e,Qy hlt he.size,fun k z hk=>(he.cell (Qj hlt)).trans (hc k z hk)⟩⟩
theorem Nt.ext {w w':World} {v:Value} {l:List Int}(h:Nt w v l)(he:Ext w w'):Nt w' v l:=by
 obtain⟨A,c,e,h⟩:=h;exact⟨A,c,e,h.ext he⟩
theorem Nt.none_(w:World):Nt w (.slice none 0 0) []:=⟨none,0,rfl,Nat.le_refl _,by unfold maxLen;omega,fun h=>absurd rfl h⟩
theorem Qq9 {w:World} {base:Nat} {v:Value} {l:List Int}(h:w.ownsRow base 3 1 v l.length (l.map (Value.int .i64))):Nt w v l:=by
 by_cases h0:0 < l.length
 ·obtain⟨g,cap,rfl,hg,hc,hm,hcell⟩:=Sj h h0;exact⟨_,_,rfl,hc,hm,fun _=>⟨_,rfl,hg,fun k z hk=>by rw [Un];exact(hcell k z hk).1⟩⟩
 have e:l= []:=List.length_eq_zero_iff.1 (by omega);subst e;rcases h.2 with⟨rfl,_⟩|⟨g,cap,cur,rfl,_,_,hn,hm,_⟩
 ·exact Nt.none_ w
 exact⟨_,cap,rfl,Nat.zero_le _,hm,fun h=>absurd rfl h⟩
def Zzy(w w':World)(v:Value)(l:List Int):Prop:=w'.ownsRow w.heap.size 3 1 v l.length (l.map (Value.int .i64))/\Ext w w'
def orN(f g:List Nd):List Nd:=Jc ⟨6,0,0,0,0,0⟩ [f,g]
def Qrl(f g:List Nd):List Nd:=Jc ⟨8,0,0,0,0,0⟩ [f,g]
end Go.Proofs.YtkmclcmnoicagaaGreatDoor
