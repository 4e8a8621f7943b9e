/- The reference of types: possible. -/
import Derived.Test.YtbfeodammikajaaGreatM01
import Derived.Test.YtbfeodammikajaaGreatM37
import Derived.Test.YtbfeodammikajaaGreatM21
import Derived.Test.YtbfeodammikajaaGreatM27
import Derived.Test.YtbfeodammikajaaGreatM11
namespace Go.Proofs.YtbfeodammikajaaGreat
set_option maxRecDepth 100000
set_option maxHeartbeats 128000000
open Go.RowKit
theorem pos_hit2 {lg a:Int} {base:List (List Nd)} {t u i:Nat}(hi:i < base.length)(h:posAt lg base a t u i=false):possibleN lg (knowsN base) a t u=false:=by
 cases e:possibleN lg (knowsN base) a t u
 ·rfl
 rw [pos_places.1 e i hi]at h;cases h
theorem tab_length(base:List (List Nd))(f:List Nd):(tabN base f).length=2^base.length:=by unfold tabN;simp
theorem body_len {base:List (List Nd)} {i:Nat}(h:(topN base i).op=9):(bodyN base i).length=2^base.length:=by
 unfold bodyN;rw [h];exact tab_length _ _
theorem rpossible_any(s:Nat)(lg:Int)(base:List (List Nd))(a:Int)(t u:Nat)(w:World)(hS:SpcAt w s lg base)(hbl:base.length<=12)(hlg:0<=lg/\lg<=6)(hu:u < 2^base.length):
 Calls Tryz.prog 76 #[.pointer (some ⟨s,0,none⟩),.int .i64 a,.int .i64 (t:Int),.int .i64 (u:Int)] w fun e w'=>e=.returned (.bool (possibleN lg (knowsN base) a t u))/\Ext w w':=by
 obtain⟨vb,Ao,co,A1,c1,A2,c2,A3,c3,hs,d0,d1,d2,d3,d4,d5,HFM,HNO,HKN,HCO,HLA⟩:=hS.reads;have D0:=Qq d0;have D3:=Qq d3;have HU:=Qq hu;clear hS d0 d1 d3 d4 d5 HFM HCO HLA hu;go_enter Tryz.func76,Tryz.ntmps76;go_wp2_with fail;clear d2;go_loopw [17] (fun v wr=>∃k:Nat,v=.int .i64 (k:Int)/\k<=base.length/\Hid (Ext w wr/\∀j,j < k->posAt lg base a t u j=true)) (fun v _=>base.length - (intOf v).toNat)
 case atStart=>exact⟨0,rfl,Nat.zero_le _,Qq ⟨Qz,fun j hj=>absurd hj (by omega)⟩⟩
 case round =>
  obtain⟨k,rfl,hk,HREL⟩:=hrel;have HX:=Qq HREL.out.1;have HALL:=Qq HREL.out.2;clear HREL;by_cases hlt2:k < base.length
  ·have hk1:(k:Int) < (base.length:Int):=by omega
   obtain⟨ad,rfl,hadl,hnd⟩:=HNO.out k hlt2;obtain⟨c0,c1,c2,c3,c4,c5⟩:=hnd.keep fun p hp=>HX.out.cell (p:=p) (by rw [hp,block_of_add];exact hadl)
   have hblk2:(ad.add (k*6)).block < wr.heap.size:=by rw [block_of_add];exact Qy hadl HX.out.size
   have D0':=Qq ((HX.out.cell (p:=⟨s,0,none⟩) hs).trans D0.out);have D3':=Qq ((HX.out.cell (p:=⟨s,3,none⟩) hs).trans D3.out);have hs2:=Qy hs HX.out.size;clear hnd;obtain⟨n,hn⟩:∃n,n=topN base k:=⟨_,rfl⟩;rw [<-hn]at c0 c1 c2 c3 c4 c5;have HN:=Qq hn;clear hn;obtain⟨wq,hwq⟩:∃v,v=wr:=⟨_,rfl⟩;subst hwq;by_cases h9:n.op=9
   ·rw [h9]at c0;by_cases ha:n.i=a
    ·rw [ha]at c1;have HPE:=Qq (show posAt lg base a t u k=condL lg (t.testBit k) ((bodyN base k).getD u false) (u.testBit k) by unfold posAt;rw [<-HN.out,h9,ha];simp);have hbl2:(bodyN base k).length=2^base.length:=body_len (by rw [<-HN.out];exact h9);obtain⟨ak,vk,rfl,hakl,hvk,⟨Ab,cb,rfl,hbo⟩⟩:=HKN.out k hlt2;have k0:=(HX.out.cell (p:=ak.add k) (Qj hakl)).trans hvk;have hakl2:(ak.add k).block < wq.heap.size:=by rw [block_of_add];exact Qy hakl HX.out.size
     obtain⟨ab,rfl,habl,hab⟩:=bools_get hbo (k:=u) (by rw [hbl2];exact HU.out);have b0:=(HX.out.cell (p:=ab.add u) (Qj habl)).trans hab;have habl2:(ab.add u).block < wq.heap.size:=by rw [block_of_add];exact Qy habl HX.out.size
     have hu1:(u:Int) < ((bodyN base k).length:Int):=by rw [hbl2];exact Int.ofNat_lt.2 HU.out
     obtain⟨bl,hbl3⟩:∃m,m=(bodyN base k).length:=⟨_,rfl⟩;rw [<-hbl3]at k0 hu1;have d0:=D0'.out;have d3:=D3'.out;clear h9 ha hvk hab hbo hbl2 hbl3;have hk64:k < 64:=by omega
     obtain⟨qa,hqa⟩:∃b,b=t.testBit k:=⟨_,rfl⟩;obtain⟨qb,hqb⟩:∃b,b=(bodyN base k).getD u false:=⟨_,rfl⟩;obtain⟨qc,hqc⟩:∃b,b=u.testBit k:=⟨_,rfl⟩;rw [<-hqa,<-hqb,<-hqc]at HPE;rw [<-hqb]at b0;have HQA:=Qq hqa.symm;have HQC:=Qq hqc.symm;clear hqa hqb hqc;obtain⟨l0,l6⟩:=hlg;have hcl:lg=0\/lg=1\/lg=2\/lg=3\/lg=4\/lg=5\/lg=6:=by omega
     clear l0 l6;rcases hcl with rfl|rfl|rfl|rfl|rfl|rfl|rfl
     ·skip
      cases qa
      ·skip
       go_wp2_with fail;refine(in_any t k _ _ hk64 HQA.out).mono ?_;rintro e w2 ⟨rfl,rfl⟩;go_wp2_with fail;go_roundw
       case rel=>exact⟨k+1,by go_num,by omega,Qq ⟨HX.out.trans (Qz.alloc _),upto HALL.out (by rw [HPE.out];first|rfl|(cases qb <;> rfl)|(cases qc <;> rfl)|(cases qb <;> cases qc <;> rfl))⟩⟩
       case measure=>simp [intOf];omega
      skip
      cases qb
      ·skip
       go_wp2_with fail;refine(in_any t k _ _ hk64 HQA.out).mono ?_;rintro e w2 ⟨rfl,rfl⟩;go_wp2_with fail;go_ret;exact⟨by rw [pos_hit2 hlt2 (HPE.out.trans (by first|rfl|(cases qb <;> rfl)|(cases qc <;> rfl)))] <;> rfl,HX.out.trans (Qz.alloc _)⟩
      skip
      go_wp2_with fail;refine(in_any t k _ _ hk64 HQA.out).mono ?_;rintro e w2 ⟨rfl,rfl⟩;go_wp2_with fail;go_roundw
      case rel=>exact⟨k+1,by go_num,by omega,Qq ⟨HX.out.trans (Qz.alloc _),upto HALL.out (by rw [HPE.out];first|rfl|(cases qb <;> rfl)|(cases qc <;> rfl)|(cases qb <;> cases qc <;> rfl))⟩⟩
      case measure=>simp [intOf];omega
     ·skip
      cases qa
      ·skip
       go_wp2_with fail;refine(in_any t k _ _ hk64 HQA.out).mono ?_;rintro e w2 ⟨rfl,rfl⟩;go_wp2_with fail;go_roundw
       case rel=>exact⟨k+1,by go_num,by omega,Qq ⟨HX.out.trans (Qz.alloc _),upto HALL.out (by rw [HPE.out];first|rfl|(cases qb <;> rfl)|(cases qc <;> rfl)|(cases qb <;> cases qc <;> rfl))⟩⟩
       case measure=>simp [intOf];omega
      skip
      cases qb
      ·skip
       go_wp2_with fail;refine(in_any t k _ _ hk64 HQA.out).mono ?_;rintro e w2 ⟨rfl,rfl⟩;go_wp2_with fail;go_ret;exact⟨by rw [pos_hit2 hlt2 (HPE.out.trans (by first|rfl|(cases qb <;> rfl)|(cases qc <;> rfl)))] <;> rfl,HX.out.trans (Qz.alloc _)⟩
      skip
      go_wp2_with fail;refine(in_any t k _ _ hk64 HQA.out).mono ?_;rintro e w2 ⟨rfl,rfl⟩;go_wp2_with fail;go_roundw
      case rel=>exact⟨k+1,by go_num,by omega,Qq ⟨HX.out.trans (Qz.alloc _),upto HALL.out (by rw [HPE.out];first|rfl|(cases qb <;> rfl)|(cases qc <;> rfl)|(cases qb <;> cases qc <;> rfl))⟩⟩
      case measure=>simp [intOf];omega
     ·skip
      cases qa
      ·skip
       go_wp2_with fail;refine(in_any t k _ _ hk64 HQA.out).mono ?_;rintro e w2 ⟨rfl,rfl⟩;go_wp2_with fail;go_roundw
       case rel=>exact⟨k+1,by go_num,by omega,Qq ⟨HX.out.trans (Qz.alloc _),upto HALL.out (by rw [HPE.out];first|rfl|(cases qb <;> rfl)|(cases qc <;> rfl)|(cases qb <;> cases qc <;> rfl))⟩⟩
       case measure=>simp [intOf];omega
      skip
      cases qb
      ·skip
       go_wp2_with fail;refine(in_any t k _ _ hk64 HQA.out).mono ?_;rintro e w2 ⟨rfl,rfl⟩;go_wp2_with fail;go_ret;exact⟨by rw [pos_hit2 hlt2 (HPE.out.trans (by first|rfl|(cases qb <;> rfl)|(cases qc <;> rfl)))] <;> rfl,HX.out.trans (Qz.alloc _)⟩
      skip
      go_wp2_with fail;refine(in_any t k _ _ hk64 HQA.out).mono ?_;rintro e w2 ⟨rfl,rfl⟩;go_wp2_with fail;go_roundw
      case rel=>exact⟨k+1,by go_num,by omega,Qq ⟨HX.out.trans (Qz.alloc _),upto HALL.out (by rw [HPE.out];first|rfl|(cases qb <;> rfl)|(cases qc <;> rfl)|(cases qb <;> cases qc <;> rfl))⟩⟩
      case measure=>simp [intOf];omega
     ·skip
      cases qa
      ·skip
       go_wp2_with fail;refine(in_any t k _ _ hk64 HQA.out).mono ?_;rintro e w2 ⟨rfl,rfl⟩;go_wp2_with fail;refine(in_any t k _ _ hk64 HQA.out).mono ?_;rintro e w2 ⟨rfl,rfl⟩;go_wp2_with fail;go_roundw
       case rel=>exact⟨k+1,by go_num,by omega,Qq ⟨HX.out.trans (Qz.alloc _),upto HALL.out (by rw [HPE.out];first|rfl|(cases qb <;> rfl)|(cases qc <;> rfl)|(cases qb <;> cases qc <;> rfl))⟩⟩
       case measure=>simp [intOf];omega
      skip
      cases qb
      ·skip
       go_wp2_with fail;refine(in_any t k _ _ hk64 HQA.out).mono ?_;rintro e w2 ⟨rfl,rfl⟩;go_wp2_with fail;go_ret;exact⟨by rw [pos_hit2 hlt2 (HPE.out.trans (by first|rfl|(cases qb <;> rfl)|(cases qc <;> rfl)))] <;> rfl,HX.out.trans (Qz.alloc _)⟩
      skip
      cases qc
      ·skip
       go_wp2_with fail;refine(in_any t k _ _ hk64 HQA.out).mono ?_;rintro e w2 ⟨rfl,rfl⟩;go_wp2_with fail;refine(in_any t k _ _ hk64 HQA.out).mono ?_;rintro e w2 ⟨rfl,rfl⟩;go_wp2_with fail;refine(in_any u k _ _ hk64 HQC.out).mono ?_;rintro e w2 ⟨rfl,rfl⟩;go_wp2_with fail;go_ret;exact⟨by rw [pos_hit2 hlt2 (HPE.out.trans (by first|rfl|(cases qb <;> rfl)|(cases qc <;> rfl)))] <;> rfl,HX.out.trans (Qz.alloc _)⟩
      skip
      go_wp2_with fail;refine(in_any t k _ _ hk64 HQA.out).mono ?_;rintro e w2 ⟨rfl,rfl⟩;go_wp2_with fail;refine(in_any t k _ _ hk64 HQA.out).mono ?_;rintro e w2 ⟨rfl,rfl⟩;go_wp2_with fail;refine(in_any u k _ _ hk64 HQC.out).mono ?_;rintro e w2 ⟨rfl,rfl⟩;go_wp2_with fail;go_roundw
      case rel=>exact⟨k+1,by go_num,by omega,Qq ⟨HX.out.trans (Qz.alloc _),upto HALL.out (by rw [HPE.out];first|rfl|(cases qb <;> rfl)|(cases qc <;> rfl)|(cases qb <;> cases qc <;> rfl))⟩⟩
      case measure=>simp [intOf];omega
     ·skip
      cases qa
      ·skip
       go_wp2_with fail;refine(in_any t k _ _ hk64 HQA.out).mono ?_;rintro e w2 ⟨rfl,rfl⟩;go_wp2_with fail;go_roundw
       case rel=>exact⟨k+1,by go_num,by omega,Qq ⟨HX.out.trans (Qz.alloc _),upto HALL.out (by rw [HPE.out];first|rfl|(cases qb <;> rfl)|(cases qc <;> rfl)|(cases qb <;> cases qc <;> rfl))⟩⟩
       case measure=>simp [intOf];omega
      skip
      cases qc
      ·skip
       go_wp2_with fail;refine(in_any t k _ _ hk64 HQA.out).mono ?_;rintro e w2 ⟨rfl,rfl⟩;go_wp2_with fail;refine(in_any u k _ _ hk64 HQC.out).mono ?_;rintro e w2 ⟨rfl,rfl⟩;go_wp2_with fail;go_ret;exact⟨by rw [pos_hit2 hlt2 (HPE.out.trans (by first|rfl|(cases qb <;> rfl)|(cases qc <;> rfl)))] <;> rfl,HX.out.trans (Qz.alloc _)⟩
      skip
      go_wp2_with fail;refine(in_any t k _ _ hk64 HQA.out).mono ?_;rintro e w2 ⟨rfl,rfl⟩;go_wp2_with fail;refine(in_any u k _ _ hk64 HQC.out).mono ?_;rintro e w2 ⟨rfl,rfl⟩;go_wp2_with fail;go_roundw
      case rel=>exact⟨k+1,by go_num,by omega,Qq ⟨HX.out.trans (Qz.alloc _),upto HALL.out (by rw [HPE.out];first|rfl|(cases qb <;> rfl)|(cases qc <;> rfl)|(cases qb <;> cases qc <;> rfl))⟩⟩
      case measure=>simp [intOf];omega
     ·skip
      cases qa
      ·skip
       cases qc
       ·skip
        go_wp2_with fail;refine(in_any t k _ _ hk64 HQA.out).mono ?_;rintro e w2 ⟨rfl,rfl⟩;go_wp2_with fail;refine(in_any t k _ _ hk64 HQA.out).mono ?_;rintro e w2 ⟨rfl,rfl⟩;go_wp2_with fail;refine(in_any u k _ _ hk64 HQC.out).mono ?_;rintro e w2 ⟨rfl,rfl⟩;go_wp2_with fail;go_roundw
        case rel=>exact⟨k+1,by go_num,by omega,Qq ⟨HX.out.trans (Qz.alloc _),upto HALL.out (by rw [HPE.out];first|rfl|(cases qb <;> rfl)|(cases qc <;> rfl)|(cases qb <;> cases qc <;> rfl))⟩⟩
        case measure=>simp [intOf];omega
       skip
       go_wp2_with fail;refine(in_any t k _ _ hk64 HQA.out).mono ?_;rintro e w2 ⟨rfl,rfl⟩;go_wp2_with fail;refine(in_any t k _ _ hk64 HQA.out).mono ?_;rintro e w2 ⟨rfl,rfl⟩;go_wp2_with fail;refine(in_any u k _ _ hk64 HQC.out).mono ?_;rintro e w2 ⟨rfl,rfl⟩;go_wp2_with fail;refine(in_any t k _ _ hk64 HQA.out).mono ?_;rintro e w2 ⟨rfl,rfl⟩;go_wp2_with fail;go_ret;exact⟨by rw [pos_hit2 hlt2 (HPE.out.trans (by first|rfl|(cases qb <;> rfl)|(cases qc <;> rfl)))] <;> rfl,HX.out.trans (Qz.alloc _)⟩
      skip
      cases qb
      ·skip
       go_wp2_with fail;refine(in_any t k _ _ hk64 HQA.out).mono ?_;rintro e w2 ⟨rfl,rfl⟩;go_wp2_with fail;go_ret;exact⟨by rw [pos_hit2 hlt2 (HPE.out.trans (by first|rfl|(cases qb <;> rfl)|(cases qc <;> rfl)))] <;> rfl,HX.out.trans (Qz.alloc _)⟩
      skip
      cases qc
      ·skip
       go_wp2_with fail;refine(in_any t k _ _ hk64 HQA.out).mono ?_;rintro e w2 ⟨rfl,rfl⟩;go_wp2_with fail;refine(in_any t k _ _ hk64 HQA.out).mono ?_;rintro e w2 ⟨rfl,rfl⟩;go_wp2_with fail;refine(in_any u k _ _ hk64 HQC.out).mono ?_;rintro e w2 ⟨rfl,rfl⟩;go_wp2_with fail;go_ret;exact⟨by rw [pos_hit2 hlt2 (HPE.out.trans (by first|rfl|(cases qb <;> rfl)|(cases qc <;> rfl)))] <;> rfl,HX.out.trans (Qz.alloc _)⟩
      skip
      go_wp2_with fail;refine(in_any t k _ _ hk64 HQA.out).mono ?_;rintro e w2 ⟨rfl,rfl⟩;go_wp2_with fail;refine(in_any t k _ _ hk64 HQA.out).mono ?_;rintro e w2 ⟨rfl,rfl⟩;go_wp2_with fail;refine(in_any u k _ _ hk64 HQC.out).mono ?_;rintro e w2 ⟨rfl,rfl⟩;go_wp2_with fail;refine(in_any u k _ _ hk64 HQC.out).mono ?_;rintro e w2 ⟨rfl,rfl⟩;go_wp2_with fail;refine(in_any t k _ _ hk64 HQA.out).mono ?_;rintro e w2 ⟨rfl,rfl⟩;go_wp2_with fail;go_roundw
      case rel=>exact⟨k+1,by go_num,by omega,Qq ⟨HX.out.trans (Qz.alloc _),upto HALL.out (by rw [HPE.out];first|rfl|(cases qb <;> rfl)|(cases qc <;> rfl)|(cases qb <;> cases qc <;> rfl))⟩⟩
      case measure=>simp [intOf];omega
     skip
     cases qa
     ·skip
      cases qc
      ·skip
       go_wp2_with fail;refine(in_any t k _ _ hk64 HQA.out).mono ?_;rintro e w2 ⟨rfl,rfl⟩;go_wp2_with fail;refine(in_any u k _ _ hk64 HQC.out).mono ?_;rintro e w2 ⟨rfl,rfl⟩;go_wp2_with fail;go_roundw
       case rel=>exact⟨k+1,by go_num,by omega,Qq ⟨HX.out.trans (Qz.alloc _),upto HALL.out (by rw [HPE.out];first|rfl|(cases qb <;> rfl)|(cases qc <;> rfl)|(cases qb <;> cases qc <;> rfl))⟩⟩
       case measure=>simp [intOf];omega
      skip
      go_wp2_with fail;refine(in_any t k _ _ hk64 HQA.out).mono ?_;rintro e w2 ⟨rfl,rfl⟩;go_wp2_with fail;refine(in_any u k _ _ hk64 HQC.out).mono ?_;rintro e w2 ⟨rfl,rfl⟩;go_wp2_with fail;refine(in_any t k _ _ hk64 HQA.out).mono ?_;rintro e w2 ⟨rfl,rfl⟩;go_wp2_with fail;go_ret;exact⟨by rw [pos_hit2 hlt2 (HPE.out.trans (by first|rfl|(cases qb <;> rfl)|(cases qc <;> rfl)))] <;> rfl,HX.out.trans (Qz.alloc _)⟩
     skip
     cases qc
     ·skip
      go_wp2_with fail;refine(in_any t k _ _ hk64 HQA.out).mono ?_;rintro e w2 ⟨rfl,rfl⟩;go_wp2_with fail;refine(in_any u k _ _ hk64 HQC.out).mono ?_;rintro e w2 ⟨rfl,rfl⟩;go_wp2_with fail;go_ret;exact⟨by rw [pos_hit2 hlt2 (HPE.out.trans (by first|rfl|(cases qb <;> rfl)|(cases qc <;> rfl)))] <;> rfl,HX.out.trans (Qz.alloc _)⟩
     skip
     go_wp2_with fail;refine(in_any t k _ _ hk64 HQA.out).mono ?_;rintro e w2 ⟨rfl,rfl⟩;go_wp2_with fail;refine(in_any u k _ _ hk64 HQC.out).mono ?_;rintro e w2 ⟨rfl,rfl⟩;go_wp2_with fail;refine(in_any u k _ _ hk64 HQC.out).mono ?_;rintro e w2 ⟨rfl,rfl⟩;go_wp2_with fail;refine(in_any t k _ _ hk64 HQA.out).mono ?_;rintro e w2 ⟨rfl,rfl⟩;go_wp2_with fail;go_roundw
     case rel=>exact⟨k+1,by go_num,by omega,Qq ⟨HX.out.trans (Qz.alloc _),upto HALL.out (by rw [HPE.out];first|rfl|(cases qb <;> rfl)|(cases qc <;> rfl)|(cases qb <;> cases qc <;> rfl))⟩⟩
     case measure=>simp [intOf];omega
    have ta:(n.i==a)=false:=by simpa using ha
    have HP:=Qq (upto HALL.out (show posAt lg base a t u k=true by unfold posAt;rw [<-HN.out,ta,Bool.and_false];rfl));clear h9 ha HNO HKN;go_wp2_with fail;go_roundw
    case rel=>exact⟨k+1,by go_num,by omega,Qq ⟨HX.out.trans (Qz.alloc _),HP.out⟩⟩
    case measure=>simp [intOf];omega
   have t9:(n.op==9)=false:=by simpa using h9
   have HP:=Qq (upto HALL.out (show posAt lg base a t u k=true by unfold posAt;rw [<-HN.out,t9,Bool.false_and];rfl));clear h9;go_wp2_with fail;go_roundw
   case rel=>exact⟨k+1,by go_num,by omega,Qq ⟨HX.out.trans (Qz.alloc _),HP.out⟩⟩
   case measure=>simp [intOf];omega
  obtain rfl:base.length=k:=by omega
  have HE:=Qq (pos_places.2 HALL.out);go_wp2_with fail;go_ret;exact⟨by rw [HE.out] <;> rfl,HX.out⟩
def stepN(lg:Int)(base:List (List Nd))(set:List Bool)(gn t u:Nat):Bool:=set.getD u false&&(List.range 4).any fun(a:Nat)=>gn.testBit a&&possibleN lg (knowsN base) (a:Int) t u
theorem set_at {pre rest:List Bool} {x b:Bool} {k:Nat}(h:pre.length=k):(pre++x :: rest).set k b=(pre++ [b])++rest:=by
 subst h;simp
theorem any_snoc {P:Nat->Bool} {q:Nat} :(List.range (q+1)).any P=((List.range q).any P||P q):=by rw [List.range_succ,List.any_append];simp
theorem mid_get {pre rest:List Bool} {b:Bool} {k:Nat}(h:pre.length=k):(pre++b :: rest)[k]?=some b:=by
 subst h;simp
theorem step_any(s:Nat)(lg:Int)(base:List (List Nd))(set:List Bool)(vs:Value)(gn t m:Nat)(w:World)(hS:SpcAt w s lg base)(hbl:base.length<=12)(hlg:0<=lg/\lg<=6)(hm:m=2^base.length)(hsl:set.length=m)(hb:Bools w vs set):
 Calls Tryz.prog 133 #[.pointer (some ⟨s,0,none⟩),vs,.int .i64 (gn:Int),.int .i64 (t:Int)] w fun e w'=>∃v,e=.returned v/\Ext w w'/\MadeB w.heap.size w' v ((List.range m).map (stepN lg base set gn t)):=by
 have HS:=Qq hS;have HM:=Qq hm;have HSL:=Qq hsl;have hm2:m<=4096:=by rw [hm];exact pow12 hbl
 have hm0:0 < m:=by rw [hm];exact Nat.pow_pos (by omega)
 obtain⟨iB,hiB,hzB0,hzB1,hzB2⟩:=info_parts tInfoB;obtain⟨As,cs,rfl,hbs⟩:=hb;have HBS:=Qq hbs;rw [hsl];obtain⟨l0,l6⟩:=hlg;have HL:=Qq (show 0<=lg/\lg<=6 from⟨l0,l6⟩);clear hS hm hsl hbs l0 l6;go_enter Tryz.func133,Tryz.ntmps133;go_wp2_with(refine wpList_make_full _ rfl _ _ 61 rfl w.heap.size 4 iB (.bool false) 1 Tryz.underlying61 hiB hzB0 hzB1 .i64 .i64 (m:Int) (m:Int) m rfl rfl rfl rfl (by rw [hzB2];omega) (by unfold maxLen;omega) (by simp) ?_);intro W1 hrow1 hgr1;have HXW:=Qq (show Ext w W1 from(Ext.refl w).grown hgr1 (fun k e=>by cases e));have HT:=Qq (show BRow w.heap.size W1 w.heap.size (List.replicate m false) by
  have h1:=hrow1;rw [made_false']at h1;unfold BRow;simp only [List.length_replicate];exact h1)
 clear hrow1 hgr1;obtain⟨g,hg⟩:∃g,g=w.heap.size:=⟨_,rfl⟩;have HG:=Qq hg;rw [<-hg];have HT2:=Qq (show BRow w.heap.size W1 g (List.replicate m false) by rw [hg];exact HT.out);clear hg HT;go_wp2_with fail;go_loopw [17] (fun v wr=>∃k:Nat,v=.int .i64 (k:Int)/\k<=m/\Hid (Ext w wr/\BRow w.heap.size wr g ((List.range k).map (stepN lg base set gn t)++List.replicate (m - k) false))) (fun v _=>m - (intOf v).toNat)
 case atStart=>exact⟨0,rfl,Nat.zero_le _,Qq ⟨HXW.out,HT2.out⟩⟩
 case round =>
  obtain⟨k,rfl,hk,HREL⟩:=hrel;by_cases hlt2:k < m
  ·have hk1:(k:Int) < (m:Int):=by omega
   obtain⟨ad,rfl,hadl,hsk⟩:=bools_get HBS.out (k:=k) (by rw [HSL.out];exact hlt2);have HSK:=Qq hsk;obtain⟨pre,hpre⟩:∃p,p=(List.range k).map (stepN lg base set gn t):=⟨_,rfl⟩;obtain⟨rest,hrest⟩:∃r,r=List.replicate (m - (k+1)) false:=⟨_,rfl⟩;have hrep:List.replicate (m - k) false=false :: rest:=by rw [hrest,show m - k=(m - (k+1))+1 by omega];rfl
   have HPRE:=Qq hpre;have HREST:=Qq hrest;have HPL:=Qq (show pre.length=k by rw [hpre];simp);have HRL:=Qq (show rest.length=m - (k+1) by rw [hrest];simp);have HX:=Qq HREL.out.1;have HR:=Qq (show BRow w.heap.size wr g (pre++false :: rest) by have:=HREL.out.2;rw [<-hpre,hrep]at this;exact this);clear hsk HREL hpre hrest hrep;go_wp2_with fail;go_loopw [11] (fun v wr=>∃q:Nat,v=.int .i64 (q:Int)/\q<=4/\Hid (Ext w wr/\BRow w.heap.size wr g (pre++(set.getD k false&&(List.range q).any fun(a:Nat)=>gn.testBit a&&possibleN lg (knowsN base) (a:Int) t k):: rest))) (fun v _=>4 - (intOf v).toNat)
   case atStart=>exact⟨0,rfl,Nat.zero_le _,Qq ⟨HX.out,by rw [List.range_zero,List.any_nil,Bool.and_false];exact HR.out⟩⟩
   case round =>
    clear HX HR;obtain⟨q,rfl,hq,HREL⟩:=hrel;have HX:=Qq HREL.out.1;have HR:=Qq HREL.out.2;clear HREL;by_cases hq4:q < 4
    ·have hq1:(q:Int) < 4:=by omega
     have hmin:min q 64=q:=by omega
     have s0:=(HX.out.cell (p:=ad.add k) (Qj hadl)).trans HSK.out;have hadl2:(ad.add k).block < wr.heap.size:=by rw [block_of_add];exact Qy hadl HX.out.size
     have hbt:=shr_mod_two gn q;have HR1:=Qq (show(gn.testBit q&&possibleN lg (knowsN base) (q:Int) t k)=false->BRow w.heap.size wr g (pre++(set.getD k false&&(List.range (q+1)).any fun(a:Nat)=>gn.testBit a&&possibleN lg (knowsN base) (a:Int) t k):: rest)from fun h=>by
      rw [any_snoc,h,Bool.or_false];exact HR.out)
     cases hsv:set.getD k false
     ·have HR2:=Qq (show BRow w.heap.size wr g (pre++(false&&(List.range (q+1)).any fun(a:Nat)=>gn.testBit a&&possibleN lg (knowsN base) (a:Int) t k):: rest) by
       have:=HR.out;rw [hsv]at this;exact this)
      rw [hsv]at s0;clear hsv;go_wp2_with fail;go_roundw
      case rel=>exact⟨q+1,by go_num,by omega,Qq ⟨HX.out,HR2.out⟩⟩
      case measure=>simp [intOf];omega
     rw [hsv]at HR1 HR s0;cases hgb:gn.testBit q
     ·rw [hgb]at hbt HR1;clear hsv hgb;go_wp2_with fail;go_roundw
      case rel=>exact⟨q+1,by go_num,by omega,Qq ⟨HX.out,HR1.out rfl⟩⟩
      case measure=>simp [intOf];omega
     rw [hgb]at hbt HR1;have HR3:=Qq (show ∀w3,Ext w wr->BRow w.heap.size w3 g (pre++(true&&(List.range q).any fun(a:Nat)=>gn.testBit a&&possibleN lg (knowsN base) (a:Int) t k):: rest)->possibleN lg (knowsN base) (q:Int) t k=true->BRow w.heap.size (w3.setCell ⟨g,k,none⟩ (.bool true)) g (pre++(true&&(List.range (q+1)).any fun(a:Nat)=>gn.testBit a&&possibleN lg (knowsN base) (a:Int) t k):: rest)from fun w3 _ h hp=>by
      have h1:=(h.set k true).1;rw [set_at HPL.out,List.append_assoc]at h1;rw [any_snoc,hgb,hp]
      simpa using h1)
     clear hsv hgb;go_wp2_with fail;refine(rpossible_any s lg base (q:Int) t k wr (HS.out.ext HX.out) hbl HL.out (by rw [<-HM.out];exact hlt2)).mono ?_;rintro e w3 ⟨rfl,hx3⟩;have HX3:=Qq hx3;have HW:=Qq (HR.out.ext hx3);have hgl:=HW.out.lt.2;have gfr:=HW.out.frozen k;have gc:=HW.out.cell (mid_get HPL.out);have hgll:(k:Int) < (m:Int):=hk1;clear hx3;cases hp:possibleN lg (knowsN base) (q:Int) t k
     ·rw [hp]at HR1;clear hp;go_wp2_with fail;go_roundw
      case rel=>exact⟨q+1,by go_num,by omega,Qq ⟨HX.out.trans HX3.out,(HR1.out rfl).ext HX3.out⟩⟩
      case measure=>simp [intOf];omega
     have HR4:=Qq (HR3.out w3 HX.out HW.out hp);have HX4:=Qq ((HX.out.trans HX3.out).setCell (p:=⟨g,k,none⟩) HW.out.lt.1 (.bool true));clear hp HR3;go_wp2_with fail;go_roundw
     case rel=>exact⟨q+1,by go_num,by omega,Qq ⟨HX4.out,HR4.out⟩⟩
     case measure=>simp [intOf];omega
    obtain rfl:q=4:=by omega
    go_wp2_with fail;go_roundw
    case rel=>exact⟨k+1,by go_num,by omega,Qq ⟨HX.out,by
     rw [range_map_snoc,<-HPRE.out,<-HREST.out,List.append_assoc];exact HR.out⟩⟩
    case measure=>simp [intOf];omega
  obtain rfl:m=k:=by omega
  have HX:=Qq HREL.out.1;have HR:=Qq HREL.out.2;go_wp2_with fail;go_ret;refine⟨_,rfl,HX.out,?_⟩;have h1:=HR.out;rw [Nat.sub_self,List.replicate_zero,List.append_nil]at h1;have h2:((List.range m).map (stepN lg base set gn t)).length=m:=by simp
  unfold BRow at h1;rw [h2]at h1;unfold MadeB;rw [h2];exact h1
def isF:Option Value->Bool
 |some (.bool false)=>true
 |_=>false
def unseenW(w:World)(g m:Nat):Nat:=(List.range m).countP fun u=>isF (w.cell? ⟨g,u,none⟩)
theorem list_as_map(l:List Bool):l=(List.range l.length).map fun u=>l.getD u false:=by
 refine List.ext_getElem (by simp) fun i h1 h2=> ?_
 simp [h1]
theorem unseen_row {base g m:Nat} {w:World} {l:List Bool}(h:BRow base w g l)(hm:l.length=m):unseenW w g m=l.countP (!·):=by
 unfold unseenW
 conv=>rhs;rw [list_as_map l]
 rw [List.countP_map,hm];refine List.countP_congr fun u hu=> ?_
 have hu2:u < l.length:=by rw [hm];exact List.mem_range.1 hu
 have e:l[u]?=some (l.getD u false):=by rw [Qk,Qv hu2];rfl
 rw [h.cell e];simp only [Function.comp];cases l.getD u false <;> simp [isF]
theorem count_set {l:List Bool} {k:Nat}(hk:k < l.length)(h:l.getD k false=false):(l.set k true).countP (!·)+1=l.countP (!·):=by
 rw [List.countP_set hk];have e:l[k]=false:=by
  rw [Qk,Qv hk]at h;exact h
 have hp:0 < l.countP (!·):=List.countP_pos_iff.2 ⟨l[k],List.getElem_mem hk,by rw [e];rfl⟩;rw [e];simp;omega
structure PthI (w wr:World) (g:Nat) (vq:Value) (seen:List Bool) (ql:List Nat):Prop where
 ext:Ext w wr
 row:BRow w.heap.size wr g seen
 que:Que w.heap.size wr vq ql
 off:vq.ownBlock≠some g
section
variable {w wr W w7:World} {vq v7:Value} {g:Nat} {seen:List Bool} {ql:List Nat}
theorem PthI.next(h:PthI w wr g vq seen ql)(he:Ext wr W):PthI w W g vq seen ql:=⟨h.ext.trans he,h.row.ext he,h.que.ext he,h.off⟩
theorem PthI.cut {b off cap x:Nat}(h:PthI w wr g (.slice (some ⟨b,off,none⟩) (x :: ql).length cap) seen (x :: ql)):PthI w wr g (.slice (some ⟨b,off+1,none⟩) ql.length (cap - 1)) seen ql:=⟨h.ext,h.row,h.que.cut,h.off⟩
theorem PthI.store(h:PthI w wr g vq seen ql)(k:Nat)(b:Bool):PthI w (wr.setCell ⟨g,k,none⟩ (.bool b)) g vq (seen.set k b) ql :=
 ⟨h.ext.setCell (p:=⟨g,k,none⟩) h.row.lt.1 _,(h.row.set k b).1,h.que.keep fun q hq=>Below.heap_setCell _ _ _ _ (fun e=>h.off (by rw [hq,e])),h.off⟩
theorem PthI.seen_(h:PthI w wr g vq seen ql)(hg:wr.grownBy w7 vq.ownBlock):Ext w w7/\BRow w.heap.size w7 g seen:=by
 refine⟨h.ext.grown hg (fun k hk=>(h.que.lt hk).1),row_keep h.row fun k hk=>hg.block k ?_ (fun e=> ?_)⟩
 ·have e:k=g:=by injection hk with hk;exact hk.symm
  rw [e];exact h.row.lt.2
 have e2:k=g:=by injection hk with hk;exact hk.symm
 exact h.off (by rw [<-e,e2])
theorem PthI.room {b off cap u:Nat}(h:PthI w wr g (.slice (some ⟨b,off,none⟩) ql.length cap) seen ql)(hr:ql.length+1<=cap):PthI w (wr.setCells b (off+ql.length*1) [.int .i64 (u:Int)]) g (.slice (some ⟨b,off,none⟩) (ql.length+1) cap) seen (ql++ [u]):=by
 obtain⟨h1,h2⟩:=h.que.room (u:=u) hr;obtain⟨h3,h4⟩:=h.seen_ h2;exact⟨h3,h4,h1,h.off⟩
theorem PthI.grow {u:Nat} {n:Nat}(h:PthI w wr g vq seen ql)(hn:n=ql.length+1)(hown:w7.ownsRow wr.heap.size 3 1 v7 n ((ql.map fun(u:Nat)=>Value.int .i64 (u:Int))++ [.int .i64 (u:Int)]))(hg:wr.grownBy w7 none):PthI w w7 g v7 seen (ql++ [u]):=by
 have hx:Ext wr w7:=(Ext.refl wr).grown hg (fun k e=>by cases e);refine⟨h.ext.trans hx,h.row.ext hx,Que.of_row (n:=n) h.ext.size (by rw [hn,List.length_append];rfl) (by rw [List.length_append];simp) (by rw [List.map_append];exact hown),fun e=> ?_⟩;have:=(hown.lt g e).1;have:=h.row.lt.2;omega
end
structure SrchI (st:Nat->Nat->Bool) (y:List Bool) (m t:Nat) (q ps:List Nat) (j:Nat) (seen:List Bool):Prop where
 bfs:Bfs st m t q ps
 jle:j<=q.length
 done:∀i,i < j->∀u,st (q.getD i 0) u=true->u∈q.tail
 good:∀u,u∈q.tail->y.getD u false=true
 len:seen.length=m
 seen:∀u,u < m->(seen.getD u false=true↔u∈q.tail)
section
variable {st:Nat->Nat->Bool} {y:List Bool} {m t:Nat} {q ps:List Nat} {j:Nat} {seen:List Bool}
theorem SrchI.start(st:Nat->Nat->Bool)(y:List Bool)(m t:Nat):SrchI st y m t [t] [0] 0 (List.replicate m false):=
 ⟨Bfs.start st m t,by simp,fun i hi=>absurd hi (by omega),fun u hu=>by simp at hu,List.length_replicate,fun u hu=>by simp [hu]⟩
theorem SrchI.push(h:SrchI st y m t q ps j seen) {i u:Nat}(hi:i < q.length)(hu:u < m)(hs:seen.getD u false=false)(hst:st (q.getD i 0) u=true)(hy:y.getD u false=true):SrchI st y m t (q++ [u]) (ps++ [i]) j (seen.set u true):=by
 have hn:u∉q.tail:=fun e=>by rw [(h.seen u hu).2 e]at hs;cases hs
 have ht:=tail_app (x:=u) h.bfs.pos;refine⟨h.bfs.push hi hu hn hst,by rw [List.length_append];exact Qx h.jle (by simp),fun i' hi' u' hu'=> ?_,fun u' hu'=> ?_,by rw [List.length_set];exact h.len,fun u' hu'=> ?_⟩
 ·rw [getD_app (Qy hi' h.jle)]at hu';rw [ht];exact List.mem_append_left _ (h.done i' hi' u' hu')
 ·rw [ht]at hu';rcases List.mem_append.1 hu' with e|e
  ·exact h.good u' e
  rw [List.mem_singleton.1 e];exact hy
 rw [ht,List.mem_append,List.mem_singleton,Qk,List.getElem?_set];have hl:u < seen.length:=by rw [h.len];exact hu
 by_cases e:u=u'
 ·subst e;simp [hl]
 rw [if_neg e,<-Qk];rw [h.seen u' hu'];constructor
 ·exact .inl
 rintro(e2|e2)
 ·exact e2
 exact absurd e2.symm e
theorem SrchI.hit(h:SrchI st y m t q ps j seen) {i u:Nat}(hi:i < q.length)(hu:u < m)(hs:seen.getD u false=false)(hst:st (q.getD i 0) u=true):Rch (fun a b=>st a b=true) t u:=by
 have hn:u∉q.tail:=fun e=>by rw [(h.seen u hu).2 e]at hs;cases hs
 have hb:=(h.bfs.push hi hu hn hst).reach q.length h.bfs.pos (by simp);rw [getD_last]at hb;exact hb
theorem SrchI.next(h:SrchI st y m t q ps j seen)(hj:j < q.length)(hc:∀u,u < m->st (q.getD j 0) u=true->u∈q.tail)(hm:∀a u,st a u=true->u < m):SrchI st y m t q ps (j+1) seen :=
 ⟨h.bfs,hj,fun i hi u hu=>by
  by_cases e:i < j
  ·exact h.done i e u hu
  have:i=j:=by omega
  subst this;exact hc u (hm _ _ hu) hu,h.good,h.len,h.seen⟩
theorem SrchI.miss(h:SrchI st y m t q ps q.length seen):¬∃u,Rch (fun a b=>st a b=true) t u/\y.getD u false=false:=by
 rintro⟨u,hr,hy⟩;rw [h.good u (h.bfs.closed h.done hr)]at hy;cases hy
end
end Go.Proofs.YtbfeodammikajaaGreat
