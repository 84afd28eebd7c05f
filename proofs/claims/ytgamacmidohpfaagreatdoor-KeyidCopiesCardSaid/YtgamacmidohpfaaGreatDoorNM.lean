/- NM: the texts KyL, one behind the other. No condition but what each lemma says. -/
import Derived.Test.YtgamacmidohpfaaGreatDoorNJ
import Derived.Test.YtgamacmidohpfaaGreatDoorNK
import Derived.Test.YtgamacmidohpfaaGreatDoorNL
namespace Go.Proofs.YtgamacmidohpfaaGreatDoor
open Go.RowKit
set_option maxRecDepth 100000
set_option maxHeartbeats 16000000
theorem oL (b:List UInt8) (hb:b.length≤390000):Ab Tryz.prog 18 [.d (Ag false b)] (fun r=>r=kyR (kyO b)):=by
 have hP:=Jw b 0 16 (by omega)
 have hin:=fun x=>Em (b:=b) (c:=0) (n:=16) (x:=x)
 unfold kyO
 generalize Bd b 0 16=R at hP hin⊢
 obtain⟨l,rc,ro⟩:=R
 simp only at hin⊢
 by_cases k1:rc≠0
 ·rw[if_pos k1]
  rw[lrA,if_pos k1] at hP
  have gc:((rc:Int) !=0)=true:=by rw[bne_iff_ne];omega
  refine acQ 127 Tryz.func18 rfl rfl fun _ _ _=> ?_
  (repeat'((conv=>whnf);first|refine zP ?_|refine Aa hP Dz ?_|refine zF ?_|exact zE))
 rw[if_neg k1]
 rw[lrA,if_neg k1] at hP
 have hcl:∀a n,((b.drop a).take n).length≤390000:=fun a n=>by rw[Am,Az];omega
 obtain⟨has,id,l1,e0,hin1,hidl,c0⟩:∃has id l1,ky0 b l=ky1 b has id l1∧(∀x∈l1,x.at'+2≤x.body∧x.body≤x.stop∧x.stop≤b.length)∧id.length≤390000∧((l=[]∧l1=[]∧has=false∧id=[])∨(∃x r,l=x::r∧l1=x::r∧has=false∧id=[]∧(!x.isB 2 0 false)=true)∨(∃x0,l=x0::l1∧has=true∧id=bod b x0∧(!x0.isB 2 0 false)=false∧x0.body≤x0.stop∧x0.stop≤b.length)):=by
  match l,hin with
  |[],_=>exact⟨false,[],[],rfl,(fun x h=>by cases h),by simp,.inl ⟨rfl,rfl,rfl,rfl⟩⟩
  |x::r,hin=>
   cases h:x.isB 2 0 false
   ·exact⟨false,[],x::r,by rw[ky0,if_neg (by rw[h];simp)],hin,by simp,.inr (.inl ⟨x,r,rfl,rfl,rfl,rfl,by rw[h];rfl⟩)⟩
   ·obtain⟨-,y2,y3⟩:=hin x (by simp)
    exact⟨true,bod b x,r,by rw[ky0,if_pos h],(fun z hz=>hin z (by simp[hz])),hcl _ _,.inr (.inr ⟨x,rfl,rfl,rfl,by rw[h];rfl,y2,y3⟩)⟩
 rw[e0]
 clear e0 hin
 have hs1:(∃x1 l2,∃c o:Nat,l1=x1::l2∧(!x1.isB 2 1 true)=false∧x1.body≤x1.stop∧x1.stop≤b.length∧((c:Int) !=0)=true∧Ab Tryz.prog 40 [.d (Ag false (Ai 0 16 true (bod b x1)))] (fun r=>r= .tup [Bc,erA c o])∧ky1 b has id l1=(none,6,x1.body))∨(∃iss l2,ky1 b has id l1=ky2 b has id iss l2∧(∀x∈l2,x.at'+2≤x.body∧x.body≤x.stop∧x.stop≤b.length)∧gnsM iss∧((l1=[]∧l2=[]∧iss=[])∨(∃y s,l1=y::s∧l2=y::s∧iss=[]∧(!y.isB 2 1 true)=true)∨(∃x1,l1=x1::l2∧(!x1.isB 2 1 true)=false∧x1.body≤x1.stop∧x1.stop≤b.length∧Ab Tryz.prog 40 [.d (Ag false (Ai 0 16 true (bod b x1)))] (fun r=>r= .tup [.d (Y0 iss),erA 0 0])))):=by
  have hm0:gnsM []:=⟨by simp,(fun g hg=>by cases hg),by simp⟩
  match l1,hin1 with
  |[],_=>exact .inr ⟨[],[],rfl,(fun x h=>by cases h),hm0,.inl ⟨rfl,rfl,rfl⟩⟩
  |x::r,hin1=>
   cases h:x.isB 2 1 true
   ·exact .inr ⟨[],x::r,by rw[ky1,if_neg (by rw[h];simp)],hin1,hm0,.inr (.inl ⟨x,r,rfl,rfl,rfl,by rw[h];rfl⟩)⟩
   ·obtain⟨-,y2,y3⟩:=hin1 x (by simp)
    have hbl:(bod b x).length≤390000:=hcl _ _
    have hel:=At 0 16 true (bod b x) (by omega)
    have hL:=cJ (Ai 0 16 true (bod b x)) (by omega)
    rcases jT (Ai 0 16 true (bod b x)) (by omega) with⟨v,v0,v1,v2,v3⟩|⟨c,o,k0,-,k2⟩
    ·rw[v3] at hL
     have hge:(v.map gnE).flatten.length≤400000:=by
      have:=Dh 0 16 true (v.map gnE).flatten
      have e:=congrArg List.length v2
      unfold Rj at e;omega
     refine .inr ⟨v,r,by rw[ky1,if_pos h,v3];rfl,(fun z hz=>hin1 z (by simp[hz])),cH v1 hge,.inr (.inr ⟨x,rfl,by rw[h];rfl,y2,y3,hL⟩)⟩
    ·rw[k2] at hL
     exact .inl ⟨x,r,c,o,rfl,by rw[h];rfl,y2,y3,by rw[bne_iff_ne];omega,hL,by rw[ky1,if_pos h,k2];rfl⟩
 rcases hs1 with⟨x1,l2,c,o,rfl,a1,u1,u2,gc,hL,e1⟩|⟨iss,l2,e1,hin2,hm,c1⟩
 ·rw[e1]
  exact AP b hb hP c0 a1 u1 u2 gc hL
 rw[e1]
 clear e1 hin1
 have hs2:(∃x2 l3,l2=x2::l3∧(!x2.isB 2 2 false)=false∧x2.body≤x2.stop∧x2.stop≤b.length∧(((bod b x2).length:Int)==0)=true∧ky2 b has id iss l2=(none,6,x2.body))∨(∃ser l3,ky2 b has id iss l2=ky3 ⟨has,id,iss,ser⟩ l3∧ser.length≤390000∧((l2=[]∧l3=[]∧ser=[])∨(∃z u,l2=z::u∧l3=z::u∧ser=[]∧(!z.isB 2 2 false)=true)∨(∃x2,l2=x2::l3∧ser=bod b x2∧(!x2.isB 2 2 false)=false∧x2.body≤x2.stop∧x2.stop≤b.length∧(((bod b x2).length:Int)==0)=false))):=by
  match l2,hin2 with
  |[],_=>exact .inr ⟨[],[],rfl,by simp,.inl ⟨rfl,rfl,rfl⟩⟩
  |x::r,hin2=>
   cases h:x.isB 2 2 false
   ·exact .inr ⟨[],x::r,by rw[ky2,if_neg (by rw[h];simp)],by simp,.inr (.inl ⟨x,r,rfl,rfl,rfl,by rw[h];rfl⟩)⟩
   ·obtain⟨-,y2,y3⟩:=hin2 x (by simp)
    by_cases h0:bod b x=[]
    ·exact .inl ⟨x,r,rfl,by rw[h];rfl,y2,y3,by rw[h0];rfl,by rw[ky2,if_pos h,if_pos h0]⟩
    ·exact .inr ⟨bod b x,r,by rw[ky2,if_pos h,if_neg h0],hcl _ _,.inr (.inr ⟨x,rfl,rfl,by rw[h];rfl,y2,y3,by rw[beq_eq_false_iff_ne];have:=List.length_pos_iff.2 h0;omega⟩)⟩
 rcases hs2 with⟨x2,l3,rfl,a2,v1,v2,gz2,e2⟩|⟨ser,l3,e2,hser,c2⟩
 ·rw[e2]
  exact AQ b hb hP c0 c1 a2 v1 v2 gz2
 rw[e2]
 clear e2 hin2
 match l3,c2 with
 |w::v,c2=>exact AR b hb hP c0 c1 c2
 |[],c2=>
  have hV:=Wv ⟨has,id,iss,ser⟩ ⟨by show id.length≤_;omega,by show ser.length≤_;omega,hm⟩
  have hk3:ky3 ⟨has,id,iss,ser⟩ []=if kdW ⟨has,id,iss,ser⟩=true then(some ⟨has,id,iss,ser⟩,0,0) else(none,6,0):=rfl
  rw[hk3]
  clear hk3 hm hidl hser
  cases hw:kdW ⟨has,id,iss,ser⟩
  ·rw[hw] at hV;rw[if_neg (by simp)];exact AU b hb hP c0 c1 c2 hV
  ·rw[hw] at hV;rw[if_pos rfl];exact AT b hb hP c0 c1 c2 hV
end Go.Proofs.YtgamacmidohpfaaGreatDoor
