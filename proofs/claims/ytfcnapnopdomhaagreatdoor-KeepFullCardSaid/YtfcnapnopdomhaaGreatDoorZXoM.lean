/-
  What xor's differs tells, beside the plain reading of a value.
-/
import Derived.Test.YtfcnapnopdomhaaGreatDoorZXoE
namespace Go.Proofs.YtfcnapnopdomhaaGreatDoor
set_option linter.unusedSimpArgs false
set_option linter.unusedVariables false
set_option maxRecDepth 100000
set_option maxHeartbeats 12800000
open Go.RowKit
theorem z1I{l:List Bool}{p w:Nat}:z1S l p w=0↔p+w≤l.length:=by
 unfold z1S;split
 ·simp;assumption
 ·simp;omega
theorem z4D{l:List Bool}{p w:Nat}(h:z1S l p w=0):rdN w (l.drop p)=some (z2r l p w,l.drop (p+w)):=by
 have h1:=z1I.1 h;unfold rdN z2r;rw [if_pos (by rw [List.length_drop];omega),if_pos h1,List.drop_drop]
theorem rd_not{l:List Bool}{p w:Nat}(hp:p≤l.length)(h:z1S l p w≠0):rdN w (l.drop p)=none:=by
 have h1:¬p+w≤l.length:=fun h'=>h (z1I.2 h');unfold rdN;rw [if_neg (by rw [List.length_drop];omega)]
theorem z8u{l:List Bool}{p:Nat}(h:p<l.length):l.drop p=l.getD p false::l.drop (p+1):=by
 rw [List.drop_eq_getElem_cons h];simp [List.getD_eq_getElem?_getD,h]
theorem y1Z{v width lead:Nat}(hv:v<2^width)(h:lead+width≤64):v*2^(64 - lead - width)%18446744073709551616=v*2^(64 - lead - width)∧v*2^(64 - lead - width)<18446744073709551616:=by
 have h1:v*2^(64 - lead - width)<2^64:=by
  have:v*2^(64 - lead - width)<2^width*2^(64 - lead - width):=Nat.mul_lt_mul_of_pos_right hv (Nat.two_pow_pos _);rw [←Nat.pow_add] at this;exact Nat.lt_of_lt_of_le this (Nat.pow_le_pow_right (by decide) (by omega))
 exact ⟨Nat.mod_eq_of_lt h1,h1⟩
theorem z8e{v k:Nat}:v*2^k=0↔v=0:=by
 rw [Nat.mul_eq_zero];exact ⟨fun h=>h.resolve_right (Nat.ne_of_gt (Nat.two_pow_pos _)), .inl⟩
structure q2O (l:List Bool) (p:Nat) (prev lead width:Nat) (d ld sz:Nat) (fr:Bool) (p' e':Nat):Prop where
 bad:e'≠0→z3z ⟨true,prev,lead,width⟩ (l.drop p)=none
 same:e'=0→z2r l p 1=0→d=0∧fr=false∧z3z ⟨true,prev,lead,width⟩ (l.drop p)=some (prev,⟨true,prev,lead,width⟩,l.drop p')
 nought:e'=0→z2r l p 1≠0→d=0→z3z ⟨true,prev,lead,width⟩ (l.drop p)=none
 within:e'=0→z2r l p 1≠0→d≠0→fr=false→z3z ⟨true,prev,lead,width⟩ (l.drop p)=some (prev^^^d,⟨true,prev^^^d,lead,width⟩,l.drop p')
 held:e'=0→d≠0→fr=true→(z4x lead width d=true∨ld≠z2Z d∨sz≠z1E d)→z3z ⟨true,prev,lead,width⟩ (l.drop p)=none
 anew:e'=0→d≠0→fr=true→z4x lead width d=false→ld=z2Z d→sz=z1E d→z3z ⟨true,prev,lead,width⟩ (l.drop p)=some (prev^^^d,⟨true,prev^^^d,ld,sz⟩,l.drop p')
 le:e'=0→p'≤l.length
 lt:d<18446744073709551616∧ld<256∧sz<256∧e'<100∧p'≤p+80
 fresh:fr=true→z2r l p 1≠0
theorem q1y{l:List Bool}{p prev lead width:Nat}(hlw:lead≤31∧width≤64∧lead+width≤64)(hp:p≤l.length){d ld sz p' e':Nat}{fr:Bool}(hR:z6r l p lead width=(d,ld,sz,fr,p',e')):q2O l p prev lead width d ld sz fr p' e':=by
 unfold z6r at hR;by_cases h1:z2r l p 1=0
 ·rw [if_pos h1] at hR;simp only [Prod.mk.injEq] at hR;obtain ⟨rfl,rfl,rfl,rfl,rfl,rfl⟩:=hR;have hx:=z8J (l:=l) (i:=p);refine ⟨fun he=>?_,fun he _=>?_,fun _ h=>absurd h1 h,fun _ h=>absurd h1 h,fun _ h=>absurd rfl h,fun _ h=>absurd rfl h,fun he=>z1I.1 he,⟨by decide,by omega,by omega,z5q _ _ _,by omega⟩,fun h=>by cases h⟩
  ·have:¬p+1≤l.length:=fun h=>he (z1I.2 h);rw [List.drop_eq_nil_of_le (by omega)];rfl
  ·have h2:=z1I.1 he;refine ⟨rfl,rfl,?_⟩;rw [z8u (by omega)];have:l.getD p false=false:=by
    cases hb:l.getD p false with
    | false=>rfl
    | true=>rw [hb] at hx;rw [h1] at hx;simp at hx
   rw [this];rfl
 ·rw [if_neg h1] at hR;have hx:=z8J (l:=l) (i:=p);have hpl:p<l.length:=by
   by_cases h:p<l.length
   ·exact h
   ·exfalso;apply h1;unfold z2r;rw [if_neg (by omega)]
  have hb:l.getD p false=true:=by
   cases hb:l.getD p false with
   | true=>rfl
   | false=>rw [hb] at hx;exact absurd hx.1 h1
  have he1:z1S l p 1=0:=z1I.2 (by omega);have hd1:l.drop p=true::l.drop (p+1):=by rw [z8u hpl,hb]
  simp only [he1] at hR;have t1:∀q w,tkN 0 l q w=z2r l q w:=fun q w=>rfl;have t2:∀q w,tkE 0 l q w=z1S l q w:=fun q w=>rfl;have t3:∀q w,tkP 0 q w=q+w:=fun q w=>rfl;rw [t1,t2,t3] at hR;have hx2:=z8J (l:=l) (i:=p+1);by_cases h2:z2r l (p+1) 1=0
  ·rw [if_pos h2] at hR;simp only [Prod.mk.injEq] at hR;obtain ⟨rfl,rfl,rfl,rfl,rfl,rfl⟩:=hR;have hvl:=z6Y (z1S l (p+1) 1) l (p+1+1) width;have hsh:=y1Z hvl hlw.2.2;rw [hsh.1];have hpe:tkP (z1S l (p+1) 1) (p+1+1) width≤p+80:=by have:=y0D (z1S l (p+1) 1) (p+1+1) width;omega
   have hee:tkE (z1S l (p+1) 1) l (p+1+1) width<100:=y2J _ _ _ (z5q _ _ _);by_cases he2:z1S l (p+1) 1=0
   ·have hp2:=z1I.1 he2;have hb2:l.getD (p+1) false=false:=by
     cases hb:l.getD (p+1) false with
     | false=>rfl
     | true=>rw [hb,h2] at hx2;simp at hx2
    have hd2:l.drop p=true::false::l.drop (p+2):=by rw [hd1,z8u (by omega),hb2]
    have e3:p+1+1=p+2:=rfl;simp only [he2,e3,t1,t2,t3] at hvl hsh hpe hee ⊢;refine ⟨fun he=>?_,fun _ h=>absurd h h1,fun he _ h0=>?_,fun he _ h0 _=>?_,(fun _ _ h=>by cases h),(fun _ _ h=>by cases h),fun he=>z1I.1 he,⟨hsh.2,by omega,by omega,hee,hpe⟩,fun h=>by cases h⟩
    ·rw [hd2];unfold z3z;simp only [Bool.true_eq_false,if_false];rw [rd_not hp2 he]
    ·rw [hd2];unfold z3z;simp only [Bool.true_eq_false,if_false];rw [z4D he];simp only;rw [if_pos (z8e.1 h0)]
    ·rw [hd2];unfold z3z;simp only [Bool.true_eq_false,if_false];rw [z4D he];simp only;rw [if_neg (fun h=>h0 (z8e.2 h))]
   ·have e6:tkE (z1S l (p+1) 1) l (p+1+1) width=z1S l (p+1) 1:=if_neg he2;rw [e6] at hee ⊢;have hpl2:¬p+1<l.length:=fun h=>he2 (z1I.2 (by omega));have hd2:l.drop p= [true]:=by rw [hd1,List.drop_eq_nil_of_le (by omega)]
    exact ⟨fun he=>by rw [hd2];rfl,fun h=>absurd h he2,fun h=>absurd h he2,fun h=>absurd h he2,fun h=>absurd h he2,fun h=>absurd h he2,fun h=>absurd h he2,⟨hsh.2,by omega,by omega,hee,hpe⟩,fun h=>by cases h⟩
  ·rw [if_neg h2] at hR;have hpl2:p+1<l.length:=by
    by_cases h:p+1<l.length
    ·exact h
    ·exfalso;apply h2;unfold z2r;rw [if_neg (by omega)]
   have hb2:l.getD (p+1) false=true:=by
    cases hb:l.getD (p+1) false with
    | true=>rfl
    | false=>rw [hb] at hx2;exact absurd hx2.1 h2
   have hd2:l.drop p=true::true::l.drop (p+2):=by rw [hd1,z8u hpl2,hb2]
   have he2:z1S l (p+1) 1=0:=z1I.2 (by omega);rw [he2] at hR;have e3:p+1+1=p+2:=rfl;rw [e3] at hR;unfold y6E at hR;simp only [t1,t2,t3] at hR;have hld:z2r l (p+2) 5<32:=by have:=z6Y 0 l (p+2) 5;exact this
   have hxr:∀X,z3z ⟨true,prev,lead,width⟩ (true::true::X)=(match rdN 5 X with
    | none=>none
    | some (ld,r1)=>match rdN 6 r1 with
     | none=>none
     | some (z,r2)=>if 64<ld+(z+1) then none else match rdN (z+1) r2 with
      | none=>none
      | some (d,r3)=>
       if d=0∨z4x lead width (d*2^(64 - ld - (z+1)))=true∨ld≠z2Z (d*2^(64 - ld - (z+1)))∨z+1≠z1E (d*2^(64 - ld - (z+1))) then none
       else some (prev^^^(d*2^(64 - ld - (z+1))),⟨true,prev^^^(d*2^(64 - ld - (z+1))),ld,z+1⟩,r3)):=fun X=>rfl
   by_cases he3:z1S l (p+2) 5=0
   ·simp only [he3,t1,t2,t3] at hR;have hp3:=z1I.1 he3;have hz6:z2r l (p+2+5) 6<64:=by have:=z6Y 0 l (p+2+5) 6;exact this
    obtain ⟨z,hz⟩:∃z,z=z2r l (p+2+5) 6:=⟨_,rfl⟩;obtain ⟨g,hg⟩:∃g,g=z2r l (p+2) 5:=⟨_,rfl⟩;rw [←hz] at hR hz6;rw [←hg] at hR hld;by_cases he4:z1S l (p+2+5) 6=0
    ·have hp4:=z1I.1 he4;by_cases hov:64<g+(z+1)
     ·rw [if_pos ⟨he4,hov⟩] at hR;have f1:∀q w,tkN 30 l q w=0:=fun q w=>rfl;have f2:∀q w,tkE 30 l q w=30:=fun q w=>rfl;have f3:∀q w,tkP 30 q w=q:=fun q w=>rfl;rw [f1,f2,f3] at hR;simp only [Prod.mk.injEq,Nat.zero_mul,Nat.zero_mod] at hR;obtain ⟨rfl,rfl,rfl,rfl,rfl,rfl⟩:=hR;refine ⟨fun _=>?_,(fun h=>by cases h),(fun h=>by cases h),(fun h=>by cases h),(fun h=>by cases h),(fun h=>by cases h),(fun h=>by cases h),⟨by decide,by omega,by omega,by decide,by omega⟩,fun _=>h1⟩;rw [hd2,hxr,z4D he3];simp only;rw [z4D he4];simp only;rw [←hz,←hg,if_pos hov]
     ·rw [if_neg (by omega)] at hR;simp only [he4,t1,t2,t3] at hR;have hvl:z2r l (p+2+5+6) (z+1)<2^(z+1):=z6Y 0 l (p+2+5+6) (z+1);have hsh:=y1Z hvl (by omega:g+(z+1)≤64);simp only [Prod.mk.injEq] at hR;obtain ⟨rfl,rfl,rfl,rfl,rfl,rfl⟩:=hR;rw [hsh.1];obtain ⟨v,hv⟩:∃v,v=z2r l (p+2+5+6) (z+1):=⟨_,rfl⟩;rw [←hv] at hsh hvl ⊢;have key:z1S l (p+2+5+6) (z+1)=0→z3z ⟨true,prev,lead,width⟩ (l.drop p)=(if v=0∨z4x lead width (v*2^(64 - g - (z+1)))=true∨g≠z2Z (v*2^(64 - g - (z+1)))∨z+1≠z1E (v*2^(64 - g - (z+1))) then none
       else some (prev^^^(v*2^(64 - g - (z+1))),⟨true,prev^^^(v*2^(64 - g - (z+1))),g,z+1⟩,l.drop (p+2+5+6+(z+1)))):=fun he=>by
       rw [hd2,hxr,z4D he3];simp only;rw [z4D he4];simp only;rw [←hz,←hg,if_neg hov,z4D he];simp only;rw [←hv]
      refine ⟨fun he=>?_,fun _ h=>absurd h h1,fun he _ h0=>?_,(fun _ _ _ h=>by cases h),fun he h0 _ hh=>?_,fun he h0 _ hh1 hh2 hh3=>?_,fun he=>z1I.1 he,⟨hsh.2,by omega,by omega,z5q _ _ _,by omega⟩,fun _=>h1⟩
      ·rw [hd2,hxr,z4D he3];simp only;rw [z4D he4];simp only;rw [←hz,←hg,if_neg hov,rd_not hp4 he]
      ·rw [key he,if_pos (.inl (z8e.1 h0))]
      ·rw [key he,if_pos (.inr hh)]
      ·rw [key he,if_neg (fun h=>?_)];rcases h with h | h | h | h
       ·exact h0 (z8e.2 h)
       ·rw [h] at hh1;cases hh1
       ·exact h hh2
       ·exact h hh3
    ·rw [if_neg (by omega)] at hR;have f1:∀q w,tkN (z1S l (p+2+5) 6) l q w=0:=fun q w=>if_neg he4;have f2:∀q w,tkE (z1S l (p+2+5) 6) l q w=z1S l (p+2+5) 6:=fun q w=>if_neg he4;have f3:∀q w,tkP (z1S l (p+2+5) 6) q w=q:=fun q w=>if_neg he4;rw [f1,f2,f3] at hR;simp only [Prod.mk.injEq,Nat.zero_mul,Nat.zero_mod] at hR;obtain ⟨rfl,rfl,rfl,rfl,rfl,rfl⟩:=hR;refine ⟨fun _=>?_,fun h=>absurd h he4,fun h=>absurd h he4,fun h=>absurd h he4,fun h=>absurd h he4,fun h=>absurd h he4,fun h=>absurd h he4,⟨by decide,by omega,by omega,z5q _ _ _,by omega⟩,fun _=>h1⟩;rw [hd2,hxr,z4D he3];simp only;rw [rd_not hp3 he4]
   ·have f1:∀q w,tkN (z1S l (p+2) 5) l q w=0:=fun q w=>if_neg he3;have f2:∀q w,tkE (z1S l (p+2) 5) l q w=z1S l (p+2) 5:=fun q w=>if_neg he3;have f3:∀q w,tkP (z1S l (p+2) 5) q w=q:=fun q w=>if_neg he3;simp only [f1,f2,f3] at hR;rw [if_neg (by omega)] at hR;simp only [f1,f2,f3,Prod.mk.injEq,Nat.zero_mul,Nat.zero_mod] at hR;obtain ⟨rfl,rfl,rfl,rfl,rfl,rfl⟩:=hR;refine ⟨fun _=>?_,fun h=>absurd h he3,fun h=>absurd h he3,fun h=>absurd h he3,fun h=>absurd h he3,fun h=>absurd h he3,fun h=>absurd h he3,⟨by decide,by omega,by omega,z5q _ _ _,by have:=y0D (z1S l (p+2) 5) (p+2) 5;omega⟩,fun _=>h1⟩;rw [hd2,hxr,rd_not (by omega) he3]
end Go.Proofs.YtfcnapnopdomhaaGreatDoor
