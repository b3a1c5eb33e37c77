/- Plain. -/
import Derived.Test.YtabnnclcpkdkeaaGreatDoorZS
import Derived.Test.YtabnnclcpkdkeaaGreatDoorZX
namespace Go.Proofs.YtabnnclcpkdkeaaGreatDoor
set_option linter.all false
set_option maxRecDepth 100000
set_option maxHeartbeats 0
open Go.RowKit Go.Maps
theorem y5X(x r:Bs):nul (z0A x++r)=z6p x:=by
 unfold z0A;rw[wj];exact y5j (q1g x) r
theorem y7C(x r:Bs):opened (z0A x++r)=some x:=by
 unfold opened;rw[y5X,wR ?_,q1K];rintro(h|h)
 .exact q5p x h
 have:=uS List.length h;unfold z0A at this;simp at this
theorem y6d(x r:Bs)(I:x.length<=600):z0X (z0A x++r)=(x::(z0X r).1,(z0A x).length+(z0X r).2):=by
 rw[z8o (y7C x r) I,y5X];have e:(z0A x++r).drop ((z6p x).length+1)=r:=by
  have:(z0A x).length=(z6p x).length+1:=by unfold z0A;simp
  rw[<-this,rE]
 have A:(z0A x).length=(z6p x).length+1:=by unfold z0A;simp
 rw[e,A]
theorem y0g:∀(l:List Bs) (r:Bs),(∀x∈l,x.length<=600)->z0X (l.flatMap z0A++r)=(l++(z0X r).1,(l.flatMap z0A).length+(z0X r).2)
 | [],r,_=>wH
 | x::l,r,h=>by
  rw[uH,wj,y6d x _ (h x wH),y0g l r fun y A=>h y (uJ _ A)];simp[im]
