/- The statement ExecEqual: prints Eq2. Own text. -/
import Derived.Test.YtoehnbacbobhiaaDoorX20
import Derived.Test.YtoehnbacbobhiaaDoorX21
namespace Go.Proofs.YtoehnbacbobhiaaDoor
open Go.RowKit Go.Flow Go.Mem Go.Sep
theorem equal_law {w : World} {a b : Wx} {n : Nat} (ha : a.ok) (hb : b.ok) (hn : n < 256) (a0 : (ros encI a.Av a.vars).holds w) (a1 : (ros encEn a.At a.tabs).holds w) (a2 : (ros encEn a.Ad a.disk).holds w) (a3 : (ros encI a.Aa a.args).holds w) (a4 : (ros encY a.Af a.fail).holds w)
    (b0 : (ros encI b.Av b.vars).holds w) (b1 : (ros encEn b.At b.tabs).holds w) (b2 : (ros encEn b.Ad b.disk).holds w) (b3 : (ros encI b.Aa b.args).holds w) (b4 : (ros encY b.Af b.fail).holds w) (t : tabC.holds w) :
    Calls Tryd.prog 4 #[.agg a.cells.toArray, .agg b.cells.toArray, .int .u8 ((n : Nat) : Int)] w fun e w' => e = .returned (.bool true) ∧ Ext w w' :=
  Does.law (equal_fn a b ha hb n hn) rfl (oks_more a0 (oks_more a1 (oks_more a2 (oks_more a3 (oks_more a4 (oks_more b0 (oks_more b1 (oks_more b2 (oks_more b3 (oks_more b4 (oks_one t)))))))))))
end Go.Proofs.YtoehnbacbobhiaaDoor
