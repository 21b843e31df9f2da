/- (The text of told stands in M22.) -/
import Derived.Test.YtofolkbappinhaaDoorM22
